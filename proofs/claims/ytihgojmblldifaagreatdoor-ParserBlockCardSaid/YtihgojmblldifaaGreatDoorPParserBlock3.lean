/- The statement ParserBlock holds: texts that its proof needs. No condition beyond the row's own. (Part 3 of 7.) -/
import Derived.Test.YtihgojmblldifaaGreatDoorPParserBlock2
set_option linter.unusedSimpArgs false
set_option linter.unusedVariables false
namespace Bk
open Go Go.RowKit Go.Proofs
attribute [local irreducible] Go.Calls
theorem peek_len_of {c : PC} {σ : PS} {w : World} (hP : PP c σ w) (ρ : PS) : (peekP c.ts ρ).text.length ≤ 1000000 := by
 unfold peekP
 split
 · simp [Tok.zero]
 · rw [List.getD_eq_getElem?_getD]
   rcases Nat.lt_or_ge ρ.at_ c.ts.length with h | h
   · rw [List.getElem?_eq_getElem h]; exact hP.tok _ (List.getElem_mem h)
   · rw [List.getElem?_eq_none h]; simp [Tok.zero]
set_option maxRecDepth 100000 in
set_option maxHeartbeats 2000000 in
theorem callStmt_c (c : PC) (k : Nat) (kind : Int) (σ : PS) (w : World) (hP : PP c σ w) (hi : In c.ts σ) (hk : 4 * mS c.ts σ ≤ k) :
 Calls Tryz.prog 89 #[.pointer (some ⟨c.pb, 0, none⟩), .int .u8 kind] w (TreeR c w (callP c.ts c.n k kind σ)) := by
 have X := Fr.refl (· = c.pb) w
 have hpb := hP.pbB
 have hB := hP.B
 have hlen := hP.len
 have h2 := hi.2
 have hm := mS_next hi
 have hl1 := next_le hi
 have hl2 := hl1.trans (name_le (n := c.n) hl1.wf)
 have hl3 := hl2.trans (expect_le (n := c.n) (t := [40]) hl2.wf (by decide))
 unfold callP
 dsimp only
 generalize hM : nameP c.ts c.n (nextP σ) = M at *
 have hname : ∀ {w' : World}, PP c (nextP σ) w' → Calls Tryz.prog 105 #[.pointer (some ⟨c.pb, 0, none⟩)] w' fun r w'' => r = .returned (str M.1) ∧ PP c M.2 w'' ∧ Fr (· = c.pb) w' w'' := fun h => hM ▸ name_c c _ _ h
 cases hh : hasP c.ts (expectP c.ts c.n M.2 [40]) [41]
 case true =>
  simp only [if_true]
  refine calls_in Tryz.func89 Tryz.ntmps89 rfl rfl ?_
  focus
   refine cS ?_
   (refine lw_alloc' [_, _, _, _] zOk rfl rfl ?_; intro b1 w2 n3)
   have h5 := New.blk n3
   have x6 := New.ext n3
   have p7 := New.pos n3
   have z8 := New.size n3
   clear n3
   replace hP := PP.ext hP x6
   replace X := Fr.ext X x6
   clear x6
   refine cN (cM rfl rfl (lw_pure (pur_nilCheck rfl) rfl (lw_pure (pur_fieldAddr tabOk rfl rfl rfl) rfl (lw_load_b tabOk rfl rfl rfl (PP.blk hP) rfl rfl ?_))))
   refine lw_pure (pur_add rfl rfl (IntWalk.i64_in _ (by omega))) rfl ?_
   refine lw_pure (pur_nilCheck rfl) rfl (lw_pure (pur_fieldAddr tabOk rfl rfl rfl) rfl ?_)
   refine lw_pp_at tabOk rfl rfl rfl rfl (by assumption) h2 ?_
   rintro w9 h10 f11
   have z12 := Fr.size f11
   replace h5 := Blk.fr h5 f11 (by omega)
   clear hP
   replace X := Fr.fr X f11 (by omega)
   clear f11
   refine cN (cM rfl rfl (cM rfl rfl ?_))
   refine lw_does (does_call (by kernel_rfl) rfl (hname (by assumption)) (fun _ _ h => ⟨_, h.1⟩)) rfl ?_ (fun _ h => h)
   rintro _ w15 ⟨⟨⟩, ⟨h13, f14⟩⟩
   have z16 := Fr.size f14
   clear h10
   replace h5 := Blk.fr h5 f14 (by omega)
   replace X := Fr.fr X f14 (by omega)
   clear f14
   refine lw_pure (pur_build' [_, _, _, _] tabOk zOk rfl rfl rfl rfl) rfl ?_
   (refine lw_alloc' [_, _, _, _] zOk rfl rfl ?_; intro b17 w18 n19)
   (refine lw_init' [_, _, _, _] tabOk rfl rfl rfl rfl rfl rfl n19 rfl ?_; clear n19; clear w18; intro w20 n19)
   have h21 := New.blk n19
   have x22 := New.ext n19
   have p23 := New.pos n19
   have z24 := New.size n19
   clear n19
   replace h13 := PP.ext h13 x22
   replace h5 := Blk.ext h5 x22
   replace X := Fr.ext X x22
   clear x22
   refine cN (cM rfl rfl ?_)
   refine lw_does (does_call (by kernel_rfl) rfl (expect_c _ _ _ _ (by assumption) (by decide)) (fun _ _ h => ⟨_, h.1⟩)) rfl ?_ (fun _ h => h)
   rintro _ w27 ⟨⟨⟩, ⟨h25, f26⟩⟩
   have z28 := Fr.size f26
   replace h21 := Blk.fr h21 f26 (by omega)
   clear h13
   replace h5 := Blk.fr h5 f26 (by omega)
   replace X := Fr.fr X f26 (by omega)
   clear f26
   refine cT (cw_seq (cS (cM rfl rfl ?_)))
   refine lw_does (does_call (by kernel_rfl) rfl (accept_t _ _ _ _ (by assumption) (by decide) (by assumption)) (fun _ _ h => ⟨_, h.1⟩)) rfl ?_ (fun _ h => h)
   rintro _ w31 ⟨⟨⟩, ⟨h29, f30⟩⟩
   have z32 := Fr.size f30
   clear h25
   replace h21 := Blk.fr h21 f30 (by omega)
   replace h5 := Blk.fr h5 f30 (by omega)
   replace X := Fr.fr X f30 (by omega)
   clear f30
   refine cT (cw_cond_t rfl (cS (lw_loads_b' [_, _, _, _] tabOk rfl rfl rfl h21 rfl rfl rfl ?_)))
   (refine lw_store' [_, _, _, _] [_, _, _, _] tabOk rfl rfl rfl rfl rfl rfl h5 rfl rfl ?_; intro w33 n34)
   have h37 := Put.blk n34
   have f35 := Put.fr n34
   have z36 := Put.size n34
   clear n34 h5
   replace h29 := PP.fr h29 f35 (by omega)
   replace h21 := Blk.fr h21 f35 (by omega)
   replace X := Fr.fr X f35 (by omega)
   clear f35
   refine cT (cw_ret (qw_then_ret (qw_retc rfl tabOk rfl rfl rfl h37 rfl ?_)))
   rotate_left 1
  exact tree_ret sits_nil (by assumption) X
 simp only [Bool.false_eq_true, if_false]
 refine calls_in Tryz.func89 Tryz.ntmps89 rfl rfl ?_
 focus
  refine cS ?_
  (refine lw_alloc' [_, _, _, _] zOk rfl rfl ?_; intro ba1 wa2 na3)
  have ha5 := New.blk na3
  have xa6 := New.ext na3
  have pa7 := New.pos na3
  have za8 := New.size na3
  clear na3
  replace hP := PP.ext hP xa6
  replace X := Fr.ext X xa6
  clear xa6
  refine cN (cM rfl rfl (lw_pure (pur_nilCheck rfl) rfl (lw_pure (pur_fieldAddr tabOk rfl rfl rfl) rfl (lw_load_b tabOk rfl rfl rfl (PP.blk hP) rfl rfl ?_))))
  refine lw_pure (pur_add rfl rfl (IntWalk.i64_in _ (by omega))) rfl ?_
  refine lw_pure (pur_nilCheck rfl) rfl (lw_pure (pur_fieldAddr tabOk rfl rfl rfl) rfl ?_)
  refine lw_pp_at tabOk rfl rfl rfl rfl (by assumption) h2 ?_
  rintro wa9 ha10 fa11
  have za12 := Fr.size fa11
  replace ha5 := Blk.fr ha5 fa11 (by omega)
  clear hP
  replace X := Fr.fr X fa11 (by omega)
  clear fa11
  refine cN (cM rfl rfl (cM rfl rfl ?_))
  refine lw_does (does_call (by kernel_rfl) rfl (hname (by assumption)) (fun _ _ h => ⟨_, h.1⟩)) rfl ?_ (fun _ h => h)
  rintro _ wa15 ⟨⟨⟩, ⟨ha13, fa14⟩⟩
  have za16 := Fr.size fa14
  clear ha10
  replace ha5 := Blk.fr ha5 fa14 (by omega)
  replace X := Fr.fr X fa14 (by omega)
  clear fa14
  refine lw_pure (pur_build' [_, _, _, _] tabOk zOk rfl rfl rfl rfl) rfl ?_
  (refine lw_alloc' [_, _, _, _] zOk rfl rfl ?_; intro ba17 wa18 na19)
  (refine lw_init' [_, _, _, _] tabOk rfl rfl rfl rfl rfl rfl na19 rfl ?_; clear na19; clear wa18; intro wa20 na19)
  have ha21 := New.blk na19
  have xa22 := New.ext na19
  have pa23 := New.pos na19
  have za24 := New.size na19
  clear na19
  replace ha13 := PP.ext ha13 xa22
  replace ha5 := Blk.ext ha5 xa22
  replace X := Fr.ext X xa22
  clear xa22
  refine cN (cM rfl rfl ?_)
  refine lw_does (does_call (by kernel_rfl) rfl (expect_c _ _ _ _ (by assumption) (by decide)) (fun _ _ h => ⟨_, h.1⟩)) rfl ?_ (fun _ h => h)
  rintro _ wa27 ⟨⟨⟩, ⟨ha25, fa26⟩⟩
  have za28 := Fr.size fa26
  replace ha21 := Blk.fr ha21 fa26 (by omega)
  clear ha13
  replace ha5 := Blk.fr ha5 fa26 (by omega)
  replace X := Fr.fr X fa26 (by omega)
  clear fa26
  refine cT (cw_seq (cS (cM rfl rfl ?_)))
  refine lw_does (does_call (by kernel_rfl) rfl (accept_f _ _ _ _ (by assumption) (by decide) (by assumption)) (fun _ _ h => ⟨_, h.1⟩)) rfl ?_ (fun _ h => h)
  rintro _ wa31 ⟨⟨⟩, ⟨ha29, fa30⟩⟩
  have za32 := Fr.size fa30
  clear ha25
  replace ha21 := Blk.fr ha21 fa30 (by omega)
  replace ha5 := Blk.fr ha5 fa30 (by omega)
  replace X := Fr.fr X fa30 (by omega)
  clear fa30
  refine cT (cw_cond_f rfl (cw_skip (qw_then (cw_seq ?_))))
  (refine cw_tdraw (fun wz => Fr (· = c.pb) wa31 wz) 5 (.pure 0 (.pure 1 (.pure 2 (.fork 3 (.fork 4 .tail .none) .none)))) mixed (by kernel_rfl) (panicOk_then panicOk_body) ?_; intro wa33 xa34 _)
  have qsa35 : (fun wz => Fr (· = c.pb) wa31 wz) wa33 := Fr.of_ext xa34
  simp only at qsa35
  have d_ha29 := ha29
  have d_ha21 := ha21
  have d_ha5 := ha5
  have za36 := Ext.size xa34
  replace ha29 := PP.ext ha29 xa34
  replace ha21 := Blk.ext ha21 xa34
  replace ha5 := Blk.ext ha5 xa34
  replace X := Fr.ext X xa34
  clear xa34
  refine ⟨qsa35, ?_⟩
  refine tw_pure rfl (pur_fieldAddr tabOk rfl rfl rfl) rfl ?_
  refine tw_pure rfl (pur_load tabOk rfl rfl rfl (fun wz hz => Blk.cell (Blk.fr d_ha21 hz (by omega)) rfl)) rfl ?_
  refine tw_pure rfl (pur_move rfl) rfl ?_
  refine tw_does rfl (does_call (by kernel_rfl) rfl (argument_c _ _ _ (by assumption)) (fun _ _ h => h.ret)) rfl ?_ (fun _ h => h) tw_none
  rintro _ wa42 ⟨aa37, ⟨ka38, ⟨⟨⟩, ⟨ha39, ⟨ha40, fa41⟩⟩⟩⟩⟩
  have za43 := Fr.size fa41
  replace qsa35 := Fr.fr qsa35 fa41 (by omega)
  clear ha29
  replace ha21 := Blk.fr ha21 fa41 (by omega)
  replace ha5 := Blk.fr ha5 fa41 (by omega)
  replace X := Fr.fr X fa41 (by omega)
  clear fa41
  refine ⟨qsa35, ?_⟩
  (refine tw_does rfl (does_slice' [_, _, _, _] tabOk zOk rfl rfl rfl rfl rfl rfl rfl rfl rfl) rfl ?_ (fun _ h => h) tw_none; rintro _ wa45 ⟨ba44, rfl, na46, ta47⟩)
  clear ta47
  have ha48 := New.blk na46
  have xa49 := New.ext na46
  have pa50 := New.pos na46
  have za51 := New.size na46
  clear na46
  replace ha39 := Nd.sits.ext ha39 xa49
  replace ha40 := PP.ext ha40 xa49
  replace qsa35 := Fr.ext qsa35 xa49
  replace ha21 := Blk.ext ha21 xa49
  replace ha5 := Blk.ext ha5 xa49
  replace X := Fr.ext X xa49
  clear xa49
  refine ⟨qsa35, ?_⟩
  clear d_ha29 d_ha21 d_ha5 qsa35
  refine tw_tail rfl ?_
  rotate_left 1
 refine lw_appendL (sh := ndShape) (B := ba17 + 1) tabOk zOk rfl rfl rfl rfl (by kernel_rfl) rfl rfl rfl OwnL.nil (Blk.row ha48) ⟨_, _, rfl, sits_nil⟩ (by simp) (by omega) rfl ?_
 intro g cap wA hown fA
 have zA := fA.size
 replace ha40 := ha40.fr fA (fun k hk => by omega)
 replace ha21 := ha21.fr fA (by omega)
 replace ha5 := ha5.fr fA (by omega)
 replace X := X.fr fA (fun k hk => Or.inr (by omega))
 clear fA ha48 ha39
 focus
  refine lw_pure (pur_fieldAddr tabOk rfl rfl rfl) rfl ?_
  (refine lw_store' [_] [_, _, _, _] tabOk rfl rfl rfl rfl rfl rfl ha21 rfl rfl ?_; intro wb1 nb2)
  have hb5 := Put.blk nb2
  have fb3 := Put.fr nb2
  have zb4 := Put.size nb2
  clear nb2 ha21
  replace hown := OwnL.fr hown fb3 (by omega)
  replace ha40 := PP.fr ha40 fb3 (by omega)
  replace ha5 := Blk.fr ha5 fb3 (by omega)
  replace X := Fr.fr X fb3 (by omega)
  clear fb3
  refine cT (cw_seq (cw_block ?_))
  rotate_left 1
 generalize ha : argP c.ts c.n (expectP c.ts c.n M.2 [40]) = A at *
 have hA : Le c.ts σ A.2 := by rw [← ha]; exact hl3.trans (name_le (n := c.n) hl3.wf)
 have hl4 := mS_le hA
 have hmt : mS c.ts σ ≤ c.ts.length := by unfold mS; split <;> omega
 refine cw_loop (ι := Nat × List Nd × Nat × Nat × PS) (fun _ => [(0, .pointer (some ⟨c.pb, 0, none⟩)), (4, .pointer (some ⟨ba1, 0, none⟩)), (5, .pointer (some ⟨ba17, 0, none⟩))])
  (fun x w' => PP c x.2.2.2.2 w' ∧ Blk w' ba17 [.int .u8 kind, .int .i64 0, str M.1, .slice (some ⟨x.2.2.1, 0, none⟩) x.2.1.length x.2.2.2.1] ∧ OwnL ndShape w' (ba17 + 1) 27 (.slice (some ⟨x.2.2.1, 0, none⟩) x.2.1.length x.2.2.2.1) x.2.1 ∧
   Blk w' ba1 [.int .u8 0, .int .i64 0, .string ⟨#[]⟩, .slice none 0 0] ∧ Fr (· = c.pb) w w' ∧ wb1.heap.size ≤ w'.heap.size ∧
   argsP c.ts c.n k [A.1] A.2 = argsP c.ts c.n x.1 x.2.1 x.2.2.2.2 ∧ mS c.ts x.2.2.2.2 + 1 ≤ x.1 ∧ x.2.1.length + mS c.ts x.2.2.2.2 ≤ 1000001) (fun x => x.1) (k, [A.1], g, cap, A.2) (by (refine sub_cons rfl ?_; refine sub_cons rfl ?_; refine sub_cons rfl ?_; exact sub_nil))
  ⟨by assumption, hb5, hown, by assumption, X, Nat.le_refl _, rfl, by simp only; omega, by simp only [List.length_cons, List.length_nil]; omega⟩ ?_
 rintro ⟨j, acc, g, cap, σ'⟩ w1 ⟨hP, hbn, hown, hbr, X, hz, he, hfj, hacc⟩
 simp only at hP hbn hown he hfj hacc
 clear hb5 hM hname
 rw [he]
 obtain ⟨j, rfl⟩ : ∃ i, j = i + 1 := ⟨j - 1, by omega⟩
 cases hc : hasP c.ts σ' [44]
 case false =>
  rw [show argsP c.ts c.n (j + 1) acc σ' = (acc, σ') from by rw [argsP]; simp [hc]]
  focus
   refine cw_seq (cS (cM rfl rfl ?_))
   refine lw_does (does_call (by kernel_rfl) rfl (accept_f _ _ _ _ (by assumption) (by decide) (by assumption)) (fun _ _ h => ⟨_, h.1⟩)) rfl ?_ (fun _ h => h)
   rintro _ wc3 ⟨⟨⟩, ⟨hc1, fc2⟩⟩
   have zc4 := Fr.size fc2
   clear hP
   replace hbn := Blk.fr hbn fc2 (by omega)
   replace hown := OwnL.fr hown fc2 (by omega)
   replace hbr := Blk.fr hbr fc2 (by omega)
   replace X := Fr.fr X fc2 (by omega)
   clear fc2
   refine cT (cw_cond_f rfl (cw_exit (qw_then_exit (qw_then_exit (qw_block_exit (qw_then (cS (cM rfl rfl ?_))))))))
   refine lw_does (does_call (by kernel_rfl) rfl (expect_c _ _ _ _ (by assumption) (by decide)) (fun _ _ h => ⟨_, h.1⟩)) rfl ?_ (fun _ h => h)
   rintro _ wc7 ⟨⟨⟩, ⟨hc5, fc6⟩⟩
   have zc8 := Fr.size fc6
   clear hc1
   replace hbn := Blk.fr hbn fc6 (by omega)
   replace hown := OwnL.fr hown fc6 (by omega)
   replace hbr := Blk.fr hbr fc6 (by omega)
   replace X := Fr.fr X fc6 (by omega)
   clear fc6
   refine cN (lw_loads_b' [_, _, _, _] tabOk rfl rfl rfl hbn rfl rfl rfl ?_)
   (refine lw_store' [_, _, _, _] [_, _, _, _] tabOk rfl rfl rfl rfl rfl rfl hbr rfl rfl ?_; intro wc9 nc10)
   have hc13 := Put.blk nc10
   have fc11 := Put.fr nc10
   have zc12 := Put.size nc10
   clear nc10 hbr
   replace hc5 := PP.fr hc5 fc11 (by omega)
   replace hbn := Blk.fr hbn fc11 (by omega)
   replace hown := OwnL.fr hown fc11 (by omega)
   replace X := Fr.fr X fc11 (by omega)
   clear fc11
   refine cT (cw_ret (qw_retc rfl tabOk rfl rfl rfl hc13 rfl ?_))
   rotate_left 1
  exact tree_ret (sits_mk (hown.sits (fun b h => by omega))) (by assumption) X
 have hin := has_in hP.at_ hc (by decide)
 have hmn := mS_next hin
 have hnl := peek_len_of hP (nextP σ')
 by_cases h8 : acc.length = 8
 · cases hnm : isName (peekP c.ts (nextP σ')).text
   · rw [show argsP c.ts c.n (j + 1) acc σ' = argsP c.ts c.n j (acc ++ [(argP c.ts c.n (nextP σ')).1]) (argP c.ts c.n (nextP σ')).2 from by rw [argsP]; simp [hc, h8, hnm]]
     have hml := mS_le (name_le (n := c.n) (show (nextP σ').at_ ≤ c.ts.length from hin.2))
     have hml2 : mS c.ts (argP c.ts c.n (nextP σ')).2 ≤ mS c.ts (nextP σ') := hml
     focus
      refine cw_seq (cS (cM rfl rfl ?_))
      refine lw_does (does_call (by kernel_rfl) rfl (accept_t _ _ _ _ (by assumption) (by decide) (by assumption)) (fun _ _ h => ⟨_, h.1⟩)) rfl ?_ (fun _ h => h)
      rintro _ wd3 ⟨⟨⟩, ⟨hd1, fd2⟩⟩
      have zd4 := Fr.size fd2
      clear hP
      replace hbn := Blk.fr hbn fd2 (by omega)
      replace hown := OwnL.fr hown fd2 (by omega)
      replace hbr := Blk.fr hbr fd2 (by omega)
      replace X := Fr.fr X fd2 (by omega)
      clear fd2
      refine cT (cw_cond_t rfl (cw_skip (qw_then (cw_block (cw_seq (cS (cM rfl rfl ?_)))))))
      refine lw_does (does_call (by kernel_rfl) rfl (peek_c _ _ _ (by assumption)) (fun _ _ h => ⟨_, h.1⟩)) rfl ?_ (fun _ h => h)
      rintro _ wd6 ⟨⟨⟩, xd5⟩
      have zd7 := Ext.size xd5
      replace hd1 := PP.ext hd1 xd5
      replace hbn := Blk.ext hbn xd5
      replace hown := OwnL.ext hown xd5
      replace hbr := Blk.ext hbr xd5
      replace X := Fr.ext X xd5
      clear xd5
      (refine lw_alloc' [_, _, _] zOk rfl rfl ?_; intro bd8 wd9 nd10)
      (refine lw_init' [_, _, _] tabOk rfl rfl rfl rfl rfl rfl nd10 rfl ?_; clear nd10; clear wd9; intro wd11 nd10)
      have hd12 := New.blk nd10
      have xd13 := New.ext nd10
      have pd14 := New.pos nd10
      have zd15 := New.size nd10
      clear nd10
      replace hd1 := PP.ext hd1 xd13
      replace hbn := Blk.ext hbn xd13
      replace hown := OwnL.ext hown xd13
      replace hbr := Blk.ext hbr xd13
      replace X := Fr.ext X xd13
      clear xd13
      refine cN (lw_pure (pur_fieldAddr tabOk rfl rfl rfl) rfl (lw_load_b tabOk rfl rfl rfl hbn rfl rfl (lw_pure (pur_len_slice tabOk rfl rfl) rfl (lw_pure (pur_eql rfl rfl) rfl (cM rfl rfl ?_)))))
      refine lw_on rfl rfl rfl (gd_tt (by omega)) ?_
      refine lw_pure (pur_fieldAddr tabOk rfl rfl rfl) rfl ?_
      refine lw_on rfl rfl rfl (gd_tt (by omega)) ?_
      refine lw_load_b tabOk rfl rfl rfl hd12 rfl rfl ?_
      refine lw_on rfl rfl rfl (gd_tt (by omega)) ?_
      refine lw_does (does_call (by kernel_rfl) rfl (Name_c _ _ (by omega)) (fun _ _ h => ⟨_, h.1⟩)) rfl ?_ (fun _ h => h)
      rintro _ wd17 ⟨⟨⟩, xd16⟩
      have zd18 := Ext.size xd16
      replace hd12 := Blk.ext hd12 xd16
      replace hd1 := PP.ext hd1 xd16
      replace hbn := Blk.ext hbn xd16
      replace hown := OwnL.ext hown xd16
      replace hbr := Blk.ext hbr xd16
      replace X := Fr.ext X xd16
      clear xd16
      refine lw_pure (pur_pick_yes rfl rfl (by omega)) rfl ?_
      refine cT ?_
      refine cw_bf rfl (by assumption) ?_
      refine cw_skip (qw_then ?_)
      (refine cw_tdraw (fun wz => Fr (· = c.pb) wd17 wz) 5 (.pure 0 (.pure 1 (.pure 2 (.fork 3 (.fork 4 .tail .none) .none)))) mixed (by kernel_rfl) (panicOk_block (panicOk_then (panicOk_block (panicOk_then panicOk_body)))) ?_; intro wd19 xd20 _)
      have qsd21 : (fun wz => Fr (· = c.pb) wd17 wz) wd19 := Fr.of_ext xd20
      simp only at qsd21
      have d_hd12 := hd12
      have d_hd1 := hd1
      have d_hbn := hbn
      have d_hown := hown
      have d_hbr := hbr
      have zd22 := Ext.size xd20
      replace hd12 := Blk.ext hd12 xd20
      replace hd1 := PP.ext hd1 xd20
      replace hbn := Blk.ext hbn xd20
      replace hown := OwnL.ext hown xd20
      replace hbr := Blk.ext hbr xd20
      replace X := Fr.ext X xd20
      clear xd20
      refine ⟨qsd21, ?_⟩
      refine tw_pure rfl (pur_fieldAddr tabOk rfl rfl rfl) rfl ?_
      refine tw_pure rfl (pur_load tabOk rfl rfl rfl (fun wz hz => Blk.cell (Blk.fr d_hbn hz (by omega)) rfl)) rfl ?_
      refine tw_pure rfl (pur_move rfl) rfl ?_
      refine tw_does rfl (does_call (by kernel_rfl) rfl (argument_c _ _ _ (by assumption)) (fun _ _ h => h.ret)) rfl ?_ (fun _ h => h) tw_none
      rintro _ wd28 ⟨ad23, ⟨kd24, ⟨⟨⟩, ⟨hd25, ⟨hd26, fd27⟩⟩⟩⟩⟩
      have zd29 := Fr.size fd27
      replace qsd21 := Fr.fr qsd21 fd27 (by omega)
      replace hd12 := Blk.fr hd12 fd27 (by omega)
      clear hd1
      replace hbn := Blk.fr hbn fd27 (by omega)
      replace hown := OwnL.fr hown fd27 (by omega)
      replace hbr := Blk.fr hbr fd27 (by omega)
      replace X := Fr.fr X fd27 (by omega)
      clear fd27
      refine ⟨qsd21, ?_⟩
      (refine tw_does rfl (does_slice' [_, _, _, _] tabOk zOk rfl rfl rfl rfl rfl rfl rfl rfl rfl) rfl ?_ (fun _ h => h) tw_none; rintro _ wd31 ⟨bd30, rfl, nd32, td33⟩)
      clear td33
      have hd34 := New.blk nd32
      have xd35 := New.ext nd32
      have pd36 := New.pos nd32
      have zd37 := New.size nd32
      clear nd32
      replace hd25 := Nd.sits.ext hd25 xd35
      replace hd26 := PP.ext hd26 xd35
      replace qsd21 := Fr.ext qsd21 xd35
      replace hd12 := Blk.ext hd12 xd35
      replace hbn := Blk.ext hbn xd35
      replace hown := OwnL.ext hown xd35
      replace hbr := Blk.ext hbr xd35
      replace X := Fr.ext X xd35
      clear xd35
      refine ⟨qsd21, ?_⟩
      clear d_hd12 d_hd1 d_hbn d_hown d_hbr qsd21
      refine tw_tail rfl ?_
      refine lw_appendL (sh := ndShape) tabOk zOk rfl rfl rfl rfl (by kernel_rfl) rfl rfl rfl hown (Blk.row (by assumption)) ⟨_, _, rfl, sits_nil⟩ (by omega) (by omega) rfl ?_
      rintro gd38 cap'd39 wd40 hd41 fd42
      have zd43 := Fr.size fd42
      clear hd34 hd25
      replace hd26 := PP.fr hd26 fd42 (by omega)
      clear hd12
      replace hbn := Blk.fr hbn fd42 (by omega)
      clear hown
      replace hbr := Blk.fr hbr fd42 (by omega)
      replace X := Fr.fr X fd42 (by omega)
      clear fd42
      refine lw_pure (pur_fieldAddr tabOk rfl rfl rfl) rfl ?_
      (refine lw_store' [_] [_, _, _, _] tabOk rfl rfl rfl rfl rfl rfl hbn rfl rfl ?_; intro wd44 nd45)
      have hd48 := Put.blk nd45
      have fd46 := Put.fr nd45
      have zd47 := Put.size nd45
      clear nd45 hbn
      replace hd41 := OwnL.fr hd41 fd46 (by omega)
      replace hd26 := PP.fr hd26 fd46 (by omega)
      replace hbr := Blk.fr hbr fd46 (by omega)
      replace X := Fr.fr X fd46 (by omega)
      clear fd46
      refine lw_nil (qw_block_norm ?_)
      rotate_left 1
     refine qw_round (j, acc ++ [(argP c.ts c.n (nextP σ')).1], _, _, (argP c.ts c.n (nextP σ')).2) (by (refine sub_cons rfl ?_; refine sub_cons rfl ?_; refine sub_cons rfl ?_; exact sub_nil)) ⟨by assumption, by assumption, by assumption, by assumption, X, by omega, rfl, by simp only; omega, by simp only [List.length_append, List.length_cons, List.length_nil]; omega⟩ (by simp)
   · rw [show argsP c.ts c.n (j + 1) acc σ' = argsP c.ts c.n j (acc ++ [(argP c.ts c.n (failP (nextP σ') (peekP c.ts (nextP σ')).pos 5)).1]) (argP c.ts c.n (failP (nextP σ') (peekP c.ts (nextP σ')).pos 5)).2 from by rw [argsP]; simp [hc, h8, hnm]]
     have hfl := fail_le (show (nextP σ').at_ ≤ c.ts.length from hin.2) (peekP c.ts (nextP σ')).pos 5
     have hml := mS_le (hfl.trans (name_le (n := c.n) hfl.wf))
     have hml2 : mS c.ts (argP c.ts c.n (failP (nextP σ') (peekP c.ts (nextP σ')).pos 5)).2 ≤ mS c.ts (nextP σ') := hml
     focus
      refine cw_seq (cS (cM rfl rfl ?_))
      refine lw_does (does_call (by kernel_rfl) rfl (accept_t _ _ _ _ (by assumption) (by decide) (by assumption)) (fun _ _ h => ⟨_, h.1⟩)) rfl ?_ (fun _ h => h)
      rintro _ we3 ⟨⟨⟩, ⟨he1, fe2⟩⟩
      have ze4 := Fr.size fe2
      clear hP
      replace hbn := Blk.fr hbn fe2 (by omega)
      replace hown := OwnL.fr hown fe2 (by omega)
      replace hbr := Blk.fr hbr fe2 (by omega)
      replace X := Fr.fr X fe2 (by omega)
      clear fe2
      refine cT (cw_cond_t rfl (cw_skip (qw_then (cw_block (cw_seq (cS (cM rfl rfl ?_)))))))
      refine lw_does (does_call (by kernel_rfl) rfl (peek_c _ _ _ (by assumption)) (fun _ _ h => ⟨_, h.1⟩)) rfl ?_ (fun _ h => h)
      rintro _ we6 ⟨⟨⟩, xe5⟩
      have ze7 := Ext.size xe5
      replace he1 := PP.ext he1 xe5
      replace hbn := Blk.ext hbn xe5
      replace hown := OwnL.ext hown xe5
      replace hbr := Blk.ext hbr xe5
      replace X := Fr.ext X xe5
      clear xe5
      (refine lw_alloc' [_, _, _] zOk rfl rfl ?_; intro be8 we9 ne10)
      (refine lw_init' [_, _, _] tabOk rfl rfl rfl rfl rfl rfl ne10 rfl ?_; clear ne10; clear we9; intro we11 ne10)
      have he12 := New.blk ne10
      have xe13 := New.ext ne10
      have pe14 := New.pos ne10
      have ze15 := New.size ne10
      clear ne10
      replace he1 := PP.ext he1 xe13
      replace hbn := Blk.ext hbn xe13
      replace hown := OwnL.ext hown xe13
      replace hbr := Blk.ext hbr xe13
      replace X := Fr.ext X xe13
      clear xe13
      refine cN (lw_pure (pur_fieldAddr tabOk rfl rfl rfl) rfl (lw_load_b tabOk rfl rfl rfl hbn rfl rfl (lw_pure (pur_len_slice tabOk rfl rfl) rfl (lw_pure (pur_eql rfl rfl) rfl (cM rfl rfl ?_)))))
      refine lw_on rfl rfl rfl (gd_tt (by omega)) ?_
      refine lw_pure (pur_fieldAddr tabOk rfl rfl rfl) rfl ?_
      refine lw_on rfl rfl rfl (gd_tt (by omega)) ?_
      refine lw_load_b tabOk rfl rfl rfl he12 rfl rfl ?_
      refine lw_on rfl rfl rfl (gd_tt (by omega)) ?_
      refine lw_does (does_call (by kernel_rfl) rfl (Name_c _ _ (by omega)) (fun _ _ h => ⟨_, h.1⟩)) rfl ?_ (fun _ h => h)
      rintro _ we17 ⟨⟨⟩, xe16⟩
      have ze18 := Ext.size xe16
      replace he12 := Blk.ext he12 xe16
      replace he1 := PP.ext he1 xe16
      replace hbn := Blk.ext hbn xe16
      replace hown := OwnL.ext hown xe16
      replace hbr := Blk.ext hbr xe16
      replace X := Fr.ext X xe16
      clear xe16
      refine lw_pure (pur_pick_yes rfl rfl (by omega)) rfl ?_
      refine cT ?_
      refine cw_bt rfl (by assumption) ?_
      refine cw_region (cM rfl rfl (lw_pure (pur_fieldAddr tabOk rfl rfl rfl) rfl (lw_load_b tabOk rfl rfl rfl he12 rfl rfl ?_)))
      refine lw_does (does_call (by kernel_rfl) rfl (fail_c _ _ _ _ _ (by assumption)) (fun _ _ h => ⟨_, h.1⟩)) rfl ?_ (fun _ h => h)
      rintro _ we21 ⟨⟨⟩, ⟨he19, fe20⟩⟩
      have ze22 := Fr.size fe20
      replace he12 := Blk.fr he12 fe20 (by omega)
      clear he1
      replace hbn := Blk.fr hbn fe20 (by omega)
      replace hown := OwnL.fr hown fe20 (by omega)
      replace hbr := Blk.fr hbr fe20 (by omega)
      replace X := Fr.fr X fe20 (by omega)
      clear fe20
      refine cT ?_
      (refine cw_tdraw (fun wz => Fr (· = c.pb) we21 wz) 5 (.pure 0 (.pure 1 (.pure 2 (.fork 3 (.fork 4 .tail .none) .none)))) mixed (by kernel_rfl) (panicOk_block (panicOk_then (panicOk_block (panicOk_then panicOk_body)))) ?_; intro we23 xe24 _)
      have qse25 : (fun wz => Fr (· = c.pb) we21 wz) we23 := Fr.of_ext xe24
      simp only at qse25
      have d_he19 := he19
      have d_he12 := he12
      have d_hbn := hbn
      have d_hown := hown
      have d_hbr := hbr
      have ze26 := Ext.size xe24
      replace he19 := PP.ext he19 xe24
      replace he12 := Blk.ext he12 xe24
      replace hbn := Blk.ext hbn xe24
      replace hown := OwnL.ext hown xe24
      replace hbr := Blk.ext hbr xe24
      replace X := Fr.ext X xe24
      clear xe24
      refine ⟨qse25, ?_⟩
      refine tw_pure rfl (pur_fieldAddr tabOk rfl rfl rfl) rfl ?_
      refine tw_pure rfl (pur_load tabOk rfl rfl rfl (fun wz hz => Blk.cell (Blk.fr d_hbn hz (by omega)) rfl)) rfl ?_
      refine tw_pure rfl (pur_move rfl) rfl ?_
      refine tw_does rfl (does_call (by kernel_rfl) rfl (argument_c _ _ _ (by assumption)) (fun _ _ h => h.ret)) rfl ?_ (fun _ h => h) tw_none
      rintro _ we32 ⟨ae27, ⟨ke28, ⟨⟨⟩, ⟨he29, ⟨he30, fe31⟩⟩⟩⟩⟩
      have ze33 := Fr.size fe31
      replace qse25 := Fr.fr qse25 fe31 (by omega)
      clear he19
      replace he12 := Blk.fr he12 fe31 (by omega)
      replace hbn := Blk.fr hbn fe31 (by omega)
      replace hown := OwnL.fr hown fe31 (by omega)
      replace hbr := Blk.fr hbr fe31 (by omega)
      replace X := Fr.fr X fe31 (by omega)
      clear fe31
      refine ⟨qse25, ?_⟩
      (refine tw_does rfl (does_slice' [_, _, _, _] tabOk zOk rfl rfl rfl rfl rfl rfl rfl rfl rfl) rfl ?_ (fun _ h => h) tw_none; rintro _ we35 ⟨be34, rfl, ne36, te37⟩)
      clear te37
      have he38 := New.blk ne36
      have xe39 := New.ext ne36
      have pe40 := New.pos ne36
      have ze41 := New.size ne36
      clear ne36
      replace he29 := Nd.sits.ext he29 xe39
      replace he30 := PP.ext he30 xe39
      replace qse25 := Fr.ext qse25 xe39
      replace he12 := Blk.ext he12 xe39
      replace hbn := Blk.ext hbn xe39
      replace hown := OwnL.ext hown xe39
      replace hbr := Blk.ext hbr xe39
      replace X := Fr.ext X xe39
      clear xe39
      refine ⟨qse25, ?_⟩
      clear d_he19 d_he12 d_hbn d_hown d_hbr qse25
      refine tw_tail rfl ?_
      refine lw_appendL (sh := ndShape) tabOk zOk rfl rfl rfl rfl (by kernel_rfl) rfl rfl rfl hown (Blk.row (by assumption)) ⟨_, _, rfl, sits_nil⟩ (by omega) (by omega) rfl ?_
      rintro ge42 cap'e43 we44 he45 fe46
      have ze47 := Fr.size fe46
      clear he38 he29
      replace he30 := PP.fr he30 fe46 (by omega)
      clear he12
      replace hbn := Blk.fr hbn fe46 (by omega)
      clear hown
      replace hbr := Blk.fr hbr fe46 (by omega)
      replace X := Fr.fr X fe46 (by omega)
      clear fe46
      refine lw_pure (pur_fieldAddr tabOk rfl rfl rfl) rfl ?_
      (refine lw_store' [_] [_, _, _, _] tabOk rfl rfl rfl rfl rfl rfl hbn rfl rfl ?_; intro we48 ne49)
      have he52 := Put.blk ne49
      have fe50 := Put.fr ne49
      have ze51 := Put.size ne49
      clear ne49 hbn
      replace he45 := OwnL.fr he45 fe50 (by omega)
      replace he30 := PP.fr he30 fe50 (by omega)
      replace hbr := Blk.fr hbr fe50 (by omega)
      replace X := Fr.fr X fe50 (by omega)
      clear fe50
      refine lw_nil (qw_block_norm ?_)
      rotate_left 1
     refine qw_round (j, acc ++ [(argP c.ts c.n (failP (nextP σ') (peekP c.ts (nextP σ')).pos 5)).1], _, _, (argP c.ts c.n (failP (nextP σ') (peekP c.ts (nextP σ')).pos 5)).2) (by (refine sub_cons rfl ?_; refine sub_cons rfl ?_; refine sub_cons rfl ?_; exact sub_nil)) ⟨by assumption, by assumption, by assumption, by assumption, X, by omega, rfl, by simp only; omega, by simp only [List.length_append, List.length_cons, List.length_nil]; omega⟩ (by simp)
 · rw [show argsP c.ts c.n (j + 1) acc σ' = argsP c.ts c.n j (acc ++ [(argP c.ts c.n (nextP σ')).1]) (argP c.ts c.n (nextP σ')).2 from by rw [argsP]; simp [hc, h8]]
   have hml := mS_le (name_le (n := c.n) (show (nextP σ').at_ ≤ c.ts.length from hin.2))
   have hml2 : mS c.ts (argP c.ts c.n (nextP σ')).2 ≤ mS c.ts (nextP σ') := hml
   focus
    refine cw_seq (cS (cM rfl rfl ?_))
    refine lw_does (does_call (by kernel_rfl) rfl (accept_t _ _ _ _ (by assumption) (by decide) (by assumption)) (fun _ _ h => ⟨_, h.1⟩)) rfl ?_ (fun _ h => h)
    rintro _ wf3 ⟨⟨⟩, ⟨hf1, ff2⟩⟩
    have zf4 := Fr.size ff2
    clear hP
    replace hbn := Blk.fr hbn ff2 (by omega)
    replace hown := OwnL.fr hown ff2 (by omega)
    replace hbr := Blk.fr hbr ff2 (by omega)
    replace X := Fr.fr X ff2 (by omega)
    clear ff2
    refine cT (cw_cond_t rfl (cw_skip (qw_then (cw_block (cw_seq (cS (cM rfl rfl ?_)))))))
    refine lw_does (does_call (by kernel_rfl) rfl (peek_c _ _ _ (by assumption)) (fun _ _ h => ⟨_, h.1⟩)) rfl ?_ (fun _ h => h)
    rintro _ wf6 ⟨⟨⟩, xf5⟩
    have zf7 := Ext.size xf5
    replace hf1 := PP.ext hf1 xf5
    replace hbn := Blk.ext hbn xf5
    replace hown := OwnL.ext hown xf5
    replace hbr := Blk.ext hbr xf5
    replace X := Fr.ext X xf5
    clear xf5
    (refine lw_alloc' [_, _, _] zOk rfl rfl ?_; intro bf8 wf9 nf10)
    (refine lw_init' [_, _, _] tabOk rfl rfl rfl rfl rfl rfl nf10 rfl ?_; clear nf10; clear wf9; intro wf11 nf10)
    have hf12 := New.blk nf10
    have xf13 := New.ext nf10
    have pf14 := New.pos nf10
    have zf15 := New.size nf10
    clear nf10
    replace hf1 := PP.ext hf1 xf13
    replace hbn := Blk.ext hbn xf13
    replace hown := OwnL.ext hown xf13
    replace hbr := Blk.ext hbr xf13
    replace X := Fr.ext X xf13
    clear xf13
    refine cN (lw_pure (pur_fieldAddr tabOk rfl rfl rfl) rfl (lw_load_b tabOk rfl rfl rfl hbn rfl rfl (lw_pure (pur_len_slice tabOk rfl rfl) rfl (lw_pure (pur_eql rfl rfl) rfl (cM rfl rfl ?_)))))
    refine lw_off rfl rfl rfl (gd_tf (by omega)) rfl ?_
    refine lw_off rfl rfl rfl (gd_tf (by omega)) rfl ?_
    refine lw_off rfl rfl rfl (gd_tf (by omega)) rfl ?_
    refine lw_pure (pur_pick_no rfl rfl (by omega)) rfl ?_
    refine cT (cw_cond_f rfl (cw_skip (qw_then ?_)))
    (refine cw_tdraw (fun wz => Fr (· = c.pb) wf11 wz) 5 (.pure 0 (.pure 1 (.pure 2 (.fork 3 (.fork 4 .tail .none) .none)))) mixed (by kernel_rfl) (panicOk_block (panicOk_then (panicOk_block (panicOk_then panicOk_body)))) ?_; intro wf16 xf17 _)
    have qsf18 : (fun wz => Fr (· = c.pb) wf11 wz) wf16 := Fr.of_ext xf17
    simp only at qsf18
    have d_hf12 := hf12
    have d_hf1 := hf1
    have d_hbn := hbn
    have d_hown := hown
    have d_hbr := hbr
    have zf19 := Ext.size xf17
    replace hf12 := Blk.ext hf12 xf17
    replace hf1 := PP.ext hf1 xf17
    replace hbn := Blk.ext hbn xf17
    replace hown := OwnL.ext hown xf17
    replace hbr := Blk.ext hbr xf17
    replace X := Fr.ext X xf17
    clear xf17
    refine ⟨qsf18, ?_⟩
    refine tw_pure rfl (pur_fieldAddr tabOk rfl rfl rfl) rfl ?_
    refine tw_pure rfl (pur_load tabOk rfl rfl rfl (fun wz hz => Blk.cell (Blk.fr d_hbn hz (by omega)) rfl)) rfl ?_
    refine tw_pure rfl (pur_move rfl) rfl ?_
    refine tw_does rfl (does_call (by kernel_rfl) rfl (argument_c _ _ _ (by assumption)) (fun _ _ h => h.ret)) rfl ?_ (fun _ h => h) tw_none
    rintro _ wf25 ⟨af20, ⟨kf21, ⟨⟨⟩, ⟨hf22, ⟨hf23, ff24⟩⟩⟩⟩⟩
    have zf26 := Fr.size ff24
    replace qsf18 := Fr.fr qsf18 ff24 (by omega)
    replace hf12 := Blk.fr hf12 ff24 (by omega)
    clear hf1
    replace hbn := Blk.fr hbn ff24 (by omega)
    replace hown := OwnL.fr hown ff24 (by omega)
    replace hbr := Blk.fr hbr ff24 (by omega)
    replace X := Fr.fr X ff24 (by omega)
    clear ff24
    refine ⟨qsf18, ?_⟩
    (refine tw_does rfl (does_slice' [_, _, _, _] tabOk zOk rfl rfl rfl rfl rfl rfl rfl rfl rfl) rfl ?_ (fun _ h => h) tw_none; rintro _ wf28 ⟨bf27, rfl, nf29, tf30⟩)
    clear tf30
    have hf31 := New.blk nf29
    have xf32 := New.ext nf29
    have pf33 := New.pos nf29
    have zf34 := New.size nf29
    clear nf29
    replace hf22 := Nd.sits.ext hf22 xf32
    replace hf23 := PP.ext hf23 xf32
    replace qsf18 := Fr.ext qsf18 xf32
    replace hf12 := Blk.ext hf12 xf32
    replace hbn := Blk.ext hbn xf32
    replace hown := OwnL.ext hown xf32
    replace hbr := Blk.ext hbr xf32
    replace X := Fr.ext X xf32
    clear xf32
    refine ⟨qsf18, ?_⟩
    clear d_hf12 d_hf1 d_hbn d_hown d_hbr qsf18
    refine tw_tail rfl ?_
    refine lw_appendL (sh := ndShape) tabOk zOk rfl rfl rfl rfl (by kernel_rfl) rfl rfl rfl hown (Blk.row (by assumption)) ⟨_, _, rfl, sits_nil⟩ (by omega) (by omega) rfl ?_
    rintro gf35 cap'f36 wf37 hf38 ff39
    have zf40 := Fr.size ff39
    clear hf31 hf22
    replace hf23 := PP.fr hf23 ff39 (by omega)
    clear hf12
    replace hbn := Blk.fr hbn ff39 (by omega)
    clear hown
    replace hbr := Blk.fr hbr ff39 (by omega)
    replace X := Fr.fr X ff39 (by omega)
    clear ff39
    refine lw_pure (pur_fieldAddr tabOk rfl rfl rfl) rfl ?_
    (refine lw_store' [_] [_, _, _, _] tabOk rfl rfl rfl rfl rfl rfl hbn rfl rfl ?_; intro wf41 nf42)
    have hf45 := Put.blk nf42
    have ff43 := Put.fr nf42
    have zf44 := Put.size nf42
    clear nf42 hbn
    replace hf38 := OwnL.fr hf38 ff43 (by omega)
    replace hf23 := PP.fr hf23 ff43 (by omega)
    replace hbr := Blk.fr hbr ff43 (by omega)
    replace X := Fr.fr X ff43 (by omega)
    clear ff43
    refine lw_nil (qw_block_norm ?_)
    rotate_left 1
   refine qw_round (j, acc ++ [(argP c.ts c.n (nextP σ')).1], _, _, (argP c.ts c.n (nextP σ')).2) (by (refine sub_cons rfl ?_; refine sub_cons rfl ?_; refine sub_cons rfl ?_; exact sub_nil)) ⟨by assumption, by assumption, by assumption, by assumption, X, by omega, rfl, by simp only; omega, by simp only [List.length_append, List.length_cons, List.length_nil]; omega⟩ (by simp)
end Bk
namespace Bk
open Go Go.RowKit Go.Proofs
attribute [local irreducible] Go.Calls
structure StmtsC (c : PC) (k : Nat) : Prop where
 stmt : ∀ (σ : PS) (w : World), PP c σ w → 4 * mS c.ts σ + 6 ≤ k → Calls Tryz.prog 44 #[.pointer (some ⟨c.pb, 0, none⟩)] w (TreeR c w (stmtP c.ts c.n k σ))
 branches : ∀ (kind : Int) (mid last : List UInt8) (σ : PS) (w : World), PP c σ w → In c.ts σ → mid ≠ [] → last ≠ [] → 4 * mS c.ts σ + 5 ≤ k → Calls Tryz.prog 90 #[.pointer (some ⟨c.pb, 0, none⟩), .int .u8 kind, str mid, str last] w (TreeR c w (branchesP c.ts c.n k kind mid last σ))
 local_ : ∀ (σ : PS) (w : World), PP c σ w → In c.ts σ → 4 * mS c.ts σ + 5 ≤ k → Calls Tryz.prog 91 #[.pointer (some ⟨c.pb, 0, none⟩)] w (TreeR c w (localP c.ts c.n k σ))
 block : ∀ (σ : PS) (w : World), PP c σ w → 4 * mS c.ts σ + 8 ≤ k → Calls Tryz.prog 108 #[.pointer (some ⟨c.pb, 0, none⟩)] w (TreeR c w (blockP c.ts c.n k σ))
set_option maxRecDepth 100000 in
set_option maxHeartbeats 2000000 in
theorem branches_w (c : PC) (k : Nat) (IH : ∀ j, j ≤ k → StmtsC c j) (kind : Int) (mid last : List UInt8) (σ : PS) (w : World) (hP : PP c σ w) (hi : In c.ts σ) (hmid : mid ≠ []) (hlast : last ≠ []) (hk : 4 * mS c.ts σ + 5 ≤ k + 1) :
 Calls Tryz.prog 90 #[.pointer (some ⟨c.pb, 0, none⟩), .int .u8 kind, str mid, str last] w (TreeR c w (branchesP c.ts c.n (k + 1) kind mid last σ)) := by
 have X := Fr.refl (· = c.pb) w
 have hpb := hP.pbB
 have hB := hP.B
 have hlen := hP.len
 have h2 := hi.2
 have hm := mS_next hi
 rw [branchesP]
 (try dsimp only)
 have l1 := next_le hi
 have l2 := expr_le (n := c.n) (k := k) (lv := 1) l1.wf
 have l3 := (stmt_inv (ts := c.ts) (n := c.n) k).2.2.2.1 _ l2.wf
 have l4 := expect_le (n := c.n) l3.wf hmid
 have l5 := (stmt_inv (ts := c.ts) (n := c.n) k).2.2.2.1 _ l4.wf
 have l6 := expect_le (n := c.n) l5.wf hlast
 have m2 := mS_le l2
 have m3 := mS_le l3
 have m4 := mS_le l4
 have m5 := mS_le l5
 have m6 := mS_le l6
 clear l1 l2 l3 l4 l5 l6
 refine calls_in Tryz.func90 Tryz.ntmps90 rfl rfl ?_
 focus
  refine cS ?_
  (refine lw_alloc' [_, _, _, _] zOk rfl rfl ?_; intro b1 w2 n3)
  have h5 := New.blk n3
  have x6 := New.ext n3
  have p7 := New.pos n3
  have z8 := New.size n3
  clear n3
  replace hP := PP.ext hP x6
  replace X := Fr.ext X x6
  clear x6
  refine cN (cM rfl rfl (lw_pure (pur_nilCheck rfl) rfl (lw_pure (pur_fieldAddr tabOk rfl rfl rfl) rfl (lw_load_b tabOk rfl rfl rfl (PP.blk hP) rfl rfl ?_))))
  refine lw_pure (pur_add rfl rfl (IntWalk.i64_in _ (by omega))) rfl ?_
  refine lw_pure (pur_nilCheck rfl) rfl (lw_pure (pur_fieldAddr tabOk rfl rfl rfl) rfl ?_)
  refine lw_pp_at tabOk rfl rfl rfl rfl (by assumption) h2 ?_
  rintro w9 h10 f11
  have z12 := Fr.size f11
  replace h5 := Blk.fr h5 f11 (by omega)
  clear hP
  replace X := Fr.fr X f11 (by omega)
  clear f11
  refine cN (cM rfl rfl ?_)
  refine lw_does (does_call (by kernel_rfl) rfl ((exprs_c c k).expr _ _ _ (by assumption) (by omega) (by decide) (by decide)) (fun _ _ h => h.ret)) rfl ?_ (fun _ h => h)
  rintro _ w18 ⟨a13, ⟨k14, ⟨⟨⟩, ⟨h15, ⟨h16, f17⟩⟩⟩⟩⟩
  have z19 := Fr.size f17
  clear h10
  replace h5 := Blk.fr h5 f17 (by omega)
  replace X := Fr.fr X f17 (by omega)
  clear f17
  (refine lw_alloc' [_, _, _, _] zOk rfl rfl ?_; intro b20 w21 n22)
  (refine lw_init' [_, _, _, _] tabOk rfl rfl rfl rfl rfl rfl n22 rfl ?_; clear n22; clear w21; intro w23 n22)
  have h24 := New.blk n22
  have x25 := New.ext n22
  have p26 := New.pos n22
  have z27 := New.size n22
  clear n22
  replace h15 := Nd.sits.ext h15 x25
  replace h16 := PP.ext h16 x25
  replace h5 := Blk.ext h5 x25
  replace X := Fr.ext X x25
  clear x25
  refine cN (cM rfl rfl ?_)
  refine lw_does (does_call (by kernel_rfl) rfl ((IH k (Nat.le_refl _)).block _ _ (by assumption) (by omega)) (fun _ _ h => h.ret)) rfl ?_ (fun _ h => h)
  rintro _ w33 ⟨a28, ⟨k29, ⟨⟨⟩, ⟨h30, ⟨h31, f32⟩⟩⟩⟩⟩
  have z34 := Fr.size f32
  replace h24 := Blk.fr h24 f32 (by omega)
  replace h15 := Nd.sits.fr h15 f32 (by omega)
  clear h16
  replace h5 := Blk.fr h5 f32 (by omega)
  replace X := Fr.fr X f32 (by omega)
  clear f32
  (refine lw_alloc' [_, _, _, _] zOk rfl rfl ?_; intro b35 w36 n37)
  (refine lw_init' [_, _, _, _] tabOk rfl rfl rfl rfl rfl rfl n37 rfl ?_; clear n37; clear w36; intro w38 n37)
  have h39 := New.blk n37
  have x40 := New.ext n37
  have p41 := New.pos n37
  have z42 := New.size n37
  clear n37
  replace h30 := Nd.sits.ext h30 x40
  replace h31 := PP.ext h31 x40
  replace h24 := Blk.ext h24 x40
  replace h15 := Nd.sits.ext h15 x40
  replace h5 := Blk.ext h5 x40
  replace X := Fr.ext X x40
  clear x40
  refine cN (cM rfl rfl (cM rfl rfl ?_))
  refine lw_does (does_call (by kernel_rfl) rfl (expect_c _ _ _ _ (by assumption) (by assumption)) (fun _ _ h => ⟨_, h.1⟩)) rfl ?_ (fun _ h => h)
  rintro _ w45 ⟨⟨⟩, ⟨h43, f44⟩⟩
  have z46 := Fr.size f44
  replace h39 := Blk.fr h39 f44 (by omega)
  replace h30 := Nd.sits.fr h30 f44 (by omega)
  clear h31
  replace h24 := Blk.fr h24 f44 (by omega)
  replace h15 := Nd.sits.fr h15 f44 (by omega)
  replace h5 := Blk.fr h5 f44 (by omega)
  replace X := Fr.fr X f44 (by omega)
  clear f44
  refine cN (cM rfl rfl ?_)
  refine lw_does (does_call (by kernel_rfl) rfl ((IH k (Nat.le_refl _)).block _ _ (by assumption) (by omega)) (fun _ _ h => h.ret)) rfl ?_ (fun _ h => h)
  rintro _ w52 ⟨a47, ⟨k48, ⟨⟨⟩, ⟨h49, ⟨h50, f51⟩⟩⟩⟩⟩
  have z53 := Fr.size f51
  clear h43
  replace h39 := Blk.fr h39 f51 (by omega)
  replace h30 := Nd.sits.fr h30 f51 (by omega)
  replace h24 := Blk.fr h24 f51 (by omega)
  replace h15 := Nd.sits.fr h15 f51 (by omega)
  replace h5 := Blk.fr h5 f51 (by omega)
  replace X := Fr.fr X f51 (by omega)
  clear f51
  (refine lw_alloc' [_, _, _, _] zOk rfl rfl ?_; intro b54 w55 n56)
  (refine lw_init' [_, _, _, _] tabOk rfl rfl rfl rfl rfl rfl n56 rfl ?_; clear n56; clear w55; intro w57 n56)
  have h58 := New.blk n56
  have x59 := New.ext n56
  have p60 := New.pos n56
  have z61 := New.size n56
  clear n56
  replace h49 := Nd.sits.ext h49 x59
  replace h50 := PP.ext h50 x59
  replace h39 := Blk.ext h39 x59
  replace h30 := Nd.sits.ext h30 x59
  replace h24 := Blk.ext h24 x59
  replace h15 := Nd.sits.ext h15 x59
  replace h5 := Blk.ext h5 x59
  replace X := Fr.ext X x59
  clear x59
  refine cN (cM rfl rfl (cM rfl rfl ?_))
  refine lw_does (does_call (by kernel_rfl) rfl (expect_c _ _ _ _ (by assumption) (by assumption)) (fun _ _ h => ⟨_, h.1⟩)) rfl ?_ (fun _ h => h)
  rintro _ w64 ⟨⟨⟩, ⟨h62, f63⟩⟩
  have z65 := Fr.size f63
  replace h58 := Blk.fr h58 f63 (by omega)
  replace h49 := Nd.sits.fr h49 f63 (by omega)
  clear h50
  replace h39 := Blk.fr h39 f63 (by omega)
  replace h30 := Nd.sits.fr h30 f63 (by omega)
  replace h24 := Blk.fr h24 f63 (by omega)
  replace h15 := Nd.sits.fr h15 f63 (by omega)
  replace h5 := Blk.fr h5 f63 (by omega)
  replace X := Fr.fr X f63 (by omega)
  clear f63
  refine cN (cM rfl rfl ?_)
  refine lw_does (does_call (by kernel_rfl) rfl ((exprs_c c k).expr _ _ _ (by assumption) (by omega) (by decide) (by decide)) (fun _ _ h => h.ret)) rfl ?_ (fun _ h => h)
  rintro _ w71 ⟨a66, ⟨k67, ⟨⟨⟩, ⟨h68, ⟨h69, f70⟩⟩⟩⟩⟩
  have z72 := Fr.size f70
  clear h62
  replace h58 := Blk.fr h58 f70 (by omega)
  replace h49 := Nd.sits.fr h49 f70 (by omega)
  replace h39 := Blk.fr h39 f70 (by omega)
  replace h30 := Nd.sits.fr h30 f70 (by omega)
  replace h24 := Blk.fr h24 f70 (by omega)
  replace h15 := Nd.sits.fr h15 f70 (by omega)
  replace h5 := Blk.fr h5 f70 (by omega)
  replace X := Fr.fr X f70 (by omega)
  clear f70
  (refine lw_alloc' [_, _, _, _] zOk rfl rfl ?_; intro b73 w74 n75)
  (refine lw_init' [_, _, _, _] tabOk rfl rfl rfl rfl rfl rfl n75 rfl ?_; clear n75; clear w74; intro w76 n75)
  have h77 := New.blk n75
  have x78 := New.ext n75
  have p79 := New.pos n75
  have z80 := New.size n75
  clear n75
  replace h68 := Nd.sits.ext h68 x78
  replace h69 := PP.ext h69 x78
  replace h58 := Blk.ext h58 x78
  replace h49 := Nd.sits.ext h49 x78
  replace h39 := Blk.ext h39 x78
  replace h30 := Nd.sits.ext h30 x78
  replace h24 := Blk.ext h24 x78
  replace h15 := Nd.sits.ext h15 x78
  replace h5 := Blk.ext h5 x78
  replace X := Fr.ext X x78
  clear x78
  refine cN (cM rfl rfl (lw_loads_b' [_, _, _, _] tabOk rfl rfl rfl h24 rfl rfl rfl (lw_loads_b' [_, _, _, _] tabOk rfl rfl rfl h39 rfl rfl rfl (lw_loads_b' [_, _, _, _] tabOk rfl rfl rfl h58 rfl rfl rfl (lw_loads_b' [_, _, _, _] tabOk rfl rfl rfl h77 rfl rfl rfl ?_)))))
  (refine lw_does (does_slice' [_, _, _, _, _, _, _, _, _, _, _, _, _, _, _, _] tabOk zOk rfl rfl rfl rfl rfl rfl rfl rfl rfl) rfl ?_ (fun _ h => h); rintro _ w82 ⟨b81, rfl, n83, t84⟩)
  clear t84
  have h85 := New.blk n83
  have x86 := New.ext n83
  have p87 := New.pos n83
  have z88 := New.size n83
  clear n83
  replace h77 := Blk.ext h77 x86
  replace h68 := Nd.sits.ext h68 x86
  replace h69 := PP.ext h69 x86
  replace h58 := Blk.ext h58 x86
  replace h49 := Nd.sits.ext h49 x86
  replace h39 := Blk.ext h39 x86
  replace h30 := Nd.sits.ext h30 x86
  replace h24 := Blk.ext h24 x86
  replace h15 := Nd.sits.ext h15 x86
  replace h5 := Blk.ext h5 x86
  replace X := Fr.ext X x86
  clear x86
  refine lw_pure (pur_build' [_, _, _, _] tabOk zOk rfl rfl rfl rfl) rfl ?_
  (refine lw_store' [_, _, _, _] [_, _, _, _] tabOk rfl rfl rfl rfl rfl rfl h5 rfl rfl ?_; intro w89 n90)
  have h93 := Put.blk n90
  have f91 := Put.fr n90
  have z92 := Put.size n90
  clear n90 h5
  replace h85 := Blk.fr h85 f91 (by omega)
  replace h77 := Blk.fr h77 f91 (by omega)
  replace h68 := Nd.sits.fr h68 f91 (by omega)
  replace h69 := PP.fr h69 f91 (by omega)
  replace h58 := Blk.fr h58 f91 (by omega)
  replace h49 := Nd.sits.fr h49 f91 (by omega)
  replace h39 := Blk.fr h39 f91 (by omega)
  replace h30 := Nd.sits.fr h30 f91 (by omega)
  replace h24 := Blk.fr h24 f91 (by omega)
  replace h15 := Nd.sits.fr h15 f91 (by omega)
  replace X := Fr.fr X f91 (by omega)
  clear f91
  refine cT (cw_ret (qw_retc rfl tabOk rfl rfl rfl h93 rfl ?_))
  rotate_left 1
 exact tree_ret (sits_4 (by assumption) (by omega) (by assumption) (fun b h => by omega) (by assumption) (fun b h => by omega) (by assumption) (fun b h => by omega) (by assumption) (fun b h => by omega)) (by assumption) X
set_option maxRecDepth 100000 in
set_option maxHeartbeats 2000000 in
theorem local_w (c : PC) (k : Nat) (IH : ∀ j, j ≤ k → StmtsC c j) (σ : PS) (w : World) (hP : PP c σ w) (hi : In c.ts σ) (hk : 4 * mS c.ts σ + 5 ≤ k + 1) :
 Calls Tryz.prog 91 #[.pointer (some ⟨c.pb, 0, none⟩)] w (TreeR c w (localP c.ts c.n (k + 1) σ)) := by
 have X := Fr.refl (· = c.pb) w
 have hpb := hP.pbB
 have hB := hP.B
 have hlen := hP.len
 have h2 := hi.2
 have hm := mS_next hi
 have l1 := next_le hi
 rw [localP]
 (try dsimp only)
 cases hs : hasP c.ts (nextP σ) [115, 116, 97, 99, 107]
 case true =>
  simp only [if_true]
  have l2 := next_le (has_in l1.wf hs (by decide))
  have l3 := name_le (n := c.n) l2.wf
  have m2 := mS_le l2
  have m3 := mS_le l3
  clear l1 l2 l3
  refine calls_in Tryz.func91 Tryz.ntmps91 rfl rfl ?_
  focus
   refine cS ?_
   (refine lw_alloc' [_, _, _, _] zOk rfl rfl ?_; intro b1 w2 n3)
   have h5 := New.blk n3
   have x6 := New.ext n3
   have p7 := New.pos n3
   have z8 := New.size n3
   clear n3
   replace hP := PP.ext hP x6
   replace X := Fr.ext X x6
   clear x6
   refine cN (cM rfl rfl (lw_pure (pur_nilCheck rfl) rfl (lw_pure (pur_fieldAddr tabOk rfl rfl rfl) rfl (lw_load_b tabOk rfl rfl rfl (PP.blk hP) rfl rfl ?_))))
   refine lw_pure (pur_add rfl rfl (IntWalk.i64_in _ (by omega))) rfl ?_
   refine lw_pure (pur_nilCheck rfl) rfl (lw_pure (pur_fieldAddr tabOk rfl rfl rfl) rfl ?_)
   refine lw_pp_at tabOk rfl rfl rfl rfl (by assumption) h2 ?_
   rintro w9 h10 f11
   have z12 := Fr.size f11
   replace h5 := Blk.fr h5 f11 (by omega)
   clear hP
   replace X := Fr.fr X f11 (by omega)
   clear f11
   refine cT (cw_seq (cS (cM rfl rfl ?_)))
   refine lw_does (does_call (by kernel_rfl) rfl (accept_t _ _ _ _ (by assumption) (by decide) (by assumption)) (fun _ _ h => ⟨_, h.1⟩)) rfl ?_ (fun _ h => h)
   rintro _ w15 ⟨⟨⟩, ⟨h13, f14⟩⟩
   have z16 := Fr.size f14
   clear h10
   replace h5 := Blk.fr h5 f14 (by omega)
   replace X := Fr.fr X f14 (by omega)
   clear f14
   refine cT (cw_cond_t rfl (cS (cM rfl rfl ?_)))
   refine lw_does (does_call (by kernel_rfl) rfl (name_c _ _ _ (by assumption)) (fun _ _ h => ⟨_, h.1⟩)) rfl ?_ (fun _ h => h)
   rintro _ w19 ⟨⟨⟩, ⟨h17, f18⟩⟩
   have z20 := Fr.size f18
   clear h13
   replace h5 := Blk.fr h5 f18 (by omega)
   replace X := Fr.fr X f18 (by omega)
   clear f18
   refine cA rfl rfl (cN (cM rfl rfl (cM rfl rfl ?_)))
   refine lw_does (does_call (by kernel_rfl) rfl ((IH k (Nat.le_refl _)).block _ _ (by assumption) (by omega)) (fun _ _ h => h.ret)) rfl ?_ (fun _ h => h)
   rintro _ w26 ⟨a21, ⟨k22, ⟨⟨⟩, ⟨h23, ⟨h24, f25⟩⟩⟩⟩⟩
   have z27 := Fr.size f25
   clear h17
   replace h5 := Blk.fr h5 f25 (by omega)
   replace X := Fr.fr X f25 (by omega)
   clear f25
   (refine lw_does (does_slice' [_, _, _, _] tabOk zOk rfl rfl rfl rfl rfl rfl rfl rfl rfl) rfl ?_ (fun _ h => h); rintro _ w29 ⟨b28, rfl, n30, t31⟩)
   clear t31
   have h32 := New.blk n30
   have x33 := New.ext n30
   have p34 := New.pos n30
   have z35 := New.size n30
   clear n30
   replace h23 := Nd.sits.ext h23 x33
   replace h24 := PP.ext h24 x33
   replace h5 := Blk.ext h5 x33
   replace X := Fr.ext X x33
   clear x33
   refine lw_pure (pur_build' [_, _, _, _] tabOk zOk rfl rfl rfl rfl) rfl ?_
   (refine lw_store' [_, _, _, _] [_, _, _, _] tabOk rfl rfl rfl rfl rfl rfl h5 rfl rfl ?_; intro w36 n37)
   have h40 := Put.blk n37
   have f38 := Put.fr n37
   have z39 := Put.size n37
   clear n37 h5
   replace h32 := Blk.fr h32 f38 (by omega)
   replace h23 := Nd.sits.fr h23 f38 (by omega)
   replace h24 := PP.fr h24 f38 (by omega)
   replace X := Fr.fr X f38 (by omega)
   clear f38
   refine cT (cw_ret (qw_then_ret (qw_retc rfl tabOk rfl rfl rfl h40 rfl ?_)))
   rotate_left 1
  exact tree_ret (sits_1 (by assumption) (by omega) (by assumption) (fun b h => by omega)) (by assumption) X
 simp only [Bool.false_eq_true, if_false]
 have l2 := name_le (n := c.n) l1.wf
 have l3 := expect_le (n := c.n) (t := [61]) l2.wf (by decide)
 have l4 := expr_le (n := c.n) (k := k) (lv := 1) l3.wf
 have l5 := (stmt_inv (ts := c.ts) (n := c.n) k).2.2.2.1 _ l4.wf
 have l6 := expect_le (n := c.n) (t := [100, 101, 108, 111, 99, 97, 108]) l5.wf (by decide)
 have m2 := mS_le l2
 have m3 := mS_le l3
 have m4 := mS_le l4
 have m5 := mS_le l5
 have m6 := mS_le l6
 clear l1 l2 l3 l4 l5 l6
 refine calls_in Tryz.func91 Tryz.ntmps91 rfl rfl ?_
 focus
  refine cS ?_
  (refine lw_alloc' [_, _, _, _] zOk rfl rfl ?_; intro ba1 wa2 na3)
  have ha5 := New.blk na3
  have xa6 := New.ext na3
  have pa7 := New.pos na3
  have za8 := New.size na3
  clear na3
  replace hP := PP.ext hP xa6
  replace X := Fr.ext X xa6
  clear xa6
  refine cN (cM rfl rfl (lw_pure (pur_nilCheck rfl) rfl (lw_pure (pur_fieldAddr tabOk rfl rfl rfl) rfl (lw_load_b tabOk rfl rfl rfl (PP.blk hP) rfl rfl ?_))))
  refine lw_pure (pur_add rfl rfl (IntWalk.i64_in _ (by omega))) rfl ?_
  refine lw_pure (pur_nilCheck rfl) rfl (lw_pure (pur_fieldAddr tabOk rfl rfl rfl) rfl ?_)
  refine lw_pp_at tabOk rfl rfl rfl rfl (by assumption) h2 ?_
  rintro wa9 ha10 fa11
  have za12 := Fr.size fa11
  replace ha5 := Blk.fr ha5 fa11 (by omega)
  clear hP
  replace X := Fr.fr X fa11 (by omega)
  clear fa11
  refine cT (cw_seq (cS (cM rfl rfl ?_)))
  refine lw_does (does_call (by kernel_rfl) rfl (accept_f _ _ _ _ (by assumption) (by decide) (by assumption)) (fun _ _ h => ⟨_, h.1⟩)) rfl ?_ (fun _ h => h)
  rintro _ wa15 ⟨⟨⟩, ⟨ha13, fa14⟩⟩
  have za16 := Fr.size fa14
  clear ha10
  replace ha5 := Blk.fr ha5 fa14 (by omega)
  replace X := Fr.fr X fa14 (by omega)
  clear fa14
  refine cT (cw_cond_f rfl (cw_skip (qw_then (cS (cM rfl rfl ?_)))))
  refine lw_does (does_call (by kernel_rfl) rfl (name_c _ _ _ (by assumption)) (fun _ _ h => ⟨_, h.1⟩)) rfl ?_ (fun _ h => h)
  rintro _ wa19 ⟨⟨⟩, ⟨ha17, fa18⟩⟩
  have za20 := Fr.size fa18
  clear ha13
  replace ha5 := Blk.fr ha5 fa18 (by omega)
  replace X := Fr.fr X fa18 (by omega)
  clear fa18
  refine cA rfl rfl (cN (cM rfl rfl ?_))
  refine lw_does (does_call (by kernel_rfl) rfl (expect_c _ _ _ _ (by assumption) (by decide)) (fun _ _ h => ⟨_, h.1⟩)) rfl ?_ (fun _ h => h)
  rintro _ wa23 ⟨⟨⟩, ⟨ha21, fa22⟩⟩
  have za24 := Fr.size fa22
  clear ha17
  replace ha5 := Blk.fr ha5 fa22 (by omega)
  replace X := Fr.fr X fa22 (by omega)
  clear fa22
  refine cN (cM rfl rfl ?_)
  refine lw_does (does_call (by kernel_rfl) rfl ((exprs_c c k).expr _ _ _ (by assumption) (by omega) (by decide) (by decide)) (fun _ _ h => h.ret)) rfl ?_ (fun _ h => h)
  rintro _ wa30 ⟨aa25, ⟨ka26, ⟨⟨⟩, ⟨ha27, ⟨ha28, fa29⟩⟩⟩⟩⟩
  have za31 := Fr.size fa29
  clear ha21
  replace ha5 := Blk.fr ha5 fa29 (by omega)
  replace X := Fr.fr X fa29 (by omega)
  clear fa29
  (refine lw_alloc' [_, _, _, _] zOk rfl rfl ?_; intro ba32 wa33 na34)
  (refine lw_init' [_, _, _, _] tabOk rfl rfl rfl rfl rfl rfl na34 rfl ?_; clear na34; clear wa33; intro wa35 na34)
  have ha36 := New.blk na34
  have xa37 := New.ext na34
  have pa38 := New.pos na34
  have za39 := New.size na34
  clear na34
  replace ha27 := Nd.sits.ext ha27 xa37
  replace ha28 := PP.ext ha28 xa37
  replace ha5 := Blk.ext ha5 xa37
  replace X := Fr.ext X xa37
  clear xa37
  refine cN (cM rfl rfl ?_)
  refine lw_does (does_call (by kernel_rfl) rfl ((IH k (Nat.le_refl _)).block _ _ (by assumption) (by omega)) (fun _ _ h => h.ret)) rfl ?_ (fun _ h => h)
  rintro _ wa45 ⟨aa40, ⟨ka41, ⟨⟨⟩, ⟨ha42, ⟨ha43, fa44⟩⟩⟩⟩⟩
  have za46 := Fr.size fa44
  replace ha36 := Blk.fr ha36 fa44 (by omega)
  replace ha27 := Nd.sits.fr ha27 fa44 (by omega)
  clear ha28
  replace ha5 := Blk.fr ha5 fa44 (by omega)
  replace X := Fr.fr X fa44 (by omega)
  clear fa44
  (refine lw_alloc' [_, _, _, _] zOk rfl rfl ?_; intro ba47 wa48 na49)
  (refine lw_init' [_, _, _, _] tabOk rfl rfl rfl rfl rfl rfl na49 rfl ?_; clear na49; clear wa48; intro wa50 na49)
  have ha51 := New.blk na49
  have xa52 := New.ext na49
  have pa53 := New.pos na49
  have za54 := New.size na49
  clear na49
  replace ha42 := Nd.sits.ext ha42 xa52
  replace ha43 := PP.ext ha43 xa52
  replace ha36 := Blk.ext ha36 xa52
  replace ha27 := Nd.sits.ext ha27 xa52
  replace ha5 := Blk.ext ha5 xa52
  replace X := Fr.ext X xa52
  clear xa52
  refine cN (cM rfl rfl ?_)
  refine lw_does (does_call (by kernel_rfl) rfl (expect_c _ _ _ _ (by assumption) (by decide)) (fun _ _ h => ⟨_, h.1⟩)) rfl ?_ (fun _ h => h)
  rintro _ wa57 ⟨⟨⟩, ⟨ha55, fa56⟩⟩
  have za58 := Fr.size fa56
  replace ha51 := Blk.fr ha51 fa56 (by omega)
  replace ha42 := Nd.sits.fr ha42 fa56 (by omega)
  clear ha43
  replace ha36 := Blk.fr ha36 fa56 (by omega)
  replace ha27 := Nd.sits.fr ha27 fa56 (by omega)
  replace ha5 := Blk.fr ha5 fa56 (by omega)
  replace X := Fr.fr X fa56 (by omega)
  clear fa56
  refine cN (cM rfl rfl ?_)
  refine lw_does (does_call (by kernel_rfl) rfl ((exprs_c c k).expr _ _ _ (by assumption) (by omega) (by decide) (by decide)) (fun _ _ h => h.ret)) rfl ?_ (fun _ h => h)
  rintro _ wa64 ⟨aa59, ⟨ka60, ⟨⟨⟩, ⟨ha61, ⟨ha62, fa63⟩⟩⟩⟩⟩
  have za65 := Fr.size fa63
  clear ha55
  replace ha51 := Blk.fr ha51 fa63 (by omega)
  replace ha42 := Nd.sits.fr ha42 fa63 (by omega)
  replace ha36 := Blk.fr ha36 fa63 (by omega)
  replace ha27 := Nd.sits.fr ha27 fa63 (by omega)
  replace ha5 := Blk.fr ha5 fa63 (by omega)
  replace X := Fr.fr X fa63 (by omega)
  clear fa63
  (refine lw_alloc' [_, _, _, _] zOk rfl rfl ?_; intro ba66 wa67 na68)
  (refine lw_init' [_, _, _, _] tabOk rfl rfl rfl rfl rfl rfl na68 rfl ?_; clear na68; clear wa67; intro wa69 na68)
  have ha70 := New.blk na68
  have xa71 := New.ext na68
  have pa72 := New.pos na68
  have za73 := New.size na68
  clear na68
  replace ha61 := Nd.sits.ext ha61 xa71
  replace ha62 := PP.ext ha62 xa71
  replace ha51 := Blk.ext ha51 xa71
  replace ha42 := Nd.sits.ext ha42 xa71
  replace ha36 := Blk.ext ha36 xa71
  replace ha27 := Nd.sits.ext ha27 xa71
  replace ha5 := Blk.ext ha5 xa71
  replace X := Fr.ext X xa71
  clear xa71
  refine cN (cM rfl rfl (lw_loads_b' [_, _, _, _] tabOk rfl rfl rfl ha36 rfl rfl rfl (lw_loads_b' [_, _, _, _] tabOk rfl rfl rfl ha51 rfl rfl rfl (lw_loads_b' [_, _, _, _] tabOk rfl rfl rfl ha70 rfl rfl rfl ?_))))
  (refine lw_does (does_slice' [_, _, _, _, _, _, _, _, _, _, _, _] tabOk zOk rfl rfl rfl rfl rfl rfl rfl rfl rfl) rfl ?_ (fun _ h => h); rintro _ wa75 ⟨ba74, rfl, na76, ta77⟩)
  clear ta77
  have ha78 := New.blk na76
  have xa79 := New.ext na76
  have pa80 := New.pos na76
  have za81 := New.size na76
  clear na76
  replace ha70 := Blk.ext ha70 xa79
  replace ha61 := Nd.sits.ext ha61 xa79
  replace ha62 := PP.ext ha62 xa79
  replace ha51 := Blk.ext ha51 xa79
  replace ha42 := Nd.sits.ext ha42 xa79
  replace ha36 := Blk.ext ha36 xa79
  replace ha27 := Nd.sits.ext ha27 xa79
  replace ha5 := Blk.ext ha5 xa79
  replace X := Fr.ext X xa79
  clear xa79
  refine lw_pure (pur_build' [_, _, _, _] tabOk zOk rfl rfl rfl rfl) rfl ?_
  (refine lw_store' [_, _, _, _] [_, _, _, _] tabOk rfl rfl rfl rfl rfl rfl ha5 rfl rfl ?_; intro wa82 na83)
  have ha86 := Put.blk na83
  have fa84 := Put.fr na83
  have za85 := Put.size na83
  clear na83 ha5
  replace ha78 := Blk.fr ha78 fa84 (by omega)
  replace ha70 := Blk.fr ha70 fa84 (by omega)
  replace ha61 := Nd.sits.fr ha61 fa84 (by omega)
  replace ha62 := PP.fr ha62 fa84 (by omega)
  replace ha51 := Blk.fr ha51 fa84 (by omega)
  replace ha42 := Nd.sits.fr ha42 fa84 (by omega)
  replace ha36 := Blk.fr ha36 fa84 (by omega)
  replace ha27 := Nd.sits.fr ha27 fa84 (by omega)
  replace X := Fr.fr X fa84 (by omega)
  clear fa84
  refine cT (cw_ret (qw_retc rfl tabOk rfl rfl rfl ha86 rfl ?_))
  rotate_left 1
 exact tree_ret (sits_3 (by assumption) (by omega) (by assumption) (fun b h => by omega) (by assumption) (fun b h => by omega) (by assumption) (fun b h => by omega)) (by assumption) X
set_option maxRecDepth 100000 in
set_option maxHeartbeats 2000000 in
theorem stmt_w (c : PC) (k : Nat) (IH : ∀ j, j ≤ k → StmtsC c j) (σ : PS) (w : World) (hP : PP c σ w) (hk : 4 * mS c.ts σ + 6 ≤ k + 1) :
 Calls Tryz.prog 44 #[.pointer (some ⟨c.pb, 0, none⟩)] w (TreeR c w (stmtP c.ts c.n (k + 1) σ)) := by
 have X := Fr.refl (· = c.pb) w
 have hpb := hP.pbB
 have hB := hP.B
 have hin : ∀ t : List UInt8, (peekP c.ts σ).text = t → t ≠ [] → In c.ts σ := fun t h ht => peek_in hP.at_ (Or.inl (by rw [h]; exact ht))
 have HIN := Lib.hid hin; clear hin
 rw [stmtP]
 by_cases e0 : (peekP c.ts σ).text = [112, 117, 115, 104]
 · rw [if_pos e0]
   have hin := HIN.out _ e0 (by decide)
   refine calls_in Tryz.func44 Tryz.ntmps44 rfl rfl ?_
   focus
    refine cS ?_
    (refine lw_alloc' [_, _, _, _] zOk rfl rfl ?_; intro b1 w2 n3)
    have h5 := New.blk n3
    have x6 := New.ext n3
    have p7 := New.pos n3
    have z8 := New.size n3
    clear n3
    replace hP := PP.ext hP x6
    replace X := Fr.ext X x6
    clear x6
    refine cT (cw_seq (cS (cM rfl rfl ?_)))
    refine lw_does (does_call (by kernel_rfl) rfl (peek_c _ _ _ (by assumption)) (fun _ _ h => ⟨_, h.1⟩)) rfl ?_ (fun _ h => h)
    rintro _ w10 ⟨⟨⟩, x9⟩
    have z11 := Ext.size x9
    replace h5 := Blk.ext h5 x9
    replace hP := PP.ext hP x9
    replace X := Fr.ext X x9
    clear x9
    refine lw_pure (pur_field tabOk rfl rfl rfl rfl rfl rfl) rfl (cT (cw_block (cS (lw_pure (pur_seql rfl rfl) rfl (cA rfl rfl (cT ?_))))))
    refine cw_yes rfl (by assumption) ?_
    refine cS (cM rfl rfl ?_)
    refine lw_does (does_call (by kernel_rfl) rfl (stackStmt_c c k 44 _ _ (by assumption) hin (by omega)) (fun _ _ h => h.ret)) rfl ?_ (fun _ h => h)
    rintro _ w17 ⟨a12, ⟨k13, ⟨⟨⟩, ⟨h14, ⟨h15, f16⟩⟩⟩⟩⟩
    have z18 := Fr.size f16
    replace h5 := Blk.fr h5 f16 (by omega)
    clear hP
    replace X := Fr.fr X f16 (by omega)
    clear f16
    (refine lw_store' [_, _, _, _] [_, _, _, _] tabOk rfl rfl rfl rfl rfl rfl h5 rfl rfl ?_; intro w19 n20)
    have h23 := Put.blk n20
    have f21 := Put.fr n20
    have z22 := Put.size n20
    clear n20 h5
    replace h14 := Nd.sits.fr h14 f21 (by omega)
    replace h15 := PP.fr h15 f21 (by omega)
    replace X := Fr.fr X f21 (by omega)
    clear f21
    refine cT (cw_ret (qw_block_ret (qw_then_ret (qw_retc rfl tabOk rfl rfl rfl h23 rfl ?_))))
    rotate_left 1
   exact tree_ret (Nd.sits.wide (by assumption) (fun b h => by omega)) (by assumption) X
 rw [if_neg e0]
 by_cases e1 : (peekP c.ts σ).text = [112, 111, 112]
 · rw [if_pos e1]
   have hin := HIN.out _ e1 (by decide)
   refine calls_in Tryz.func44 Tryz.ntmps44 rfl rfl ?_
   focus
    refine cS ?_
    (refine lw_alloc' [_, _, _, _] zOk rfl rfl ?_; intro ba1 wa2 na3)
    have ha5 := New.blk na3
    have xa6 := New.ext na3
    have pa7 := New.pos na3
    have za8 := New.size na3
    clear na3
    replace hP := PP.ext hP xa6
    replace X := Fr.ext X xa6
    clear xa6
    refine cT (cw_seq (cS (cM rfl rfl ?_)))
    refine lw_does (does_call (by kernel_rfl) rfl (peek_c _ _ _ (by assumption)) (fun _ _ h => ⟨_, h.1⟩)) rfl ?_ (fun _ h => h)
    rintro _ wa10 ⟨⟨⟩, xa9⟩
    have za11 := Ext.size xa9
    replace ha5 := Blk.ext ha5 xa9
    replace hP := PP.ext hP xa9
    replace X := Fr.ext X xa9
    clear xa9
    refine lw_pure (pur_field tabOk rfl rfl rfl rfl rfl rfl) rfl (cT (cw_block (cS (lw_pure (pur_seql rfl rfl) rfl (cA rfl rfl (cT ?_))))))
    refine cw_no rfl (by assumption) ?_
    refine cS (lw_pure (pur_seql rfl rfl) rfl (cA rfl rfl (cT ?_)))
    refine cw_yes rfl (by assumption) ?_
    refine cS (cM rfl rfl ?_)
    refine lw_does (does_call (by kernel_rfl) rfl (stackStmt_c c k 45 _ _ (by assumption) hin (by omega)) (fun _ _ h => h.ret)) rfl ?_ (fun _ h => h)
    rintro _ wa17 ⟨aa12, ⟨ka13, ⟨⟨⟩, ⟨ha14, ⟨ha15, fa16⟩⟩⟩⟩⟩
    have za18 := Fr.size fa16
    replace ha5 := Blk.fr ha5 fa16 (by omega)
    clear hP
    replace X := Fr.fr X fa16 (by omega)
    clear fa16
    (refine lw_store' [_, _, _, _] [_, _, _, _] tabOk rfl rfl rfl rfl rfl rfl ha5 rfl rfl ?_; intro wa19 na20)
    have ha23 := Put.blk na20
    have fa21 := Put.fr na20
    have za22 := Put.size na20
    clear na20 ha5
    replace ha14 := Nd.sits.fr ha14 fa21 (by omega)
    replace ha15 := PP.fr ha15 fa21 (by omega)
    replace X := Fr.fr X fa21 (by omega)
    clear fa21
    refine cT (cw_ret (qw_block_ret (qw_then_ret (qw_retc rfl tabOk rfl rfl rfl ha23 rfl ?_))))
    rotate_left 1
   exact tree_ret (Nd.sits.wide (by assumption) (fun b h => by omega)) (by assumption) X
 rw [if_neg e1]
 by_cases e2 : (peekP c.ts σ).text = [114, 101, 97, 100]
 · rw [if_pos e2]
   have hin := HIN.out _ e2 (by decide)
   refine calls_in Tryz.func44 Tryz.ntmps44 rfl rfl ?_
   focus
    refine cS ?_
    (refine lw_alloc' [_, _, _, _] zOk rfl rfl ?_; intro bb1 wb2 nb3)
    have hb5 := New.blk nb3
    have xb6 := New.ext nb3
    have pb7 := New.pos nb3
    have zb8 := New.size nb3
    clear nb3
    replace hP := PP.ext hP xb6
    replace X := Fr.ext X xb6
    clear xb6
    refine cT (cw_seq (cS (cM rfl rfl ?_)))
    refine lw_does (does_call (by kernel_rfl) rfl (peek_c _ _ _ (by assumption)) (fun _ _ h => ⟨_, h.1⟩)) rfl ?_ (fun _ h => h)
    rintro _ wb10 ⟨⟨⟩, xb9⟩
    have zb11 := Ext.size xb9
    replace hb5 := Blk.ext hb5 xb9
    replace hP := PP.ext hP xb9
    replace X := Fr.ext X xb9
    clear xb9
    refine lw_pure (pur_field tabOk rfl rfl rfl rfl rfl rfl) rfl (cT (cw_block (cS (lw_pure (pur_seql rfl rfl) rfl (cA rfl rfl (cT ?_))))))
    refine cw_no rfl (by assumption) ?_
    refine cS (lw_pure (pur_seql rfl rfl) rfl (cA rfl rfl (cT ?_)))
    refine cw_no rfl (by assumption) ?_
    refine cS (lw_pure (pur_seql rfl rfl) rfl (cA rfl rfl (cT ?_)))
    refine cw_yes rfl (by assumption) ?_
    refine cS (cM rfl rfl ?_)
    refine lw_does (does_call (by kernel_rfl) rfl (tapeStmt_c c k 46 _ _ (by assumption) hin (by omega)) (fun _ _ h => h.ret)) rfl ?_ (fun _ h => h)
    rintro _ wb17 ⟨ab12, ⟨kb13, ⟨⟨⟩, ⟨hb14, ⟨hb15, fb16⟩⟩⟩⟩⟩
    have zb18 := Fr.size fb16
    replace hb5 := Blk.fr hb5 fb16 (by omega)
    clear hP
    replace X := Fr.fr X fb16 (by omega)
    clear fb16
    (refine lw_store' [_, _, _, _] [_, _, _, _] tabOk rfl rfl rfl rfl rfl rfl hb5 rfl rfl ?_; intro wb19 nb20)
    have hb23 := Put.blk nb20
    have fb21 := Put.fr nb20
    have zb22 := Put.size nb20
    clear nb20 hb5
    replace hb14 := Nd.sits.fr hb14 fb21 (by omega)
    replace hb15 := PP.fr hb15 fb21 (by omega)
    replace X := Fr.fr X fb21 (by omega)
    clear fb21
    refine cT (cw_ret (qw_block_ret (qw_then_ret (qw_retc rfl tabOk rfl rfl rfl hb23 rfl ?_))))
    rotate_left 1
   exact tree_ret (Nd.sits.wide (by assumption) (fun b h => by omega)) (by assumption) X
 rw [if_neg e2]
 by_cases e3 : (peekP c.ts σ).text = [117, 110, 114, 101, 97, 100]
 · rw [if_pos e3]
   have hin := HIN.out _ e3 (by decide)
   refine calls_in Tryz.func44 Tryz.ntmps44 rfl rfl ?_
   focus
    refine cS ?_
    (refine lw_alloc' [_, _, _, _] zOk rfl rfl ?_; intro bc1 wc2 nc3)
    have hc5 := New.blk nc3
    have xc6 := New.ext nc3
    have pc7 := New.pos nc3
    have zc8 := New.size nc3
    clear nc3
    replace hP := PP.ext hP xc6
    replace X := Fr.ext X xc6
    clear xc6
    refine cT (cw_seq (cS (cM rfl rfl ?_)))
    refine lw_does (does_call (by kernel_rfl) rfl (peek_c _ _ _ (by assumption)) (fun _ _ h => ⟨_, h.1⟩)) rfl ?_ (fun _ h => h)
    rintro _ wc10 ⟨⟨⟩, xc9⟩
    have zc11 := Ext.size xc9
    replace hc5 := Blk.ext hc5 xc9
    replace hP := PP.ext hP xc9
    replace X := Fr.ext X xc9
    clear xc9
    refine lw_pure (pur_field tabOk rfl rfl rfl rfl rfl rfl) rfl (cT (cw_block (cS (lw_pure (pur_seql rfl rfl) rfl (cA rfl rfl (cT ?_))))))
    refine cw_no rfl (by assumption) ?_
    refine cS (lw_pure (pur_seql rfl rfl) rfl (cA rfl rfl (cT ?_)))
    refine cw_no rfl (by assumption) ?_
    refine cS (lw_pure (pur_seql rfl rfl) rfl (cA rfl rfl (cT ?_)))
    refine cw_no rfl (by assumption) ?_
    refine cS (lw_pure (pur_seql rfl rfl) rfl (cA rfl rfl (cT ?_)))
    refine cw_yes rfl (by assumption) ?_
    refine cS (cM rfl rfl ?_)
    refine lw_does (does_call (by kernel_rfl) rfl (tapeStmt_c c k 47 _ _ (by assumption) hin (by omega)) (fun _ _ h => h.ret)) rfl ?_ (fun _ h => h)
    rintro _ wc17 ⟨ac12, ⟨kc13, ⟨⟨⟩, ⟨hc14, ⟨hc15, fc16⟩⟩⟩⟩⟩
    have zc18 := Fr.size fc16
    replace hc5 := Blk.fr hc5 fc16 (by omega)
    clear hP
    replace X := Fr.fr X fc16 (by omega)
    clear fc16
    (refine lw_store' [_, _, _, _] [_, _, _, _] tabOk rfl rfl rfl rfl rfl rfl hc5 rfl rfl ?_; intro wc19 nc20)
    have hc23 := Put.blk nc20
    have fc21 := Put.fr nc20
    have zc22 := Put.size nc20
    clear nc20 hc5
    replace hc14 := Nd.sits.fr hc14 fc21 (by omega)
    replace hc15 := PP.fr hc15 fc21 (by omega)
    replace X := Fr.fr X fc21 (by omega)
    clear fc21
    refine cT (cw_ret (qw_block_ret (qw_then_ret (qw_retc rfl tabOk rfl rfl rfl hc23 rfl ?_))))
    rotate_left 1
   exact tree_ret (Nd.sits.wide (by assumption) (fun b h => by omega)) (by assumption) X
 rw [if_neg e3]
 by_cases e4 : (peekP c.ts σ).text = [119, 114, 105, 116, 101]
 · rw [if_pos e4]
   have hin := HIN.out _ e4 (by decide)
   refine calls_in Tryz.func44 Tryz.ntmps44 rfl rfl ?_
   focus
    refine cS ?_
    (refine lw_alloc' [_, _, _, _] zOk rfl rfl ?_; intro bd1 wd2 nd3)
    have hd5 := New.blk nd3
    have xd6 := New.ext nd3
    have pd7 := New.pos nd3
    have zd8 := New.size nd3
    clear nd3
    replace hP := PP.ext hP xd6
    replace X := Fr.ext X xd6
    clear xd6
    refine cT (cw_seq (cS (cM rfl rfl ?_)))
    refine lw_does (does_call (by kernel_rfl) rfl (peek_c _ _ _ (by assumption)) (fun _ _ h => ⟨_, h.1⟩)) rfl ?_ (fun _ h => h)
    rintro _ wd10 ⟨⟨⟩, xd9⟩
    have zd11 := Ext.size xd9
    replace hd5 := Blk.ext hd5 xd9
    replace hP := PP.ext hP xd9
    replace X := Fr.ext X xd9
    clear xd9
    refine lw_pure (pur_field tabOk rfl rfl rfl rfl rfl rfl) rfl (cT (cw_block (cS (lw_pure (pur_seql rfl rfl) rfl (cA rfl rfl (cT ?_))))))
    refine cw_no rfl (by assumption) ?_
    refine cS (lw_pure (pur_seql rfl rfl) rfl (cA rfl rfl (cT ?_)))
    refine cw_no rfl (by assumption) ?_
    refine cS (lw_pure (pur_seql rfl rfl) rfl (cA rfl rfl (cT ?_)))
    refine cw_no rfl (by assumption) ?_
    refine cS (lw_pure (pur_seql rfl rfl) rfl (cA rfl rfl (cT ?_)))
    refine cw_no rfl (by assumption) ?_
    refine cS (lw_pure (pur_seql rfl rfl) rfl (cA rfl rfl (cT ?_)))
    refine cw_yes rfl (by assumption) ?_
    refine cS (cM rfl rfl ?_)
    refine lw_does (does_call (by kernel_rfl) rfl (tapeStmt_c c k 48 _ _ (by assumption) hin (by omega)) (fun _ _ h => h.ret)) rfl ?_ (fun _ h => h)
    rintro _ wd17 ⟨ad12, ⟨kd13, ⟨⟨⟩, ⟨hd14, ⟨hd15, fd16⟩⟩⟩⟩⟩
    have zd18 := Fr.size fd16
    replace hd5 := Blk.fr hd5 fd16 (by omega)
    clear hP
    replace X := Fr.fr X fd16 (by omega)
    clear fd16
    (refine lw_store' [_, _, _, _] [_, _, _, _] tabOk rfl rfl rfl rfl rfl rfl hd5 rfl rfl ?_; intro wd19 nd20)
    have hd23 := Put.blk nd20
    have fd21 := Put.fr nd20
    have zd22 := Put.size nd20
    clear nd20 hd5
    replace hd14 := Nd.sits.fr hd14 fd21 (by omega)
    replace hd15 := PP.fr hd15 fd21 (by omega)
    replace X := Fr.fr X fd21 (by omega)
    clear fd21
    refine cT (cw_ret (qw_block_ret (qw_then_ret (qw_retc rfl tabOk rfl rfl rfl hd23 rfl ?_))))
    rotate_left 1
   exact tree_ret (Nd.sits.wide (by assumption) (fun b h => by omega)) (by assumption) X
 rw [if_neg e4]
 by_cases e5 : (peekP c.ts σ).text = [117, 110, 119, 114, 105, 116, 101]
 · rw [if_pos e5]
   have hin := HIN.out _ e5 (by decide)
   refine calls_in Tryz.func44 Tryz.ntmps44 rfl rfl ?_
   focus
    refine cS ?_
    (refine lw_alloc' [_, _, _, _] zOk rfl rfl ?_; intro be1 we2 ne3)
    have he5 := New.blk ne3
    have xe6 := New.ext ne3
    have pe7 := New.pos ne3
    have ze8 := New.size ne3
    clear ne3
    replace hP := PP.ext hP xe6
    replace X := Fr.ext X xe6
    clear xe6
    refine cT (cw_seq (cS (cM rfl rfl ?_)))
    refine lw_does (does_call (by kernel_rfl) rfl (peek_c _ _ _ (by assumption)) (fun _ _ h => ⟨_, h.1⟩)) rfl ?_ (fun _ h => h)
    rintro _ we10 ⟨⟨⟩, xe9⟩
    have ze11 := Ext.size xe9
    replace he5 := Blk.ext he5 xe9
    replace hP := PP.ext hP xe9
    replace X := Fr.ext X xe9
    clear xe9
    refine lw_pure (pur_field tabOk rfl rfl rfl rfl rfl rfl) rfl (cT (cw_block (cS (lw_pure (pur_seql rfl rfl) rfl (cA rfl rfl (cT ?_))))))
    refine cw_no rfl (by assumption) ?_
    refine cS (lw_pure (pur_seql rfl rfl) rfl (cA rfl rfl (cT ?_)))
    refine cw_no rfl (by assumption) ?_
    refine cS (lw_pure (pur_seql rfl rfl) rfl (cA rfl rfl (cT ?_)))
    refine cw_no rfl (by assumption) ?_
    refine cS (lw_pure (pur_seql rfl rfl) rfl (cA rfl rfl (cT ?_)))
    refine cw_no rfl (by assumption) ?_
    refine cS (lw_pure (pur_seql rfl rfl) rfl (cA rfl rfl (cT ?_)))
    refine cw_no rfl (by assumption) ?_
    refine cS (lw_pure (pur_seql rfl rfl) rfl (cA rfl rfl (cT ?_)))
    refine cw_yes rfl (by assumption) ?_
    refine cS (cM rfl rfl ?_)
    refine lw_does (does_call (by kernel_rfl) rfl (tapeStmt_c c k 49 _ _ (by assumption) hin (by omega)) (fun _ _ h => h.ret)) rfl ?_ (fun _ h => h)
    rintro _ we17 ⟨ae12, ⟨ke13, ⟨⟨⟩, ⟨he14, ⟨he15, fe16⟩⟩⟩⟩⟩
    have ze18 := Fr.size fe16
    replace he5 := Blk.fr he5 fe16 (by omega)
    clear hP
    replace X := Fr.fr X fe16 (by omega)
    clear fe16
    (refine lw_store' [_, _, _, _] [_, _, _, _] tabOk rfl rfl rfl rfl rfl rfl he5 rfl rfl ?_; intro we19 ne20)
    have he23 := Put.blk ne20
    have fe21 := Put.fr ne20
    have ze22 := Put.size ne20
    clear ne20 he5
    replace he14 := Nd.sits.fr he14 fe21 (by omega)
    replace he15 := PP.fr he15 fe21 (by omega)
    replace X := Fr.fr X fe21 (by omega)
    clear fe21
    refine cT (cw_ret (qw_block_ret (qw_then_ret (qw_retc rfl tabOk rfl rfl rfl he23 rfl ?_))))
    rotate_left 1
   exact tree_ret (Nd.sits.wide (by assumption) (fun b h => by omega)) (by assumption) X
 rw [if_neg e5]
 by_cases e6 : (peekP c.ts σ).text = [99, 97, 108, 108]
 · rw [if_pos e6]
   have hin := HIN.out _ e6 (by decide)
   refine calls_in Tryz.func44 Tryz.ntmps44 rfl rfl ?_
   focus
    refine cS ?_
    (refine lw_alloc' [_, _, _, _] zOk rfl rfl ?_; intro bf1 wf2 nf3)
    have hf5 := New.blk nf3
    have xf6 := New.ext nf3
    have pf7 := New.pos nf3
    have zf8 := New.size nf3
    clear nf3
    replace hP := PP.ext hP xf6
    replace X := Fr.ext X xf6
    clear xf6
    refine cT (cw_seq (cS (cM rfl rfl ?_)))
    refine lw_does (does_call (by kernel_rfl) rfl (peek_c _ _ _ (by assumption)) (fun _ _ h => ⟨_, h.1⟩)) rfl ?_ (fun _ h => h)
    rintro _ wf10 ⟨⟨⟩, xf9⟩
    have zf11 := Ext.size xf9
    replace hf5 := Blk.ext hf5 xf9
    replace hP := PP.ext hP xf9
    replace X := Fr.ext X xf9
    clear xf9
    refine lw_pure (pur_field tabOk rfl rfl rfl rfl rfl rfl) rfl (cT (cw_block (cS (lw_pure (pur_seql rfl rfl) rfl (cA rfl rfl (cT ?_))))))
    refine cw_no rfl (by assumption) ?_
    refine cS (lw_pure (pur_seql rfl rfl) rfl (cA rfl rfl (cT ?_)))
    refine cw_no rfl (by assumption) ?_
    refine cS (lw_pure (pur_seql rfl rfl) rfl (cA rfl rfl (cT ?_)))
    refine cw_no rfl (by assumption) ?_
    refine cS (lw_pure (pur_seql rfl rfl) rfl (cA rfl rfl (cT ?_)))
    refine cw_no rfl (by assumption) ?_
    refine cS (lw_pure (pur_seql rfl rfl) rfl (cA rfl rfl (cT ?_)))
    refine cw_no rfl (by assumption) ?_
    refine cS (lw_pure (pur_seql rfl rfl) rfl (cA rfl rfl (cT ?_)))
    refine cw_no rfl (by assumption) ?_
    refine cS (lw_pure (pur_seql rfl rfl) rfl (cA rfl rfl (cT ?_)))
    refine cw_yes rfl (by assumption) ?_
    refine cS (cM rfl rfl ?_)
    refine lw_does (does_call (by kernel_rfl) rfl (callStmt_c c k 50 _ _ (by assumption) hin (by omega)) (fun _ _ h => h.ret)) rfl ?_ (fun _ h => h)
    rintro _ wf17 ⟨af12, ⟨kf13, ⟨⟨⟩, ⟨hf14, ⟨hf15, ff16⟩⟩⟩⟩⟩
    have zf18 := Fr.size ff16
    replace hf5 := Blk.fr hf5 ff16 (by omega)
    clear hP
    replace X := Fr.fr X ff16 (by omega)
    clear ff16
    (refine lw_store' [_, _, _, _] [_, _, _, _] tabOk rfl rfl rfl rfl rfl rfl hf5 rfl rfl ?_; intro wf19 nf20)
    have hf23 := Put.blk nf20
    have ff21 := Put.fr nf20
    have zf22 := Put.size nf20
    clear nf20 hf5
    replace hf14 := Nd.sits.fr hf14 ff21 (by omega)
    replace hf15 := PP.fr hf15 ff21 (by omega)
    replace X := Fr.fr X ff21 (by omega)
    clear ff21
    refine cT (cw_ret (qw_block_ret (qw_then_ret (qw_retc rfl tabOk rfl rfl rfl hf23 rfl ?_))))
    rotate_left 1
   exact tree_ret (Nd.sits.wide (by assumption) (fun b h => by omega)) (by assumption) X
 rw [if_neg e6]
 by_cases e7 : (peekP c.ts σ).text = [117, 110, 99, 97, 108, 108]
 · rw [if_pos e7]
   have hin := HIN.out _ e7 (by decide)
   refine calls_in Tryz.func44 Tryz.ntmps44 rfl rfl ?_
   focus
    refine cS ?_
    (refine lw_alloc' [_, _, _, _] zOk rfl rfl ?_; intro bg1 wg2 ng3)
    have hg5 := New.blk ng3
    have xg6 := New.ext ng3
    have pg7 := New.pos ng3
    have zg8 := New.size ng3
    clear ng3
    replace hP := PP.ext hP xg6
    replace X := Fr.ext X xg6
    clear xg6
    refine cT (cw_seq (cS (cM rfl rfl ?_)))
    refine lw_does (does_call (by kernel_rfl) rfl (peek_c _ _ _ (by assumption)) (fun _ _ h => ⟨_, h.1⟩)) rfl ?_ (fun _ h => h)
    rintro _ wg10 ⟨⟨⟩, xg9⟩
    have zg11 := Ext.size xg9
    replace hg5 := Blk.ext hg5 xg9
    replace hP := PP.ext hP xg9
    replace X := Fr.ext X xg9
    clear xg9
    refine lw_pure (pur_field tabOk rfl rfl rfl rfl rfl rfl) rfl (cT (cw_block (cS (lw_pure (pur_seql rfl rfl) rfl (cA rfl rfl (cT ?_))))))
    refine cw_no rfl (by assumption) ?_
    refine cS (lw_pure (pur_seql rfl rfl) rfl (cA rfl rfl (cT ?_)))
    refine cw_no rfl (by assumption) ?_
    refine cS (lw_pure (pur_seql rfl rfl) rfl (cA rfl rfl (cT ?_)))
    refine cw_no rfl (by assumption) ?_
    refine cS (lw_pure (pur_seql rfl rfl) rfl (cA rfl rfl (cT ?_)))
    refine cw_no rfl (by assumption) ?_
    refine cS (lw_pure (pur_seql rfl rfl) rfl (cA rfl rfl (cT ?_)))
    refine cw_no rfl (by assumption) ?_
    refine cS (lw_pure (pur_seql rfl rfl) rfl (cA rfl rfl (cT ?_)))
    refine cw_no rfl (by assumption) ?_
    refine cS (lw_pure (pur_seql rfl rfl) rfl (cA rfl rfl (cT ?_)))
    refine cw_no rfl (by assumption) ?_
    refine cS (lw_pure (pur_seql rfl rfl) rfl (cA rfl rfl (cT ?_)))
    refine cw_yes rfl (by assumption) ?_
    refine cS (cM rfl rfl ?_)
    refine lw_does (does_call (by kernel_rfl) rfl (callStmt_c c k 51 _ _ (by assumption) hin (by omega)) (fun _ _ h => h.ret)) rfl ?_ (fun _ h => h)
    rintro _ wg17 ⟨ag12, ⟨kg13, ⟨⟨⟩, ⟨hg14, ⟨hg15, fg16⟩⟩⟩⟩⟩
    have zg18 := Fr.size fg16
    replace hg5 := Blk.fr hg5 fg16 (by omega)
    clear hP
    replace X := Fr.fr X fg16 (by omega)
    clear fg16
    (refine lw_store' [_, _, _, _] [_, _, _, _] tabOk rfl rfl rfl rfl rfl rfl hg5 rfl rfl ?_; intro wg19 ng20)
    have hg23 := Put.blk ng20
    have fg21 := Put.fr ng20
    have zg22 := Put.size ng20
    clear ng20 hg5
    replace hg14 := Nd.sits.fr hg14 fg21 (by omega)
    replace hg15 := PP.fr hg15 fg21 (by omega)
    replace X := Fr.fr X fg21 (by omega)
    clear fg21
    refine cT (cw_ret (qw_block_ret (qw_then_ret (qw_retc rfl tabOk rfl rfl rfl hg23 rfl ?_))))
    rotate_left 1
   exact tree_ret (Nd.sits.wide (by assumption) (fun b h => by omega)) (by assumption) X
 rw [if_neg e7]
 by_cases e8 : (peekP c.ts σ).text = [105, 102]
 · rw [if_pos e8]
   have hin := HIN.out _ e8 (by decide)
   refine calls_in Tryz.func44 Tryz.ntmps44 rfl rfl ?_
   focus
    refine cS ?_
    (refine lw_alloc' [_, _, _, _] zOk rfl rfl ?_; intro bh1 wh2 nh3)
    have hh5 := New.blk nh3
    have xh6 := New.ext nh3
    have ph7 := New.pos nh3
    have zh8 := New.size nh3
    clear nh3
    replace hP := PP.ext hP xh6
    replace X := Fr.ext X xh6
    clear xh6
    refine cT (cw_seq (cS (cM rfl rfl ?_)))
    refine lw_does (does_call (by kernel_rfl) rfl (peek_c _ _ _ (by assumption)) (fun _ _ h => ⟨_, h.1⟩)) rfl ?_ (fun _ h => h)
    rintro _ wh10 ⟨⟨⟩, xh9⟩
    have zh11 := Ext.size xh9
    replace hh5 := Blk.ext hh5 xh9
    replace hP := PP.ext hP xh9
    replace X := Fr.ext X xh9
    clear xh9
    refine lw_pure (pur_field tabOk rfl rfl rfl rfl rfl rfl) rfl (cT (cw_block (cS (lw_pure (pur_seql rfl rfl) rfl (cA rfl rfl (cT ?_))))))
    refine cw_no rfl (by assumption) ?_
    refine cS (lw_pure (pur_seql rfl rfl) rfl (cA rfl rfl (cT ?_)))
    refine cw_no rfl (by assumption) ?_
    refine cS (lw_pure (pur_seql rfl rfl) rfl (cA rfl rfl (cT ?_)))
    refine cw_no rfl (by assumption) ?_
    refine cS (lw_pure (pur_seql rfl rfl) rfl (cA rfl rfl (cT ?_)))
    refine cw_no rfl (by assumption) ?_
    refine cS (lw_pure (pur_seql rfl rfl) rfl (cA rfl rfl (cT ?_)))
    refine cw_no rfl (by assumption) ?_
    refine cS (lw_pure (pur_seql rfl rfl) rfl (cA rfl rfl (cT ?_)))
    refine cw_no rfl (by assumption) ?_
    refine cS (lw_pure (pur_seql rfl rfl) rfl (cA rfl rfl (cT ?_)))
    refine cw_no rfl (by assumption) ?_
    refine cS (lw_pure (pur_seql rfl rfl) rfl (cA rfl rfl (cT ?_)))
    refine cw_no rfl (by assumption) ?_
    refine cS (lw_pure (pur_seql rfl rfl) rfl (cA rfl rfl (cT ?_)))
    refine cw_yes rfl (by assumption) ?_
    refine cS (cM rfl rfl ?_)
    refine lw_does (does_call (by kernel_rfl) rfl ((IH k (Nat.le_refl _)).branches 52 _ _ _ _ (by assumption) hin (by decide) (by decide) (by omega)) (fun _ _ h => h.ret)) rfl ?_ (fun _ h => h)
    rintro _ wh17 ⟨ah12, ⟨kh13, ⟨⟨⟩, ⟨hh14, ⟨hh15, fh16⟩⟩⟩⟩⟩
    have zh18 := Fr.size fh16
    replace hh5 := Blk.fr hh5 fh16 (by omega)
    clear hP
    replace X := Fr.fr X fh16 (by omega)
    clear fh16
    (refine lw_store' [_, _, _, _] [_, _, _, _] tabOk rfl rfl rfl rfl rfl rfl hh5 rfl rfl ?_; intro wh19 nh20)
    have hh23 := Put.blk nh20
    have fh21 := Put.fr nh20
    have zh22 := Put.size nh20
    clear nh20 hh5
    replace hh14 := Nd.sits.fr hh14 fh21 (by omega)
    replace hh15 := PP.fr hh15 fh21 (by omega)
    replace X := Fr.fr X fh21 (by omega)
    clear fh21
    refine cT (cw_ret (qw_block_ret (qw_then_ret (qw_retc rfl tabOk rfl rfl rfl hh23 rfl ?_))))
    rotate_left 1
   exact tree_ret (Nd.sits.wide (by assumption) (fun b h => by omega)) (by assumption) X
 rw [if_neg e8]
 by_cases e9 : (peekP c.ts σ).text = [102, 114, 111, 109]
 · rw [if_pos e9]
   have hin := HIN.out _ e9 (by decide)
   refine calls_in Tryz.func44 Tryz.ntmps44 rfl rfl ?_
   focus
    refine cS ?_
    (refine lw_alloc' [_, _, _, _] zOk rfl rfl ?_; intro bi1 wi2 ni3)
    have hi5 := New.blk ni3
    have xi6 := New.ext ni3
    have pi7 := New.pos ni3
    have zi8 := New.size ni3
    clear ni3
    replace hP := PP.ext hP xi6
    replace X := Fr.ext X xi6
    clear xi6
    refine cT (cw_seq (cS (cM rfl rfl ?_)))
    refine lw_does (does_call (by kernel_rfl) rfl (peek_c _ _ _ (by assumption)) (fun _ _ h => ⟨_, h.1⟩)) rfl ?_ (fun _ h => h)
    rintro _ wi10 ⟨⟨⟩, xi9⟩
    have zi11 := Ext.size xi9
    replace hi5 := Blk.ext hi5 xi9
    replace hP := PP.ext hP xi9
    replace X := Fr.ext X xi9
    clear xi9
    refine lw_pure (pur_field tabOk rfl rfl rfl rfl rfl rfl) rfl (cT (cw_block (cS (lw_pure (pur_seql rfl rfl) rfl (cA rfl rfl (cT ?_))))))
    refine cw_no rfl (by assumption) ?_
    refine cS (lw_pure (pur_seql rfl rfl) rfl (cA rfl rfl (cT ?_)))
    refine cw_no rfl (by assumption) ?_
    refine cS (lw_pure (pur_seql rfl rfl) rfl (cA rfl rfl (cT ?_)))
    refine cw_no rfl (by assumption) ?_
    refine cS (lw_pure (pur_seql rfl rfl) rfl (cA rfl rfl (cT ?_)))
    refine cw_no rfl (by assumption) ?_
    refine cS (lw_pure (pur_seql rfl rfl) rfl (cA rfl rfl (cT ?_)))
    refine cw_no rfl (by assumption) ?_
    refine cS (lw_pure (pur_seql rfl rfl) rfl (cA rfl rfl (cT ?_)))
    refine cw_no rfl (by assumption) ?_
    refine cS (lw_pure (pur_seql rfl rfl) rfl (cA rfl rfl (cT ?_)))
    refine cw_no rfl (by assumption) ?_
    refine cS (lw_pure (pur_seql rfl rfl) rfl (cA rfl rfl (cT ?_)))
    refine cw_no rfl (by assumption) ?_
    refine cS (lw_pure (pur_seql rfl rfl) rfl (cA rfl rfl (cT ?_)))
    refine cw_no rfl (by assumption) ?_
    refine cS (lw_pure (pur_seql rfl rfl) rfl (cA rfl rfl (cT ?_)))
    refine cw_yes rfl (by assumption) ?_
    refine cS (cM rfl rfl ?_)
    refine lw_does (does_call (by kernel_rfl) rfl ((IH k (Nat.le_refl _)).branches 53 _ _ _ _ (by assumption) hin (by decide) (by decide) (by omega)) (fun _ _ h => h.ret)) rfl ?_ (fun _ h => h)
    rintro _ wi17 ⟨ai12, ⟨ki13, ⟨⟨⟩, ⟨hi14, ⟨hi15, fi16⟩⟩⟩⟩⟩
    have zi18 := Fr.size fi16
    replace hi5 := Blk.fr hi5 fi16 (by omega)
    clear hP
    replace X := Fr.fr X fi16 (by omega)
    clear fi16
    (refine lw_store' [_, _, _, _] [_, _, _, _] tabOk rfl rfl rfl rfl rfl rfl hi5 rfl rfl ?_; intro wi19 ni20)
    have hi23 := Put.blk ni20
    have fi21 := Put.fr ni20
    have zi22 := Put.size ni20
    clear ni20 hi5
    replace hi14 := Nd.sits.fr hi14 fi21 (by omega)
    replace hi15 := PP.fr hi15 fi21 (by omega)
    replace X := Fr.fr X fi21 (by omega)
    clear fi21
    refine cT (cw_ret (qw_block_ret (qw_then_ret (qw_retc rfl tabOk rfl rfl rfl hi23 rfl ?_))))
    rotate_left 1
   exact tree_ret (Nd.sits.wide (by assumption) (fun b h => by omega)) (by assumption) X
 rw [if_neg e9]
 by_cases e10 : (peekP c.ts σ).text = [108, 111, 99, 97, 108]
 · rw [if_pos e10]
   have hin := HIN.out _ e10 (by decide)
   refine calls_in Tryz.func44 Tryz.ntmps44 rfl rfl ?_
   focus
    refine cS ?_
    (refine lw_alloc' [_, _, _, _] zOk rfl rfl ?_; intro bj1 wj2 nj3)
    have hj5 := New.blk nj3
    have xj6 := New.ext nj3
    have pj7 := New.pos nj3
    have zj8 := New.size nj3
    clear nj3
    replace hP := PP.ext hP xj6
    replace X := Fr.ext X xj6
    clear xj6
    refine cT (cw_seq (cS (cM rfl rfl ?_)))
    refine lw_does (does_call (by kernel_rfl) rfl (peek_c _ _ _ (by assumption)) (fun _ _ h => ⟨_, h.1⟩)) rfl ?_ (fun _ h => h)
    rintro _ wj10 ⟨⟨⟩, xj9⟩
    have zj11 := Ext.size xj9
    replace hj5 := Blk.ext hj5 xj9
    replace hP := PP.ext hP xj9
    replace X := Fr.ext X xj9
    clear xj9
    refine lw_pure (pur_field tabOk rfl rfl rfl rfl rfl rfl) rfl (cT (cw_block (cS (lw_pure (pur_seql rfl rfl) rfl (cA rfl rfl (cT ?_))))))
    refine cw_no rfl (by assumption) ?_
    refine cS (lw_pure (pur_seql rfl rfl) rfl (cA rfl rfl (cT ?_)))
    refine cw_no rfl (by assumption) ?_
    refine cS (lw_pure (pur_seql rfl rfl) rfl (cA rfl rfl (cT ?_)))
    refine cw_no rfl (by assumption) ?_
    refine cS (lw_pure (pur_seql rfl rfl) rfl (cA rfl rfl (cT ?_)))
    refine cw_no rfl (by assumption) ?_
    refine cS (lw_pure (pur_seql rfl rfl) rfl (cA rfl rfl (cT ?_)))
    refine cw_no rfl (by assumption) ?_
    refine cS (lw_pure (pur_seql rfl rfl) rfl (cA rfl rfl (cT ?_)))
    refine cw_no rfl (by assumption) ?_
    refine cS (lw_pure (pur_seql rfl rfl) rfl (cA rfl rfl (cT ?_)))
    refine cw_no rfl (by assumption) ?_
    refine cS (lw_pure (pur_seql rfl rfl) rfl (cA rfl rfl (cT ?_)))
    refine cw_no rfl (by assumption) ?_
    refine cS (lw_pure (pur_seql rfl rfl) rfl (cA rfl rfl (cT ?_)))
    refine cw_no rfl (by assumption) ?_
    refine cS (lw_pure (pur_seql rfl rfl) rfl (cA rfl rfl (cT ?_)))
    refine cw_no rfl (by assumption) ?_
    refine cS (lw_pure (pur_seql rfl rfl) rfl (cA rfl rfl (cT ?_)))
    refine cw_yes rfl (by assumption) ?_
    refine cS (cM rfl rfl ?_)
    refine lw_does (does_call (by kernel_rfl) rfl ((IH k (Nat.le_refl _)).local_ _ _ (by assumption) hin (by omega)) (fun _ _ h => h.ret)) rfl ?_ (fun _ h => h)
    rintro _ wj17 ⟨aj12, ⟨kj13, ⟨⟨⟩, ⟨hj14, ⟨hj15, fj16⟩⟩⟩⟩⟩
    have zj18 := Fr.size fj16
    replace hj5 := Blk.fr hj5 fj16 (by omega)
    clear hP
    replace X := Fr.fr X fj16 (by omega)
    clear fj16
    (refine lw_store' [_, _, _, _] [_, _, _, _] tabOk rfl rfl rfl rfl rfl rfl hj5 rfl rfl ?_; intro wj19 nj20)
    have hj23 := Put.blk nj20
    have fj21 := Put.fr nj20
    have zj22 := Put.size nj20
    clear nj20 hj5
    replace hj14 := Nd.sits.fr hj14 fj21 (by omega)
    replace hj15 := PP.fr hj15 fj21 (by omega)
    replace X := Fr.fr X fj21 (by omega)
    clear fj21
    refine cT (cw_ret (qw_block_ret (qw_then_ret (qw_retc rfl tabOk rfl rfl rfl hj23 rfl ?_))))
    rotate_left 1
   exact tree_ret (Nd.sits.wide (by assumption) (fun b h => by omega)) (by assumption) X
 rw [if_neg e10]
 refine calls_in Tryz.func44 Tryz.ntmps44 rfl rfl ?_
 focus
  refine cS ?_
  (refine lw_alloc' [_, _, _, _] zOk rfl rfl ?_; intro bk1 wk2 nk3)
  have hk5 := New.blk nk3
  have xk6 := New.ext nk3
  have pk7 := New.pos nk3
  have zk8 := New.size nk3
  clear nk3
  replace hP := PP.ext hP xk6
  replace X := Fr.ext X xk6
  clear xk6
  refine cT (cw_seq (cS (cM rfl rfl ?_)))
  refine lw_does (does_call (by kernel_rfl) rfl (peek_c _ _ _ (by assumption)) (fun _ _ h => ⟨_, h.1⟩)) rfl ?_ (fun _ h => h)
  rintro _ wk10 ⟨⟨⟩, xk9⟩
  have zk11 := Ext.size xk9
  replace hk5 := Blk.ext hk5 xk9
  replace hP := PP.ext hP xk9
  replace X := Fr.ext X xk9
  clear xk9
  refine lw_pure (pur_field tabOk rfl rfl rfl rfl rfl rfl) rfl (cT (cw_block (cS (lw_pure (pur_seql rfl rfl) rfl (cA rfl rfl (cT ?_))))))
  refine cw_no rfl (by assumption) ?_
  refine cS (lw_pure (pur_seql rfl rfl) rfl (cA rfl rfl (cT ?_)))
  refine cw_no rfl (by assumption) ?_
  refine cS (lw_pure (pur_seql rfl rfl) rfl (cA rfl rfl (cT ?_)))
  refine cw_no rfl (by assumption) ?_
  refine cS (lw_pure (pur_seql rfl rfl) rfl (cA rfl rfl (cT ?_)))
  refine cw_no rfl (by assumption) ?_
  refine cS (lw_pure (pur_seql rfl rfl) rfl (cA rfl rfl (cT ?_)))
  refine cw_no rfl (by assumption) ?_
  refine cS (lw_pure (pur_seql rfl rfl) rfl (cA rfl rfl (cT ?_)))
  refine cw_no rfl (by assumption) ?_
  refine cS (lw_pure (pur_seql rfl rfl) rfl (cA rfl rfl (cT ?_)))
  refine cw_no rfl (by assumption) ?_
  refine cS (lw_pure (pur_seql rfl rfl) rfl (cA rfl rfl (cT ?_)))
  refine cw_no rfl (by assumption) ?_
  refine cS (lw_pure (pur_seql rfl rfl) rfl (cA rfl rfl (cT ?_)))
  refine cw_no rfl (by assumption) ?_
  refine cS (lw_pure (pur_seql rfl rfl) rfl (cA rfl rfl (cT ?_)))
  refine cw_no rfl (by assumption) ?_
  refine cS (lw_pure (pur_seql rfl rfl) rfl (cA rfl rfl (cT ?_)))
  refine cw_no rfl (by assumption) ?_
  refine cw_skip (qw_block_norm (qw_then (cS (cM rfl rfl ?_))))
  refine lw_does (does_call (by kernel_rfl) rfl (update_c c k _ _ (by assumption) (by omega)) (fun _ _ h => h.ret)) rfl ?_ (fun _ h => h)
  rintro _ wk17 ⟨ak12, ⟨kk13, ⟨⟨⟩, ⟨hk14, ⟨hk15, fk16⟩⟩⟩⟩⟩
  have zk18 := Fr.size fk16
  replace hk5 := Blk.fr hk5 fk16 (by omega)
  clear hP
  replace X := Fr.fr X fk16 (by omega)
  clear fk16
  (refine lw_store' [_, _, _, _] [_, _, _, _] tabOk rfl rfl rfl rfl rfl rfl hk5 rfl rfl ?_; intro wk19 nk20)
  have hk23 := Put.blk nk20
  have fk21 := Put.fr nk20
  have zk22 := Put.size nk20
  clear nk20 hk5
  replace hk14 := Nd.sits.fr hk14 fk21 (by omega)
  replace hk15 := PP.fr hk15 fk21 (by omega)
  replace X := Fr.fr X fk21 (by omega)
  clear fk21
  refine cT (cw_ret (qw_retc rfl tabOk rfl rfl rfl hk23 rfl ?_))
  rotate_left 1
 exact tree_ret (Nd.sits.wide (by assumption) (fun b h => by omega)) (by assumption) X
end Bk
namespace Bk
open Go Go.RowKit Go.Proofs
attribute [local irreducible] Go.Calls
theorem mS_drop {ts : List Tok} {σ σ' : PS} (h : Le ts σ σ') (k : Lt σ σ') (e : σ'.err = 0) : mS ts σ' + 1 ≤ mS ts σ := by
 have h1 := h.ok e
 have h2 := k e
 have h3 := h.wf
 unfold mS
 rw [if_pos e, if_pos h1]
 omega
set_option maxRecDepth 100000 in
set_option maxHeartbeats 2000000 in
theorem block_w (c : PC) (k : Nat) (IH : ∀ j, j ≤ k → StmtsC c j) (σ : PS) (w : World) (hP : PP c σ w) (hk : 4 * mS c.ts σ + 8 ≤ k + 1) :
 Calls Tryz.prog 108 #[.pointer (some ⟨c.pb, 0, none⟩)] w (TreeR c w (blockP c.ts c.n (k + 1) σ)) := by
 have X := Fr.refl (· = c.pb) w
 have hpb := hP.pbB
 have hB := hP.B
 have hlen := hP.len
 rw [blockP]
 (try dsimp only)
 have l1 := expect_le (n := c.n) (t := [123]) hP.at_ (by decide)
 have m1 := mS_le l1
 have hmt : mS c.ts σ ≤ c.ts.length := by unfold mS; split <;> omega
 clear l1
 refine calls_in Tryz.func108 Tryz.ntmps108 rfl rfl ?_
 focus
  refine cS ?_
  (refine lw_alloc' [_, _, _, _] zOk rfl rfl ?_; intro b1 w2 n3)
  have h5 := New.blk n3
  have x6 := New.ext n3
  have p7 := New.pos n3
  have z8 := New.size n3
  clear n3
  replace hP := PP.ext hP x6
  replace X := Fr.ext X x6
  clear x6
  refine cN (lw_pure (pur_build' [_, _, _, _] tabOk zOk rfl rfl rfl rfl) rfl ?_)
  (refine lw_alloc' [_, _, _, _] zOk rfl rfl ?_; intro b9 w10 n11)
  (refine lw_init' [_, _, _, _] tabOk rfl rfl rfl rfl rfl rfl n11 rfl ?_; clear n11; clear w10; intro w12 n11)
  have h13 := New.blk n11
  have x14 := New.ext n11
  have p15 := New.pos n11
  have z16 := New.size n11
  clear n11
  replace h5 := Blk.ext h5 x14
  replace hP := PP.ext hP x14
  replace X := Fr.ext X x14
  clear x14
  refine cN (cM rfl rfl ?_)
  refine lw_does (does_call (by kernel_rfl) rfl (expect_c _ _ _ _ (by assumption) (by decide)) (fun _ _ h => ⟨_, h.1⟩)) rfl ?_ (fun _ h => h)
  rintro _ w19 ⟨⟨⟩, ⟨h17, f18⟩⟩
  have z20 := Fr.size f18
  replace h13 := Blk.fr h13 f18 (by omega)
  replace h5 := Blk.fr h5 f18 (by omega)
  clear hP
  replace X := Fr.fr X f18 (by omega)
  clear f18
  refine cT (cw_seq (cw_block ?_))
  rotate_left 1
 generalize expectP c.ts c.n σ [123] = ρ at *
 refine cw_loop (ι := Nat × List Nd × Option Addr × Nat × PS) (fun _ => [(0, .pointer (some ⟨c.pb, 0, none⟩)), (2, .pointer (some ⟨b1, 0, none⟩)), (3, .pointer (some ⟨b9, 0, none⟩))])
  (fun x w' => PP c x.2.2.2.2 w' ∧ Blk w' b9 [.int .u8 57, .int .i64 0, str [], .slice x.2.2.1 x.2.1.length x.2.2.2.1] ∧ OwnL ndShape w' (b9 + 1) 27 (.slice x.2.2.1 x.2.1.length x.2.2.2.1) x.2.1 ∧
   Blk w' b1 [.int .u8 0, .int .i64 0, .string ⟨#[]⟩, .slice none 0 0] ∧ Fr (· = c.pb) w w' ∧ w19.heap.size ≤ w'.heap.size ∧
   stmtsP c.ts c.n k [] ρ = stmtsP c.ts c.n x.1 x.2.1 x.2.2.2.2 ∧ (x.2.2.2.2.err = 0 → 4 * mS c.ts x.2.2.2.2 + 7 ≤ x.1) ∧ 1 ≤ x.1 ∧ x.1 ≤ k ∧ (x.2.2.2.2.err = 0 → x.2.1.length + mS c.ts x.2.2.2.2 ≤ 1000001)) (fun x => x.1) (k, [], none, 0, ρ) (by (refine sub_cons rfl ?_; refine sub_cons rfl ?_; refine sub_cons rfl ?_; exact sub_nil))
  ⟨h17, h13, OwnL.nil, h5, X, Nat.le_refl _, rfl, fun _ => by simp only; omega, by simp only; omega, Nat.le_refl _, fun _ => by simp only [List.length_nil]; omega⟩ ?_
 rintro ⟨j, acc, a, cap, σ'⟩ w1 ⟨hP, hbn, hown, hbr, X, hz, he, hfj, hj1, hjk, hacc⟩
 simp only at hP hbn hown he hfj hj1 hjk hacc
 clear h13 h5 h17
 rw [he]
 obtain ⟨j, rfl⟩ : ∃ i, j = i + 1 := ⟨j - 1, by omega⟩
 have hob : ∀ g, (Value.slice a acc.length cap).ownBlock = some g → g < w1.heap.size := fun g h => hown.lt h
 by_cases h0 : σ'.err = 0
 case neg =>
  rw [show stmtsP c.ts c.n (j + 1) acc σ' = (acc, σ') from by rw [stmtsP]; simp [h0]]
  focus
   refine cw_seq (cS (cM rfl rfl (lw_pure (pur_nilCheck rfl) rfl (lw_pure (pur_fieldAddr tabOk rfl rfl rfl) rfl (lw_load_b tabOk rfl rfl rfl (PP.blk hP) rfl rfl (lw_pure (pur_eql rfl rfl) rfl (cM rfl rfl ?_)))))))
   refine lw_off rfl rfl rfl (gd_tf (by assumption)) rfl ?_
   refine lw_off rfl rfl rfl (gd_tf (by assumption)) rfl ?_
   refine lw_off rfl rfl rfl (gd_tf (by assumption)) rfl ?_
   refine lw_pure (pur_pick_no rfl rfl (by assumption)) rfl ?_
   refine cT (cw_cond_f rfl (cw_exit (qw_then_exit (qw_then_exit (qw_block_exit (qw_then (cS (lw_loads_b' [_, _, _, _] tabOk rfl rfl rfl hbn rfl rfl rfl ?_))))))))
   (refine lw_store' [_, _, _, _] [_, _, _, _] tabOk rfl rfl rfl rfl rfl rfl hbr rfl rfl ?_; intro wa1 na2)
   have ha5 := Put.blk na2
   have fa3 := Put.fr na2
   have za4 := Put.size na2
   clear na2 hbr
   replace hP := PP.fr hP fa3 (by omega)
   replace hbn := Blk.fr hbn fa3 (by omega)
   replace hown := OwnL.fr hown fa3 (by omega)
   replace X := Fr.fr X fa3 (by omega)
   clear fa3
   refine cT (cw_ret (qw_retc rfl tabOk rfl rfl rfl ha5 rfl ?_))
   rotate_left 1
  exact tree_ret (sits_mk (hown.sits (fun b h => by omega))) (by assumption) X
 cases hc : hasP c.ts σ' [125]
 case true =>
  rw [show stmtsP c.ts c.n (j + 1) acc σ' = (acc, nextP σ') from by rw [stmtsP]; simp [h0, hc]]
  focus
   refine cw_seq (cS (cM rfl rfl (lw_pure (pur_nilCheck rfl) rfl (lw_pure (pur_fieldAddr tabOk rfl rfl rfl) rfl (lw_load_b tabOk rfl rfl rfl (PP.blk hP) rfl rfl (lw_pure (pur_eql rfl rfl) rfl (cM rfl rfl ?_)))))))
   refine lw_on rfl rfl rfl (gd_tt (by assumption)) ?_
   refine cM rfl rfl ?_
   refine lw_on rfl rfl rfl (gd_tt (by assumption)) ?_
   refine lw_does (does_call (by kernel_rfl) rfl (accept_t _ _ _ _ (by assumption) (by decide) (by assumption)) (fun _ _ h => ⟨_, h.1⟩)) rfl ?_ (fun _ h => h)
   rintro _ wb3 ⟨⟨⟩, ⟨hb1, fb2⟩⟩
   have zb4 := Fr.size fb2
   clear hP
   replace hbn := Blk.fr hbn fb2 (by omega)
   replace hown := OwnL.fr hown fb2 (by omega)
   replace hbr := Blk.fr hbr fb2 (by omega)
   replace X := Fr.fr X fb2 (by omega)
   clear fb2
   refine lw_on rfl rfl rfl (gd_tt (by assumption)) ?_
   refine lw_pure (pur_not rfl) rfl ?_
   refine lw_pure (pur_pick_yes rfl rfl (by assumption)) rfl ?_
   refine cT (cw_cond_f rfl (cw_exit (qw_then_exit (qw_then_exit (qw_block_exit (qw_then (cS (lw_loads_b' [_, _, _, _] tabOk rfl rfl rfl hbn rfl rfl rfl ?_))))))))
   (refine lw_store' [_, _, _, _] [_, _, _, _] tabOk rfl rfl rfl rfl rfl rfl hbr rfl rfl ?_; intro wb5 nb6)
   have hb9 := Put.blk nb6
   have fb7 := Put.fr nb6
   have zb8 := Put.size nb6
   clear nb6 hbr
   replace hb1 := PP.fr hb1 fb7 (by omega)
   replace hbn := Blk.fr hbn fb7 (by omega)
   replace hown := OwnL.fr hown fb7 (by omega)
   replace X := Fr.fr X fb7 (by omega)
   clear fb7
   refine cT (cw_ret (qw_retc rfl tabOk rfl rfl rfl hb9 rfl ?_))
   rotate_left 1
  exact tree_ret (sits_mk (hown.sits (fun b h => by omega))) (by assumption) X
 rw [show stmtsP c.ts c.n (j + 1) acc σ' = stmtsP c.ts c.n j (acc ++ [(stmtP c.ts c.n j σ').1]) (expectP c.ts c.n (stmtP c.ts c.n j σ').2 [59]) from by rw [stmtsP]; simp [h0, hc]]
 have l1 := (stmt_inv (ts := c.ts) (n := c.n) j).1 σ' hP.at_
 have l2 := expect_le (n := c.n) (t := [59]) l1.wf (by decide)
 have hlt : Lt σ' (expectP c.ts c.n (stmtP c.ts c.n j σ').2 [59]) := Lt.of_le l1 expect_lt
 have hdrop := mS_drop (l1.trans l2) hlt
 have hmv := mS_lt (l1.trans l2) hlt
 have hacc0 := hacc h0
 have hfj0 := hfj h0
 clear l1 l2
 focus
  refine cw_seq (cS (cM rfl rfl (lw_pure (pur_nilCheck rfl) rfl (lw_pure (pur_fieldAddr tabOk rfl rfl rfl) rfl (lw_load_b tabOk rfl rfl rfl (PP.blk hP) rfl rfl (lw_pure (pur_eql rfl rfl) rfl (cM rfl rfl ?_)))))))
  refine lw_on rfl rfl rfl (gd_tt (by assumption)) ?_
  refine cM rfl rfl ?_
  refine lw_on rfl rfl rfl (gd_tt (by assumption)) ?_
  refine lw_does (does_call (by kernel_rfl) rfl (accept_f _ _ _ _ (by assumption) (by decide) (by assumption)) (fun _ _ h => ⟨_, h.1⟩)) rfl ?_ (fun _ h => h)
  rintro _ wc3 ⟨⟨⟩, ⟨hc1, fc2⟩⟩
  have zc4 := Fr.size fc2
  clear hP
  replace hbn := Blk.fr hbn fc2 (by omega)
  replace hown := OwnL.fr hown fc2 (by omega)
  replace hbr := Blk.fr hbr fc2 (by omega)
  replace X := Fr.fr X fc2 (by omega)
  clear fc2
  refine lw_on rfl rfl rfl (gd_tt (by assumption)) ?_
  refine lw_pure (pur_not rfl) rfl ?_
  refine lw_pure (pur_pick_yes rfl rfl (by assumption)) rfl ?_
  refine cT (cw_cond_t rfl (cw_skip (qw_then (cw_block (cw_seq ?_)))))
  (refine cw_tdraw (fun wz => Fr (· = c.pb) wc3 wz) 5 (.pure 0 (.pure 1 (.pure 2 (.fork 3 (.fork 4 .tail .none) .none)))) mixed (by kernel_rfl) (panicOk_then (panicOk_block (panicOk_then (panicOk_block (panicOk_then panicOk_body))))) ?_; intro wc5 xc6 _)
  have qsc7 : (fun wz => Fr (· = c.pb) wc3 wz) wc5 := Fr.of_ext xc6
  simp only at qsc7
  have d_hc1 := hc1
  have d_hbn := hbn
  have d_hown := hown
  have d_hbr := hbr
  have zc8 := Ext.size xc6
  replace hc1 := PP.ext hc1 xc6
  replace hbn := Blk.ext hbn xc6
  replace hown := OwnL.ext hown xc6
  replace hbr := Blk.ext hbr xc6
  replace X := Fr.ext X xc6
  clear xc6
  refine ⟨qsc7, ?_⟩
  refine tw_pure rfl (pur_fieldAddr tabOk rfl rfl rfl) rfl ?_
  refine tw_pure rfl (pur_load tabOk rfl rfl rfl (fun wz hz => Blk.cell (Blk.fr d_hbn hz (by omega)) rfl)) rfl ?_
  refine tw_pure rfl (pur_move rfl) rfl ?_
  refine tw_does rfl (does_call (by kernel_rfl) rfl ((IH j (by omega)).stmt _ _ (by assumption) (by omega)) (fun _ _ h => h.ret)) rfl ?_ (fun _ h => h) tw_none
  rintro _ wc14 ⟨ac9, ⟨kc10, ⟨⟨⟩, ⟨hc11, ⟨hc12, fc13⟩⟩⟩⟩⟩
  have zc15 := Fr.size fc13
  replace qsc7 := Fr.fr qsc7 fc13 (by omega)
  clear hc1
  replace hbn := Blk.fr hbn fc13 (by omega)
  replace hown := OwnL.fr hown fc13 (by omega)
  replace hbr := Blk.fr hbr fc13 (by omega)
  replace X := Fr.fr X fc13 (by omega)
  clear fc13
  refine ⟨qsc7, ?_⟩
  (refine tw_does rfl (does_slice' [_, _, _, _] tabOk zOk rfl rfl rfl rfl rfl rfl rfl rfl rfl) rfl ?_ (fun _ h => h) tw_none; rintro _ wc17 ⟨bc16, rfl, nc18, tc19⟩)
  clear tc19
  have hc20 := New.blk nc18
  have xc21 := New.ext nc18
  have pc22 := New.pos nc18
  have zc23 := New.size nc18
  clear nc18
  replace hc11 := Nd.sits.ext hc11 xc21
  replace hc12 := PP.ext hc12 xc21
  replace qsc7 := Fr.ext qsc7 xc21
  replace hbn := Blk.ext hbn xc21
  replace hown := OwnL.ext hown xc21
  replace hbr := Blk.ext hbr xc21
  replace X := Fr.ext X xc21
  clear xc21
  refine ⟨qsc7, ?_⟩
  clear d_hc1 d_hbn d_hown d_hbr qsc7
  refine tw_tail rfl ?_
  refine lw_appendL (sh := ndShape) tabOk zOk rfl rfl rfl rfl (by kernel_rfl) rfl rfl rfl hown (Blk.row (by assumption)) ⟨_, _, rfl, Nd.sits.wide (by assumption) (fun b h => ⟨by omega, fun e => by have := hob _ e; omega⟩)⟩ (by omega) (by omega) rfl ?_
  rintro gc24 cap'c25 wc26 hc27 fc28
  have zc29 := Fr.size fc28
  clear hc20 hc11
  replace hc12 := PP.fr hc12 fc28 (by omega)
  replace hbn := Blk.fr hbn fc28 (by omega)
  clear hown
  replace hbr := Blk.fr hbr fc28 (by omega)
  replace X := Fr.fr X fc28 (by omega)
  clear fc28
  refine lw_pure (pur_fieldAddr tabOk rfl rfl rfl) rfl ?_
  (refine lw_store' [_] [_, _, _, _] tabOk rfl rfl rfl rfl rfl rfl hbn rfl rfl ?_; intro wc30 nc31)
  have hc34 := Put.blk nc31
  have fc32 := Put.fr nc31
  have zc33 := Put.size nc31
  clear nc31 hbn
  replace hc27 := OwnL.fr hc27 fc32 (by omega)
  replace hc12 := PP.fr hc12 fc32 (by omega)
  replace hbr := Blk.fr hbr fc32 (by omega)
  replace X := Fr.fr X fc32 (by omega)
  clear fc32
  refine cT (cw_region (cM rfl rfl ?_))
  refine lw_does (does_call (by kernel_rfl) rfl (expect_c _ _ _ _ (by assumption) (by decide)) (fun _ _ h => ⟨_, h.1⟩)) rfl ?_ (fun _ h => h)
  rintro _ wc37 ⟨⟨⟩, ⟨hc35, fc36⟩⟩
  have zc38 := Fr.size fc36
  replace hc34 := Blk.fr hc34 fc36 (by omega)
  replace hc27 := OwnL.fr hc27 fc36 (by omega)
  clear hc12
  replace hbr := Blk.fr hbr fc36 (by omega)
  replace X := Fr.fr X fc36 (by omega)
  clear fc36
  refine lw_nil (qw_block_norm ?_)
  rotate_left 1
 refine qw_round (j, acc ++ [(stmtP c.ts c.n j σ').1], some ⟨_, 0, none⟩, _, expectP c.ts c.n (stmtP c.ts c.n j σ').2 [59]) (by (refine sub_cons rfl ?_; refine sub_cons rfl ?_; refine sub_cons rfl ?_; exact sub_nil)) ⟨by assumption, by assumption, by assumption, by assumption, X, by omega, rfl, fun e => by have := hdrop e; simp only; omega, by simp only; omega, by simp only; omega, fun e => ?_⟩ (by simp)
 have := hdrop e
 simp only [List.length_append, List.length_cons, List.length_nil]
 omega
theorem stmts_c (c : PC) (k : Nat) : StmtsC c k := by
 induction k using Nat.strongRecOn with
 | _ k ih =>
  cases k with
  | zero => exact ⟨fun _ _ _ h => by omega, fun _ _ _ _ _ _ _ _ _ h => by omega, fun _ _ _ _ h => by omega, fun _ _ _ h => by omega⟩
  | succ k =>
   have IH : ∀ j, j ≤ k → StmtsC c j := fun j hj => ih j (by omega)
   exact ⟨stmt_w c k IH, branches_w c k IH, local_w c k IH, block_w c k IH⟩
end Bk
namespace Bk
open Go Go.RowKit Go.Proofs
attribute [local irreducible] Go.Calls
theorem rowDepth_snoc (l : List Nd) (x : Nd) : rowDepth (l ++ [x]) = max (rowDepth l) x.depth := by
 induction l with
 | nil => simp only [List.nil_append, rowDepth]; omega
 | cons y r ih => simp only [List.cons_append, rowDepth, ih]; omega
mutual
theorem depth_le : ∀ t : Nd, 1 ≤ t.depth ∧ t.depth ≤ t.size
 | .mk _ _ _ l => by
  have := rowDepth_le l
  simp only [Nd.depth, Nd.size]; omega
theorem rowDepth_le : ∀ l : List Nd, 0 ≤ rowDepth l ∧ rowDepth l ≤ rowSize l
 | [] => by simp [rowDepth, rowSize]
 | t :: r => by
  have h1 := depth_le t
  have h2 := rowDepth_le r
  simp only [rowDepth, rowSize]; omega
end
theorem rowSize_snoc (l : List Nd) (x : Nd) : rowSize (l ++ [x]) = rowSize l + x.size := by
 induction l with
 | nil => simp [rowSize]
 | cons y r ih => simp only [List.cons_append, rowSize, ih]; omega
theorem rowSize_take (l : List Nd) (j : Nat) : rowSize (l.take j) ≤ rowSize l := by
 induction l generalizing j with
 | nil => simp
 | cons x r ih =>
  cases j with
  | zero => simp [rowSize]
  | succ j => simp only [List.take_succ_cons, rowSize]; have := ih j; omega
theorem length_rowSize (l : List Nd) : l.length ≤ rowSize l := by
 induction l with
 | nil => simp [rowSize]
 | cons x r ih => have := Nd.size_pos x; simp only [rowSize, List.length_cons]; omega
set_option maxRecDepth 100000 in
set_option maxHeartbeats 1000000 in
theorem Depth_c (N : Nat) : ∀ (t : Nd) (S : Nat → Prop) (a : Option Addr) (c : Nat) (w : World), t.size < N → t.size ≤ 1000000000 → t.sits S w a →
 Calls Tryz.prog 114 #[t.val a c] w fun e w' => e = .returned (.int .i64 t.depth) ∧ Ext w w' := by
 induction N with
 | zero => intro t S a c w h; omega
 | succ N ih =>
  rintro ⟨k, n, s, l⟩ S a c w hN hM hs
  have IH := Lib.hid ih; clear ih
  simp only [Nd.sits] at hs
  simp only [Nd.size] at hN hM
  have X := Ext.refl w
  have hl := length_rowSize l
  rw [show (Nd.mk k n s l).depth = rowDepth l + 1 from by simp only [Nd.depth]]
  refine calls_in Tryz.func114 Tryz.ntmps114 rfl rfl ?_
  focus
   refine cS ?_
   (refine lw_box' [_, _, _, _] rfl rfl rfl ?_; intro b1 w2 n3)
   have h4 := New.blk n3
   have x5 := New.ext n3
   have p6 := New.pos n3
   have z7 := New.size n3
   clear n3
   replace hs := Bk.rowSits.ext hs x5
   replace X := Ext.ext X x5
   clear x5
   refine cA rfl rfl (cN (cA rfl rfl (cT (cw_seq (cS (lw_pure (pur_fieldAddr tabOk rfl rfl rfl) rfl (lw_load_b tabOk rfl rfl rfl h4 rfl rfl (lw_pure (pur_len_slice tabOk rfl rfl) rfl (cM rfl rfl (cT (cw_block ?_)))))))))))
   rotate_left 1
  refine cw_loop (ι := Nat) (fun j => [(9, .int .i64 j), (8, .int .i64 l.length), (7, .slice a l.length c), (3, .int .i64 (rowDepth (l.take j)))]) (fun j w' => rowSits S w' l a ∧ Ext w w' ∧ j ≤ l.length) (fun j => l.length - j) 0 (by (refine sub_cons rfl ?_; refine sub_cons rfl ?_; refine sub_cons rfl ?_; refine sub_cons rfl ?_; exact sub_nil)) ⟨hs, X, Nat.zero_le _⟩ ?_
  rintro j w1 ⟨hs, X, hj⟩
  clear h4
  by_cases hlt : j < l.length
  · obtain ⟨kb, ko, rfl, hkS, hkid⟩ := kidRows hs (by intro e; subst e; simp at hlt)
    obtain ⟨xa, xc, rx, sx⟩ := hkid j l[j] (List.getElem?_eq_getElem hlt)
    have hsz := size_mem (List.getElem_mem hlt)
    have ht : l.take (j + 1) = l.take j ++ [l[j]] := by rw [List.take_add_one, List.getElem?_eq_getElem hlt]; rfl
    have hb0 := rowDepth_le (l.take j)
    have hb1 := rowSize_take l j
    have hb2 := rowSize_take l (j + 1)
    have hb3 := depth_le l[j]
    rw [ht, rowSize_snoc] at hb2
    clear hkid
    generalize l[j] = x at *
    focus
     refine cS (lw_pure (pur_lss rfl rfl) rfl (cT (cw_seq ?_)))
     refine cw_yes rfl (by omega) ?_
     refine cw_skip (qw_then (cw_seq (cw_block (cS ?_))))
     refine lw_pure (pur_indexAddr tabOk rfl rfl rfl rfl (by omega) (by omega)) rfl ?_
     refine lw_loads_r0 tabOk rfl rfl rfl rx rfl rfl ?_
     (refine lw_alloc' [_, _, _, _] zOk rfl rfl ?_; intro ba1 wa2 na3)
     (refine lw_init' [_, _, _, _] tabOk rfl rfl rfl rfl rfl rfl na3 rfl ?_; clear na3; clear wa2; intro wa4 na3)
     have ha5 := New.blk na3
     have xa6 := New.ext na3
     have pa7 := New.pos na3
     have za8 := New.size na3
     clear na3
     replace X := Ext.ext X xa6
     replace hs := Bk.rowSits.ext hs xa6
     replace rx := Row.ext rx xa6
     replace sx := Nd.sits.ext sx xa6
     clear xa6
     refine cT (cw_region (cM rfl rfl (lw_loads_b' [_, _, _, _] tabOk rfl rfl rfl ha5 rfl rfl rfl ?_)))
     refine lw_does (does_call (by kernel_rfl) rfl (IH.out _ S _ _ _ (by omega) (by omega) (by assumption)) (fun _ _ h => ⟨_, h.1⟩)) rfl ?_ (fun _ h => h)
     rintro _ wa10 ⟨⟨⟩, xa9⟩
     have za11 := Ext.size xa9
     replace ha5 := Blk.ext ha5 xa9
     replace X := Ext.ext X xa9
     replace hs := Bk.rowSits.ext hs xa9
     replace rx := Row.ext rx xa9
     replace sx := Nd.sits.ext sx xa9
     clear xa9
     refine lw_pure (pur_max rfl rfl rfl) rfl (cA rfl rfl (lw_nil (qw_block_norm (qw_then (cw_region ?_)))))
     refine lw_pure (pur_add rfl rfl (IntWalk.i64_in _ (by omega))) rfl ?_
     refine cM rfl rfl (lw_nil ?_)
     rotate_left 1
    refine qw_round (j + 1) ?_ ⟨hs, X, by omega⟩ (by omega)
    refine sub_cons rfl (sub_cons rfl (sub_cons rfl (sub_cons' rfl ?_ sub_nil)))
    rw [ht, rowDepth_snoc]
  · have : j = l.length := by omega
    subst this
    have hb0 := rowDepth_le l
    rw [List.take_length]
    focus
     refine cS (lw_pure (pur_lss rfl rfl) rfl (cT (cw_seq ?_)))
     refine cw_no rfl (by omega) ?_
     refine cw_exit (qw_then_exit (qw_then_exit (qw_block_exit (qw_then (cS (cM rfl rfl ?_))))))
     refine lw_pure (pur_add rfl rfl (IntWalk.i64_in _ (by omega))) rfl ?_
     refine cA rfl rfl (cT (cw_ret (qw_ret1 rfl rfl ?_)))
     rotate_left 1
    exact ⟨rfl, X⟩
set_option maxRecDepth 100000 in
set_option maxHeartbeats 1000000 in
theorem Size_c (N : Nat) : ∀ (t : Nd) (S : Nat → Prop) (a : Option Addr) (c : Nat) (w : World), t.size < N → t.size ≤ 1000000000 → t.sits S w a →
 Calls Tryz.prog 115 #[t.val a c] w fun e w' => e = .returned (.int .i64 t.size) ∧ Ext w w' := by
 induction N with
 | zero => intro t S a c w h; omega
 | succ N ih =>
  rintro ⟨k, n, s, l⟩ S a c w hN hM hs
  have IH := Lib.hid ih; clear ih
  simp only [Nd.sits] at hs
  simp only [Nd.size] at hN hM
  have X := Ext.refl w
  have hl := length_rowSize l
  rw [show ((Nd.mk k n s l).size : Int) = ((rowSize l : Nat) : Int) + 1 from by simp only [Nd.size]; omega]
  refine calls_in Tryz.func115 Tryz.ntmps115 rfl rfl ?_
  focus
   refine cS ?_
   (refine lw_box' [_, _, _, _] rfl rfl rfl ?_; intro b1 w2 n3)
   have h4 := New.blk n3
   have x5 := New.ext n3
   have p6 := New.pos n3
   have z7 := New.size n3
   clear n3
   replace hs := Bk.rowSits.ext hs x5
   replace X := Ext.ext X x5
   clear x5
   refine cA rfl rfl (cN (cA rfl rfl (cT (cw_seq (cS (lw_pure (pur_fieldAddr tabOk rfl rfl rfl) rfl (lw_load_b tabOk rfl rfl rfl h4 rfl rfl (lw_pure (pur_len_slice tabOk rfl rfl) rfl (cM rfl rfl (cT (cw_block ?_)))))))))))
   rotate_left 1
  refine cw_loop (ι := Nat) (fun j => [(9, .int .i64 j), (8, .int .i64 l.length), (7, .slice a l.length c), (3, .int .i64 (((rowSize (l.take j) : Nat) : Int) + 1))]) (fun j w' => rowSits S w' l a ∧ Ext w w' ∧ j ≤ l.length) (fun j => l.length - j) 0 (by (refine sub_cons rfl ?_; refine sub_cons rfl ?_; refine sub_cons rfl ?_; refine sub_cons rfl ?_; exact sub_nil)) ⟨hs, X, Nat.zero_le _⟩ ?_
  rintro j w1 ⟨hs, X, hj⟩
  clear h4
  by_cases hlt : j < l.length
  · obtain ⟨kb, ko, rfl, hkS, hkid⟩ := kidRows hs (by intro e; subst e; simp at hlt)
    obtain ⟨xa, xc, rx, sx⟩ := hkid j l[j] (List.getElem?_eq_getElem hlt)
    have hsz := size_mem (List.getElem_mem hlt)
    have ht : l.take (j + 1) = l.take j ++ [l[j]] := by rw [List.take_add_one, List.getElem?_eq_getElem hlt]; rfl
    have hb0 := rowDepth_le (l.take j)
    have hb1 := rowSize_take l j
    have hb2 := rowSize_take l (j + 1)
    have hb3 := depth_le l[j]
    rw [ht, rowSize_snoc] at hb2
    clear hkid
    generalize l[j] = x at *
    focus
     refine cS (lw_pure (pur_lss rfl rfl) rfl (cT (cw_seq ?_)))
     refine cw_yes rfl (by omega) ?_
     refine cw_skip (qw_then (cw_seq (cw_block (cS ?_))))
     refine lw_pure (pur_indexAddr tabOk rfl rfl rfl rfl (by omega) (by omega)) rfl ?_
     refine lw_loads_r0 tabOk rfl rfl rfl rx rfl rfl ?_
     (refine lw_alloc' [_, _, _, _] zOk rfl rfl ?_; intro ba1 wa2 na3)
     (refine lw_init' [_, _, _, _] tabOk rfl rfl rfl rfl rfl rfl na3 rfl ?_; clear na3; clear wa2; intro wa4 na3)
     have ha5 := New.blk na3
     have xa6 := New.ext na3
     have pa7 := New.pos na3
     have za8 := New.size na3
     clear na3
     replace X := Ext.ext X xa6
     replace hs := Bk.rowSits.ext hs xa6
     replace rx := Row.ext rx xa6
     replace sx := Nd.sits.ext sx xa6
     clear xa6
     refine cT (cw_region (cM rfl rfl (lw_loads_b' [_, _, _, _] tabOk rfl rfl rfl ha5 rfl rfl rfl ?_)))
     refine lw_does (does_call (by kernel_rfl) rfl (IH.out _ S _ _ _ (by omega) (by omega) (by assumption)) (fun _ _ h => ⟨_, h.1⟩)) rfl ?_ (fun _ h => h)
     rintro _ wa10 ⟨⟨⟩, xa9⟩
     have za11 := Ext.size xa9
     replace ha5 := Blk.ext ha5 xa9
     replace X := Ext.ext X xa9
     replace hs := Bk.rowSits.ext hs xa9
     replace rx := Row.ext rx xa9
     replace sx := Nd.sits.ext sx xa9
     clear xa9
     refine lw_pure (pur_add rfl rfl (IntWalk.i64_in _ (by omega))) rfl ?_
     refine cA rfl rfl (lw_nil (qw_block_norm (qw_then (cw_region ?_))))
     refine lw_pure (pur_add rfl rfl (IntWalk.i64_in _ (by omega))) rfl ?_
     refine cM rfl rfl (lw_nil ?_)
     rotate_left 1
    refine qw_round (j + 1) ?_ ⟨hs, X, by omega⟩ (by omega)
    refine sub_cons rfl (sub_cons rfl (sub_cons rfl (sub_cons' rfl ?_ sub_nil)))
    rw [ht, rowSize_snoc]
    congr 1; omega
  · have : j = l.length := by omega
    subst this
    have hb0 := rowDepth_le l
    rw [List.take_length]
    focus
     refine cS (lw_pure (pur_lss rfl rfl) rfl (cT (cw_seq ?_)))
     refine cw_no rfl (by omega) ?_
     refine cw_exit (qw_then_exit (qw_then_exit (qw_block_exit (qw_then (cS (cM rfl rfl (cA rfl rfl (cT (cw_ret (qw_ret1 rfl rfl ?_))))))))))
     rotate_left 1
    exact ⟨rfl, X⟩
end Bk
namespace Bk
open Go Go.RowKit
abbrev VD.cells (v : VD) : List Value := [str v.name, .int .u8 v.kind, .int .i64 v.len]
abbrev VD.val (v : VD) : Value := .agg #[str v.name, .int .u8 v.kind, .int .i64 v.len]
def VDAt (w : World) (b o : Nat) (v : VD) : Prop := Row w ⟨b, o, none⟩ v.cells
def VDs (S : Nat → Prop) (w : World) (l : List VD) (a : Option Addr) : Prop := Arr S 3 VDAt w l a
abbrev PD.cells (p : PD) (pa : Option Addr) (pc : Nat) (ba : Option Addr) (bc : Nat) : List Value := [str p.name, .slice pa p.params.length pc, .int .u8 p.body.kind, .int .i64 p.body.num, str p.body.name, .slice ba p.body.kids.length bc]
def PDAt (S : Nat → Prop) (w : World) (b o : Nat) (p : PD) : Prop := ∃ pa pc ba bc, Row w ⟨b, o, none⟩ (p.cells pa pc ba bc) ∧ VDs S w p.params pa ∧ p.body.sits S w ba
def PDs (S : Nat → Prop) (w : World) (l : List PD) (a : Option Addr) : Prop := Arr S 6 (PDAt S) w l a
theorem VDs.ext {S : Nat → Prop} {w w' : World} {l : List VD} {a : Option Addr} (h : VDs S w l a) (x : Ext w w') : VDs S w' l a := h.mono (fun _ h => h) (fun _ _ _ _ _ h => Row.ext h x)
theorem PDs.ext {S : Nat → Prop} {w w' : World} {l : List PD} {a : Option Addr} (h : PDs S w l a) (x : Ext w w') : PDs S w' l a :=
 h.mono (fun _ h => h) (fun _ _ _ _ _ ⟨pa, pc, ba, bc, h1, h2, h3⟩ => ⟨pa, pc, ba, bc, h1.ext x, h2.ext x, h3.ext x⟩)
abbrev PG.cells (g : PG) (va : Option Addr) (vc : Nat) (pa : Option Addr) (pc : Nat) (ma : Option Addr) (mc : Nat) : List Value :=
 [.slice va g.vars.length vc, .slice pa g.procs.length pc, .int .u8 g.main.kind, .int .i64 g.main.num, str g.main.name, .slice ma g.main.kids.length mc]
structure PG.sits (S : Nat → Prop) (w : World) (g : PG) (va pa ma : Option Addr) : Prop where
 vars : VDs S w g.vars va
 procs : PDs S w g.procs pa
 main : g.main.sits S w ma
theorem PG.sits.ext {S : Nat → Prop} {w w' : World} {g : PG} {va pa ma : Option Addr} (h : g.sits S w va pa ma) (x : Ext w w') : g.sits S w' va pa ma := ⟨h.vars.ext x, h.procs.ext x, h.main.ext x⟩
theorem VDs.fr {S T : Nat → Prop} {w w' : World} {l : List VD} {a : Option Addr} (h : VDs S w l a) (x : Fr T w w') (hs : ∀ b, S b → ¬ T b) : VDs S w' l a := h.mono (fun _ h => h) (fun b _ _ _ hb h => Row.fr h x (hs b hb))
theorem PDs.fr {S T : Nat → Prop} {w w' : World} {l : List PD} {a : Option Addr} (h : PDs S w l a) (x : Fr T w w') (hs : ∀ b, S b → ¬ T b) : PDs S w' l a :=
 h.mono (fun _ h => h) (fun b _ _ _ hb ⟨pa, pc, ba, bc, h1, h2, h3⟩ => ⟨pa, pc, ba, bc, h1.fr x (hs b hb), h2.fr x hs, h3.fr x hs⟩)
theorem PG.sits.fr {S T : Nat → Prop} {w w' : World} {g : PG} {va pa ma : Option Addr} (h : g.sits S w va pa ma) (x : Fr T w w') (hs : ∀ b, S b → ¬ T b) : g.sits S w' va pa ma := ⟨h.vars.fr x hs, h.procs.fr x hs, h.main.fr x hs⟩
theorem VDs.wide {S S' : Nat → Prop} {w : World} {l : List VD} {a : Option Addr} (h : VDs S w l a) (hs : ∀ b, S b → S' b) : VDs S' w l a := h.mono hs (fun _ _ _ _ _ h => h)
theorem row_move {w w' : World} {b o : Nat} {vs : List Value} (h : Row w ⟨b, o, none⟩ vs) (hc : ∀ o v, w.cell? ⟨b, o, none⟩ = some v → w'.cell? ⟨b, o, none⟩ = some v) : Row w' ⟨b, o, none⟩ vs := fun i v hi => by
 have := h.at hi
 have e : (⟨b, o, none⟩ : Addr).add i = ⟨b, o + i, none⟩ := by unfold Addr.add; by_cases h0 : i = 0 <;> simp [h0]
 rw [e]; exact hc _ _ this
theorem VDs.move {S S' : Nat → Prop} {w w' : World} {l : List VD} {a : Option Addr} (h : VDs S w l a) (hS : ∀ b, S b → S' b) (hc : ∀ b o v, S b → w.cell? ⟨b, o, none⟩ = some v → w'.cell? ⟨b, o, none⟩ = some v) : VDs S' w' l a :=
 h.mono hS (fun b o x _ hb h => row_move h (fun o v => hc b o v hb))
theorem VDs.lt2 {S : Nat → Prop} {w : World} {l : List VD} {a : Option Addr} (h : VDs S w l a) : VDs (fun b => S b ∧ b < w.heap.size) w l a := by
 rcases h with h | ⟨b, o, h1, h2, h3⟩
 · exact Or.inl h
 · cases l with
   | nil => exact Or.inl rfl
   | cons v r => exact Or.inr ⟨b, o, h1, ⟨h2, cell_lt (Row.at0 (h3 0 v rfl) rfl)⟩, h3⟩
def vdShape : Shape VD where
 sz := 3
 rep := fun _ _ v cs => cs = v.cells
 len := fun h => by rw [h]; rfl
 one := fun h => by rw [h]; rfl
 mono := fun h _ _ => h
 lt := fun h => h
def pdShape : Shape PD where
 sz := 6
 rep := fun w S p cs => ∃ pa pc ba bc, cs = p.cells pa pc ba bc ∧ VDs S w p.params pa ∧ p.body.sits S w ba
 len := fun ⟨_, _, _, _, h, _⟩ => by rw [h]; rfl
 one := fun ⟨_, _, _, _, h, _⟩ => by rw [h]; rfl
 mono := fun ⟨pa, pc, ba, bc, h, h1, h2⟩ hS hc => ⟨pa, pc, ba, bc, h, h1.move hS hc, Nd.sits_mono hS hc _ ba h2⟩
 lt := fun ⟨pa, pc, ba, bc, h, h1, h2⟩ => ⟨pa, pc, ba, bc, h, h1.lt2, sits_lt2 _ ba h2⟩
theorem OwnL.vds {w : World} {B e : Nat} {a : Option Addr} {len cap : Nat} {xs : List VD} {S : Nat → Prop} (h : OwnL vdShape w B e (.slice a len cap) xs) (hS : ∀ b, B ≤ b → S b) : VDs S w xs a := by
 by_cases hx : xs = []
 · exact Or.inl hx
 · obtain ⟨g, cap', hv, hg, hall⟩ := h.rows hx
   simp only [Value.slice.injEq] at hv
   obtain ⟨rfl, -, -⟩ := hv
   refine Or.inr ⟨g, 0, rfl, hS g hg, fun i x hi => ?_⟩
   obtain ⟨cs, hr, rfl⟩ := hall i x hi
   simpa [vdShape, VDAt] using hr
theorem OwnL.pds {w : World} {B e : Nat} {a : Option Addr} {len cap : Nat} {xs : List PD} {S : Nat → Prop} (h : OwnL pdShape w B e (.slice a len cap) xs) (hS : ∀ b, B ≤ b → S b) : PDs S w xs a := by
 by_cases hx : xs = []
 · exact Or.inl hx
 · obtain ⟨g, cap', hv, hg, hall⟩ := h.rows hx
   simp only [Value.slice.injEq] at hv
   obtain ⟨rfl, -, -⟩ := hv
   refine Or.inr ⟨g, 0, rfl, hS g hg, fun i x hi => ?_⟩
   obtain ⟨cs, hr, pa, pc, ba, bc, rfl, h1, h2⟩ := hall i x hi
   exact ⟨pa, pc, ba, bc, by simpa [pdShape] using hr, h1.wide (fun b hb => hS b hb.1), h2.wide (fun b hb => hS b hb.1)⟩
theorem maxLen_one : 1 ≤ maxLen := by unfold maxLen; omega
theorem OwnL.lit {α : Type} {sh : Shape α} {w : World} {B b e : Nat} {x : α} {cs : List Value} (h : TB w b cs e) (hB : B ≤ b) (hr : sh.rep w (fun k => B ≤ k ∧ k ≠ b) x cs) : OwnL sh w B e (.slice (some ⟨b, 0, none⟩) 1 1) [x] := by
 have hl := sh.len hr
 refine ⟨[cs], ⟨by simp [hl], Or.inr ⟨b, 1, cs.toArray, rfl, hB, h, Nat.le_refl _, maxLen_one, by simp [hl], by simp [← hl]⟩⟩, rfl, fun i y ds hy hd => ?_⟩
 match i, hy, hd with
 | 0, hy, hd =>
  simp at hy hd
  subst hy hd
  exact sh.mono hr (fun k hk => ⟨hk.1, fun e => hk.2 (by simpa [Value.ownBlock] using e.symm)⟩) (fun _ _ _ _ h => h)
end Bk
namespace Bk
section
variable {ts : List Tok} {n : Int}
theorem next_at (σ : PS) : (nextP σ).at_ = σ.at_ + 1 := rfl
theorem expr_size (k : Nat) : (∀ lv σ, σ.at_ ≤ ts.length → (exprP ts n k lv σ).1.size + 8 * σ.at_ ≤ 8 * (exprP ts n k lv σ).2.at_ + 1) ∧ (∀ lv x σ, σ.at_ ≤ ts.length → (climbP ts n k lv x σ).1.size + 8 * σ.at_ ≤ 8 * (climbP ts n k lv x σ).2.at_ + x.size) ∧
 (∀ σ, σ.at_ ≤ ts.length → (unaryP ts n k σ).1.size + 8 * σ.at_ ≤ 8 * (unaryP ts n k σ).2.at_ + 1) ∧ (∀ σ, σ.at_ ≤ ts.length → (primaryP ts n k σ).1.size + 8 * σ.at_ ≤ 8 * (primaryP ts n k σ).2.at_ + 1) ∧
 (∀ σ, σ.at_ ≤ ts.length → (placeP ts n k σ).1.size + 8 * σ.at_ ≤ 8 * (placeP ts n k σ).2.at_ + 1) := by
 induction k with
 | zero =>
  refine ⟨fun lv σ h => ?_, fun lv x σ h => ?_, fun σ h => ?_, fun σ h => ?_, fun σ h => ?_⟩
  · rw [exprP]; simp [Nd.size, rowSize]; omega
  · rw [climbP]; simp; omega
  · rw [unaryP]; simp [Nd.size, rowSize]; omega
  · rw [primaryP]; simp [Nd.size, rowSize]; omega
  · rw [placeP]; simp [Nd.size, rowSize]; omega
 | succ k ih =>
  obtain ⟨iE, iC, iU, iP, iL⟩ := ih
  obtain ⟨lE, lC, lU, lP, lL⟩ := expr_inv (ts := ts) (n := n) k
  refine ⟨fun lv σ h => ?_, fun lv x σ h => ?_, fun σ h => ?_, fun σ h => ?_, fun σ h => ?_⟩
  · rw [exprP]
    have h1 := iU σ h
    have h2 := iC lv (unaryP ts n k σ).1 (unaryP ts n k σ).2 (lU σ h).1.wf
    omega
  · rw [climbP]
    split
    · simp; omega
    · rename_i op hop
      obtain ⟨hne, -⟩ := binOf_ne hop
      have hn := next_le (peek_in h (Or.inl hne))
      split
      · simp; omega
      · have h1 := iE (level op + 1) (nextP σ) hn.wf
        have h2 := iC lv (.mk op 0 [] [x, (exprP ts n k (level op + 1) (nextP σ)).1]) (exprP ts n k (level op + 1) (nextP σ)).2 (lE (level op + 1) (nextP σ) hn.wf).1.wf
        have h3 := (lE (level op + 1) (nextP σ) hn.wf).1.le
        rw [next_at] at h1 h3
        simp only [Nd.size, rowSize] at h2
        omega
  · rw [unaryP]
    split
    · rename_i hh
      have hn := next_le (has_in h hh (by decide))
      have h1 := iU (nextP σ) hn.wf
      rw [next_at] at h1
      simp only [Nd.size, rowSize]; omega
    · split
      · rename_i hh
        have hn := next_le (has_in h hh (by decide))
        have h1 := iU (nextP σ) hn.wf
        rw [next_at] at h1
        simp only [Nd.size, rowSize]; omega
      · exact iP σ h
  · rw [primaryP]
    split
    · have := (number_le (n := n) (a := 0) (b := 9223372036854775807) h).le
      simp only [Nd.size, rowSize]; omega
    · split
      · rename_i hh
        have h1 := next_le (has_in h hh (by decide))
        have h2 := h1.trans (expect_le (n := n) (t := [40]) h1.wf (by decide))
        have h3 := h2.trans (name_le (n := n) h2.wf)
        have h4 := (h3.trans (expect_le (n := n) (t := [41]) h3.wf (by decide))).le
        simp only [Nd.size, rowSize]; omega
      · split
        · rename_i hh
          have h1 := next_le (has_in h hh (by decide))
          have h2 := h1.trans (expect_le (n := n) (t := [40]) h1.wf (by decide))
          have h3 := h2.trans (name_le (n := n) h2.wf)
          have h4 := (h3.trans (expect_le (n := n) (t := [41]) h3.wf (by decide))).le
          simp only [Nd.size, rowSize]; omega
        · split
          · rename_i hh
            have hn := next_le (has_in h hh (by decide))
            have h1 := iE 1 (nextP σ) hn.wf
            have h2 := (expect_le (n := n) (t := [41]) (lE 1 (nextP σ) hn.wf).1.wf (by decide)).le
            rw [next_at] at h1
            simp only; omega
          · exact iL σ h
  · rw [placeP]
    have h0 := name_le (n := n) h
    have h0' := h0.le
    split
    · rename_i hh
      have hn := next_le (has_in h0.wf hh (by decide))
      have h1 := iE 1 (nextP (nameP ts n σ).2) hn.wf
      have h2 := (expect_le (n := n) (t := [93]) (lE 1 _ hn.wf).1.wf (by decide)).le
      rw [next_at] at h1
      simp only [Nd.size, rowSize]; omega
    · simp only [Nd.size, rowSize]; omega
theorem rowSize_append (l m : List Nd) : rowSize (l ++ m) = rowSize l + rowSize m := by
 induction l with
 | nil => simp [rowSize]
 | cons x r ih => simp only [List.cons_append, rowSize, ih]; omega
theorem arg_size (σ : PS) : (argP ts n σ).1.size = 1 := rfl
theorem args_size : ∀ (k : Nat) (acc : List Nd) (σ : PS), σ.at_ ≤ ts.length → rowSize (argsP ts n k acc σ).1 + 8 * σ.at_ ≤ 8 * (argsP ts n k acc σ).2.at_ + rowSize acc
 | 0, acc, σ, h => by rw [argsP]; simp; omega
 | k + 1, acc, σ, h => by
  rw [argsP]
  split
  · rename_i hh
    have h1 := next_le (has_in h hh (by decide))
    generalize hS : (if acc.length = 8 ∧ isName (peekP ts (nextP σ)).text = true then failP (nextP σ) (peekP ts (nextP σ)).pos 5 else nextP σ) = ρ
    have h2 : Le ts (nextP σ) ρ := by
     rw [← hS]
     split
     · exact fail_le h1.wf _ _
     · exact Le.refl h1.wf
    have h3 := name_le (n := n) h2.wf
    have h4 := args_size k (acc ++ [(argP ts n ρ).1]) (argP ts n ρ).2 h3.wf
    rw [rowSize_append] at h4
    have h5 : (argP ts n ρ).2.at_ ≥ σ.at_ + 1 := by
     have e1 := h2.le; have e2 := h3.le
     rw [next_at] at e1
     show (nameP ts n ρ).2.at_ ≥ σ.at_ + 1
     omega
    simp only [rowSize, arg_size] at h4
    omega
  · simp; omega
theorem call_size {k : Nat} {kind : Int} {σ : PS} (hn : In ts σ) : (callP ts n k kind σ).1.size + 8 * σ.at_ ≤ 8 * (callP ts n k kind σ).2.at_ + 1 := by
 unfold callP
 dsimp only
 have h1 := next_le hn
 have h2 := h1.trans (name_le (n := n) h1.wf)
 have h3 := h2.trans (expect_le (n := n) (t := [40]) h2.wf (by decide))
 have e1 := (name_le (n := n) h1.wf).le
 have e2 := (expect_le (n := n) (t := [40]) h2.wf (by decide)).le
 rw [next_at] at e1
 split
 · have := next_at (expectP ts n (nameP ts n (nextP σ)).2 [40])
   simp only [Nd.size, rowSize]; omega
 · have h4 := name_le (n := n) h3.wf
   have e3 := h4.le
   have h5 := args_size (ts := ts) (n := n) k [(argP ts n (expectP ts n (nameP ts n (nextP σ)).2 [40])).1] (argP ts n (expectP ts n (nameP ts n (nextP σ)).2 [40])).2 h4.wf
   have h6 := args_le (n := n) k [(argP ts n (expectP ts n (nameP ts n (nextP σ)).2 [40])).1] (argP ts n (expectP ts n (nameP ts n (nextP σ)).2 [40])).2 h4.wf
   have e4 := (expect_le (n := n) (t := [41]) h6.wf (by decide)).le
   have e5 : (argP ts n (expectP ts n (nameP ts n (nextP σ)).2 [40])).2.at_ ≥ (expectP ts n (nameP ts n (nextP σ)).2 [40]).at_ := e3
   simp only [rowSize, arg_size] at h5
   simp only [Nd.size]; omega
theorem place_size {k : Nat} {σ : PS} (h : σ.at_ ≤ ts.length) : (placeP ts n k σ).1.size + 8 * σ.at_ ≤ 8 * (placeP ts n k σ).2.at_ + 1 := (expr_size k).2.2.2.2 σ h
theorem exprs_size {k : Nat} {lv : Int} {σ : PS} (h : σ.at_ ≤ ts.length) : (exprP ts n k lv σ).1.size + 8 * σ.at_ ≤ 8 * (exprP ts n k lv σ).2.at_ + 1 := (expr_size k).1 lv σ h
theorem update_size {k : Nat} {σ : PS} (h : σ.at_ ≤ ts.length) : (updateP ts n k σ).1.size + 8 * σ.at_ ≤ 8 * (updateP ts n k σ).2.at_ + 1 := by
 unfold updateP
 dsimp only
 have h1 := place_size (n := n) (k := k) h
 have l1 := place_le (n := n) (k := k) h
 split
 · rename_i hh
   have l2 := next_le (has_in l1.wf hh (by decide))
   have h2 := place_size (n := n) (k := k) l2.wf
   rw [next_at] at h2
   simp only [Nd.size, rowSize]; omega
 · split
   · have := (unexp_le (n := n) l1.wf).le
     have := l1.le
     simp only [Nd.size, rowSize]; omega
   · rename_i hh
     have l2 := next_le (peek_in l1.wf (Or.inl (upd_ne hh)))
     have h2 := exprs_size (n := n) (k := k) (lv := 1) l2.wf
     rw [next_at] at h2
     simp only [Nd.size, rowSize]; omega
theorem stack_size {k : Nat} {kind : Int} {σ : PS} (hn : In ts σ) : (stackP ts n k kind σ).1.size + 8 * σ.at_ ≤ 8 * (stackP ts n k kind σ).2.at_ + 1 := by
 unfold stackP
 dsimp only
 have h1 := next_le hn
 have h2 := place_size (n := n) (k := k) h1.wf
 have l2 := place_le (n := n) (k := k) h1.wf
 have l3 := expect_le (n := n) (t := [44]) l2.wf (by decide)
 have l4 := (name_le (n := n) l3.wf).le
 have l3' := l3.le
 rw [next_at] at h2
 simp only [Nd.size, rowSize]; omega
theorem tape_size {k : Nat} {kind : Int} {σ : PS} (hn : In ts σ) : (tapeP ts n k kind σ).1.size + 8 * σ.at_ ≤ 8 * (tapeP ts n k kind σ).2.at_ + 1 := by
 unfold tapeP
 have h1 := next_le hn
 have h2 := place_size (n := n) (k := k) h1.wf
 rw [next_at] at h2
 simp only [Nd.size, rowSize]; omega
theorem stmt_size (k : Nat) : (∀ σ, σ.at_ ≤ ts.length → (stmtP ts n k σ).1.size + 8 * σ.at_ ≤ 8 * (stmtP ts n k σ).2.at_ + 1) ∧ (∀ kind mid last σ, In ts σ → mid ≠ [] → last ≠ [] → (branchesP ts n k kind mid last σ).1.size + 8 * σ.at_ ≤ 8 * (branchesP ts n k kind mid last σ).2.at_ + 1) ∧ (∀ σ, In ts σ → (localP ts n k σ).1.size + 8 * σ.at_ ≤ 8 * (localP ts n k σ).2.at_ + 1) ∧
 (∀ σ, σ.at_ ≤ ts.length → (blockP ts n k σ).1.size + 8 * σ.at_ ≤ 8 * (blockP ts n k σ).2.at_ + 2) ∧ (∀ acc σ, σ.at_ ≤ ts.length → rowSize (stmtsP ts n k acc σ).1 + 8 * σ.at_ ≤ 8 * (stmtsP ts n k acc σ).2.at_ + rowSize acc + (if σ.err = 0 then 1 else 0)) := by
 induction k with
 | zero =>
  refine ⟨fun σ h => ?_, fun kind mid last σ h _ _ => ?_, fun σ h => ?_, fun σ h => ?_, fun acc σ h => ?_⟩
  · rw [stmtP]; simp [Nd.size, rowSize]; omega
  · rw [branchesP]; simp [Nd.size, rowSize]; omega
  · rw [localP]; simp [Nd.size, rowSize]; omega
  · rw [blockP]; simp [Nd.size, rowSize]; omega
  · rw [stmtsP]; simp only; split <;> omega
 | succ k ih =>
  obtain ⟨iS, iB, iL, iK, iT⟩ := ih
  obtain ⟨lS, lB, lL, lK, lT⟩ := stmt_inv (ts := ts) (n := n) k
  refine ⟨fun σ h => ?_, fun kind mid last σ hn hmid hlast => ?_, fun σ hn => ?_, fun σ h => ?_, fun acc σ h => ?_⟩
  · have hin : ∀ t : List UInt8, (peekP ts σ).text = t → t ≠ [] → In ts σ := fun t e ht => peek_in h (Or.inl (by rw [e]; exact ht))
    rw [stmtP]
    by_cases e : (peekP ts σ).text = [112, 117, 115, 104]
    · rw [if_pos e]; exact stack_size (hin _ e (by decide))
    rw [if_neg e]; clear e
    by_cases e : (peekP ts σ).text = [112, 111, 112]
    · rw [if_pos e]; exact stack_size (hin _ e (by decide))
    rw [if_neg e]; clear e
    by_cases e : (peekP ts σ).text = [114, 101, 97, 100]
    · rw [if_pos e]; exact tape_size (hin _ e (by decide))
    rw [if_neg e]; clear e
    by_cases e : (peekP ts σ).text = [117, 110, 114, 101, 97, 100]
    · rw [if_pos e]; exact tape_size (hin _ e (by decide))
    rw [if_neg e]; clear e
    by_cases e : (peekP ts σ).text = [119, 114, 105, 116, 101]
    · rw [if_pos e]; exact tape_size (hin _ e (by decide))
    rw [if_neg e]; clear e
    by_cases e : (peekP ts σ).text = [117, 110, 119, 114, 105, 116, 101]
    · rw [if_pos e]; exact tape_size (hin _ e (by decide))
    rw [if_neg e]; clear e
    by_cases e : (peekP ts σ).text = [99, 97, 108, 108]
    · rw [if_pos e]; exact call_size (hin _ e (by decide))
    rw [if_neg e]; clear e
    by_cases e : (peekP ts σ).text = [117, 110, 99, 97, 108, 108]
    · rw [if_pos e]; exact call_size (hin _ e (by decide))
    rw [if_neg e]; clear e
    by_cases e : (peekP ts σ).text = [105, 102]
    · rw [if_pos e]; exact iB _ _ _ σ (hin _ e (by decide)) (by decide) (by decide)
    rw [if_neg e]; clear e
    by_cases e : (peekP ts σ).text = [102, 114, 111, 109]
    · rw [if_pos e]; exact iB _ _ _ σ (hin _ e (by decide)) (by decide) (by decide)
    rw [if_neg e]; clear e
    by_cases e : (peekP ts σ).text = [108, 111, 99, 97, 108]
    · rw [if_pos e]; exact iL σ (hin _ e (by decide))
    rw [if_neg e]; clear e
    exact update_size h
  · rw [branchesP]
    (try dsimp only)
    have l1 := next_le hn
    have s2 := exprs_size (n := n) (k := k) (lv := 1) l1.wf
    have l2 := expr_le (n := n) (k := k) (lv := 1) l1.wf
    have s3 := iK _ l2.wf
    have l3 := lK _ l2.wf
    have l4 := expect_le (n := n) l3.wf hmid
    have s5 := iK _ l4.wf
    have l5 := lK _ l4.wf
    have l6 := expect_le (n := n) l5.wf hlast
    have s7 := exprs_size (n := n) (k := k) (lv := 1) l6.wf
    have e4 := l4.le
    have e6 := l6.le
    rw [next_at] at s2
    simp only [Nd.size, rowSize]; omega
  · rw [localP]
    (try dsimp only)
    have l1 := next_le hn
    split
    · rename_i hh
      have l2 := next_le (has_in l1.wf hh (by decide))
      have l3 := name_le (n := n) l2.wf
      have s4 := iK _ l3.wf
      have e3 := l3.le
      rw [next_at, next_at] at e3
      simp only [Nd.size, rowSize]; omega
    · have l2 := name_le (n := n) l1.wf
      have l3 := expect_le (n := n) (t := [61]) l2.wf (by decide)
      have s4 := exprs_size (n := n) (k := k) (lv := 1) l3.wf
      have l4 := expr_le (n := n) (k := k) (lv := 1) l3.wf
      have s5 := iK _ l4.wf
      have l5 := lK _ l4.wf
      have l6 := expect_le (n := n) (t := [100, 101, 108, 111, 99, 97, 108]) l5.wf (by decide)
      have s7 := exprs_size (n := n) (k := k) (lv := 1) l6.wf
      have e2 := l2.le
      have e3 := l3.le
      have e6 := l6.le
      rw [next_at] at e2
      simp only [Nd.size, rowSize]; omega
  · rw [blockP]
    (try dsimp only)
    have l1 := expect_le (n := n) (t := [123]) h (by decide)
    have s2 := iT [] _ l1.wf
    have e1 := l1.le
    simp only [rowSize] at s2
    simp only [Nd.size]
    split at s2 <;> omega
  · rw [stmtsP]
    split
    · simp only; (try split) <;> omega
    · rename_i he
      have h0 : σ.err = 0 := Decidable.byContradiction he
      split
      · rename_i hh
        have := next_at σ
        simp only; (try split) <;> omega
      · have s1 := iS σ h
        have l1 := lS σ h
        have l2 := expect_le (n := n) (t := [59]) l1.wf (by decide)
        have s3 := iT (acc ++ [(stmtP ts n k σ).1]) _ l2.wf
        rw [rowSize_append] at s3
        simp only [rowSize] at s3
        have e2 := l2.le
        have e3 : (expectP ts n (stmtP ts n k σ).2 [59]).err = 0 → (stmtP ts n k σ).2.at_ + 1 ≤ (expectP ts n (stmtP ts n k σ).2 [59]).at_ := fun e => expect_lt (n := n) e
        (try rw [if_pos h0])
        split at s3
        · rename_i e; have := e3 e; omega
        · omega
theorem block_size {k : Nat} {σ : PS} (h : σ.at_ ≤ ts.length) : (blockP ts n k σ).1.size ≤ 8 * ts.length + 2 := by
 have h1 := (stmt_size (ts := ts) (n := n) k).2.2.2.1 σ h
 have h2 := ((stmt_inv (ts := ts) (n := n) k).2.2.2.1 σ h).wf
 omega
end
end Bk
namespace Bk
open Go Go.RowKit Go.Proofs
attribute [local irreducible] Go.Calls
set_option maxRecDepth 100000 in
set_option maxHeartbeats 1000000 in
theorem limit_c (c : PC) (σ : PS) (t : Nd) (S : Nat → Prop) (a : Option Addr) (k : Nat) (off : Int) (w : World) (hP : PP c σ w) (hz : t.size ≤ 1000000000) (hs : t.sits S w a) :
 Calls Tryz.prog 81 #[.pointer (some ⟨c.pb, 0, none⟩), t.val a k, .int .i64 off] w fun r w' => r = .returned (.tuple #[]) ∧ PP c (limitP t off σ) w' ∧ Fr (· = c.pb) w w' := by
 have X := Fr.refl (· = c.pb) w
 have hpb := hP.pbB
 have hB := hP.B
 by_cases h0 : σ.err = 0
 · by_cases hd : 80 < t.depth
   · rw [show limitP t off σ = failP σ off 19 from by simp [limitP, h0, hd]]
     refine calls_in Tryz.func81 Tryz.ntmps81 rfl rfl ?_
     focus
      refine cS ?_
      (refine lw_box' [_, _, _, _] rfl rfl rfl ?_; intro b1 w2 n3)
      have h4 := New.blk n3
      have x5 := New.ext n3
      have p6 := New.pos n3
      have z7 := New.size n3
      clear n3
      replace hP := PP.ext hP x5
      replace hs := Nd.sits.ext hs x5
      replace X := Fr.ext X x5
      clear x5
      refine cT (cw_block (cS (cM rfl rfl (lw_pure (pur_nilCheck rfl) rfl (lw_pure (pur_fieldAddr tabOk rfl rfl rfl) rfl (lw_load_b tabOk rfl rfl rfl (PP.blk hP) rfl rfl (lw_pure (pur_neq rfl rfl) rfl (cA rfl rfl (cT ?_)))))))))
      refine cw_no rfl (by omega) ?_
      refine cS (lw_loads_b' [_, _, _, _] tabOk rfl rfl rfl h4 rfl rfl rfl ?_)
      refine lw_does (does_call (by kernel_rfl) rfl (Depth_c _ _ _ _ _ _ (Nat.lt_succ_self _) (by omega) (by assumption)) (fun _ _ h => ⟨_, h.1⟩)) rfl ?_ (fun _ h => h)
      rintro _ w9 ⟨⟨⟩, x8⟩
      have z10 := Ext.size x8
      replace h4 := Blk.ext h4 x8
      replace hP := PP.ext hP x8
      replace hs := Nd.sits.ext hs x8
      replace X := Fr.ext X x8
      clear x8
      refine lw_pure (pur_gtr rfl rfl) rfl (cA rfl rfl (cT ?_))
      refine cw_yes rfl (by assumption) ?_
      refine cw_region (cM rfl rfl (cM rfl rfl ?_))
      refine lw_does (does_call (by kernel_rfl) rfl (fail_c _ _ _ _ _ (by assumption)) (fun _ _ h => ⟨_, h.1⟩)) rfl ?_ (fun _ h => h)
      rintro _ w13 ⟨⟨⟩, ⟨h11, f12⟩⟩
      have z14 := Fr.size f12
      replace h4 := Blk.fr h4 f12 (by omega)
      clear hP hs
      replace X := Fr.fr X f12 (by omega)
      clear f12
      refine lw_nil (qw_block_norm (qw_end0 rfl ?_))
      rotate_left 1
     exact ⟨rfl, by assumption, X⟩
   · by_cases h2 : 2000 < t.size
     · rw [show limitP t off σ = failP σ off 5 from by simp [limitP, h0, hd, h2]]
       refine calls_in Tryz.func81 Tryz.ntmps81 rfl rfl ?_
       focus
        refine cS ?_
        (refine lw_box' [_, _, _, _] rfl rfl rfl ?_; intro ba1 wa2 na3)
        have ha4 := New.blk na3
        have xa5 := New.ext na3
        have pa6 := New.pos na3
        have za7 := New.size na3
        clear na3
        replace hP := PP.ext hP xa5
        replace hs := Nd.sits.ext hs xa5
        replace X := Fr.ext X xa5
        clear xa5
        refine cT (cw_block (cS (cM rfl rfl (lw_pure (pur_nilCheck rfl) rfl (lw_pure (pur_fieldAddr tabOk rfl rfl rfl) rfl (lw_load_b tabOk rfl rfl rfl (PP.blk hP) rfl rfl (lw_pure (pur_neq rfl rfl) rfl (cA rfl rfl (cT ?_)))))))))
        refine cw_no rfl (by omega) ?_
        refine cS (lw_loads_b' [_, _, _, _] tabOk rfl rfl rfl ha4 rfl rfl rfl ?_)
        refine lw_does (does_call (by kernel_rfl) rfl (Depth_c _ _ _ _ _ _ (Nat.lt_succ_self _) (by omega) (by assumption)) (fun _ _ h => ⟨_, h.1⟩)) rfl ?_ (fun _ h => h)
        rintro _ wa9 ⟨⟨⟩, xa8⟩
        have za10 := Ext.size xa8
        replace ha4 := Blk.ext ha4 xa8
        replace hP := PP.ext hP xa8
        replace hs := Nd.sits.ext hs xa8
        replace X := Fr.ext X xa8
        clear xa8
        refine lw_pure (pur_gtr rfl rfl) rfl (cA rfl rfl (cT ?_))
        refine cw_no rfl (by assumption) ?_
        refine cS (lw_loads_b' [_, _, _, _] tabOk rfl rfl rfl ha4 rfl rfl rfl ?_)
        refine lw_does (does_call (by kernel_rfl) rfl (Size_c _ _ _ _ _ _ (Nat.lt_succ_self _) (by omega) (by assumption)) (fun _ _ h => ⟨_, h.1⟩)) rfl ?_ (fun _ h => h)
        rintro _ wa12 ⟨⟨⟩, xa11⟩
        have za13 := Ext.size xa11
        replace ha4 := Blk.ext ha4 xa11
        replace hP := PP.ext hP xa11
        replace hs := Nd.sits.ext hs xa11
        replace X := Fr.ext X xa11
        clear xa11
        refine lw_pure (pur_gtr rfl rfl) rfl (cA rfl rfl (cT ?_))
        refine cw_yes rfl (by omega) ?_
        refine cw_region (cM rfl rfl (cM rfl rfl ?_))
        refine lw_does (does_call (by kernel_rfl) rfl (fail_c _ _ _ _ _ (by assumption)) (fun _ _ h => ⟨_, h.1⟩)) rfl ?_ (fun _ h => h)
        rintro _ wa16 ⟨⟨⟩, ⟨ha14, fa15⟩⟩
        have za17 := Fr.size fa15
        replace ha4 := Blk.fr ha4 fa15 (by omega)
        clear hP hs
        replace X := Fr.fr X fa15 (by omega)
        clear fa15
        refine lw_nil (qw_block_norm (qw_end0 rfl ?_))
        rotate_left 1
       exact ⟨rfl, by assumption, X⟩
     · rw [show limitP t off σ = σ from by simp [limitP, h0, hd, h2]]
       refine calls_in Tryz.func81 Tryz.ntmps81 rfl rfl ?_
       focus
        refine cS ?_
        (refine lw_box' [_, _, _, _] rfl rfl rfl ?_; intro bb1 wb2 nb3)
        have hb4 := New.blk nb3
        have xb5 := New.ext nb3
        have pb6 := New.pos nb3
        have zb7 := New.size nb3
        clear nb3
        replace hP := PP.ext hP xb5
        replace hs := Nd.sits.ext hs xb5
        replace X := Fr.ext X xb5
        clear xb5
        refine cT (cw_block (cS (cM rfl rfl (lw_pure (pur_nilCheck rfl) rfl (lw_pure (pur_fieldAddr tabOk rfl rfl rfl) rfl (lw_load_b tabOk rfl rfl rfl (PP.blk hP) rfl rfl (lw_pure (pur_neq rfl rfl) rfl (cA rfl rfl (cT ?_)))))))))
        refine cw_no rfl (by omega) ?_
        refine cS (lw_loads_b' [_, _, _, _] tabOk rfl rfl rfl hb4 rfl rfl rfl ?_)
        refine lw_does (does_call (by kernel_rfl) rfl (Depth_c _ _ _ _ _ _ (Nat.lt_succ_self _) (by omega) (by assumption)) (fun _ _ h => ⟨_, h.1⟩)) rfl ?_ (fun _ h => h)
        rintro _ wb9 ⟨⟨⟩, xb8⟩
        have zb10 := Ext.size xb8
        replace hb4 := Blk.ext hb4 xb8
        replace hP := PP.ext hP xb8
        replace hs := Nd.sits.ext hs xb8
        replace X := Fr.ext X xb8
        clear xb8
        refine lw_pure (pur_gtr rfl rfl) rfl (cA rfl rfl (cT ?_))
        refine cw_no rfl (by assumption) ?_
        refine cS (lw_loads_b' [_, _, _, _] tabOk rfl rfl rfl hb4 rfl rfl rfl ?_)
        refine lw_does (does_call (by kernel_rfl) rfl (Size_c _ _ _ _ _ _ (Nat.lt_succ_self _) (by omega) (by assumption)) (fun _ _ h => ⟨_, h.1⟩)) rfl ?_ (fun _ h => h)
        rintro _ wb12 ⟨⟨⟩, xb11⟩
        have zb13 := Ext.size xb11
        replace hb4 := Blk.ext hb4 xb11
        replace hP := PP.ext hP xb11
        replace hs := Nd.sits.ext hs xb11
        replace X := Fr.ext X xb11
        clear xb11
        refine lw_pure (pur_gtr rfl rfl) rfl (cA rfl rfl (cT ?_))
        refine cw_no rfl (by omega) ?_
        refine cw_skip (qw_block_norm (qw_end0 rfl ?_))
        rotate_left 1
       exact ⟨rfl, by assumption, X⟩
 · rw [show limitP t off σ = σ from by simp [limitP, h0]]
   refine calls_in Tryz.func81 Tryz.ntmps81 rfl rfl ?_
   focus
    refine cS ?_
    (refine lw_box' [_, _, _, _] rfl rfl rfl ?_; intro bc1 wc2 nc3)
    have hc4 := New.blk nc3
    have xc5 := New.ext nc3
    have pc6 := New.pos nc3
    have zc7 := New.size nc3
    clear nc3
    replace hP := PP.ext hP xc5
    replace hs := Nd.sits.ext hs xc5
    replace X := Fr.ext X xc5
    clear xc5
    refine cT (cw_block (cS (cM rfl rfl (lw_pure (pur_nilCheck rfl) rfl (lw_pure (pur_fieldAddr tabOk rfl rfl rfl) rfl (lw_load_b tabOk rfl rfl rfl (PP.blk hP) rfl rfl (lw_pure (pur_neq rfl rfl) rfl (cA rfl rfl (cT ?_)))))))))
    refine cw_yes rfl (by assumption) ?_
    refine cw_skip (qw_block_norm (qw_end0 rfl ?_))
    rotate_left 1
   exact ⟨rfl, by assumption, X⟩
set_option maxRecDepth 100000 in
set_option maxHeartbeats 1000000 in
theorem body_c (c : PC) (k : Nat) (σ : PS) (w : World) (hP : PP c σ w) (hk : 4 * mS c.ts σ + 8 ≤ k) :
 Calls Tryz.prog 72 #[.pointer (some ⟨c.pb, 0, none⟩)] w (TreeR c w (bodyP c.ts c.n k σ)) := by
 have X := Fr.refl (· = c.pb) w
 have hpb := hP.pbB
 have hB := hP.B
 have hlen := hP.len
 have hbs := block_size (n := c.n) (k := k) hP.at_
 unfold bodyP
 refine calls_in Tryz.func72 Tryz.ntmps72 rfl rfl ?_
 focus
  refine cS ?_
  (refine lw_alloc' [_, _, _, _] zOk rfl rfl ?_; intro b1 w2 n3)
  have h5 := New.blk n3
  have x6 := New.ext n3
  have p7 := New.pos n3
  have z8 := New.size n3
  clear n3
  replace hP := PP.ext hP x6
  replace X := Fr.ext X x6
  clear x6
  refine cN (cM rfl rfl ?_)
  refine lw_does (does_call (by kernel_rfl) rfl (peek_c _ _ _ (by assumption)) (fun _ _ h => ⟨_, h.1⟩)) rfl ?_ (fun _ h => h)
  rintro _ w10 ⟨⟨⟩, x9⟩
  have z11 := Ext.size x9
  replace h5 := Blk.ext h5 x9
  replace hP := PP.ext hP x9
  replace X := Fr.ext X x9
  clear x9
  refine lw_pure (pur_field tabOk rfl rfl rfl rfl rfl rfl) rfl (cA rfl rfl (cN (cM rfl rfl ?_)))
  refine lw_does (does_call (by kernel_rfl) rfl ((stmts_c c k).block _ _ (by assumption) hk) (fun _ _ h => h.ret)) rfl ?_ (fun _ h => h)
  rintro _ w17 ⟨a12, ⟨k13, ⟨⟨⟩, ⟨h14, ⟨h15, f16⟩⟩⟩⟩⟩
  have z18 := Fr.size f16
  replace h5 := Blk.fr h5 f16 (by omega)
  clear hP
  replace X := Fr.fr X f16 (by omega)
  clear f16
  (refine lw_alloc' [_, _, _, _] zOk rfl rfl ?_; intro b19 w20 n21)
  (refine lw_init' [_, _, _, _] tabOk rfl rfl rfl rfl rfl rfl n21 rfl ?_; clear n21; clear w20; intro w22 n21)
  have h23 := New.blk n21
  have x24 := New.ext n21
  have p25 := New.pos n21
  have z26 := New.size n21
  clear n21
  replace h14 := Nd.sits.ext h14 x24
  replace h15 := PP.ext h15 x24
  replace h5 := Blk.ext h5 x24
  replace X := Fr.ext X x24
  clear x24
  refine cN (cM rfl rfl (lw_loads_b' [_, _, _, _] tabOk rfl rfl rfl h23 rfl rfl rfl (cM rfl rfl ?_)))
  refine lw_does (does_call (by kernel_rfl) rfl (limit_c _ _ _ _ _ _ _ _ (by assumption) (by omega) (by assumption)) (fun _ _ h => ⟨_, h.1⟩)) rfl ?_ (fun _ h => h)
  rintro _ w29 ⟨⟨⟩, ⟨h27, f28⟩⟩
  have z30 := Fr.size f28
  replace h23 := Blk.fr h23 f28 (by omega)
  replace h14 := Nd.sits.fr h14 f28 (by omega)
  clear h15
  replace h5 := Blk.fr h5 f28 (by omega)
  replace X := Fr.fr X f28 (by omega)
  clear f28
  refine cN (lw_loads_b' [_, _, _, _] tabOk rfl rfl rfl h23 rfl rfl rfl ?_)
  (refine lw_store' [_, _, _, _] [_, _, _, _] tabOk rfl rfl rfl rfl rfl rfl h5 rfl rfl ?_; intro w31 n32)
  have h35 := Put.blk n32
  have f33 := Put.fr n32
  have z34 := Put.size n32
  clear n32 h5
  replace h27 := PP.fr h27 f33 (by omega)
  replace h23 := Blk.fr h23 f33 (by omega)
  replace h14 := Nd.sits.fr h14 f33 (by omega)
  replace X := Fr.fr X f33 (by omega)
  clear f33
  refine cT (cw_ret (qw_retc rfl tabOk rfl rfl rfl h35 rfl ?_))
  rotate_left 1
 exact tree_ret (Nd.sits.wide (by assumption) (fun b h => by omega)) (by assumption) X
set_option maxRecDepth 100000 in
set_option maxHeartbeats 1000000 in
theorem atDecl_c (c : PC) (σ : PS) (w : World) (hP : PP c σ w) :
 Calls Tryz.prog 67 #[.pointer (some ⟨c.pb, 0, none⟩)] w fun r w' => r = .returned (.bool (atDeclP c.ts σ)) ∧ Ext w w' := by
 have X := Ext.refl w
 by_cases h1 : (peekP c.ts σ).text = [105, 110, 116]
 · rw [show atDeclP c.ts σ = true from by simp [atDeclP, hasP, h1]]
   refine calls_in Tryz.func67 Tryz.ntmps67 rfl rfl ?_
   focus
    refine cS (cA rfl rfl (cT (cw_seq (cS (cM rfl rfl ?_)))))
    refine lw_does (does_call (by kernel_rfl) rfl (peek_c _ _ _ (by assumption)) (fun _ _ h => ⟨_, h.1⟩)) rfl ?_ (fun _ h => h)
    rintro _ w2 ⟨⟨⟩, x1⟩
    have z3 := Ext.size x1
    replace hP := PP.ext hP x1
    replace X := Ext.ext X x1
    clear x1
    refine lw_pure (pur_field tabOk rfl rfl rfl rfl rfl rfl) rfl (cT (cw_block (cw_seq (cS (lw_pure (pur_seql rfl rfl) rfl (cA rfl rfl (cT ?_)))))))
    refine cw_yes rfl (by assumption) ?_
    refine cw_skip (qw_then ?_)
    refine cw_yes rfl (by assumption) ?_
    refine cS (cA rfl rfl (cT (cw_ret (qw_block_ret (qw_then_ret (qw_ret1 rfl rfl ?_))))))
    rotate_left 1
   exact ⟨rfl, X⟩
 by_cases h2 : (peekP c.ts σ).text = [97, 114, 114, 97, 121]
 · rw [show atDeclP c.ts σ = true from by simp [atDeclP, hasP, h2]]
   refine calls_in Tryz.func67 Tryz.ntmps67 rfl rfl ?_
   focus
    refine cS (cA rfl rfl (cT (cw_seq (cS (cM rfl rfl ?_)))))
    refine lw_does (does_call (by kernel_rfl) rfl (peek_c _ _ _ (by assumption)) (fun _ _ h => ⟨_, h.1⟩)) rfl ?_ (fun _ h => h)
    rintro _ wa2 ⟨⟨⟩, xa1⟩
    have za3 := Ext.size xa1
    replace hP := PP.ext hP xa1
    replace X := Ext.ext X xa1
    clear xa1
    refine lw_pure (pur_field tabOk rfl rfl rfl rfl rfl rfl) rfl (cT (cw_block (cw_seq (cS (lw_pure (pur_seql rfl rfl) rfl (cA rfl rfl (cT ?_)))))))
    refine cw_no rfl (by assumption) ?_
    refine cS (lw_pure (pur_seql rfl rfl) rfl (cA rfl rfl (cT ?_)))
    refine cw_yes rfl (by assumption) ?_
    refine cw_skip (qw_then ?_)
    refine cw_yes rfl (by assumption) ?_
    refine cS (cA rfl rfl (cT (cw_ret (qw_block_ret (qw_then_ret (qw_ret1 rfl rfl ?_))))))
    rotate_left 1
   exact ⟨rfl, X⟩
 by_cases h3 : (peekP c.ts σ).text = [115, 116, 97, 99, 107]
 · rw [show atDeclP c.ts σ = true from by simp [atDeclP, hasP, h3]]
   refine calls_in Tryz.func67 Tryz.ntmps67 rfl rfl ?_
   focus
    refine cS (cA rfl rfl (cT (cw_seq (cS (cM rfl rfl ?_)))))
    refine lw_does (does_call (by kernel_rfl) rfl (peek_c _ _ _ (by assumption)) (fun _ _ h => ⟨_, h.1⟩)) rfl ?_ (fun _ h => h)
    rintro _ wb2 ⟨⟨⟩, xb1⟩
    have zb3 := Ext.size xb1
    replace hP := PP.ext hP xb1
    replace X := Ext.ext X xb1
    clear xb1
    refine lw_pure (pur_field tabOk rfl rfl rfl rfl rfl rfl) rfl (cT (cw_block (cw_seq (cS (lw_pure (pur_seql rfl rfl) rfl (cA rfl rfl (cT ?_)))))))
    refine cw_no rfl (by assumption) ?_
    refine cS (lw_pure (pur_seql rfl rfl) rfl (cA rfl rfl (cT ?_)))
    refine cw_no rfl (by assumption) ?_
    refine cw_region (lw_pure (pur_seql rfl rfl) rfl (cA rfl rfl (cT ?_)))
    refine cw_yes rfl (by assumption) ?_
    refine cS (cA rfl rfl (cT (cw_ret (qw_block_ret (qw_then_ret (qw_ret1 rfl rfl ?_))))))
    rotate_left 1
   exact ⟨rfl, X⟩
 · rw [show atDeclP c.ts σ = false from by simp [atDeclP, hasP, h1, h2, h3]]
   refine calls_in Tryz.func67 Tryz.ntmps67 rfl rfl ?_
   focus
    refine cS (cA rfl rfl (cT (cw_seq (cS (cM rfl rfl ?_)))))
    refine lw_does (does_call (by kernel_rfl) rfl (peek_c _ _ _ (by assumption)) (fun _ _ h => ⟨_, h.1⟩)) rfl ?_ (fun _ h => h)
    rintro _ wc2 ⟨⟨⟩, xc1⟩
    have zc3 := Ext.size xc1
    replace hP := PP.ext hP xc1
    replace X := Ext.ext X xc1
    clear xc1
    refine lw_pure (pur_field tabOk rfl rfl rfl rfl rfl rfl) rfl (cT (cw_block (cw_seq (cS (lw_pure (pur_seql rfl rfl) rfl (cA rfl rfl (cT ?_)))))))
    refine cw_no rfl (by assumption) ?_
    refine cS (lw_pure (pur_seql rfl rfl) rfl (cA rfl rfl (cT ?_)))
    refine cw_no rfl (by assumption) ?_
    refine cw_region (lw_pure (pur_seql rfl rfl) rfl (cA rfl rfl (cT ?_)))
    refine cw_no rfl (by assumption) ?_
    refine cw_skip (qw_block_norm (qw_then (cS (cA rfl rfl (cT (cw_ret (qw_ret1 rfl rfl ?_)))))))
    rotate_left 1
   exact ⟨rfl, X⟩
set_option maxRecDepth 100000 in
set_option maxHeartbeats 1000000 in
theorem decl_p (c : PC) (σ : PS) (w : World) (hP : PP c σ w) :
 Calls Tryz.prog 70 #[.pointer (some ⟨c.pb, 0, none⟩)] w fun r w' => r = .returned (declP c.ts c.n σ).1.val ∧ PP c (declP c.ts c.n σ).2 w' ∧ Fr (· = c.pb) w w' := by
 have X := Fr.refl (· = c.pb) w
 have hpb := hP.pbB
 have hB := hP.B
 unfold declP
 cases h1 : hasP c.ts σ [105, 110, 116]
 case true =>
  simp only [if_true]
  refine calls_in Tryz.func70 Tryz.ntmps70 rfl rfl ?_
  focus
   refine cS ?_
   (refine lw_alloc' [_, _, _] zOk rfl rfl ?_; intro b1 w2 n3)
   have h5 := New.blk n3
   have x6 := New.ext n3
   have p7 := New.pos n3
   have z8 := New.size n3
   clear n3
   replace hP := PP.ext hP x6
   replace X := Fr.ext X x6
   clear x6
   refine cT (cw_seq (cw_block (cS (cM rfl rfl ?_))))
   refine lw_does (does_call (by kernel_rfl) rfl (accept_t _ _ _ _ (by assumption) (by decide) (by assumption)) (fun _ _ h => ⟨_, h.1⟩)) rfl ?_ (fun _ h => h)
   rintro _ w11 ⟨⟨⟩, ⟨h9, f10⟩⟩
   have z12 := Fr.size f10
   replace h5 := Blk.fr h5 f10 (by omega)
   clear hP
   replace X := Fr.fr X f10 (by omega)
   clear f10
   refine cA rfl rfl (cT (cw_cond_t rfl (cS (cM rfl rfl ?_))))
   refine lw_does (does_call (by kernel_rfl) rfl (name_c _ _ _ (by assumption)) (fun _ _ h => ⟨_, h.1⟩)) rfl ?_ (fun _ h => h)
   rintro _ w15 ⟨⟨⟩, ⟨h13, f14⟩⟩
   have z16 := Fr.size f14
   clear h9
   replace h5 := Blk.fr h5 f14 (by omega)
   replace X := Fr.fr X f14 (by omega)
   clear f14
   refine lw_pure (pur_build' [_, _, _] tabOk zOk rfl rfl rfl rfl) rfl ?_
   (refine lw_store' [_, _, _] [_, _, _] tabOk rfl rfl rfl rfl rfl rfl h5 rfl rfl ?_; intro w17 n18)
   have h21 := Put.blk n18
   have f19 := Put.fr n18
   have z20 := Put.size n18
   clear n18 h5
   replace h13 := PP.fr h13 f19 (by omega)
   replace X := Fr.fr X f19 (by omega)
   clear f19
   refine cT (cw_ret (qw_block_ret (qw_then_ret (qw_retc rfl tabOk rfl rfl rfl h21 rfl ?_))))
   rotate_left 1
  exact ⟨rfl, by assumption, X⟩
 simp only [Bool.false_eq_true, if_false]
 cases h2 : hasP c.ts σ [115, 116, 97, 99, 107]
 case true =>
  simp only [if_true]
  refine calls_in Tryz.func70 Tryz.ntmps70 rfl rfl ?_
  focus
   refine cS ?_
   (refine lw_alloc' [_, _, _] zOk rfl rfl ?_; intro ba1 wa2 na3)
   have ha5 := New.blk na3
   have xa6 := New.ext na3
   have pa7 := New.pos na3
   have za8 := New.size na3
   clear na3
   replace hP := PP.ext hP xa6
   replace X := Fr.ext X xa6
   clear xa6
   refine cT (cw_seq (cw_block (cS (cM rfl rfl ?_))))
   refine lw_does (does_call (by kernel_rfl) rfl (accept_f _ _ _ _ (by assumption) (by decide) (by assumption)) (fun _ _ h => ⟨_, h.1⟩)) rfl ?_ (fun _ h => h)
   rintro _ wa11 ⟨⟨⟩, ⟨ha9, fa10⟩⟩
   have za12 := Fr.size fa10
   replace ha5 := Blk.fr ha5 fa10 (by omega)
   clear hP
   replace X := Fr.fr X fa10 (by omega)
   clear fa10
   refine cA rfl rfl (cT (cw_cond_f rfl (cS (cM rfl rfl ?_))))
   refine lw_does (does_call (by kernel_rfl) rfl (accept_t _ _ _ _ (by assumption) (by decide) (by assumption)) (fun _ _ h => ⟨_, h.1⟩)) rfl ?_ (fun _ h => h)
   rintro _ wa15 ⟨⟨⟩, ⟨ha13, fa14⟩⟩
   have za16 := Fr.size fa14
   clear ha9
   replace ha5 := Blk.fr ha5 fa14 (by omega)
   replace X := Fr.fr X fa14 (by omega)
   clear fa14
   refine cA rfl rfl (cT (cw_cond_t rfl (cS (cM rfl rfl ?_))))
   refine lw_does (does_call (by kernel_rfl) rfl (name_c _ _ _ (by assumption)) (fun _ _ h => ⟨_, h.1⟩)) rfl ?_ (fun _ h => h)
   rintro _ wa19 ⟨⟨⟩, ⟨ha17, fa18⟩⟩
   have za20 := Fr.size fa18
   clear ha13
   replace ha5 := Blk.fr ha5 fa18 (by omega)
   replace X := Fr.fr X fa18 (by omega)
   clear fa18
   refine lw_pure (pur_build' [_, _, _] tabOk zOk rfl rfl rfl rfl) rfl ?_
   (refine lw_store' [_, _, _] [_, _, _] tabOk rfl rfl rfl rfl rfl rfl ha5 rfl rfl ?_; intro wa21 na22)
   have ha25 := Put.blk na22
   have fa23 := Put.fr na22
   have za24 := Put.size na22
   clear na22 ha5
   replace ha17 := PP.fr ha17 fa23 (by omega)
   replace X := Fr.fr X fa23 (by omega)
   clear fa23
   refine cT (cw_ret (qw_block_ret (qw_then_ret (qw_retc rfl tabOk rfl rfl rfl ha25 rfl ?_))))
   rotate_left 1
  exact ⟨rfl, by assumption, X⟩
 simp only [Bool.false_eq_true, if_false]
 cases h3 : hasP c.ts σ [97, 114, 114, 97, 121]
 case true =>
  simp only [if_true]
  refine calls_in Tryz.func70 Tryz.ntmps70 rfl rfl ?_
  focus
   refine cS ?_
   (refine lw_alloc' [_, _, _] zOk rfl rfl ?_; intro bb1 wb2 nb3)
   have hb5 := New.blk nb3
   have xb6 := New.ext nb3
   have pb7 := New.pos nb3
   have zb8 := New.size nb3
   clear nb3
   replace hP := PP.ext hP xb6
   replace X := Fr.ext X xb6
   clear xb6
   refine cT (cw_seq (cw_block (cS (cM rfl rfl ?_))))
   refine lw_does (does_call (by kernel_rfl) rfl (accept_f _ _ _ _ (by assumption) (by decide) (by assumption)) (fun _ _ h => ⟨_, h.1⟩)) rfl ?_ (fun _ h => h)
   rintro _ wb11 ⟨⟨⟩, ⟨hb9, fb10⟩⟩
   have zb12 := Fr.size fb10
   replace hb5 := Blk.fr hb5 fb10 (by omega)
   clear hP
   replace X := Fr.fr X fb10 (by omega)
   clear fb10
   refine cA rfl rfl (cT (cw_cond_f rfl (cS (cM rfl rfl ?_))))
   refine lw_does (does_call (by kernel_rfl) rfl (accept_f _ _ _ _ (by assumption) (by decide) (by assumption)) (fun _ _ h => ⟨_, h.1⟩)) rfl ?_ (fun _ h => h)
   rintro _ wb15 ⟨⟨⟩, ⟨hb13, fb14⟩⟩
   have zb16 := Fr.size fb14
   clear hb9
   replace hb5 := Blk.fr hb5 fb14 (by omega)
   replace X := Fr.fr X fb14 (by omega)
   clear fb14
   refine cA rfl rfl (cT (cw_cond_f rfl (cS (cM rfl rfl ?_))))
   refine lw_does (does_call (by kernel_rfl) rfl (accept_t _ _ _ _ (by assumption) (by decide) (by assumption)) (fun _ _ h => ⟨_, h.1⟩)) rfl ?_ (fun _ h => h)
   rintro _ wb19 ⟨⟨⟩, ⟨hb17, fb18⟩⟩
   have zb20 := Fr.size fb18
   clear hb13
   replace hb5 := Blk.fr hb5 fb18 (by omega)
   replace X := Fr.fr X fb18 (by omega)
   clear fb18
   refine cA rfl rfl (cT (cw_cond_t rfl (cS (cM rfl rfl ?_))))
   refine lw_does (does_call (by kernel_rfl) rfl (name_c _ _ _ (by assumption)) (fun _ _ h => ⟨_, h.1⟩)) rfl ?_ (fun _ h => h)
   rintro _ wb23 ⟨⟨⟩, ⟨hb21, fb22⟩⟩
   have zb24 := Fr.size fb22
   clear hb17
   replace hb5 := Blk.fr hb5 fb22 (by omega)
   replace X := Fr.fr X fb22 (by omega)
   clear fb22
   refine lw_pure (pur_build' [_, _, _] tabOk zOk rfl rfl rfl rfl) rfl ?_
   (refine lw_alloc' [_, _, _] zOk rfl rfl ?_; intro bb25 wb26 nb27)
   (refine lw_init' [_, _, _] tabOk rfl rfl rfl rfl rfl rfl nb27 rfl ?_; clear nb27; clear wb26; intro wb28 nb27)
   have hb29 := New.blk nb27
   have xb30 := New.ext nb27
   have pb31 := New.pos nb27
   have zb32 := New.size nb27
   clear nb27
   replace hb21 := PP.ext hb21 xb30
   replace hb5 := Blk.ext hb5 xb30
   replace X := Fr.ext X xb30
   clear xb30
   refine cN (cM rfl rfl ?_)
   refine lw_does (does_call (by kernel_rfl) rfl (expect_c _ _ _ _ (by assumption) (by decide)) (fun _ _ h => ⟨_, h.1⟩)) rfl ?_ (fun _ h => h)
   rintro _ wb35 ⟨⟨⟩, ⟨hb33, fb34⟩⟩
   have zb36 := Fr.size fb34
   replace hb29 := Blk.fr hb29 fb34 (by omega)
   clear hb21
   replace hb5 := Blk.fr hb5 fb34 (by omega)
   replace X := Fr.fr X fb34 (by omega)
   clear fb34
   refine cN (cM rfl rfl ?_)
   refine lw_does (does_call (by kernel_rfl) rfl (number_c _ _ _ _ _ (by assumption) (by decide)) (fun _ _ h => ⟨_, h.1⟩)) rfl ?_ (fun _ h => h)
   rintro _ wb39 ⟨⟨⟩, ⟨hb37, fb38⟩⟩
   have zb40 := Fr.size fb38
   clear hb33
   replace hb29 := Blk.fr hb29 fb38 (by omega)
   replace hb5 := Blk.fr hb5 fb38 (by omega)
   replace X := Fr.fr X fb38 (by omega)
   clear fb38
   refine lw_pure (pur_fieldAddr tabOk rfl rfl rfl) rfl ?_
   (refine lw_store' [_] [_, _, _] tabOk rfl rfl rfl rfl rfl rfl hb29 rfl rfl ?_; intro wb41 nb42)
   have hb45 := Put.blk nb42
   have fb43 := Put.fr nb42
   have zb44 := Put.size nb42
   clear nb42 hb29
   replace hb37 := PP.fr hb37 fb43 (by omega)
   replace hb5 := Blk.fr hb5 fb43 (by omega)
   replace X := Fr.fr X fb43 (by omega)
   clear fb43
   refine cN (cM rfl rfl ?_)
   refine lw_does (does_call (by kernel_rfl) rfl (expect_c _ _ _ _ (by assumption) (by decide)) (fun _ _ h => ⟨_, h.1⟩)) rfl ?_ (fun _ h => h)
   rintro _ wb48 ⟨⟨⟩, ⟨hb46, fb47⟩⟩
   have zb49 := Fr.size fb47
   replace hb45 := Blk.fr hb45 fb47 (by omega)
   clear hb37
   replace hb5 := Blk.fr hb5 fb47 (by omega)
   replace X := Fr.fr X fb47 (by omega)
   clear fb47
   refine cN (lw_loads_b' [_, _, _] tabOk rfl rfl rfl hb45 rfl rfl rfl ?_)
   (refine lw_store' [_, _, _] [_, _, _] tabOk rfl rfl rfl rfl rfl rfl hb5 rfl rfl ?_; intro wb50 nb51)
   have hb54 := Put.blk nb51
   have fb52 := Put.fr nb51
   have zb53 := Put.size nb51
   clear nb51 hb5
   replace hb46 := PP.fr hb46 fb52 (by omega)
   replace hb45 := Blk.fr hb45 fb52 (by omega)
   replace X := Fr.fr X fb52 (by omega)
   clear fb52
   refine cT (cw_ret (qw_block_ret (qw_then_ret (qw_retc rfl tabOk rfl rfl rfl hb54 rfl ?_))))
   rotate_left 1
  exact ⟨rfl, by assumption, X⟩
 simp only [Bool.false_eq_true, if_false]
 refine calls_in Tryz.func70 Tryz.ntmps70 rfl rfl ?_
 focus
  refine cS ?_
  (refine lw_alloc' [_, _, _] zOk rfl rfl ?_; intro bc1 wc2 nc3)
  have hc5 := New.blk nc3
  have xc6 := New.ext nc3
  have pc7 := New.pos nc3
  have zc8 := New.size nc3
  clear nc3
  replace hP := PP.ext hP xc6
  replace X := Fr.ext X xc6
  clear xc6
  refine cT (cw_seq (cw_block (cS (cM rfl rfl ?_))))
  refine lw_does (does_call (by kernel_rfl) rfl (accept_f _ _ _ _ (by assumption) (by decide) (by assumption)) (fun _ _ h => ⟨_, h.1⟩)) rfl ?_ (fun _ h => h)
  rintro _ wc11 ⟨⟨⟩, ⟨hc9, fc10⟩⟩
  have zc12 := Fr.size fc10
  replace hc5 := Blk.fr hc5 fc10 (by omega)
  clear hP
  replace X := Fr.fr X fc10 (by omega)
  clear fc10
  refine cA rfl rfl (cT (cw_cond_f rfl (cS (cM rfl rfl ?_))))
  refine lw_does (does_call (by kernel_rfl) rfl (accept_f _ _ _ _ (by assumption) (by decide) (by assumption)) (fun _ _ h => ⟨_, h.1⟩)) rfl ?_ (fun _ h => h)
  rintro _ wc15 ⟨⟨⟩, ⟨hc13, fc14⟩⟩
  have zc16 := Fr.size fc14
  clear hc9
  replace hc5 := Blk.fr hc5 fc14 (by omega)
  replace X := Fr.fr X fc14 (by omega)
  clear fc14
  refine cA rfl rfl (cT (cw_cond_f rfl (cS (cM rfl rfl ?_))))
  refine lw_does (does_call (by kernel_rfl) rfl (accept_f _ _ _ _ (by assumption) (by decide) (by assumption)) (fun _ _ h => ⟨_, h.1⟩)) rfl ?_ (fun _ h => h)
  rintro _ wc19 ⟨⟨⟩, ⟨hc17, fc18⟩⟩
  have zc20 := Fr.size fc18
  clear hc13
  replace hc5 := Blk.fr hc5 fc18 (by omega)
  replace X := Fr.fr X fc18 (by omega)
  clear fc18
  refine cA rfl rfl (cT (cw_cond_f rfl (cw_skip (qw_block_norm (qw_then (cS (cM rfl rfl ?_)))))))
  refine lw_does (does_call (by kernel_rfl) rfl (unexpected_c _ _ _ (by assumption)) (fun _ _ h => ⟨_, h.1⟩)) rfl ?_ (fun _ h => h)
  rintro _ wc23 ⟨⟨⟩, ⟨hc21, fc22⟩⟩
  have zc24 := Fr.size fc22
  clear hc17
  replace hc5 := Blk.fr hc5 fc22 (by omega)
  replace X := Fr.fr X fc22 (by omega)
  clear fc22
  refine cN (lw_pure (pur_build' [_, _, _] tabOk zOk rfl rfl rfl rfl) rfl ?_)
  (refine lw_store' [_, _, _] [_, _, _] tabOk rfl rfl rfl rfl rfl rfl hc5 rfl rfl ?_; intro wc25 nc26)
  have hc29 := Put.blk nc26
  have fc27 := Put.fr nc26
  have zc28 := Put.size nc26
  clear nc26 hc5
  replace hc21 := PP.fr hc21 fc27 (by omega)
  replace X := Fr.fr X fc27 (by omega)
  clear fc27
  refine cT (cw_ret (qw_retc rfl tabOk rfl rfl rfl hc29 rfl ?_))
  rotate_left 1
 exact ⟨rfl, by assumption, X⟩
end Bk
namespace Bk
open Go
section
variable {ts : List Tok} {n : Int}
theorem REq.of_err {α : Type} {a b : α × PS} {σ : PS} (e : σ.err ≠ 0) (ha : a.2 = σ) (hb : b.2 = σ) : REq a b := ⟨by rw [ha, hb], by rw [ha, hb], fun z => by rw [ha] at z; exact absurd z e⟩
theorem fail_on {σ : PS} {off e : Int} (h : σ.err = 0) : failP σ off e = ⟨σ.at_, off, e⟩ := by unfold failP; rw [if_pos h]
theorem fail_off {σ : PS} {off e : Int} (h : σ.err ≠ 0) : failP σ off e = σ := by unfold failP; rw [if_neg h]
theorem peek_at {σ : PS} (h : In ts σ) : peekP ts σ = ts.getD σ.at_ Tok.zero := by
 unfold peekP
 rw [if_neg]
 rintro (h' | h')
 · exact h' h.1
 · have := h.2; omega
theorem has_err {σ : PS} {t : List UInt8} (e : σ.err ≠ 0) (ht : t ≠ []) : hasP ts σ t = false := by
 unfold hasP
 rw [peek_err e]
 exact decide_eq_false (fun h => ht h.symm)
theorem arg_err {σ : PS} (h : σ.at_ ≤ ts.length) (e : σ.err ≠ 0) : (argP ts n σ).2 = σ := (arg_le h).err e
theorem args_eq (m : Nat) : ∀ (acc : List Nd) (σ : PS), σ.at_ ≤ ts.length → mS ts σ ≤ m → acc.length ≤ 8 → ∀ k k', m + 1 ≤ k → m + 1 ≤ k' →
 REq (argsP ts n k (acc ++ [(argP ts n (if acc.length = 8 ∧ isName (peekP ts σ).text = true then failP σ (peekP ts σ).pos 5 else σ)).1]) (argP ts n (if acc.length = 8 ∧ isName (peekP ts σ).text = true then failP σ (peekP ts σ).pos 5 else σ)).2) (argsR ts n k' acc σ) := by
 induction m using Nat.strongRecOn with
 | _ m ih =>
  intro acc σ h hm hacc k k' hk hk'
  cases k with
  | zero => omega
  | succ k =>
   cases k' with
   | zero => omega
   | succ k' =>
    by_cases e : σ.err = 0
    · rw [argsR, if_neg (show ¬ σ.err ≠ 0 from fun c => c e)]
      simp only
      by_cases h8 : acc.length = 8
      · by_cases hnm : isName (peekP ts σ).text = true
        · have hin := peek_in h (Or.inl (isName_ne hnm))
          have hfe : (failP σ (peekP ts σ).pos 5).err ≠ 0 := fail_err (by decide)
          have hfw := (fail_le (off := (peekP ts σ).pos) (e := 5) h).wf
          rw [if_pos (show acc.length = 8 ∧ isName (peekP ts σ).text = true from ⟨h8, hnm⟩), if_pos h8, arg_err hfw hfe]
          have hla : (argsP ts n (k + 1) (acc ++ [(argP ts n (failP σ (peekP ts σ).pos 5)).1]) (failP σ (peekP ts σ).pos 5)).2 = failP σ (peekP ts σ).pos 5 := (args_le _ _ _ hfw).err hfe
          have hra : (argP ts n σ).2 = nextP σ := by unfold argP nameP; rw [if_pos hnm]
          have hpos : argsR.posR ts n σ = (peekP ts σ).pos := by unfold argsR.posR; rw [if_neg (by have := hin.2; omega), peek_at hin]
          have hf2 : failP (nextP σ) (argsR.posR ts n σ) 5 = ⟨σ.at_ + 1, (peekP ts σ).pos, 5⟩ := by rw [fail_on (by simpa [nextP] using e), hpos]; rfl
          rw [hra, hf2, if_neg (by rw [has_err (by simp) (by decide)]; simp)]
          refine ⟨?_, ?_, fun z => ?_⟩
          · rw [hla, fail_on e]
          · rw [hla, fail_on e]
          · rw [hla] at z; exact absurd z hfe
        · have hue : (argP ts n σ).2.err ≠ 0 := by unfold argP nameP; rw [if_neg hnm]; exact unexp_err
          have haw := (arg_le (n := n) h).wf
          rw [if_neg (show ¬ (acc.length = 8 ∧ isName (peekP ts σ).text = true) from fun c => hnm c.2), if_pos h8, fail_off hue, if_neg (by rw [has_err hue (by decide)]; simp)]
          exact REq.of_err hue ((args_le _ _ _ haw).err hue) rfl
      · rw [if_neg (show ¬ (acc.length = 8 ∧ isName (peekP ts σ).text = true) from fun c => h8 c.1), if_neg h8]
        have ha := arg_le (n := n) h
        by_cases hc : hasP ts (argP ts n σ).2 [44] = true
        · rw [if_pos hc, argsP, if_pos hc]
          have hin := has_in ha.wf hc (by decide)
          have hmn := mS_next hin
          have hml := mS_le ha
          exact ih (mS ts (nextP (argP ts n σ).2)) (by omega) (acc ++ [(argP ts n σ).1]) (nextP (argP ts n σ).2) (next_le hin).wf (Nat.le_refl _) (by simp; omega) k k' (by omega) (by omega)
        · rw [if_neg hc, argsP, if_neg hc]
          exact REq.refl _
    · have hno : ¬ (acc.length = 8 ∧ isName (peekP ts σ).text = true) := fun c => by rw [peek_err e] at c; exact absurd c.2 (by decide)
      rw [if_neg hno, argsR, if_pos e]
      have ha := arg_err (n := n) h e
      refine REq.of_err e ?_ rfl
      rw [ha]
      exact (args_le _ _ _ h).err e
theorem call_eq {k k' : Nat} {kind : Int} {σ : PS} (hn : In ts σ) (hk : mS ts σ + 1 ≤ k) (hk' : mS ts σ + 1 ≤ k') : REq (callP ts n k kind σ) (callR ts n k' kind σ) := by
 unfold callP callR
 simp only
 have h1 := next_le hn
 have h2 := h1.trans (name_le (n := n) h1.wf)
 have h3 := h2.trans (expect_le (n := n) (t := [40]) h2.wf (by decide))
 generalize hσ : expectP ts n (nameP ts n (nextP σ)).2 [40] = σ1 at h3 ⊢
 split
 · exact REq.refl _
 · have hm := mS_le h3
   have hA := args_eq (n := n) (mS ts σ1) [] σ1 h3.wf (Nat.le_refl _) (by simp) k k' (by omega) (by omega)
   simp only [List.length_nil, show ((0 : Nat) = 8) = False from by simp, false_and, if_false, List.nil_append] at hA
   have ha := arg_le (n := n) h3.wf
   refine REq.bind hA (f := fun a => (Nd.mk kind 0 (nameP ts n (nextP σ)).1 a.1, expectP ts n a.2 [41])) (g := fun b => (Nd.mk kind 0 (nameP ts n (nextP σ)).1 b.1, expectP ts n b.2 [41])) (fun e => expect_err (args_le _ _ _ ha.wf).wf (by decide) e) (fun e => expect_err (argsR_le _ _ _ h3.wf).wf (by decide) e) (fun e hab => ?_)
   rw [← hab]; exact REq.refl _
theorem place_eq (hd : DigitKinds ts) {k k' : Nat} {σ : PS} (h : σ.at_ ≤ ts.length) (hk : 4 * mS ts σ + 1 ≤ k) (hk' : 12 * mS ts σ + 1 ≤ k') : REq (placeP ts n k σ) (placeR ts n k' σ) := (expr_eq hd _ σ h (Nat.le_refl _)).1 k k' hk hk'
theorem expr1_eq (hd : DigitKinds ts) {k k' : Nat} {σ : PS} (h : σ.at_ ≤ ts.length) (hk : 4 * mS ts σ + 4 ≤ k) (hk' : 12 * mS ts σ + 11 ≤ k') : REq (exprP ts n k 1 σ) (exprR ts n k' 1 σ) := (expr_eq hd _ σ h (Nat.le_refl _)).2.2 1 k k' (by omega) (by omega) hk (by omega)
theorem stack_eq (hd : DigitKinds ts) {k k' : Nat} {kind : Int} {σ : PS} (hn : In ts σ) (hk : 4 * mS ts σ + 1 ≤ k) (hk' : 12 * mS ts σ + 1 ≤ k') : REq (stackP ts n k kind σ) (stackR ts n k' kind σ) := by
 have h1 := next_le hn
 have hm := mS_next hn
 have hp := place_le (n := n) (k := k) h1.wf
 have hq := placeR_le (n := n) (k := k') h1.wf
 unfold stackP stackR
 refine REq.bind (place_eq (n := n) hd h1.wf (by omega) (by omega)) (f := fun a => (Nd.mk kind 0 (nameP ts n (expectP ts n a.2 [44])).1 [a.1], (nameP ts n (expectP ts n a.2 [44])).2)) (g := fun b => (Nd.mk kind 0 (nameP ts n (expectP ts n b.2 [44])).1 [b.1], (nameP ts n (expectP ts n b.2 [44])).2)) (fun e => ?_) (fun e => ?_) (fun e hab => ?_)
 · simp only; rw [expect_err hp.wf (by decide) e]; exact (name_le hp.wf).err e
 · simp only; rw [expect_err hq.wf (by decide) e]; exact (name_le hq.wf).err e
 · rw [← hab]; exact REq.refl _
theorem tape_eq (hd : DigitKinds ts) {k k' : Nat} {kind : Int} {σ : PS} (hn : In ts σ) (hk : 4 * mS ts σ + 1 ≤ k) (hk' : 12 * mS ts σ + 1 ≤ k') : REq (tapeP ts n k kind σ) (tapeR ts n k' kind σ) := by
 have h1 := next_le hn
 have hm := mS_next hn
 unfold tapeP tapeR
 refine REq.bind (place_eq (n := n) hd h1.wf (by omega) (by omega)) (f := fun a => (Nd.mk kind 0 [] [a.1], a.2)) (g := fun b => (Nd.mk kind 0 [] [b.1], b.2)) (fun e => rfl) (fun e => rfl) (fun e hab => ?_)
 rw [← hab]; exact REq.refl _
theorem update_eq (hd : DigitKinds ts) {k k' : Nat} {σ : PS} (h : σ.at_ ≤ ts.length) (hk : 4 * mS ts σ + 4 ≤ k) (hk' : 12 * mS ts σ + 11 ≤ k') : REq (updateP ts n k σ) (updateR ts n k' σ) := by
 have hp := place_le (n := n) (k := k) h
 have hq := placeR_le (n := n) (k := k') h
 unfold updateP updateR
 refine REq.bind (place_eq (n := n) hd h (by omega) (by omega)) (f := fun p => if hasP ts p.2 [60, 61, 62] then (Nd.mk 43 0 [] [p.1, (placeP ts n k (nextP p.2)).1], (placeP ts n k (nextP p.2)).2)
  else if updKind (peekP ts p.2).text = 0 then (Nd.mk 0 0 [] [], unexpP ts n p.2)
  else (Nd.mk (updKind (peekP ts p.2).text) 0 [] [p.1, (exprP ts n k 1 (nextP p.2)).1], (exprP ts n k 1 (nextP p.2)).2))
  (g := fun p => if (peekP ts p.2).text = [60, 61, 62] then (Nd.mk 43 0 [] [p.1, (placeR ts n k' (nextP p.2)).1], (placeR ts n k' (nextP p.2)).2)
   else if (peekP ts p.2).text = [43, 61] ∨ (peekP ts p.2).text = [45, 61] ∨ (peekP ts p.2).text = [94, 61] then (Nd.mk (updKind (peekP ts p.2).text) 0 [] [p.1, (exprR ts n k' 1 (nextP p.2)).1], (exprR ts n k' 1 (nextP p.2)).2)
   else (Nd.mk 56 0 [] [p.1, (exprR ts n k' 1 (expectP ts n p.2 [58, 61])).1], (exprR ts n k' 1 (expectP ts n p.2 [58, 61])).2)) (fun e => ?_) (fun e => ?_) (fun e hab => ?_)
 · rw [has_err e (by decide), peek_err e]
   simp only [Bool.false_eq_true, if_false]
   rw [if_pos (by decide)]
   exact (unexp_le hp.wf).err e
 · rw [peek_err e, if_neg (by decide), if_neg (by decide)]
   simp only
   rw [expect_err hq.wf (by decide) e]
   exact (exprR_le hq.wf).err e
 · rw [← hab]
   have hm := mS_le hp
   generalize placeP ts n k σ = p at *
   by_cases c1 : (peekP ts p.2).text = [60, 61, 62]
   · have c1' : hasP ts p.2 [60, 61, 62] = true := decide_eq_true c1
     have hin := has_in hp.wf c1' (by decide)
     have hmn := mS_next hin
     rw [if_pos c1', if_pos c1]
     refine REq.bind (place_eq (n := n) hd (next_le hin).wf (by omega) (by omega)) (f := fun a => (Nd.mk 43 0 [] [p.1, a.1], a.2)) (g := fun b => (Nd.mk 43 0 [] [p.1, b.1], b.2)) (fun e => rfl) (fun e => rfl) (fun e hab => ?_)
     rw [← hab]; exact REq.refl _
   · have c1' : ¬ hasP ts p.2 [60, 61, 62] = true := fun c => c1 (of_decide_eq_true c)
     rw [if_neg c1', if_neg c1]
     have hex : ∀ kd : Int, In ts p.2 → REq ((Nd.mk kd 0 [] [p.1, (exprP ts n k 1 (nextP p.2)).1], (exprP ts n k 1 (nextP p.2)).2) : Nd × PS) (Nd.mk kd 0 [] [p.1, (exprR ts n k' 1 (nextP p.2)).1], (exprR ts n k' 1 (nextP p.2)).2) := fun kd hin => by
      have hmn := mS_next hin
      refine REq.bind (expr1_eq (n := n) hd (next_le hin).wf (by omega) (by omega)) (f := fun a => (Nd.mk kd 0 [] [p.1, a.1], a.2)) (g := fun b => (Nd.mk kd 0 [] [p.1, b.1], b.2)) (fun e => rfl) (fun e => rfl) (fun e hab => ?_)
      rw [← hab]; exact REq.refl _
     by_cases c2 : (peekP ts p.2).text = [43, 61] ∨ (peekP ts p.2).text = [45, 61] ∨ (peekP ts p.2).text = [94, 61]
     · have hk0 : ¬ updKind (peekP ts p.2).text = 0 := by rcases c2 with c | c | c <;> (rw [c]; decide)
       rw [if_neg hk0, if_pos c2]
       exact hex _ (peek_in hp.wf (Or.inl (upd_ne hk0)))
     · rw [if_neg c2]
       by_cases c3 : (peekP ts p.2).text = [58, 61]
       · have hk0 : updKind (peekP ts p.2).text = 56 := by rw [c3]; decide
         have c3' : hasP ts p.2 [58, 61] = true := decide_eq_true c3
         rw [if_neg (by rw [hk0]; decide), hk0, show expectP ts n p.2 [58, 61] = nextP p.2 from by unfold expectP; rw [if_pos c3']]
         exact hex 56 (has_in hp.wf c3' (by decide))
       · have hk0 : updKind (peekP ts p.2).text = 0 := by
          unfold updKind
          rw [if_neg (fun c => c2 (Or.inl c)), if_neg (fun c => c2 (Or.inr (Or.inl c))), if_neg (fun c => c2 (Or.inr (Or.inr c))), if_neg c3]
         have c3' : ¬ hasP ts p.2 [58, 61] = true := fun c => c3 (of_decide_eq_true c)
         rw [if_pos hk0, show expectP ts n p.2 [58, 61] = unexpP ts n p.2 from by unfold expectP; rw [if_neg c3']]
         have hue : (unexpP ts n p.2).err ≠ 0 := unexp_err
         exact REq.of_err hue rfl ((exprR_le (unexp_le hp.wf).wf).err hue)
theorem block_le {k : Nat} {σ : PS} (h : σ.at_ ≤ ts.length) : Le ts σ (blockP ts n k σ).2 := (stmt_inv k).2.2.2.1 σ h
theorem body_le {k : Nat} {σ : PS} (h : σ.at_ ≤ ts.length) : Le ts σ (bodyR ts n k σ).2 := (stmtR_inv k).2.2.2.1 σ h
theorem last_eq (hd : DigitKinds ts) {k k' : Nat} {σ : PS} (h : σ.at_ ≤ ts.length) (hk : 4 * mS ts σ + 4 ≤ k) (hk' : 12 * mS ts σ + 11 ≤ k') (F : Nd → Nd) : REq ((F (exprP ts n k 1 σ).1, (exprP ts n k 1 σ).2) : Nd × PS) (F (exprR ts n k' 1 σ).1, (exprR ts n k' 1 σ).2) := by
 refine REq.bind (expr1_eq (n := n) hd h hk hk') (f := fun a => (F a.1, a.2)) (g := fun b => (F b.1, b.2)) (fun e => rfl) (fun e => rfl) (fun e hab => ?_)
 rw [← hab]; exact REq.refl _
theorem branches_eq (hd : DigitKinds ts) {k k' : Nat} {kind : Int} {mid last : List UInt8} {σ : PS} (hn : In ts σ) (hmid : mid ≠ []) (hlast : last ≠ [])
 (IB : ∀ σ', σ'.at_ ≤ ts.length → mS ts σ' < mS ts σ → ∀ k k', 4 * mS ts σ' + 8 ≤ k → 12 * mS ts σ' + 16 ≤ k' → REq (blockP ts n k σ') (bodyR ts n k' σ'))
 (hk : 4 * mS ts σ + 5 ≤ k) (hk' : 12 * mS ts σ + 13 ≤ k') : REq (branchesP ts n k kind mid last σ) (branchesR ts n k' kind mid last σ) := by
 have hm := mS_next hn
 have h1 := next_le hn
 cases k with
 | zero => omega
 | succ k =>
  cases k' with
  | zero => omega
  | succ k' =>
   rw [branchesP, branchesR]
   have ha := expr_le (n := n) (k := k) (lv := 1) h1.wf
   have ha' := exprR_le (n := n) (k := k') (lv := 1) h1.wf
   have hma := mS_le ha
   refine REq.bind (expr1_eq (n := n) hd h1.wf (by omega) (by omega)) (f := fun a => (Nd.mk kind 0 [] [a.1, (blockP ts n k a.2).1, (blockP ts n k (expectP ts n (blockP ts n k a.2).2 mid)).1, (exprP ts n k 1 (expectP ts n (blockP ts n k (expectP ts n (blockP ts n k a.2).2 mid)).2 last)).1], (exprP ts n k 1 (expectP ts n (blockP ts n k (expectP ts n (blockP ts n k a.2).2 mid)).2 last)).2))
    (g := fun a => (Nd.mk kind 0 [] [a.1, (bodyR ts n k' a.2).1, (bodyR ts n k' (expectP ts n (bodyR ts n k' a.2).2 mid)).1, (exprR ts n k' 1 (expectP ts n (bodyR ts n k' (expectP ts n (bodyR ts n k' a.2).2 mid)).2 last)).1], (exprR ts n k' 1 (expectP ts n (bodyR ts n k' (expectP ts n (bodyR ts n k' a.2).2 mid)).2 last)).2)) (fun e => ?_) (fun e => ?_) (fun e hab => ?_)
   · have g1 := block_le (n := n) (k := k) ha.wf
     have g2 := g1.trans (expect_le (n := n) (t := mid) g1.wf hmid)
     have g3 := g2.trans (block_le (n := n) (k := k) g2.wf)
     have g4 := g3.trans (expect_le (n := n) (t := last) g3.wf hlast)
     exact (g4.trans (expr_le g4.wf)).err e
   · have g1 := body_le (n := n) (k := k') ha'.wf
     have g2 := g1.trans (expect_le (n := n) (t := mid) g1.wf hmid)
     have g3 := g2.trans (body_le (n := n) (k := k') g2.wf)
     have g4 := g3.trans (expect_le (n := n) (t := last) g3.wf hlast)
     exact (g4.trans (exprR_le g4.wf)).err e
   · rw [← hab]
     generalize exprP ts n k 1 (nextP σ) = a at *
     have g1 := block_le (n := n) (k := k) ha.wf
     have g1' := body_le (n := n) (k := k') ha.wf
     have hm1 := mS_le g1
     refine REq.bind (IB a.2 ha.wf (by omega) k k' (by omega) (by omega)) (f := fun x => (Nd.mk kind 0 [] [a.1, x.1, (blockP ts n k (expectP ts n x.2 mid)).1, (exprP ts n k 1 (expectP ts n (blockP ts n k (expectP ts n x.2 mid)).2 last)).1], (exprP ts n k 1 (expectP ts n (blockP ts n k (expectP ts n x.2 mid)).2 last)).2))
      (g := fun x => (Nd.mk kind 0 [] [a.1, x.1, (bodyR ts n k' (expectP ts n x.2 mid)).1, (exprR ts n k' 1 (expectP ts n (bodyR ts n k' (expectP ts n x.2 mid)).2 last)).1], (exprR ts n k' 1 (expectP ts n (bodyR ts n k' (expectP ts n x.2 mid)).2 last)).2)) (fun e => ?_) (fun e => ?_) (fun e hab => ?_)
     · have g2 := expect_le (n := n) (t := mid) g1.wf hmid
       have g3 := g2.trans (block_le (n := n) (k := k) g2.wf)
       have g4 := g3.trans (expect_le (n := n) (t := last) g3.wf hlast)
       exact (g4.trans (expr_le g4.wf)).err e
     · have g2 := expect_le (n := n) (t := mid) g1'.wf hmid
       have g3 := g2.trans (body_le (n := n) (k := k') g2.wf)
       have g4 := g3.trans (expect_le (n := n) (t := last) g3.wf hlast)
       exact (g4.trans (exprR_le g4.wf)).err e
     · rw [← hab]
       generalize blockP ts n k a.2 = x at *
       have g2 := expect_le (n := n) (t := mid) g1.wf hmid
       have hm2 := mS_le g2
       have g3 := block_le (n := n) (k := k) g2.wf
       have g3' := body_le (n := n) (k := k') g2.wf
       have hm3 := mS_le g3
       refine REq.bind (IB _ g2.wf (by omega) k k' (by omega) (by omega)) (f := fun y => (Nd.mk kind 0 [] [a.1, x.1, y.1, (exprP ts n k 1 (expectP ts n y.2 last)).1], (exprP ts n k 1 (expectP ts n y.2 last)).2))
        (g := fun y => (Nd.mk kind 0 [] [a.1, x.1, y.1, (exprR ts n k' 1 (expectP ts n y.2 last)).1], (exprR ts n k' 1 (expectP ts n y.2 last)).2)) (fun e => ?_) (fun e => ?_) (fun e hab => ?_)
       · have g4 := expect_le (n := n) (t := last) g3.wf hlast
         exact (g4.trans (expr_le g4.wf)).err e
       · have g4 := expect_le (n := n) (t := last) g3'.wf hlast
         exact (g4.trans (exprR_le g4.wf)).err e
       · rw [← hab]
         generalize blockP ts n k (expectP ts n x.2 mid) = y at *
         have g4 := expect_le (n := n) (t := last) g3.wf hlast
         have hm4 := mS_le g4
         exact last_eq hd g4.wf (by omega) (by omega) (fun z => Nd.mk kind 0 [] [a.1, x.1, y.1, z])
theorem local_eq (hd : DigitKinds ts) {k k' : Nat} {σ : PS} (hn : In ts σ)
 (IB : ∀ σ', σ'.at_ ≤ ts.length → mS ts σ' < mS ts σ → ∀ k k', 4 * mS ts σ' + 8 ≤ k → 12 * mS ts σ' + 16 ≤ k' → REq (blockP ts n k σ') (bodyR ts n k' σ'))
 (hk : 4 * mS ts σ + 5 ≤ k) (hk' : 12 * mS ts σ + 13 ≤ k') : REq (localP ts n k σ) (localR ts n k' σ) := by
 have hm := mS_next hn
 have h1 := next_le hn
 cases k with
 | zero => omega
 | succ k =>
  cases k' with
  | zero => omega
  | succ k' =>
   rw [localP, localR]
   split
   · rename_i hh
     have hin := has_in h1.wf hh (by decide)
     have hm2 := mS_next hin
     have h2 := next_le hin
     have h3 := name_le (n := n) h2.wf
     have hm3 := mS_le h3
     refine REq.bind (IB _ h3.wf (by omega) k k' (by omega) (by omega)) (f := fun x => (Nd.mk 55 0 (nameP ts n (nextP (nextP σ))).1 [x.1], x.2)) (g := fun x => (Nd.mk 55 0 (nameP ts n (nextP (nextP σ))).1 [x.1], x.2)) (fun e => rfl) (fun e => rfl) (fun e hab => ?_)
     rw [← hab]; exact REq.refl _
   · have h2 := name_le (n := n) h1.wf
     have h3 := h2.trans (expect_le (n := n) (t := [61]) h2.wf (by decide))
     have hm3 := mS_le h3
     dsimp only
     generalize (nameP ts n (nextP σ)).1 = nm
     generalize expectP ts n (nameP ts n (nextP σ)).2 [61] = τ at *
     have ha := expr_le (n := n) (k := k) (lv := 1) h3.wf
     have ha' := exprR_le (n := n) (k := k') (lv := 1) h3.wf
     have hma := mS_le ha
     refine REq.bind (expr1_eq (n := n) (k := k) (k' := k') hd h3.wf (by omega) (by omega)) (f := fun a => (Nd.mk 54 0 nm [a.1, (blockP ts n k a.2).1, (exprP ts n k 1 (expectP ts n (blockP ts n k a.2).2 [100, 101, 108, 111, 99, 97, 108])).1], (exprP ts n k 1 (expectP ts n (blockP ts n k a.2).2 [100, 101, 108, 111, 99, 97, 108])).2))
      (g := fun a => (Nd.mk 54 0 nm [a.1, (bodyR ts n k' a.2).1, (exprR ts n k' 1 (expectP ts n (bodyR ts n k' a.2).2 [100, 101, 108, 111, 99, 97, 108])).1], (exprR ts n k' 1 (expectP ts n (bodyR ts n k' a.2).2 [100, 101, 108, 111, 99, 97, 108])).2)) (fun e => ?_) (fun e => ?_) (fun e hab => ?_)
     · have g1 := block_le (n := n) (k := k) ha.wf
       have g2 := g1.trans (expect_le (n := n) (t := [100, 101, 108, 111, 99, 97, 108]) g1.wf (by decide))
       exact (g2.trans (expr_le g2.wf)).err e
     · have g1 := body_le (n := n) (k := k') ha'.wf
       have g2 := g1.trans (expect_le (n := n) (t := [100, 101, 108, 111, 99, 97, 108]) g1.wf (by decide))
       exact (g2.trans (exprR_le g2.wf)).err e
     · rw [← hab]
       generalize exprP ts n k 1 τ = a at *
       have g1 := block_le (n := n) (k := k) ha.wf
       have g1' := body_le (n := n) (k := k') ha.wf
       have hm4 := mS_le g1
       refine REq.bind (IB a.2 ha.wf (by omega) k k' (by omega) (by omega)) (f := fun x => (Nd.mk 54 0 nm [a.1, x.1, (exprP ts n k 1 (expectP ts n x.2 [100, 101, 108, 111, 99, 97, 108])).1], (exprP ts n k 1 (expectP ts n x.2 [100, 101, 108, 111, 99, 97, 108])).2))
        (g := fun x => (Nd.mk 54 0 nm [a.1, x.1, (exprR ts n k' 1 (expectP ts n x.2 [100, 101, 108, 111, 99, 97, 108])).1], (exprR ts n k' 1 (expectP ts n x.2 [100, 101, 108, 111, 99, 97, 108])).2)) (fun e => ?_) (fun e => ?_) (fun e hab => ?_)
       · have g2 := expect_le (n := n) (t := [100, 101, 108, 111, 99, 97, 108]) g1.wf (by decide)
         exact (g2.trans (expr_le g2.wf)).err e
       · have g2 := expect_le (n := n) (t := [100, 101, 108, 111, 99, 97, 108]) g1'.wf (by decide)
         exact (g2.trans (exprR_le g2.wf)).err e
       · rw [← hab]
         generalize blockP ts n k a.2 = x at *
         have g2 := expect_le (n := n) (t := [100, 101, 108, 111, 99, 97, 108]) g1.wf (by decide)
         have hm5 := mS_le g2
         exact last_eq hd g2.wf (by omega) (by omega) (fun z => Nd.mk 54 0 nm [a.1, x.1, z])
theorem stmt1_eq (hd : DigitKinds ts) {k k' : Nat} {σ : PS} (h : σ.at_ ≤ ts.length)
 (IB : ∀ σ', σ'.at_ ≤ ts.length → mS ts σ' < mS ts σ → ∀ k k', 4 * mS ts σ' + 8 ≤ k → 12 * mS ts σ' + 16 ≤ k' → REq (blockP ts n k σ') (bodyR ts n k' σ'))
 (hk : 4 * mS ts σ + 6 ≤ k) (hk' : 12 * mS ts σ + 14 ≤ k') : REq (stmtP ts n k σ) (stmtR ts n k' σ) := by
 cases k with
 | zero => omega
 | succ k =>
  cases k' with
  | zero => omega
  | succ k' =>
   have hin : ∀ t : List UInt8, t ≠ [] → (peekP ts σ).text = t → In ts σ := fun t ht e => peek_in h (Or.inl (by rw [e]; exact ht))
   rw [stmtP, stmtR]
   by_cases c : (peekP ts σ).text = [112, 117, 115, 104]
   · rw [if_pos c, if_pos c]; exact stack_eq hd (hin _ (by decide) c) (by omega) (by omega)
   rw [if_neg c, if_neg c]; clear c
   by_cases c : (peekP ts σ).text = [112, 111, 112]
   · rw [if_pos c, if_pos c]; exact stack_eq hd (hin _ (by decide) c) (by omega) (by omega)
   rw [if_neg c, if_neg c]; clear c
   by_cases c : (peekP ts σ).text = [114, 101, 97, 100]
   · rw [if_pos c, if_pos c]; exact tape_eq hd (hin _ (by decide) c) (by omega) (by omega)
   rw [if_neg c, if_neg c]; clear c
   by_cases c : (peekP ts σ).text = [117, 110, 114, 101, 97, 100]
   · rw [if_pos c, if_pos c]; exact tape_eq hd (hin _ (by decide) c) (by omega) (by omega)
   rw [if_neg c, if_neg c]; clear c
   by_cases c : (peekP ts σ).text = [119, 114, 105, 116, 101]
   · rw [if_pos c, if_pos c]; exact tape_eq hd (hin _ (by decide) c) (by omega) (by omega)
   rw [if_neg c, if_neg c]; clear c
   by_cases c : (peekP ts σ).text = [117, 110, 119, 114, 105, 116, 101]
   · rw [if_pos c, if_pos c]; exact tape_eq hd (hin _ (by decide) c) (by omega) (by omega)
   rw [if_neg c, if_neg c]; clear c
   by_cases c : (peekP ts σ).text = [99, 97, 108, 108]
   · rw [if_pos c, if_pos c]; exact call_eq (hin _ (by decide) c) (by omega) (by omega)
   rw [if_neg c, if_neg c]; clear c
   by_cases c : (peekP ts σ).text = [117, 110, 99, 97, 108, 108]
   · rw [if_pos c, if_pos c]; exact call_eq (hin _ (by decide) c) (by omega) (by omega)
   rw [if_neg c, if_neg c]; clear c
   by_cases c : (peekP ts σ).text = [105, 102]
   · rw [if_pos c, if_pos c]; exact branches_eq hd (hin _ (by decide) c) (by decide) (by decide) IB (by omega) (by omega)
   rw [if_neg c, if_neg c]; clear c
   by_cases c : (peekP ts σ).text = [102, 114, 111, 109]
   · rw [if_pos c, if_pos c]; exact branches_eq hd (hin _ (by decide) c) (by decide) (by decide) IB (by omega) (by omega)
   rw [if_neg c, if_neg c]; clear c
   by_cases c : (peekP ts σ).text = [108, 111, 99, 97, 108]
   · rw [if_pos c, if_pos c]; exact local_eq hd (hin _ (by decide) c) IB (by omega) (by omega)
   rw [if_neg c, if_neg c]; clear c
   exact update_eq hd h (by omega) (by omega)
end
end Bk
namespace Bk
open Go
section
variable {ts : List Tok} {n : Int}
theorem stmts_le {k : Nat} {acc : List Nd} {σ : PS} (h : σ.at_ ≤ ts.length) : Le ts σ (stmtsP ts n k acc σ).2 := (stmt_inv k).2.2.2.2 acc σ h
theorem stmtsR_le {k : Nat} {acc : List Nd} {σ : PS} (h : σ.at_ ≤ ts.length) : Le ts σ (stmtsR ts n k acc σ).2 := (stmtR_inv k).2.2.2.2 acc σ h
theorem stmt_le {k : Nat} {σ : PS} (h : σ.at_ ≤ ts.length) : Le ts σ (stmtP ts n k σ).2 := (stmt_inv k).1 σ h
theorem stmtR_le {k : Nat} {σ : PS} (h : σ.at_ ≤ ts.length) : Le ts σ (stmtR ts n k σ).2 := (stmtR_inv k).1 σ h
theorem stmt_end {k : Nat} {σ : PS} (h : σ.at_ = ts.length) (hk : 2 ≤ k) : (stmtP ts n k σ).2 = unexpP ts n σ := by
 have hp : (peekP ts σ).text = [] := by rw [peek_end h]; rfl
 cases k with
 | zero => omega
 | succ k =>
  cases k with
  | zero => omega
  | succ k =>
   have hue : (unexpP ts n σ).err ≠ 0 := unexp_err
   have huw : (unexpP ts n σ).at_ ≤ ts.length := (unexp_le (by omega)).wf
   have hnm : nameP ts n σ = ([], unexpP ts n σ) := by unfold nameP; rw [hp]; rfl
   have hpl : placeP ts n (k + 1) σ = (Nd.mk 2 0 [] [], unexpP ts n σ) := by
    rw [placeP, hnm]
    simp only
    rw [if_neg (by rw [has_err hue (by decide)]; simp)]
   rw [stmtP, hp]
   rw [if_neg (by decide), if_neg (by decide), if_neg (by decide), if_neg (by decide), if_neg (by decide), if_neg (by decide), if_neg (by decide), if_neg (by decide), if_neg (by decide), if_neg (by decide), if_neg (by decide)]
   unfold updateP
   rw [hpl]
   simp only
   rw [if_neg (by rw [has_err hue (by decide)]; simp), peek_err hue, if_pos (by decide)]
   exact (unexp_le huw).err hue
theorem block_eq (hd : DigitKinds ts) (m : Nat) : ∀ σ, σ.at_ ≤ ts.length → mS ts σ ≤ m →
 (∀ acc k k', 4 * mS ts σ + 7 ≤ k → 12 * mS ts σ + 15 ≤ k' → REq (stmtsP ts n k acc σ) ((stmtsR ts n k' acc σ).1, expectP ts n (stmtsR ts n k' acc σ).2 [125])) ∧
 (∀ k k', 4 * mS ts σ + 8 ≤ k → 12 * mS ts σ + 16 ≤ k' → REq (blockP ts n k σ) (bodyR ts n k' σ)) := by
 induction m using Nat.strongRecOn with
 | _ m ih =>
  intro σ h hm
  have IB : ∀ σ', σ'.at_ ≤ ts.length → mS ts σ' < mS ts σ → ∀ k k', 4 * mS ts σ' + 8 ≤ k → 12 * mS ts σ' + 16 ≤ k' → REq (blockP ts n k σ') (bodyR ts n k' σ') := fun σ' h' hlt => (ih (mS ts σ') (by omega) σ' h' (Nat.le_refl _)).2
  have IS : ∀ σ', σ'.at_ ≤ ts.length → (σ'.err = 0 → σ.err = 0 ∧ σ.at_ < σ'.at_) → ∀ acc k k', 4 * mS ts σ + 3 ≤ k → 12 * mS ts σ + 3 ≤ k' → REq (stmtsP ts n k acc σ') ((stmtsR ts n k' acc σ').1, expectP ts n (stmtsR ts n k' acc σ').2 [125]) := by
   intro σ' h' hlt acc k k' hk hk'
   by_cases e : σ'.err = 0
   · obtain ⟨e0, hat⟩ := hlt e
     have hms : mS ts σ' + 1 ≤ mS ts σ := by unfold mS; rw [if_pos e, if_pos e0]; omega
     exact (ih (mS ts σ') (by omega) σ' h' (Nat.le_refl _)).1 acc k k' (by omega) (by omega)
   · have hr := (stmtsR_le (n := n) (k := k') (acc := acc) h').err e
     refine REq.of_err e ((stmts_le h').err e) ?_
     simp only [hr]
     exact expect_err h' (by decide) e
  refine ⟨fun acc k k' hk hk' => ?_, fun k k' hk hk' => ?_⟩
  · cases k with
    | zero => omega
    | succ k =>
     cases k' with
     | zero => omega
     | succ k' =>
      rw [stmtsP, stmtsR]
      by_cases e : σ.err = 0
      · rw [if_neg (show ¬ σ.err ≠ 0 from fun c => c e)]
        by_cases hb : hasP ts σ [125] = true
        · rw [if_pos hb, if_neg (fun c => by rw [hb] at c; simp at c)]
          have : expectP ts n σ [125] = nextP σ := by unfold expectP; rw [if_pos hb]
          simp only [this]
          exact REq.refl _
        · rw [if_neg hb]
          have hb' : hasP ts σ [125] = false := by simpa using hb
          by_cases hat : σ.at_ < ts.length
          · rw [if_pos ⟨e, hat, hb'⟩]
            have hs := stmt_le (n := n) (k := k) h
            have hs' := stmtR_le (n := n) (k := k') h
            refine REq.bind (stmt1_eq (n := n) (k := k) (k' := k') hd h IB (by omega) (by omega)) (f := fun s => stmtsP ts n k (acc ++ [s.1]) (expectP ts n s.2 [59])) (g := fun s => ((stmtsR ts n k' (acc ++ [s.1]) (expectP ts n s.2 [59])).1, expectP ts n (stmtsR ts n k' (acc ++ [s.1]) (expectP ts n s.2 [59])).2 [125])) (fun e => ?_) (fun e => ?_) (fun e hab => ?_)
            · have g1 := expect_le (n := n) (t := [59]) hs.wf (by decide)
              exact (g1.trans (stmts_le g1.wf)).err e
            · have g1 := expect_le (n := n) (t := [59]) hs'.wf (by decide)
              have g2 := g1.trans (stmtsR_le (n := n) (k := k') (acc := acc ++ [(stmtR ts n k' σ).1]) g1.wf)
              exact (g2.trans (expect_le g2.wf (by decide))).err e
            · rw [← hab]
              have g1 := expect_le (n := n) (t := [59]) hs.wf (by decide)
              refine IS _ g1.wf (fun z => ⟨by assumption, ?_⟩) _ k k' (by omega) (by omega)
              have := expect_lt (ts := ts) (n := n) (t := [59]) (σ := (stmtP ts n k σ).2) z
              have := hs.le
              omega
          · rw [if_neg (fun c => hat c.2.1)]
            have hend : σ.at_ = ts.length := by omega
            have hue : (unexpP ts n σ).err ≠ 0 := unexp_err
            have hx : expectP ts n σ [125] = unexpP ts n σ := by unfold expectP; rw [if_neg hb]
            have hse := stmt_end (n := n) (k := k) hend (by omega)
            have huw : (unexpP ts n σ).at_ ≤ ts.length := (unexp_le h).wf
            refine REq.of_err hue ?_ hx
            rw [hse, expect_err huw (by decide) hue]
            exact (stmts_le huw).err hue
      · rw [if_pos e, if_neg (fun c => e c.1)]
        exact REq.of_err e rfl (expect_err h (by decide) e)
  · cases k with
    | zero => omega
    | succ k =>
     cases k' with
     | zero => omega
     | succ k' =>
      rw [blockP, bodyR]
      have g1 := expect_le (n := n) (t := [123]) h (by decide)
      refine REq.bind (IS _ g1.wf (fun z => ⟨g1.ok z, expect_lt z⟩) [] k k' (by omega) (by omega)) (f := fun a => (Nd.mk 57 0 [] a.1, a.2)) (g := fun b => (Nd.mk 57 0 [] b.1, b.2)) (fun e => rfl) (fun e => rfl) (fun e hab => ?_)
      rw [← hab]; exact REq.refl _
end
end Bk
namespace Bk
open Go
section
variable (ts : List Tok) (n : Int)
def posR (σ : PS) : Int := if ts.length ≤ σ.at_ then n else (ts.getD σ.at_ Tok.zero).pos
def declKind (t : List UInt8) : Int := if t = [105, 110, 116] then 1 else if t = [97, 114, 114, 97, 121] then 2 else 3
def declR (many most : Nat) (σ : PS) : VD × PS :=
 if atDeclP ts σ = false then (⟨[], 0, 0⟩, unexpP ts n σ)
 else if many = most then (⟨[], 0, 0⟩, failP σ (posR ts n σ) 5)
 else
  let m := nameP ts n (nextP σ)
  if declKind (peekP ts σ).text = 2 then
   let σ1 := expectP ts n m.2 [91]
   let r := numberR ts n σ1
   let σ2 := if r.2.err = 0 ∧ (r.1 < 1 ∨ 16 < r.1) then failP r.2 (posR ts n σ1) 2 else r.2
   (⟨m.1, 2, r.1⟩, expectP ts n σ2 [93])
  else (⟨m.1, declKind (peekP ts σ).text, 0⟩, m.2)
end
section
variable {ts : List Tok} {n : Int}
theorem decl_le {σ : PS} (h : σ.at_ ≤ ts.length) : Le ts σ (declP ts n σ).2 := by
 unfold declP
 split
 · rename_i hh
   have h1 := next_le (has_in h hh (by decide))
   exact h1.trans (name_le h1.wf)
 · split
   · rename_i hh
     have h1 := next_le (has_in h hh (by decide))
     exact h1.trans (name_le h1.wf)
   · split
     · rename_i hh
       have h1 := next_le (has_in h hh (by decide))
       have h2 := h1.trans (name_le (n := n) h1.wf)
       have h3 := h2.trans (expect_le (n := n) (t := [91]) h2.wf (by decide))
       have h4 := h3.trans (number_le (n := n) (a := 1) (b := 16) h3.wf)
       exact h4.trans (expect_le h4.wf (by decide))
     · exact unexp_le h
end
section
variable (ts : List Tok) (n : Int)
def paramsR : Nat → List VD → PS → List VD × PS
 | 0, acc, σ => (acc, σ)
 | k + 1, acc, σ =>
  if hasP ts (declR ts n acc.length 8 σ).2 [44] then paramsR k (acc ++ [(declR ts n acc.length 8 σ).1]) (nextP (declR ts n acc.length 8 σ).2)
  else (acc ++ [(declR ts n acc.length 8 σ).1], (declR ts n acc.length 8 σ).2)
end
section
variable {ts : List Tok} {n : Int}
theorem params_le (k : Nat) : ∀ acc σ, σ.at_ ≤ ts.length → Le ts σ (paramsP ts n k acc σ).2 := by
 induction k with
 | zero => intro acc σ h; rw [paramsP]; exact Le.refl h
 | succ k ih =>
  intro acc σ h
  rw [paramsP]
  split
  · rename_i hh
    have h1 := next_le (has_in h hh (by decide))
    simp only
    have h2 : Le ts σ (if acc.length = 8 ∧ atDeclP ts (nextP σ) = true then failP (nextP σ) (peekP ts (nextP σ)).pos 5 else nextP σ) := by
     split
     · exact h1.trans (fail_le h1.wf _ _)
     · exact h1
    generalize (if acc.length = 8 ∧ atDeclP ts (nextP σ) = true then failP (nextP σ) (peekP ts (nextP σ)).pos 5 else nextP σ) = τ at *
    have h3 := h2.trans (decl_le (n := n) h2.wf)
    exact h3.trans (ih _ _ h3.wf)
  · exact Le.refl h
end
section
variable (ts : List Tok) (n : Int)
def wholeR (k : Nat) (σ : PS) : Nd × PS := ((bodyR ts n k σ).1, limitP (bodyR ts n k σ).1 (posR ts n σ) (bodyR ts n k σ).2)
end
section
variable {ts : List Tok} {n : Int}
theorem limit_le {x : Nd} {off : Int} {σ : PS} (h : σ.at_ ≤ ts.length) : Le ts σ (limitP x off σ) := by
 unfold limitP
 split
 · exact Le.refl h
 · split
   · exact fail_le h _ _
   · split
     · exact fail_le h _ _
     · exact Le.refl h
end
section
variable (ts : List Tok) (n : Int)
def procR (k : Nat) (σ : PS) : PD × PS :=
 let m := nameP ts n (nextP σ)
 let σ1 := expectP ts n m.2 [40]
 let q := if σ1.err = 0 ∧ hasP ts σ1 [41] = false then paramsR ts n k [] σ1 else ([], σ1)
 let b := wholeR ts n k (expectP ts n q.2 [41])
 (⟨m.1, q.1, b.1⟩, b.2)
def varsR : Nat → List VD → PS → List VD × PS
 | 0, acc, σ => (acc, σ)
 | k + 1, acc, σ => if σ.err = 0 ∧ atDeclP ts σ = true then varsR k (acc ++ [(declR ts n acc.length 32 σ).1]) (declR ts n acc.length 32 σ).2 else (acc, σ)
def procsR : Nat → List PD → PS → List PD × PS
 | 0, acc, σ => (acc, σ)
 | k + 1, acc, σ =>
  if σ.err = 0 ∧ hasP ts σ [112, 114, 111, 99] = true then
   if acc.length = 64 then (acc, failP σ (posR ts n σ) 5)
   else procsR k (acc ++ [(procR ts n k σ).1]) (procR ts n k σ).2
  else (acc, σ)
def programR (k : Nat) (σ : PS) : PG × PS :=
 let v := varsR ts n k [] σ
 let p := procsR ts n k [] v.2
 let b := wholeR ts n k (expectP ts n p.2 [109, 97, 105, 110])
 (⟨v.1, p.1, b.1⟩, b.2)
end
section
variable {ts : List Tok} {n : Int}
theorem bodyP_le {k : Nat} {σ : PS} (h : σ.at_ ≤ ts.length) : Le ts σ (bodyP ts n k σ).2 := by
 unfold bodyP
 have h1 := block_le (n := n) (k := k) h
 exact h1.trans (limit_le h1.wf)
theorem decl_lt {σ : PS} (h : σ.at_ ≤ ts.length) : Lt σ (declP ts n σ).2 := by
 unfold declP
 split
 · rename_i hh
   have h1 := next_le (has_in h hh (by decide))
   exact Lt.of_le (ts := ts) h1 name_lt
 · split
   · rename_i hh
     have h1 := next_le (has_in h hh (by decide))
     exact Lt.of_le (ts := ts) h1 name_lt
   · split
     · rename_i hh
       have h1 := next_le (has_in h hh (by decide))
       have h2 := h1.trans (name_le (n := n) h1.wf)
       have h3 := h2.trans (expect_le (n := n) (t := [91]) h2.wf (by decide))
       have h4 := h3.trans (number_le (n := n) (a := 1) (b := 16) h3.wf)
       exact Lt.of_le (ts := ts) h4 expect_lt
     · exact unexp_lt
end
end Bk
namespace Bk
open Go
section
variable {ts : List Tok} {n : Int}
def procQ (ts : List Tok) (n : Int) (k : Nat) (σ : PS) : List VD × PS :=
 if hasP ts σ [41] then ([], nextP σ) else ((paramsP ts n k [(declP ts n σ).1] (declP ts n σ).2).1, expectP ts n (paramsP ts n k [(declP ts n σ).1] (declP ts n σ).2).2 [41])
def procQR (ts : List Tok) (n : Int) (k : Nat) (σ : PS) : List VD × PS :=
 ((if σ.err = 0 ∧ hasP ts σ [41] = false then paramsR ts n k [] σ else ([], σ)).1, expectP ts n (if σ.err = 0 ∧ hasP ts σ [41] = false then paramsR ts n k [] σ else ([], σ)).2 [41])
theorem procQ_le {k : Nat} {σ : PS} (h : σ.at_ ≤ ts.length) : Le ts σ (procQ ts n k σ).2 := by
 unfold procQ
 split
 · rename_i hh
   exact next_le (has_in h hh (by decide))
 · have h1 := decl_le (n := n) h
   have h2 := h1.trans (params_le (n := n) k [(declP ts n σ).1] _ h1.wf)
   exact h2.trans (expect_le h2.wf (by decide))
theorem procP_at {k : Nat} {σ : PS} : procP ts n k σ = (⟨(nameP ts n (expectP ts n σ [112, 114, 111, 99])).1, (procQ ts n k (expectP ts n (nameP ts n (expectP ts n σ [112, 114, 111, 99])).2 [40])).1, (bodyP ts n k (procQ ts n k (expectP ts n (nameP ts n (expectP ts n σ [112, 114, 111, 99])).2 [40])).2).1⟩, (bodyP ts n k (procQ ts n k (expectP ts n (nameP ts n (expectP ts n σ [112, 114, 111, 99])).2 [40])).2).2) := by
 simp only [procP, procQ]
theorem procP_le {k : Nat} {σ : PS} (h : σ.at_ ≤ ts.length) : Le ts σ (procP ts n k σ).2 := by
 rw [procP_at]
 have h1 := expect_le (n := n) (t := [112, 114, 111, 99]) h (by decide)
 have h2 := h1.trans (name_le (n := n) h1.wf)
 have h3 := h2.trans (expect_le (n := n) (t := [40]) h2.wf (by decide))
 have h4 := h3.trans (procQ_le (n := n) (k := k) h3.wf)
 exact h4.trans (bodyP_le h4.wf)
theorem procP_lt {k : Nat} {σ : PS} (h : σ.at_ ≤ ts.length) : Lt σ (procP ts n k σ).2 := by
 rw [procP_at]
 have h1 := expect_le (n := n) (t := [112, 114, 111, 99]) h (by decide)
 have h2 := name_le (n := n) h1.wf
 have h3 := h2.trans (expect_le (n := n) (t := [40]) h2.wf (by decide))
 have h4 := h3.trans (procQ_le (n := n) (k := k) h3.wf)
 exact Lt.of_lt (expect_lt (ts := ts) (n := n)) (h4.trans (bodyP_le h4.wf))
end
end Bk
namespace Bk
open Go Go.RowKit Go.Proofs
attribute [local irreducible] Go.Calls
def VdsR (c : PC) (w : World) (r : List VD × PS) : Ending → World → Prop := fun e w' => ∃ a k, e = .returned (.slice a r.1.length k) ∧ VDs (fun b => w.heap.size ≤ b ∧ b < w'.heap.size) w' r.1 a ∧ PP c r.2 w' ∧ Fr (· = c.pb) w w'
theorem VdsR.ret {c : PC} {w : World} {r : List VD × PS} {e : Ending} {w' : World} (h : VdsR c w r e w') : ∃ v, e = .returned v := by
 obtain ⟨_, _, h, -⟩ := h
 exact ⟨_, h⟩
set_option maxRecDepth 100000 in
set_option maxHeartbeats 2000000 in
theorem params_c (c : PC) (k : Nat) (σ : PS) (w : World) (hP : PP c σ w) (hk : mS c.ts σ + 1 ≤ k) :
 Calls Tryz.prog 107 #[.pointer (some ⟨c.pb, 0, none⟩)] w (VdsR c w (paramsP c.ts c.n k [(declP c.ts c.n σ).1] (declP c.ts c.n σ).2)) := by
 have X := Fr.refl (· = c.pb) w
 have hpb := hP.pbB
 have hB := hP.B
 have hlen := hP.len
 have hd := mS_le (decl_le (n := c.n) hP.at_)
 have hmt : mS c.ts σ ≤ c.ts.length := by unfold mS; split <;> omega
 refine calls_in Tryz.func107 Tryz.ntmps107 rfl rfl ?_
 focus
  refine cS (cA rfl rfl (cN (cM rfl rfl ?_)))
  refine lw_does (does_call (by kernel_rfl) rfl (decl_p _ _ _ (by assumption)) (fun _ _ h => ⟨_, h.1⟩)) rfl ?_ (fun _ h => h)
  rintro _ w3 ⟨⟨⟩, ⟨h1, f2⟩⟩
  have z4 := Fr.size f2
  clear hP
  replace X := Fr.fr X f2 (by omega)
  clear f2
  (refine lw_does (does_slice' [_, _, _] tabOk zOk rfl rfl rfl rfl rfl rfl rfl rfl rfl) rfl ?_ (fun _ h => h); rintro _ w6 ⟨b5, rfl, n7, t8⟩)
  have t9 : TB _ _ _ _ := t8
  clear t8
  have x10 := New.ext n7
  have p11 := New.pos n7
  have z12 := New.size n7
  clear n7
  replace h1 := PP.ext h1 x10
  replace X := Fr.ext X x10
  clear x10
  refine cA rfl rfl (cT (cw_seq (cw_block ?_)))
  rotate_left 1
 have hown := OwnL.lit (sh := vdShape) (B := w.heap.size) (x := (declP c.ts c.n σ).1) (by assumption) (by omega) rfl
 generalize declP c.ts c.n σ = D at *
 refine cw_loop (ι := Nat × List VD × Nat × Nat × PS) (fun x => [(0, .pointer (some ⟨c.pb, 0, none⟩)), (3, .slice (some ⟨x.2.2.1, 0, none⟩) x.2.1.length x.2.2.2.1)])
  (fun x w' => PP c x.2.2.2.2 w' ∧ OwnL vdShape w' w.heap.size 59 (.slice (some ⟨x.2.2.1, 0, none⟩) x.2.1.length x.2.2.2.1) x.2.1 ∧ Fr (· = c.pb) w w' ∧ w6.heap.size ≤ w'.heap.size ∧
   paramsP c.ts c.n k [D.1] D.2 = paramsP c.ts c.n x.1 x.2.1 x.2.2.2.2 ∧ mS c.ts x.2.2.2.2 + 1 ≤ x.1 ∧ x.2.1.length + mS c.ts x.2.2.2.2 ≤ 1000001) (fun x => x.1) (k, [D.1], b5, 1, D.2) (by (refine sub_cons rfl ?_; refine sub_cons rfl ?_; exact sub_nil))
  ⟨h1, hown, X, Nat.le_refl _, rfl, by simp only; omega, by simp only [List.length_cons, List.length_nil]; omega⟩ ?_
 rintro ⟨j, acc, g, cap, σ'⟩ w1 ⟨hP, hown, X, hz, he, hfj, hacc⟩
 simp only at hP hown he hfj hacc
 clear t9 h1
 rw [he]
 refine CW.sub (m := [(0, .pointer (some ⟨c.pb, 0, none⟩)), (3, .slice (some ⟨g, 0, none⟩) acc.length cap)]) ?_ (by (refine sub_cons rfl ?_; refine sub_cons rfl ?_; exact sub_nil))
 obtain ⟨j, rfl⟩ : ∃ i, j = i + 1 := ⟨j - 1, by omega⟩
 cases hc : hasP c.ts σ' [44]
 case false =>
  rw [show paramsP c.ts c.n (j + 1) acc σ' = (acc, σ') from by rw [paramsP]; simp [hc]]
  focus
   refine cw_seq (cS (cM rfl rfl ?_))
   refine lw_does (does_call (by kernel_rfl) rfl (accept_f _ _ _ _ (by assumption) (by decide) (by assumption)) (fun _ _ h => ⟨_, h.1⟩)) rfl ?_ (fun _ h => h)
   rintro _ wa3 ⟨⟨⟩, ⟨ha1, fa2⟩⟩
   have za4 := Fr.size fa2
   clear hP
   replace hown := OwnL.fr hown fa2 (by omega)
   replace X := Fr.fr X fa2 (by omega)
   clear fa2
   refine cT (cw_cond_f rfl (cw_exit (qw_then_exit (qw_then_exit (qw_block_exit (qw_then (cS (cM rfl rfl (cA rfl rfl (cT (cw_ret ?_)))))))))))
   refine qw_ret1 rfl rfl ?_
   rotate_left 1
  exact ⟨_, _, rfl, VDs.lt2 (S := (w.heap.size ≤ ·)) (OwnL.vds (by assumption) (fun b h => h)), by assumption, X⟩
 have hin := has_in hP.at_ hc (by decide)
 have hmn := mS_next hin
 by_cases h8 : acc.length = 8
 · cases hnm : atDeclP c.ts (nextP σ')
   · have hml := mS_le (decl_le (n := c.n) (show (nextP σ').at_ ≤ c.ts.length from hin.2))
     rw [show paramsP c.ts c.n (j + 1) acc σ' = paramsP c.ts c.n j (acc ++ [(declP c.ts c.n (nextP σ')).1]) (declP c.ts c.n (nextP σ')).2 from by rw [paramsP]; simp [hc, h8, hnm]]
     focus
      refine cw_seq (cS (cM rfl rfl ?_))
      refine lw_does (does_call (by kernel_rfl) rfl (accept_t _ _ _ _ (by assumption) (by decide) (by assumption)) (fun _ _ h => ⟨_, h.1⟩)) rfl ?_ (fun _ h => h)
      rintro _ wb3 ⟨⟨⟩, ⟨hb1, fb2⟩⟩
      have zb4 := Fr.size fb2
      clear hP
      replace hown := OwnL.fr hown fb2 (by omega)
      replace X := Fr.fr X fb2 (by omega)
      clear fb2
      refine cT (cw_cond_t rfl (cw_skip (qw_then (cw_block (cw_seq (cS (cM rfl rfl (lw_pure (pur_len_slice tabOk rfl rfl) rfl (lw_pure (pur_eql rfl rfl) rfl (cM rfl rfl ?_))))))))))
      refine lw_on rfl rfl rfl (gd_tt (by omega)) ?_
      refine cM rfl rfl ?_
      refine lw_on rfl rfl rfl (gd_tt (by omega)) ?_
      refine lw_does (does_call (by kernel_rfl) rfl (atDecl_c _ _ _ (by assumption)) (fun _ _ h => ⟨_, h.1⟩)) rfl ?_ (fun _ h => h)
      rintro _ wb6 ⟨⟨⟩, xb5⟩
      have zb7 := Ext.size xb5
      replace hb1 := PP.ext hb1 xb5
      replace hown := OwnL.ext hown xb5
      replace X := Fr.ext X xb5
      clear xb5
      refine lw_pure (pur_pick_yes rfl rfl (by omega)) rfl ?_
      refine cT ?_
      refine cw_bf rfl (by assumption) ?_
      refine cw_skip (qw_then (cw_region (cM rfl rfl (cM rfl rfl ?_))))
      refine lw_does (does_call (by kernel_rfl) rfl (decl_p _ _ _ (by assumption)) (fun _ _ h => ⟨_, h.1⟩)) rfl ?_ (fun _ h => h)
      rintro _ wb10 ⟨⟨⟩, ⟨hb8, fb9⟩⟩
      have zb11 := Fr.size fb9
      clear hb1
      replace hown := OwnL.fr hown fb9 (by omega)
      replace X := Fr.fr X fb9 (by omega)
      clear fb9
      (refine lw_does (does_slice' [_, _, _] tabOk zOk rfl rfl rfl rfl rfl rfl rfl rfl rfl) rfl ?_ (fun _ h => h); rintro _ wb13 ⟨bb12, rfl, nb14, tb15⟩)
      clear tb15
      have hb16 := New.blk nb14
      have xb17 := New.ext nb14
      have pb18 := New.pos nb14
      have zb19 := New.size nb14
      clear nb14
      replace hb8 := PP.ext hb8 xb17
      replace hown := OwnL.ext hown xb17
      replace X := Fr.ext X xb17
      clear xb17
      refine lw_appendL (sh := vdShape) tabOk zOk rfl rfl rfl rfl (by kernel_rfl) rfl rfl rfl hown (Blk.row (by assumption)) rfl (by omega) (by omega) rfl ?_
      rintro gb20 cap'b21 wb22 hb23 fb24
      have zb25 := Fr.size fb24
      clear hb16
      replace hb8 := PP.fr hb8 fb24 (by omega)
      clear hown
      replace X := Fr.fr X fb24 (by omega)
      clear fb24
      refine cA rfl rfl (lw_nil (qw_block_norm ?_))
      rotate_left 1
     refine qw_round (j, acc ++ [(declP c.ts c.n (nextP σ')).1], _, _, (declP c.ts c.n (nextP σ')).2) (by (refine sub_cons rfl ?_; refine sub_cons rfl ?_; exact sub_nil)) ⟨by assumption, by assumption, X, by omega, rfl, by simp only; omega, by simp only [List.length_append, List.length_cons, List.length_nil]; omega⟩ (by simp)
   · have hfl := fail_le (show (nextP σ').at_ ≤ c.ts.length from hin.2) (peekP c.ts (nextP σ')).pos 5
     have hml := mS_le (hfl.trans (decl_le (n := c.n) hfl.wf))
     rw [show paramsP c.ts c.n (j + 1) acc σ' = paramsP c.ts c.n j (acc ++ [(declP c.ts c.n (failP (nextP σ') (peekP c.ts (nextP σ')).pos 5)).1]) (declP c.ts c.n (failP (nextP σ') (peekP c.ts (nextP σ')).pos 5)).2 from by rw [paramsP]; simp [hc, h8, hnm]]
     focus
      refine cw_seq (cS (cM rfl rfl ?_))
      refine lw_does (does_call (by kernel_rfl) rfl (accept_t _ _ _ _ (by assumption) (by decide) (by assumption)) (fun _ _ h => ⟨_, h.1⟩)) rfl ?_ (fun _ h => h)
      rintro _ wc3 ⟨⟨⟩, ⟨hc1, fc2⟩⟩
      have zc4 := Fr.size fc2
      clear hP
      replace hown := OwnL.fr hown fc2 (by omega)
      replace X := Fr.fr X fc2 (by omega)
      clear fc2
      refine cT (cw_cond_t rfl (cw_skip (qw_then (cw_block (cw_seq (cS (cM rfl rfl (lw_pure (pur_len_slice tabOk rfl rfl) rfl (lw_pure (pur_eql rfl rfl) rfl (cM rfl rfl ?_))))))))))
      refine lw_on rfl rfl rfl (gd_tt (by omega)) ?_
      refine cM rfl rfl ?_
      refine lw_on rfl rfl rfl (gd_tt (by omega)) ?_
      refine lw_does (does_call (by kernel_rfl) rfl (atDecl_c _ _ _ (by assumption)) (fun _ _ h => ⟨_, h.1⟩)) rfl ?_ (fun _ h => h)
      rintro _ wc6 ⟨⟨⟩, xc5⟩
      have zc7 := Ext.size xc5
      replace hc1 := PP.ext hc1 xc5
      replace hown := OwnL.ext hown xc5
      replace X := Fr.ext X xc5
      clear xc5
      refine lw_pure (pur_pick_yes rfl rfl (by omega)) rfl ?_
      refine cT ?_
      refine cw_bt rfl (by assumption) ?_
      refine cw_region (cM rfl rfl (cM rfl rfl ?_))
      refine lw_does (does_call (by kernel_rfl) rfl (peek_c _ _ _ (by assumption)) (fun _ _ h => ⟨_, h.1⟩)) rfl ?_ (fun _ h => h)
      rintro _ wc9 ⟨⟨⟩, xc8⟩
      have zc10 := Ext.size xc8
      replace hc1 := PP.ext hc1 xc8
      replace hown := OwnL.ext hown xc8
      replace X := Fr.ext X xc8
      clear xc8
      refine lw_pure (pur_field tabOk rfl rfl rfl rfl rfl rfl) rfl ?_
      refine lw_does (does_call (by kernel_rfl) rfl (fail_c _ _ _ _ _ (by assumption)) (fun _ _ h => ⟨_, h.1⟩)) rfl ?_ (fun _ h => h)
      rintro _ wc13 ⟨⟨⟩, ⟨hc11, fc12⟩⟩
      have zc14 := Fr.size fc12
      clear hc1
      replace hown := OwnL.fr hown fc12 (by omega)
      replace X := Fr.fr X fc12 (by omega)
      clear fc12
      refine cT (cw_region (cM rfl rfl (cM rfl rfl ?_)))
      refine lw_does (does_call (by kernel_rfl) rfl (decl_p _ _ _ (by assumption)) (fun _ _ h => ⟨_, h.1⟩)) rfl ?_ (fun _ h => h)
      rintro _ wc17 ⟨⟨⟩, ⟨hc15, fc16⟩⟩
      have zc18 := Fr.size fc16
      clear hc11
      replace hown := OwnL.fr hown fc16 (by omega)
      replace X := Fr.fr X fc16 (by omega)
      clear fc16
      (refine lw_does (does_slice' [_, _, _] tabOk zOk rfl rfl rfl rfl rfl rfl rfl rfl rfl) rfl ?_ (fun _ h => h); rintro _ wc20 ⟨bc19, rfl, nc21, tc22⟩)
      clear tc22
      have hc23 := New.blk nc21
      have xc24 := New.ext nc21
      have pc25 := New.pos nc21
      have zc26 := New.size nc21
      clear nc21
      replace hc15 := PP.ext hc15 xc24
      replace hown := OwnL.ext hown xc24
      replace X := Fr.ext X xc24
      clear xc24
      refine lw_appendL (sh := vdShape) tabOk zOk rfl rfl rfl rfl (by kernel_rfl) rfl rfl rfl hown (Blk.row (by assumption)) rfl (by omega) (by omega) rfl ?_
      rintro gc27 cap'c28 wc29 hc30 fc31
      have zc32 := Fr.size fc31
      clear hc23
      replace hc15 := PP.fr hc15 fc31 (by omega)
      clear hown
      replace X := Fr.fr X fc31 (by omega)
      clear fc31
      refine cA rfl rfl (lw_nil (qw_block_norm ?_))
      rotate_left 1
     refine qw_round (j, acc ++ [(declP c.ts c.n (failP (nextP σ') (peekP c.ts (nextP σ')).pos 5)).1], _, _, (declP c.ts c.n (failP (nextP σ') (peekP c.ts (nextP σ')).pos 5)).2) (by (refine sub_cons rfl ?_; refine sub_cons rfl ?_; exact sub_nil)) ⟨by assumption, by assumption, X, by omega, rfl, by simp only; omega, by simp only [List.length_append, List.length_cons, List.length_nil]; omega⟩ (by simp)
 · have hml := mS_le (decl_le (n := c.n) (show (nextP σ').at_ ≤ c.ts.length from hin.2))
   rw [show paramsP c.ts c.n (j + 1) acc σ' = paramsP c.ts c.n j (acc ++ [(declP c.ts c.n (nextP σ')).1]) (declP c.ts c.n (nextP σ')).2 from by rw [paramsP]; simp [hc, h8]]
   focus
    refine cw_seq (cS (cM rfl rfl ?_))
    refine lw_does (does_call (by kernel_rfl) rfl (accept_t _ _ _ _ (by assumption) (by decide) (by assumption)) (fun _ _ h => ⟨_, h.1⟩)) rfl ?_ (fun _ h => h)
    rintro _ wd3 ⟨⟨⟩, ⟨hd1, fd2⟩⟩
    have zd4 := Fr.size fd2
    clear hP
    replace hown := OwnL.fr hown fd2 (by omega)
    replace X := Fr.fr X fd2 (by omega)
    clear fd2
    refine cT (cw_cond_t rfl (cw_skip (qw_then (cw_block (cw_seq (cS (cM rfl rfl (lw_pure (pur_len_slice tabOk rfl rfl) rfl (lw_pure (pur_eql rfl rfl) rfl (cM rfl rfl ?_))))))))))
    refine lw_off rfl rfl rfl (gd_tf (by omega)) rfl ?_
    refine lw_off rfl rfl rfl (gd_tf (by omega)) rfl ?_
    refine lw_pure (pur_pick_no rfl rfl (by omega)) rfl ?_
    refine cT (cw_cond_f rfl (cw_skip (qw_then (cw_region (cM rfl rfl (cM rfl rfl ?_))))))
    refine lw_does (does_call (by kernel_rfl) rfl (decl_p _ _ _ (by assumption)) (fun _ _ h => ⟨_, h.1⟩)) rfl ?_ (fun _ h => h)
    rintro _ wd7 ⟨⟨⟩, ⟨hd5, fd6⟩⟩
    have zd8 := Fr.size fd6
    clear hd1
    replace hown := OwnL.fr hown fd6 (by omega)
    replace X := Fr.fr X fd6 (by omega)
    clear fd6
    (refine lw_does (does_slice' [_, _, _] tabOk zOk rfl rfl rfl rfl rfl rfl rfl rfl rfl) rfl ?_ (fun _ h => h); rintro _ wd10 ⟨bd9, rfl, nd11, td12⟩)
    clear td12
    have hd13 := New.blk nd11
    have xd14 := New.ext nd11
    have pd15 := New.pos nd11
    have zd16 := New.size nd11
    clear nd11
    replace hd5 := PP.ext hd5 xd14
    replace hown := OwnL.ext hown xd14
    replace X := Fr.ext X xd14
    clear xd14
    refine lw_appendL (sh := vdShape) tabOk zOk rfl rfl rfl rfl (by kernel_rfl) rfl rfl rfl hown (Blk.row (by assumption)) rfl (by omega) (by omega) rfl ?_
    rintro gd17 cap'd18 wd19 hd20 fd21
    have zd22 := Fr.size fd21
    clear hd13
    replace hd5 := PP.fr hd5 fd21 (by omega)
    clear hown
    replace X := Fr.fr X fd21 (by omega)
    clear fd21
    refine cA rfl rfl (lw_nil (qw_block_norm ?_))
    rotate_left 1
   refine qw_round (j, acc ++ [(declP c.ts c.n (nextP σ')).1], _, _, (declP c.ts c.n (nextP σ')).2) (by (refine sub_cons rfl ?_; refine sub_cons rfl ?_; exact sub_nil)) ⟨by assumption, by assumption, X, by omega, rfl, by simp only; omega, by simp only [List.length_append, List.length_cons, List.length_nil]; omega⟩ (by simp)
def PdR (c : PC) (w : World) (r : PD × PS) : Ending → World → Prop := fun e w' => ∃ pa pc ba bc, e = .returned (.agg (r.1.cells pa pc ba bc).toArray) ∧ VDs (fun b => w.heap.size ≤ b ∧ b < w'.heap.size) w' r.1.params pa ∧ r.1.body.sits (fun b => w.heap.size ≤ b ∧ b < w'.heap.size) w' ba ∧ PP c r.2 w' ∧ Fr (· = c.pb) w w'
theorem PdR.ret {c : PC} {w : World} {r : PD × PS} {e : Ending} {w' : World} (h : PdR c w r e w') : ∃ v, e = .returned v := by
 obtain ⟨_, _, _, _, h, -⟩ := h
 exact ⟨_, h⟩
set_option maxRecDepth 100000 in
set_option maxHeartbeats 2000000 in
theorem proc_c (c : PC) (k : Nat) (σ : PS) (w : World) (hP : PP c σ w) (hk : 4 * mS c.ts σ + 8 ≤ k) :
 Calls Tryz.prog 71 #[.pointer (some ⟨c.pb, 0, none⟩)] w (PdR c w (procP c.ts c.n k σ)) := by
 have X := Fr.refl (· = c.pb) w
 have hpb := hP.pbB
 have hB := hP.B
 have hlen := hP.len
 have l1 := expect_le (n := c.n) (t := [112, 114, 111, 99]) hP.at_ (by decide)
 have l2 := l1.trans (name_le (n := c.n) l1.wf)
 have l3 := l2.trans (expect_le (n := c.n) (t := [40]) l2.wf (by decide))
 have l4 := l3.trans (procQ_le (n := c.n) (k := k) l3.wf)
 have m3 := mS_le l3
 have m4 := mS_le l4
 rw [procP_at]
 generalize hM : nameP c.ts c.n (expectP c.ts c.n σ [112, 114, 111, 99]) = M at *
 have hname : ∀ {w' : World}, PP c (expectP c.ts c.n σ [112, 114, 111, 99]) w' → Calls Tryz.prog 105 #[.pointer (some ⟨c.pb, 0, none⟩)] w' fun r w'' => r = .returned (str M.1) ∧ PP c M.2 w'' ∧ Fr (· = c.pb) w' w'' := fun h => hM ▸ name_c c _ _ h
 clear l1 l2 l3 l4 hM
 cases hh : hasP c.ts (expectP c.ts c.n M.2 [40]) [41]
 case true =>
  rw [show procQ c.ts c.n k (expectP c.ts c.n M.2 [40]) = ([], nextP (expectP c.ts c.n M.2 [40])) from by simp [procQ, hh]] at m4 ⊢
  simp only at m4 ⊢
  refine calls_in Tryz.func71 Tryz.ntmps71 rfl rfl ?_
  focus
   refine cS ?_
   (refine lw_alloc' [_, _, _, _, _, _] zOk rfl rfl ?_; intro b1 w2 n3)
   have h5 := New.blk n3
   have x6 := New.ext n3
   have p7 := New.pos n3
   have z8 := New.size n3
   clear n3
   replace hP := PP.ext hP x6
   replace X := Fr.ext X x6
   clear x6
   refine cN (cM rfl rfl ?_)
   refine lw_does (does_call (by kernel_rfl) rfl (expect_c _ _ _ _ (by assumption) (by decide)) (fun _ _ h => ⟨_, h.1⟩)) rfl ?_ (fun _ h => h)
   rintro _ w11 ⟨⟨⟩, ⟨h9, f10⟩⟩
   have z12 := Fr.size f10
   replace h5 := Blk.fr h5 f10 (by omega)
   clear hP
   replace X := Fr.fr X f10 (by omega)
   clear f10
   refine cN (cM rfl rfl ?_)
   refine lw_does (does_call (by kernel_rfl) rfl (hname (by assumption)) (fun _ _ h => ⟨_, h.1⟩)) rfl ?_ (fun _ h => h)
   rintro _ w15 ⟨⟨⟩, ⟨h13, f14⟩⟩
   have z16 := Fr.size f14
   clear h9
   replace h5 := Blk.fr h5 f14 (by omega)
   replace X := Fr.fr X f14 (by omega)
   clear f14
   refine lw_pure (pur_build' [_, _, _, _, _, _] tabOk zOk rfl rfl rfl rfl) rfl ?_
   (refine lw_alloc' [_, _, _, _, _, _] zOk rfl rfl ?_; intro b17 w18 n19)
   (refine lw_init' [_, _, _, _, _, _] tabOk rfl rfl rfl rfl rfl rfl n19 rfl ?_; clear n19; clear w18; intro w20 n19)
   have h21 := New.blk n19
   have x22 := New.ext n19
   have p23 := New.pos n19
   have z24 := New.size n19
   clear n19
   replace h13 := PP.ext h13 x22
   replace h5 := Blk.ext h5 x22
   replace X := Fr.ext X x22
   clear x22
   refine cN (cM rfl rfl ?_)
   refine lw_does (does_call (by kernel_rfl) rfl (expect_c _ _ _ _ (by assumption) (by decide)) (fun _ _ h => ⟨_, h.1⟩)) rfl ?_ (fun _ h => h)
   rintro _ w27 ⟨⟨⟩, ⟨h25, f26⟩⟩
   have z28 := Fr.size f26
   replace h21 := Blk.fr h21 f26 (by omega)
   clear h13
   replace h5 := Blk.fr h5 f26 (by omega)
   replace X := Fr.fr X f26 (by omega)
   clear f26
   refine cT (cw_seq (cS (cM rfl rfl ?_)))
   refine lw_does (does_call (by kernel_rfl) rfl (accept_t _ _ _ _ (by assumption) (by decide) (by assumption)) (fun _ _ h => ⟨_, h.1⟩)) rfl ?_ (fun _ h => h)
   rintro _ w31 ⟨⟨⟩, ⟨h29, f30⟩⟩
   have z32 := Fr.size f30
   clear h25
   replace h21 := Blk.fr h21 f30 (by omega)
   replace h5 := Blk.fr h5 f30 (by omega)
   replace X := Fr.fr X f30 (by omega)
   clear f30
   refine lw_pure (pur_not rfl) rfl (cT (cw_cond_f rfl (cw_skip (qw_then (cS (cM rfl rfl ?_))))))
   refine lw_does (does_call (by kernel_rfl) rfl (body_c c k _ _ (by assumption) (by omega)) (fun _ _ h => h.ret)) rfl ?_ (fun _ h => h)
   rintro _ w38 ⟨a33, ⟨k34, ⟨⟨⟩, ⟨h35, ⟨h36, f37⟩⟩⟩⟩⟩
   have z39 := Fr.size f37
   clear h29
   replace h21 := Blk.fr h21 f37 (by omega)
   replace h5 := Blk.fr h5 f37 (by omega)
   replace X := Fr.fr X f37 (by omega)
   clear f37
   refine lw_pure (pur_fieldAddr tabOk rfl rfl rfl) rfl ?_
   (refine lw_store' [_, _, _, _] [_, _, _, _, _, _] tabOk rfl rfl rfl rfl rfl rfl h21 rfl rfl ?_; intro w40 n41)
   have h44 := Put.blk n41
   have f42 := Put.fr n41
   have z43 := Put.size n41
   clear n41 h21
   replace h35 := Nd.sits.fr h35 f42 (by omega)
   replace h36 := PP.fr h36 f42 (by omega)
   replace h5 := Blk.fr h5 f42 (by omega)
   replace X := Fr.fr X f42 (by omega)
   clear f42
   refine cN (lw_loads_b' [_, _, _, _, _, _] tabOk rfl rfl rfl h44 rfl rfl rfl ?_)
   (refine lw_store' [_, _, _, _, _, _] [_, _, _, _, _, _] tabOk rfl rfl rfl rfl rfl rfl h5 rfl rfl ?_; intro w45 n46)
   have h49 := Put.blk n46
   have f47 := Put.fr n46
   have z48 := Put.size n46
   clear n46 h5
   replace h44 := Blk.fr h44 f47 (by omega)
   replace h35 := Nd.sits.fr h35 f47 (by omega)
   replace h36 := PP.fr h36 f47 (by omega)
   replace X := Fr.fr X f47 (by omega)
   clear f47
   refine cT (cw_ret (qw_retc rfl tabOk rfl rfl rfl h49 rfl ?_))
   rotate_left 1
  exact ⟨_, _, _, _, rfl, Or.inl rfl, Nd.sits.wide (by assumption) (fun b h => by omega), by assumption, X⟩
 rw [show procQ c.ts c.n k (expectP c.ts c.n M.2 [40]) = ((paramsP c.ts c.n k [(declP c.ts c.n (expectP c.ts c.n M.2 [40])).1] (declP c.ts c.n (expectP c.ts c.n M.2 [40])).2).1, expectP c.ts c.n (paramsP c.ts c.n k [(declP c.ts c.n (expectP c.ts c.n M.2 [40])).1] (declP c.ts c.n (expectP c.ts c.n M.2 [40])).2).2 [41]) from by simp [procQ, hh]] at m4 ⊢
 simp only at m4 ⊢
 refine calls_in Tryz.func71 Tryz.ntmps71 rfl rfl ?_
 focus
  refine cS ?_
  (refine lw_alloc' [_, _, _, _, _, _] zOk rfl rfl ?_; intro ba1 wa2 na3)
  have ha5 := New.blk na3
  have xa6 := New.ext na3
  have pa7 := New.pos na3
  have za8 := New.size na3
  clear na3
  replace hP := PP.ext hP xa6
  replace X := Fr.ext X xa6
  clear xa6
  refine cN (cM rfl rfl ?_)
  refine lw_does (does_call (by kernel_rfl) rfl (expect_c _ _ _ _ (by assumption) (by decide)) (fun _ _ h => ⟨_, h.1⟩)) rfl ?_ (fun _ h => h)
  rintro _ wa11 ⟨⟨⟩, ⟨ha9, fa10⟩⟩
  have za12 := Fr.size fa10
  replace ha5 := Blk.fr ha5 fa10 (by omega)
  clear hP
  replace X := Fr.fr X fa10 (by omega)
  clear fa10
  refine cN (cM rfl rfl ?_)
  refine lw_does (does_call (by kernel_rfl) rfl (hname (by assumption)) (fun _ _ h => ⟨_, h.1⟩)) rfl ?_ (fun _ h => h)
  rintro _ wa15 ⟨⟨⟩, ⟨ha13, fa14⟩⟩
  have za16 := Fr.size fa14
  clear ha9
  replace ha5 := Blk.fr ha5 fa14 (by omega)
  replace X := Fr.fr X fa14 (by omega)
  clear fa14
  refine lw_pure (pur_build' [_, _, _, _, _, _] tabOk zOk rfl rfl rfl rfl) rfl ?_
  (refine lw_alloc' [_, _, _, _, _, _] zOk rfl rfl ?_; intro ba17 wa18 na19)
  (refine lw_init' [_, _, _, _, _, _] tabOk rfl rfl rfl rfl rfl rfl na19 rfl ?_; clear na19; clear wa18; intro wa20 na19)
  have ha21 := New.blk na19
  have xa22 := New.ext na19
  have pa23 := New.pos na19
  have za24 := New.size na19
  clear na19
  replace ha13 := PP.ext ha13 xa22
  replace ha5 := Blk.ext ha5 xa22
  replace X := Fr.ext X xa22
  clear xa22
  refine cN (cM rfl rfl ?_)
  refine lw_does (does_call (by kernel_rfl) rfl (expect_c _ _ _ _ (by assumption) (by decide)) (fun _ _ h => ⟨_, h.1⟩)) rfl ?_ (fun _ h => h)
  rintro _ wa27 ⟨⟨⟩, ⟨ha25, fa26⟩⟩
  have za28 := Fr.size fa26
  replace ha21 := Blk.fr ha21 fa26 (by omega)
  clear ha13
  replace ha5 := Blk.fr ha5 fa26 (by omega)
  replace X := Fr.fr X fa26 (by omega)
  clear fa26
  refine cT (cw_seq (cS (cM rfl rfl ?_)))
  refine lw_does (does_call (by kernel_rfl) rfl (accept_f _ _ _ _ (by assumption) (by decide) (by assumption)) (fun _ _ h => ⟨_, h.1⟩)) rfl ?_ (fun _ h => h)
  rintro _ wa31 ⟨⟨⟩, ⟨ha29, fa30⟩⟩
  have za32 := Fr.size fa30
  clear ha25
  replace ha21 := Blk.fr ha21 fa30 (by omega)
  replace ha5 := Blk.fr ha5 fa30 (by omega)
  replace X := Fr.fr X fa30 (by omega)
  clear fa30
  refine lw_pure (pur_not rfl) rfl (cT (cw_cond_t rfl (cS (cM rfl rfl ?_))))
  refine lw_does (does_call (by kernel_rfl) rfl (params_c c k _ _ (by assumption) (by omega)) (fun _ _ h => h.ret)) rfl ?_ (fun _ h => h)
  rintro _ wa38 ⟨aa33, ⟨ka34, ⟨⟨⟩, ⟨ha35, ⟨ha36, fa37⟩⟩⟩⟩⟩
  have za39 := Fr.size fa37
  clear ha29
  replace ha21 := Blk.fr ha21 fa37 (by omega)
  replace ha5 := Blk.fr ha5 fa37 (by omega)
  replace X := Fr.fr X fa37 (by omega)
  clear fa37
  refine lw_pure (pur_fieldAddr tabOk rfl rfl rfl) rfl ?_
  (refine lw_store' [_] [_, _, _, _, _, _] tabOk rfl rfl rfl rfl rfl rfl ha21 rfl rfl ?_; intro wa40 na41)
  have ha44 := Put.blk na41
  have fa42 := Put.fr na41
  have za43 := Put.size na41
  clear na41 ha21
  replace ha35 := VDs.fr ha35 fa42 (by omega)
  replace ha36 := PP.fr ha36 fa42 (by omega)
  replace ha5 := Blk.fr ha5 fa42 (by omega)
  replace X := Fr.fr X fa42 (by omega)
  clear fa42
  refine cT (cw_region (cM rfl rfl ?_))
  refine lw_does (does_call (by kernel_rfl) rfl (expect_c _ _ _ _ (by assumption) (by decide)) (fun _ _ h => ⟨_, h.1⟩)) rfl ?_ (fun _ h => h)
  rintro _ wa47 ⟨⟨⟩, ⟨ha45, fa46⟩⟩
  have za48 := Fr.size fa46
  replace ha44 := Blk.fr ha44 fa46 (by omega)
  replace ha35 := VDs.fr ha35 fa46 (by omega)
  clear ha36
  replace ha5 := Blk.fr ha5 fa46 (by omega)
  replace X := Fr.fr X fa46 (by omega)
  clear fa46
  refine cN (cM rfl rfl ?_)
  refine lw_does (does_call (by kernel_rfl) rfl (body_c c k _ _ (by assumption) (by omega)) (fun _ _ h => h.ret)) rfl ?_ (fun _ h => h)
  rintro _ wa54 ⟨aa49, ⟨ka50, ⟨⟨⟩, ⟨ha51, ⟨ha52, fa53⟩⟩⟩⟩⟩
  have za55 := Fr.size fa53
  clear ha45
  replace ha44 := Blk.fr ha44 fa53 (by omega)
  replace ha35 := VDs.fr ha35 fa53 (by omega)
  replace ha5 := Blk.fr ha5 fa53 (by omega)
  replace X := Fr.fr X fa53 (by omega)
  clear fa53
  refine lw_pure (pur_fieldAddr tabOk rfl rfl rfl) rfl ?_
  (refine lw_store' [_, _, _, _] [_, _, _, _, _, _] tabOk rfl rfl rfl rfl rfl rfl ha44 rfl rfl ?_; intro wa56 na57)
  have ha60 := Put.blk na57
  have fa58 := Put.fr na57
  have za59 := Put.size na57
  clear na57 ha44
  replace ha51 := Nd.sits.fr ha51 fa58 (by omega)
  replace ha52 := PP.fr ha52 fa58 (by omega)
  replace ha35 := VDs.fr ha35 fa58 (by omega)
  replace ha5 := Blk.fr ha5 fa58 (by omega)
  replace X := Fr.fr X fa58 (by omega)
  clear fa58
  refine cN (lw_loads_b' [_, _, _, _, _, _] tabOk rfl rfl rfl ha60 rfl rfl rfl ?_)
  (refine lw_store' [_, _, _, _, _, _] [_, _, _, _, _, _] tabOk rfl rfl rfl rfl rfl rfl ha5 rfl rfl ?_; intro wa61 na62)
  have ha65 := Put.blk na62
  have fa63 := Put.fr na62
  have za64 := Put.size na62
  clear na62 ha5
  replace ha60 := Blk.fr ha60 fa63 (by omega)
  replace ha51 := Nd.sits.fr ha51 fa63 (by omega)
  replace ha52 := PP.fr ha52 fa63 (by omega)
  replace ha35 := VDs.fr ha35 fa63 (by omega)
  replace X := Fr.fr X fa63 (by omega)
  clear fa63
  refine cT (cw_ret (qw_retc rfl tabOk rfl rfl rfl ha65 rfl ?_))
  rotate_left 1
 exact ⟨_, _, _, _, rfl, VDs.wide (by assumption) (fun b h => by omega), Nd.sits.wide (by assumption) (fun b h => by omega), by assumption, X⟩
end Bk
namespace Bk
open Go Go.RowKit Go.Proofs
attribute [local irreducible] Go.Calls
def PgR (c : PC) (w : World) (r : PG × PS) : Ending → World → Prop := fun e w' => ∃ va vc pa pc ma mc, e = .returned (.agg (r.1.cells va vc pa pc ma mc).toArray) ∧ r.1.sits (w.heap.size ≤ ·) w' va pa ma ∧ PP c r.2 w' ∧ Fr (· = c.pb) w w'
theorem PgR.ret {c : PC} {w : World} {r : PG × PS} {e : Ending} {w' : World} (h : PgR c w r e w') : ∃ v, e = .returned v := by
 obtain ⟨_, _, _, _, _, _, h, -⟩ := h
 exact ⟨_, h⟩
theorem PDs.wide {S S' : Nat → Prop} {w : World} {l : List PD} {a : Option Addr} (h : PDs S w l a) (hs : ∀ b, S b → S' b) : PDs S' w l a :=
 h.mono hs (fun _ _ _ _ _ ⟨pa, pc, ba, bc, h1, h2, h3⟩ => ⟨pa, pc, ba, bc, h1, h2.wide hs, h3.wide hs⟩)
set_option maxRecDepth 100000 in
set_option maxHeartbeats 4000000 in
theorem program_c (c : PC) (k : Nat) (σ : PS) (w : World) (hP : PP c σ w) (hk : 4 * mS c.ts σ + 9 ≤ k) :
 Calls Tryz.prog 25 #[.pointer (some ⟨c.pb, 0, none⟩)] w (PgR c w (programP c.ts c.n k σ)) := by
 have X := Fr.refl (· = c.pb) w
 have hpb := hP.pbB
 have hB := hP.B
 have hlen := hP.len
 have hat := hP.at_
 have hmt : mS c.ts σ ≤ c.ts.length := by unfold mS; split <;> omega
 unfold programP
 (try dsimp only)
 refine calls_in Tryz.func25 Tryz.ntmps25 rfl rfl ?_
 focus
  refine cS ?_
  (refine lw_alloc' [_, _, _, _, _, _] zOk rfl rfl ?_; intro b1 w2 n3)
  have h5 := New.blk n3
  have x6 := New.ext n3
  have p7 := New.pos n3
  have z8 := New.size n3
  clear n3
  replace hP := PP.ext hP x6
  replace X := Fr.ext X x6
  clear x6
  refine cN ?_
  (refine lw_alloc' [_, _, _, _, _, _] zOk rfl rfl ?_; intro b9 w10 n11)
  have h13 := New.blk n11
  have x14 := New.ext n11
  have p15 := New.pos n11
  have z16 := New.size n11
  clear n11
  replace h5 := Blk.ext h5 x14
  replace hP := PP.ext hP x14
  replace X := Fr.ext X x14
  clear x14
  refine cT (cw_seq (cw_block ?_))
  rotate_left 1
 refine cw_loop (ι := Nat × List VD × Option Addr × Nat × PS) (fun _ => [(0, .pointer (some ⟨c.pb, 0, none⟩)), (2, .pointer (some ⟨b1, 0, none⟩)), (3, .pointer (some ⟨b9, 0, none⟩))])
  (fun x w' => PP c x.2.2.2.2 w' ∧ Blk w' b9 [.slice x.2.2.1 x.2.1.length x.2.2.2.1, .slice none 0 0, .int .u8 0, .int .i64 0, .string ⟨#[]⟩, .slice none 0 0] ∧ OwnL vdShape w' (b9 + 1) 59 (.slice x.2.2.1 x.2.1.length x.2.2.2.1) x.2.1 ∧
   Blk w' b1 [.slice none 0 0, .slice none 0 0, .int .u8 0, .int .i64 0, .string ⟨#[]⟩, .slice none 0 0] ∧ Fr (· = c.pb) w w' ∧ w10.heap.size ≤ w'.heap.size ∧ Le c.ts σ x.2.2.2.2 ∧
   varsP c.ts c.n k [] σ = varsP c.ts c.n x.1 x.2.1 x.2.2.2.2 ∧ (x.2.2.2.2.err = 0 → mS c.ts x.2.2.2.2 + 1 ≤ x.1) ∧ 1 ≤ x.1 ∧ (x.2.2.2.2.err = 0 → x.2.1.length + mS c.ts x.2.2.2.2 ≤ 1000001)) (fun x => x.1) (k, [], none, 0, σ) (by (refine sub_cons rfl ?_; refine sub_cons rfl ?_; refine sub_cons rfl ?_; exact sub_nil))
  ⟨hP, h13, OwnL.nil, h5, X, Nat.le_refl _, Le.refl hat, rfl, fun _ => by simp only; omega, by simp only; omega, fun _ => by simp only [List.length_nil]; omega⟩ ?_
 rintro ⟨j, acc, a, cap, σ'⟩ w1 ⟨hP, hbn, hown, hbr, X, hz, hle, he, hfj, hj1, hacc⟩
 simp only at hP hbn hown hle he hfj hj1 hacc
 clear h13 h5
 rw [he]
 obtain ⟨j, rfl⟩ : ∃ i, j = i + 1 := ⟨j - 1, by omega⟩
 cases hc : atDeclP c.ts σ'
 case true =>
  have hin : In c.ts σ' := by
   simp only [atDeclP, Bool.or_eq_true] at hc
   rcases hc with (h | h) | h <;> exact has_in hP.at_ h (by decide)
  have h0 := hin.1
  have hf0 := hfj h0
  have ha0 := hacc h0
  have hm1 := mS_pos hin
  by_cases h8 : acc.length = 32
  · rw [show varsP c.ts c.n (j + 1) acc σ' = varsP c.ts c.n j (acc ++ [(declP c.ts c.n (failP σ' (peekP c.ts σ').pos 5)).1]) (declP c.ts c.n (failP σ' (peekP c.ts σ').pos 5)).2 from by rw [varsP]; simp [hc, h8]]
    have hfl := fail_le (show σ'.at_ ≤ c.ts.length from hP.at_) (peekP c.ts σ').pos 5
    have hdl := hfl.trans (decl_le (n := c.n) hfl.wf)
    have hdt : Lt σ' (declP c.ts c.n (failP σ' (peekP c.ts σ').pos 5)).2 := Lt.of_le hfl (decl_lt hfl.wf)
    have hdr := mS_drop hdl hdt
    have hle2 := hle.trans hdl
    focus
     refine cw_seq (cS (cM rfl rfl ?_))
     refine lw_does (does_call (by kernel_rfl) rfl (atDecl_c _ _ _ (by assumption)) (fun _ _ h => ⟨_, h.1⟩)) rfl ?_ (fun _ h => h)
     rintro _ wa2 ⟨⟨⟩, xa1⟩
     have za3 := Ext.size xa1
     replace hP := PP.ext hP xa1
     replace hbn := Blk.ext hbn xa1
     replace hown := OwnL.ext hown xa1
     replace hbr := Blk.ext hbr xa1
     replace X := Fr.ext X xa1
     clear xa1
     refine cT ?_
     refine cw_bt rfl (by assumption) ?_
     refine cw_skip (qw_then (cw_block (cw_seq (cS (lw_pure (pur_fieldAddr0 tabOk rfl rfl rfl) rfl (lw_load_b tabOk rfl rfl rfl hbn rfl rfl (lw_pure (pur_len_slice tabOk rfl rfl) rfl (lw_pure (pur_eql rfl rfl) rfl (cT ?_)))))))))
     refine cw_yes rfl (by omega) ?_
     refine cw_region (cM rfl rfl (cM rfl rfl ?_))
     refine lw_does (does_call (by kernel_rfl) rfl (peek_c _ _ _ (by assumption)) (fun _ _ h => ⟨_, h.1⟩)) rfl ?_ (fun _ h => h)
     rintro _ wa5 ⟨⟨⟩, xa4⟩
     have za6 := Ext.size xa4
     replace hP := PP.ext hP xa4
     replace hbn := Blk.ext hbn xa4
     replace hown := OwnL.ext hown xa4
     replace hbr := Blk.ext hbr xa4
     replace X := Fr.ext X xa4
     clear xa4
     refine lw_pure (pur_field tabOk rfl rfl rfl rfl rfl rfl) rfl ?_
     refine lw_does (does_call (by kernel_rfl) rfl (fail_c _ _ _ _ _ (by assumption)) (fun _ _ h => ⟨_, h.1⟩)) rfl ?_ (fun _ h => h)
     rintro _ wa9 ⟨⟨⟩, ⟨ha7, fa8⟩⟩
     have za10 := Fr.size fa8
     clear hP
     replace hbn := Blk.fr hbn fa8 (by omega)
     replace hown := OwnL.fr hown fa8 (by omega)
     replace hbr := Blk.fr hbr fa8 (by omega)
     replace X := Fr.fr X fa8 (by omega)
     clear fa8
     refine cT ?_
     (refine cw_tdraw (fun wz => Fr (· = c.pb) wa9 wz) 5 (.pure 0 (.pure 1 (.pure 2 (.fork 3 (.fork 4 .tail .none) .none)))) mixed (by kernel_rfl) (panicOk_block (panicOk_then (panicOk_block (panicOk_then panicOk_body)))) ?_; intro wa11 xa12 _)
     have qsa13 : (fun wz => Fr (· = c.pb) wa9 wz) wa11 := Fr.of_ext xa12
     simp only at qsa13
     have d_ha7 := ha7
     have d_hbn := hbn
     have d_hown := hown
     have d_hbr := hbr
     have za14 := Ext.size xa12
     replace ha7 := PP.ext ha7 xa12
     replace hbn := Blk.ext hbn xa12
     replace hown := OwnL.ext hown xa12
     replace hbr := Blk.ext hbr xa12
     replace X := Fr.ext X xa12
     clear xa12
     refine ⟨qsa13, ?_⟩
     refine tw_pure rfl (pur_fieldAddr0 tabOk rfl rfl rfl) rfl ?_
     refine tw_pure rfl (pur_load tabOk rfl rfl rfl (fun wz hz => Blk.cell (Blk.fr d_hbn hz (by omega)) rfl)) rfl ?_
     refine tw_pure rfl (pur_move rfl) rfl ?_
     refine tw_does rfl (does_call (by kernel_rfl) rfl (decl_p _ _ _ (by assumption)) (fun _ _ h => ⟨_, h.1⟩)) rfl ?_ (fun _ h => h) tw_none
     rintro _ wa17 ⟨⟨⟩, ⟨ha15, fa16⟩⟩
     have za18 := Fr.size fa16
     replace qsa13 := Fr.fr qsa13 fa16 (by omega)
     clear ha7
     replace hbn := Blk.fr hbn fa16 (by omega)
     replace hown := OwnL.fr hown fa16 (by omega)
     replace hbr := Blk.fr hbr fa16 (by omega)
     replace X := Fr.fr X fa16 (by omega)
     clear fa16
     refine ⟨qsa13, ?_⟩
     (refine tw_does rfl (does_slice' [_, _, _] tabOk zOk rfl rfl rfl rfl rfl rfl rfl rfl rfl) rfl ?_ (fun _ h => h) tw_none; rintro _ wa20 ⟨ba19, rfl, na21, ta22⟩)
     clear ta22
     have ha23 := New.blk na21
     have xa24 := New.ext na21
     have pa25 := New.pos na21
     have za26 := New.size na21
     clear na21
     replace ha15 := PP.ext ha15 xa24
     replace qsa13 := Fr.ext qsa13 xa24
     replace hbn := Blk.ext hbn xa24
     replace hown := OwnL.ext hown xa24
     replace hbr := Blk.ext hbr xa24
     replace X := Fr.ext X xa24
     clear xa24
     refine ⟨qsa13, ?_⟩
     clear d_ha7 d_hbn d_hown d_hbr qsa13
     refine tw_tail rfl ?_
     refine lw_appendL (sh := vdShape) tabOk zOk rfl rfl rfl rfl (by kernel_rfl) rfl rfl rfl hown (Blk.row (by assumption)) rfl (by omega) (by omega) rfl ?_
     rintro ga27 cap'a28 wa29 ha30 fa31
     have za32 := Fr.size fa31
     clear ha23
     replace ha15 := PP.fr ha15 fa31 (by omega)
     replace hbn := Blk.fr hbn fa31 (by omega)
     clear hown
     replace hbr := Blk.fr hbr fa31 (by omega)
     replace X := Fr.fr X fa31 (by omega)
     clear fa31
     refine lw_pure (pur_fieldAddr0 tabOk rfl rfl rfl) rfl ?_
     (refine lw_store' [_] [_, _, _, _, _, _] tabOk rfl rfl rfl rfl rfl rfl hbn rfl rfl ?_; intro wa33 na34)
     have ha37 := Put.blk na34
     have fa35 := Put.fr na34
     have za36 := Put.size na34
     clear na34 hbn
     replace ha30 := OwnL.fr ha30 fa35 (by omega)
     replace ha15 := PP.fr ha15 fa35 (by omega)
     replace hbr := Blk.fr hbr fa35 (by omega)
     replace X := Fr.fr X fa35 (by omega)
     clear fa35
     refine lw_nil (qw_block_norm ?_)
     rotate_left 1
    refine qw_round (j, acc ++ [(declP c.ts c.n (failP σ' (peekP c.ts σ').pos 5)).1], some ⟨_, 0, none⟩, _, (declP c.ts c.n (failP σ' (peekP c.ts σ').pos 5)).2) (by (refine sub_cons rfl ?_; refine sub_cons rfl ?_; refine sub_cons rfl ?_; exact sub_nil)) ⟨by assumption, by assumption, by assumption, by assumption, X, by omega, hle2, rfl, fun e => by have := hdr e; simp only; omega, by simp only; omega, fun e => by have := hdr e; simp only [List.length_append, List.length_cons, List.length_nil]; omega⟩ (by simp)
  · rw [show varsP c.ts c.n (j + 1) acc σ' = varsP c.ts c.n j (acc ++ [(declP c.ts c.n σ').1]) (declP c.ts c.n σ').2 from by rw [varsP]; simp [hc, h8]]
    have hdl := decl_le (n := c.n) hP.at_
    have hdr := mS_drop hdl (decl_lt hP.at_)
    have hle2 := hle.trans hdl
    focus
     refine cw_seq (cS (cM rfl rfl ?_))
     refine lw_does (does_call (by kernel_rfl) rfl (atDecl_c _ _ _ (by assumption)) (fun _ _ h => ⟨_, h.1⟩)) rfl ?_ (fun _ h => h)
     rintro _ wb2 ⟨⟨⟩, xb1⟩
     have zb3 := Ext.size xb1
     replace hP := PP.ext hP xb1
     replace hbn := Blk.ext hbn xb1
     replace hown := OwnL.ext hown xb1
     replace hbr := Blk.ext hbr xb1
     replace X := Fr.ext X xb1
     clear xb1
     refine cT ?_
     refine cw_bt rfl (by assumption) ?_
     refine cw_skip (qw_then (cw_block (cw_seq (cS (lw_pure (pur_fieldAddr0 tabOk rfl rfl rfl) rfl (lw_load_b tabOk rfl rfl rfl hbn rfl rfl (lw_pure (pur_len_slice tabOk rfl rfl) rfl (lw_pure (pur_eql rfl rfl) rfl (cT ?_)))))))))
     refine cw_no rfl (by omega) ?_
     refine cw_skip (qw_then ?_)
     (refine cw_tdraw (fun wz => Fr (· = c.pb) wb2 wz) 5 (.pure 0 (.pure 1 (.pure 2 (.fork 3 (.fork 4 .tail .none) .none)))) mixed (by kernel_rfl) (panicOk_block (panicOk_then (panicOk_block (panicOk_then panicOk_body)))) ?_; intro wb4 xb5 _)
     have qsb6 : (fun wz => Fr (· = c.pb) wb2 wz) wb4 := Fr.of_ext xb5
     simp only at qsb6
     have d_hP := hP
     have d_hbn := hbn
     have d_hown := hown
     have d_hbr := hbr
     have zb7 := Ext.size xb5
     replace hP := PP.ext hP xb5
     replace hbn := Blk.ext hbn xb5
     replace hown := OwnL.ext hown xb5
     replace hbr := Blk.ext hbr xb5
     replace X := Fr.ext X xb5
     clear xb5
     refine ⟨qsb6, ?_⟩
     refine tw_pure rfl (pur_fieldAddr0 tabOk rfl rfl rfl) rfl ?_
     refine tw_pure rfl (pur_load tabOk rfl rfl rfl (fun wz hz => Blk.cell (Blk.fr d_hbn hz (by omega)) rfl)) rfl ?_
     refine tw_pure rfl (pur_move rfl) rfl ?_
     refine tw_does rfl (does_call (by kernel_rfl) rfl (decl_p _ _ _ (by assumption)) (fun _ _ h => ⟨_, h.1⟩)) rfl ?_ (fun _ h => h) tw_none
     rintro _ wb10 ⟨⟨⟩, ⟨hb8, fb9⟩⟩
     have zb11 := Fr.size fb9
     replace qsb6 := Fr.fr qsb6 fb9 (by omega)
     clear hP
     replace hbn := Blk.fr hbn fb9 (by omega)
     replace hown := OwnL.fr hown fb9 (by omega)
     replace hbr := Blk.fr hbr fb9 (by omega)
     replace X := Fr.fr X fb9 (by omega)
     clear fb9
     refine ⟨qsb6, ?_⟩
     (refine tw_does rfl (does_slice' [_, _, _] tabOk zOk rfl rfl rfl rfl rfl rfl rfl rfl rfl) rfl ?_ (fun _ h => h) tw_none; rintro _ wb13 ⟨bb12, rfl, nb14, tb15⟩)
     clear tb15
     have hb16 := New.blk nb14
     have xb17 := New.ext nb14
     have pb18 := New.pos nb14
     have zb19 := New.size nb14
     clear nb14
     replace hb8 := PP.ext hb8 xb17
     replace qsb6 := Fr.ext qsb6 xb17
     replace hbn := Blk.ext hbn xb17
     replace hown := OwnL.ext hown xb17
     replace hbr := Blk.ext hbr xb17
     replace X := Fr.ext X xb17
     clear xb17
     refine ⟨qsb6, ?_⟩
     clear d_hP d_hbn d_hown d_hbr qsb6
     refine tw_tail rfl ?_
     refine lw_appendL (sh := vdShape) tabOk zOk rfl rfl rfl rfl (by kernel_rfl) rfl rfl rfl hown (Blk.row (by assumption)) rfl (by omega) (by omega) rfl ?_
     rintro gb20 cap'b21 wb22 hb23 fb24
     have zb25 := Fr.size fb24
     clear hb16
     replace hb8 := PP.fr hb8 fb24 (by omega)
     replace hbn := Blk.fr hbn fb24 (by omega)
     clear hown
     replace hbr := Blk.fr hbr fb24 (by omega)
     replace X := Fr.fr X fb24 (by omega)
     clear fb24
     refine lw_pure (pur_fieldAddr0 tabOk rfl rfl rfl) rfl ?_
     (refine lw_store' [_] [_, _, _, _, _, _] tabOk rfl rfl rfl rfl rfl rfl hbn rfl rfl ?_; intro wb26 nb27)
     have hb30 := Put.blk nb27
     have fb28 := Put.fr nb27
     have zb29 := Put.size nb27
     clear nb27 hbn
     replace hb23 := OwnL.fr hb23 fb28 (by omega)
     replace hb8 := PP.fr hb8 fb28 (by omega)
     replace hbr := Blk.fr hbr fb28 (by omega)
     replace X := Fr.fr X fb28 (by omega)
     clear fb28
     refine lw_nil (qw_block_norm ?_)
     rotate_left 1
    refine qw_round (j, acc ++ [(declP c.ts c.n σ').1], some ⟨_, 0, none⟩, _, (declP c.ts c.n σ').2) (by (refine sub_cons rfl ?_; refine sub_cons rfl ?_; refine sub_cons rfl ?_; exact sub_nil)) ⟨by assumption, by assumption, by assumption, by assumption, X, by omega, hle2, rfl, fun e => by have := hdr e; simp only; omega, by simp only; omega, fun e => by have := hdr e; simp only [List.length_append, List.length_cons, List.length_nil]; omega⟩ (by simp)
 rw [show varsP c.ts c.n (j + 1) acc σ' = (acc, σ') from by rw [varsP]; simp [hc]]
 simp only
 have hm' := mS_le hle
 have hat' := hP.at_
 focus
  refine cw_seq (cS (cM rfl rfl ?_))
  refine lw_does (does_call (by kernel_rfl) rfl (atDecl_c _ _ _ (by assumption)) (fun _ _ h => ⟨_, h.1⟩)) rfl ?_ (fun _ h => h)
  rintro _ wc2 ⟨⟨⟩, xc1⟩
  have zc3 := Ext.size xc1
  replace hP := PP.ext hP xc1
  replace hbn := Blk.ext hbn xc1
  replace hown := OwnL.ext hown xc1
  replace hbr := Blk.ext hbr xc1
  replace X := Fr.ext X xc1
  clear xc1
  refine cT ?_
  refine cw_bf rfl (by assumption) ?_
  refine cw_exit (qw_then_exit (qw_then_exit (qw_block_exit (qw_then (cw_seq (cw_block ?_))))))
  rotate_left 1
 have hvs : VDs (fun b => b9 < b ∧ b < wc2.heap.size) wc2 acc a := (OwnL.vds (S := (b9 < ·)) hown (fun b h => h)).lt2
 clear hown
 refine cw_loop (ι := Nat × List PD × Option Addr × Nat × PS) (fun _ => [(0, .pointer (some ⟨c.pb, 0, none⟩)), (2, .pointer (some ⟨b1, 0, none⟩)), (3, .pointer (some ⟨b9, 0, none⟩))])
  (fun x w' => PP c x.2.2.2.2 w' ∧ Blk w' b9 [.slice a acc.length cap, .slice x.2.2.1 x.2.1.length x.2.2.2.1, .int .u8 0, .int .i64 0, .string ⟨#[]⟩, .slice none 0 0] ∧ OwnL pdShape w' wc2.heap.size 65 (.slice x.2.2.1 x.2.1.length x.2.2.2.1) x.2.1 ∧ VDs (fun b => b9 < b ∧ b < wc2.heap.size) w' acc a ∧
   Blk w' b1 [.slice none 0 0, .slice none 0 0, .int .u8 0, .int .i64 0, .string ⟨#[]⟩, .slice none 0 0] ∧ Fr (· = c.pb) w w' ∧ wc2.heap.size ≤ w'.heap.size ∧ Le c.ts σ' x.2.2.2.2 ∧
   procsP c.ts c.n k [] σ' = procsP c.ts c.n x.1 x.2.1 x.2.2.2.2 ∧ (x.2.2.2.2.err = 0 → 4 * mS c.ts x.2.2.2.2 + 9 ≤ x.1) ∧ 1 ≤ x.1 ∧ x.1 ≤ k ∧ (x.2.2.2.2.err = 0 → x.2.1.length + mS c.ts x.2.2.2.2 ≤ 1000001)) (fun x => x.1) (k, [], none, 0, σ') (by (refine sub_cons rfl ?_; refine sub_cons rfl ?_; refine sub_cons rfl ?_; exact sub_nil))
  ⟨hP, hbn, OwnL.nil, hvs, hbr, X, Nat.le_refl _, Le.refl hat', rfl, fun _ => by simp only; omega, by simp only; omega, Nat.le_refl _, fun _ => by simp only [List.length_nil]; omega⟩ ?_
 rintro ⟨i, pacc, pa, pcap, ρ'⟩ w5 ⟨hP, hbn, hown2, hvs, hbr, X, hz5, hle5, he5, hfi, hi1, hik, hpacc⟩
 simp only at hP hbn hown2 hle5 he5 hfi hi1 hik hpacc
 rw [he5]
 clear he hfj hacc he5
 obtain ⟨i, rfl⟩ : ∃ m, i = m + 1 := ⟨i - 1, by omega⟩
 have hob : ∀ g, (Value.slice pa pacc.length pcap).ownBlock = some g → g < w5.heap.size := fun g h => hown2.lt h
 by_cases hp : (peekP c.ts ρ').text = [112, 114, 111, 99]
 · have hc2 : hasP c.ts ρ' [112, 114, 111, 99] = true := by simp [hasP, hp]
   have hin := has_in hP.at_ hc2 (by decide)
   have h0 := hin.1
   have hf0 := hfi h0
   have ha0 := hpacc h0
   have hm1 := mS_pos hin
   by_cases h8 : pacc.length = 64
   · rw [show procsP c.ts c.n (i + 1) pacc ρ' = procsP c.ts c.n i (pacc ++ [(procP c.ts c.n i (failP ρ' (peekP c.ts ρ').pos 5)).1]) (procP c.ts c.n i (failP ρ' (peekP c.ts ρ').pos 5)).2 from by rw [procsP]; simp [hc2, h8]]
     have hfl := fail_le (show ρ'.at_ ≤ c.ts.length from hP.at_) (peekP c.ts ρ').pos 5
     have hfm := mS_le hfl
     have hdl := hfl.trans (procP_le (n := c.n) (k := i) hfl.wf)
     have hdr := mS_drop hdl (Lt.of_le hfl (procP_lt (n := c.n) (k := i) hfl.wf))
     have hle2 := hle5.trans hdl
     focus
      refine cw_seq (cS (cM rfl rfl ?_))
      refine lw_does (does_call (by kernel_rfl) rfl (peek_c _ _ _ (by assumption)) (fun _ _ h => ⟨_, h.1⟩)) rfl ?_ (fun _ h => h)
      rintro _ wd2 ⟨⟨⟩, xd1⟩
      have zd3 := Ext.size xd1
      replace hP := PP.ext hP xd1
      replace hbn := Blk.ext hbn xd1
      replace hown2 := OwnL.ext hown2 xd1
      replace hvs := VDs.ext hvs xd1
      replace hbr := Blk.ext hbr xd1
      replace X := Fr.ext X xd1
      clear xd1
      refine lw_pure (pur_field tabOk rfl rfl rfl rfl rfl rfl) rfl (lw_pure (pur_seql rfl rfl) rfl (cT ?_))
      refine cw_yes rfl (by assumption) ?_
      refine cw_skip (qw_then (cw_block (cw_seq (cS (lw_pure (pur_fieldAddr tabOk rfl rfl rfl) rfl (lw_load_b tabOk rfl rfl rfl hbn rfl rfl (lw_pure (pur_len_slice tabOk rfl rfl) rfl (lw_pure (pur_eql rfl rfl) rfl (cT ?_)))))))))
      refine cw_yes rfl (by omega) ?_
      refine cw_region (cM rfl rfl (cM rfl rfl ?_))
      refine lw_does (does_call (by kernel_rfl) rfl (peek_c _ _ _ (by assumption)) (fun _ _ h => ⟨_, h.1⟩)) rfl ?_ (fun _ h => h)
      rintro _ wd5 ⟨⟨⟩, xd4⟩
      have zd6 := Ext.size xd4
      replace hP := PP.ext hP xd4
      replace hbn := Blk.ext hbn xd4
      replace hown2 := OwnL.ext hown2 xd4
      replace hvs := VDs.ext hvs xd4
      replace hbr := Blk.ext hbr xd4
      replace X := Fr.ext X xd4
      clear xd4
      refine lw_pure (pur_field tabOk rfl rfl rfl rfl rfl rfl) rfl ?_
      refine lw_does (does_call (by kernel_rfl) rfl (fail_c _ _ _ _ _ (by assumption)) (fun _ _ h => ⟨_, h.1⟩)) rfl ?_ (fun _ h => h)
      rintro _ wd9 ⟨⟨⟩, ⟨hd7, fd8⟩⟩
      have zd10 := Fr.size fd8
      clear hP
      replace hbn := Blk.fr hbn fd8 (by omega)
      replace hown2 := OwnL.fr hown2 fd8 (by omega)
      replace hvs := VDs.fr hvs fd8 (by omega)
      replace hbr := Blk.fr hbr fd8 (by omega)
      replace X := Fr.fr X fd8 (by omega)
      clear fd8
      refine cT ?_
      (refine cw_tdraw (fun wz => Fr (· = c.pb) wd9 wz) 5 (.pure 0 (.pure 1 (.pure 2 (.fork 3 (.fork 4 .tail .none) .none)))) mixed (by kernel_rfl) (panicOk_block (panicOk_then (panicOk_block (panicOk_then panicOk_body)))) ?_; intro wd11 xd12 _)
      have qsd13 : (fun wz => Fr (· = c.pb) wd9 wz) wd11 := Fr.of_ext xd12
      simp only at qsd13
      have d_hd7 := hd7
      have d_hbn := hbn
      have d_hown2 := hown2
      have d_hvs := hvs
      have d_hbr := hbr
      have zd14 := Ext.size xd12
      replace hd7 := PP.ext hd7 xd12
      replace hbn := Blk.ext hbn xd12
      replace hown2 := OwnL.ext hown2 xd12
      replace hvs := VDs.ext hvs xd12
      replace hbr := Blk.ext hbr xd12
      replace X := Fr.ext X xd12
      clear xd12
      refine ⟨qsd13, ?_⟩
      refine tw_pure rfl (pur_fieldAddr tabOk rfl rfl rfl) rfl ?_
      refine tw_pure rfl (pur_load tabOk rfl rfl rfl (fun wz hz => Blk.cell (Blk.fr d_hbn hz (by omega)) rfl)) rfl ?_
      refine tw_pure rfl (pur_move rfl) rfl ?_
      refine tw_does rfl (does_call (by kernel_rfl) rfl (proc_c c i _ _ (by assumption) (by omega)) (fun _ _ h => h.ret)) rfl ?_ (fun _ h => h) tw_none
      rintro _ wd23 ⟨pad15, ⟨pcd16, ⟨bad17, ⟨bcd18, ⟨⟨⟩, ⟨hd19, ⟨hd20, ⟨hd21, fd22⟩⟩⟩⟩⟩⟩⟩⟩
      have zd24 := Fr.size fd22
      replace qsd13 := Fr.fr qsd13 fd22 (by omega)
      clear hd7
      replace hbn := Blk.fr hbn fd22 (by omega)
      replace hown2 := OwnL.fr hown2 fd22 (by omega)
      replace hvs := VDs.fr hvs fd22 (by omega)
      replace hbr := Blk.fr hbr fd22 (by omega)
      replace X := Fr.fr X fd22 (by omega)
      clear fd22
      refine ⟨qsd13, ?_⟩
      (refine tw_does rfl (does_slice' [_, _, _, _, _, _] tabOk zOk rfl rfl rfl rfl rfl rfl rfl rfl rfl) rfl ?_ (fun _ h => h) tw_none; rintro _ wd26 ⟨bd25, rfl, nd27, td28⟩)
      clear td28
      have hd29 := New.blk nd27
      have xd30 := New.ext nd27
      have pd31 := New.pos nd27
      have zd32 := New.size nd27
      clear nd27
      replace hd19 := VDs.ext hd19 xd30
      replace hd20 := Nd.sits.ext hd20 xd30
      replace hd21 := PP.ext hd21 xd30
      replace qsd13 := Fr.ext qsd13 xd30
      replace hbn := Blk.ext hbn xd30
      replace hown2 := OwnL.ext hown2 xd30
      replace hvs := VDs.ext hvs xd30
      replace hbr := Blk.ext hbr xd30
      replace X := Fr.ext X xd30
      clear xd30
      refine ⟨qsd13, ?_⟩
      clear d_hd7 d_hbn d_hown2 d_hvs d_hbr qsd13
      refine tw_tail rfl ?_
      refine lw_appendL (sh := pdShape) tabOk zOk rfl rfl rfl rfl (by kernel_rfl) rfl rfl rfl hown2 (Blk.row (by assumption)) ⟨_, _, _, _, rfl, VDs.wide (by assumption) (fun b h => ⟨by omega, fun e => by have := hob _ e; omega⟩), Nd.sits.wide (by assumption) (fun b h => ⟨by omega, fun e => by have := hob _ e; omega⟩)⟩ (by omega) (by omega) rfl ?_
      rintro gd33 cap'd34 wd35 hd36 fd37
      have zd38 := Fr.size fd37
      clear hd29 hd19 hd20
      replace hd21 := PP.fr hd21 fd37 (by omega)
      replace hbn := Blk.fr hbn fd37 (by omega)
      clear hown2
      replace hvs := VDs.fr hvs fd37 (by omega)
      replace hbr := Blk.fr hbr fd37 (by omega)
      replace X := Fr.fr X fd37 (by omega)
      clear fd37
      refine lw_pure (pur_fieldAddr tabOk rfl rfl rfl) rfl ?_
      (refine lw_store' [_] [_, _, _, _, _, _] tabOk rfl rfl rfl rfl rfl rfl hbn rfl rfl ?_; intro wd39 nd40)
      have hd43 := Put.blk nd40
      have fd41 := Put.fr nd40
      have zd42 := Put.size nd40
      clear nd40 hbn
      replace hd36 := OwnL.fr hd36 fd41 (by omega)
      replace hd21 := PP.fr hd21 fd41 (by omega)
      replace hvs := VDs.fr hvs fd41 (by omega)
      replace hbr := Blk.fr hbr fd41 (by omega)
      replace X := Fr.fr X fd41 (by omega)
      clear fd41
      refine lw_nil (qw_block_norm ?_)
      rotate_left 1
     refine qw_round (i, pacc ++ [(procP c.ts c.n i (failP ρ' (peekP c.ts ρ').pos 5)).1], some ⟨_, 0, none⟩, _, (procP c.ts c.n i (failP ρ' (peekP c.ts ρ').pos 5)).2) (by (refine sub_cons rfl ?_; refine sub_cons rfl ?_; refine sub_cons rfl ?_; exact sub_nil)) ⟨by assumption, by assumption, by assumption, by assumption, by assumption, X, by omega, hle2, rfl, fun e => by have := hdr e; simp only; omega, by simp only; omega, by simp only; omega, fun e => by have := hdr e; simp only [List.length_append, List.length_cons, List.length_nil]; omega⟩ (by simp)
   · rw [show procsP c.ts c.n (i + 1) pacc ρ' = procsP c.ts c.n i (pacc ++ [(procP c.ts c.n i ρ').1]) (procP c.ts c.n i ρ').2 from by rw [procsP]; simp [hc2, h8]]
     have hdl := procP_le (n := c.n) (k := i) hP.at_
     have hdr := mS_drop hdl (procP_lt (n := c.n) (k := i) hP.at_)
     have hle2 := hle5.trans hdl
     focus
      refine cw_seq (cS (cM rfl rfl ?_))
      refine lw_does (does_call (by kernel_rfl) rfl (peek_c _ _ _ (by assumption)) (fun _ _ h => ⟨_, h.1⟩)) rfl ?_ (fun _ h => h)
      rintro _ we2 ⟨⟨⟩, xe1⟩
      have ze3 := Ext.size xe1
      replace hP := PP.ext hP xe1
      replace hbn := Blk.ext hbn xe1
      replace hown2 := OwnL.ext hown2 xe1
      replace hvs := VDs.ext hvs xe1
      replace hbr := Blk.ext hbr xe1
      replace X := Fr.ext X xe1
      clear xe1
      refine lw_pure (pur_field tabOk rfl rfl rfl rfl rfl rfl) rfl (lw_pure (pur_seql rfl rfl) rfl (cT ?_))
      refine cw_yes rfl (by assumption) ?_
      refine cw_skip (qw_then (cw_block (cw_seq (cS (lw_pure (pur_fieldAddr tabOk rfl rfl rfl) rfl (lw_load_b tabOk rfl rfl rfl hbn rfl rfl (lw_pure (pur_len_slice tabOk rfl rfl) rfl (lw_pure (pur_eql rfl rfl) rfl (cT ?_)))))))))
      refine cw_no rfl (by omega) ?_
      refine cw_skip (qw_then ?_)
      (refine cw_tdraw (fun wz => Fr (· = c.pb) we2 wz) 5 (.pure 0 (.pure 1 (.pure 2 (.fork 3 (.fork 4 .tail .none) .none)))) mixed (by kernel_rfl) (panicOk_block (panicOk_then (panicOk_block (panicOk_then panicOk_body)))) ?_; intro we4 xe5 _)
      have qse6 : (fun wz => Fr (· = c.pb) we2 wz) we4 := Fr.of_ext xe5
      simp only at qse6
      have d_hP := hP
      have d_hbn := hbn
      have d_hown2 := hown2
      have d_hvs := hvs
      have d_hbr := hbr
      have ze7 := Ext.size xe5
      replace hP := PP.ext hP xe5
      replace hbn := Blk.ext hbn xe5
      replace hown2 := OwnL.ext hown2 xe5
      replace hvs := VDs.ext hvs xe5
      replace hbr := Blk.ext hbr xe5
      replace X := Fr.ext X xe5
      clear xe5
      refine ⟨qse6, ?_⟩
      refine tw_pure rfl (pur_fieldAddr tabOk rfl rfl rfl) rfl ?_
      refine tw_pure rfl (pur_load tabOk rfl rfl rfl (fun wz hz => Blk.cell (Blk.fr d_hbn hz (by omega)) rfl)) rfl ?_
      refine tw_pure rfl (pur_move rfl) rfl ?_
      refine tw_does rfl (does_call (by kernel_rfl) rfl (proc_c c i _ _ (by assumption) (by omega)) (fun _ _ h => h.ret)) rfl ?_ (fun _ h => h) tw_none
      rintro _ we16 ⟨pae8, ⟨pce9, ⟨bae10, ⟨bce11, ⟨⟨⟩, ⟨he12, ⟨he13, ⟨he14, fe15⟩⟩⟩⟩⟩⟩⟩⟩
      have ze17 := Fr.size fe15
      replace qse6 := Fr.fr qse6 fe15 (by omega)
      clear hP
      replace hbn := Blk.fr hbn fe15 (by omega)
      replace hown2 := OwnL.fr hown2 fe15 (by omega)
      replace hvs := VDs.fr hvs fe15 (by omega)
      replace hbr := Blk.fr hbr fe15 (by omega)
      replace X := Fr.fr X fe15 (by omega)
      clear fe15
      refine ⟨qse6, ?_⟩
      (refine tw_does rfl (does_slice' [_, _, _, _, _, _] tabOk zOk rfl rfl rfl rfl rfl rfl rfl rfl rfl) rfl ?_ (fun _ h => h) tw_none; rintro _ we19 ⟨be18, rfl, ne20, te21⟩)
      clear te21
      have he22 := New.blk ne20
      have xe23 := New.ext ne20
      have pe24 := New.pos ne20
      have ze25 := New.size ne20
      clear ne20
      replace he12 := VDs.ext he12 xe23
      replace he13 := Nd.sits.ext he13 xe23
      replace he14 := PP.ext he14 xe23
      replace qse6 := Fr.ext qse6 xe23
      replace hbn := Blk.ext hbn xe23
      replace hown2 := OwnL.ext hown2 xe23
      replace hvs := VDs.ext hvs xe23
      replace hbr := Blk.ext hbr xe23
      replace X := Fr.ext X xe23
      clear xe23
      refine ⟨qse6, ?_⟩
      clear d_hP d_hbn d_hown2 d_hvs d_hbr qse6
      refine tw_tail rfl ?_
      refine lw_appendL (sh := pdShape) tabOk zOk rfl rfl rfl rfl (by kernel_rfl) rfl rfl rfl hown2 (Blk.row (by assumption)) ⟨_, _, _, _, rfl, VDs.wide (by assumption) (fun b h => ⟨by omega, fun e => by have := hob _ e; omega⟩), Nd.sits.wide (by assumption) (fun b h => ⟨by omega, fun e => by have := hob _ e; omega⟩)⟩ (by omega) (by omega) rfl ?_
      rintro ge26 cap'e27 we28 he29 fe30
      have ze31 := Fr.size fe30
      clear he22 he12 he13
      replace he14 := PP.fr he14 fe30 (by omega)
      replace hbn := Blk.fr hbn fe30 (by omega)
      clear hown2
      replace hvs := VDs.fr hvs fe30 (by omega)
      replace hbr := Blk.fr hbr fe30 (by omega)
      replace X := Fr.fr X fe30 (by omega)
      clear fe30
      refine lw_pure (pur_fieldAddr tabOk rfl rfl rfl) rfl ?_
      (refine lw_store' [_] [_, _, _, _, _, _] tabOk rfl rfl rfl rfl rfl rfl hbn rfl rfl ?_; intro we32 ne33)
      have he36 := Put.blk ne33
      have fe34 := Put.fr ne33
      have ze35 := Put.size ne33
      clear ne33 hbn
      replace he29 := OwnL.fr he29 fe34 (by omega)
      replace he14 := PP.fr he14 fe34 (by omega)
      replace hvs := VDs.fr hvs fe34 (by omega)
      replace hbr := Blk.fr hbr fe34 (by omega)
      replace X := Fr.fr X fe34 (by omega)
      clear fe34
      refine lw_nil (qw_block_norm ?_)
      rotate_left 1
     refine qw_round (i, pacc ++ [(procP c.ts c.n i ρ').1], some ⟨_, 0, none⟩, _, (procP c.ts c.n i ρ').2) (by (refine sub_cons rfl ?_; refine sub_cons rfl ?_; refine sub_cons rfl ?_; exact sub_nil)) ⟨by assumption, by assumption, by assumption, by assumption, by assumption, X, by omega, hle2, rfl, fun e => by have := hdr e; simp only; omega, by simp only; omega, by simp only; omega, fun e => by have := hdr e; simp only [List.length_append, List.length_cons, List.length_nil]; omega⟩ (by simp)
 · have hc2 : hasP c.ts ρ' [112, 114, 111, 99] = false := by simp [hasP, hp]
   rw [show procsP c.ts c.n (i + 1) pacc ρ' = (pacc, ρ') from by rw [procsP]; simp [hc2]]
   simp only
   have hle6 := expect_le (n := c.n) (t := [109, 97, 105, 110]) hle5.wf (by decide)
   have hm6 := mS_le hle6
   have hm5 := mS_le hle5
   focus
    refine cw_seq (cS (cM rfl rfl ?_))
    refine lw_does (does_call (by kernel_rfl) rfl (peek_c _ _ _ (by assumption)) (fun _ _ h => ⟨_, h.1⟩)) rfl ?_ (fun _ h => h)
    rintro _ wf2 ⟨⟨⟩, xf1⟩
    have zf3 := Ext.size xf1
    replace hP := PP.ext hP xf1
    replace hbn := Blk.ext hbn xf1
    replace hown2 := OwnL.ext hown2 xf1
    replace hvs := VDs.ext hvs xf1
    replace hbr := Blk.ext hbr xf1
    replace X := Fr.ext X xf1
    clear xf1
    refine lw_pure (pur_field tabOk rfl rfl rfl rfl rfl rfl) rfl (lw_pure (pur_seql rfl rfl) rfl (cT ?_))
    refine cw_no rfl (by assumption) ?_
    refine cw_exit (qw_then_exit (qw_then_exit (qw_block_exit (qw_then (cS (cM rfl rfl ?_))))))
    refine lw_does (does_call (by kernel_rfl) rfl (expect_c _ _ _ _ (by assumption) (by decide)) (fun _ _ h => ⟨_, h.1⟩)) rfl ?_ (fun _ h => h)
    rintro _ wf6 ⟨⟨⟩, ⟨hf4, ff5⟩⟩
    have zf7 := Fr.size ff5
    clear hP
    replace hbn := Blk.fr hbn ff5 (by omega)
    replace hown2 := OwnL.fr hown2 ff5 (by omega)
    replace hvs := VDs.fr hvs ff5 (by omega)
    replace hbr := Blk.fr hbr ff5 (by omega)
    replace X := Fr.fr X ff5 (by omega)
    clear ff5
    refine cN (cM rfl rfl ?_)
    refine lw_does (does_call (by kernel_rfl) rfl (body_c c k _ _ (by assumption) (by omega)) (fun _ _ h => h.ret)) rfl ?_ (fun _ h => h)
    rintro _ wf13 ⟨af8, ⟨kf9, ⟨⟨⟩, ⟨hf10, ⟨hf11, ff12⟩⟩⟩⟩⟩
    have zf14 := Fr.size ff12
    clear hf4
    replace hbn := Blk.fr hbn ff12 (by omega)
    replace hown2 := OwnL.fr hown2 ff12 (by omega)
    replace hvs := VDs.fr hvs ff12 (by omega)
    replace hbr := Blk.fr hbr ff12 (by omega)
    replace X := Fr.fr X ff12 (by omega)
    clear ff12
    refine lw_pure (pur_fieldAddr tabOk rfl rfl rfl) rfl ?_
    (refine lw_store' [_, _, _, _] [_, _, _, _, _, _] tabOk rfl rfl rfl rfl rfl rfl hbn rfl rfl ?_; intro wf15 nf16)
    have hf19 := Put.blk nf16
    have ff17 := Put.fr nf16
    have zf18 := Put.size nf16
    clear nf16 hbn
    replace hf10 := Nd.sits.fr hf10 ff17 (by omega)
    replace hf11 := PP.fr hf11 ff17 (by omega)
    replace hown2 := OwnL.fr hown2 ff17 (by omega)
    replace hvs := VDs.fr hvs ff17 (by omega)
    replace hbr := Blk.fr hbr ff17 (by omega)
    replace X := Fr.fr X ff17 (by omega)
    clear ff17
    refine cN (lw_loads_b' [_, _, _, _, _, _] tabOk rfl rfl rfl hf19 rfl rfl rfl ?_)
    (refine lw_store' [_, _, _, _, _, _] [_, _, _, _, _, _] tabOk rfl rfl rfl rfl rfl rfl hbr rfl rfl ?_; intro wf20 nf21)
    have hf24 := Put.blk nf21
    have ff22 := Put.fr nf21
    have zf23 := Put.size nf21
    clear nf21 hbr
    replace hf19 := Blk.fr hf19 ff22 (by omega)
    replace hf10 := Nd.sits.fr hf10 ff22 (by omega)
    replace hf11 := PP.fr hf11 ff22 (by omega)
    replace hown2 := OwnL.fr hown2 ff22 (by omega)
    replace hvs := VDs.fr hvs ff22 (by omega)
    replace X := Fr.fr X ff22 (by omega)
    clear ff22
    refine cT (cw_ret (qw_retc rfl tabOk rfl rfl rfl hf24 rfl ?_))
    rotate_left 1
   refine ⟨_, _, _, _, _, _, rfl, ⟨VDs.wide (by assumption) (fun b h => by omega), OwnL.pds hown2 (fun b h => by omega), Nd.sits.wide (by assumption) (fun b h => by omega)⟩, by assumption, X⟩
end Bk
