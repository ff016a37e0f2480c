/- Texts that the proofs of InverterConcat need. No condition. (Part 6 of 6.) -/
import Derived.Test.YtgiikljkekpenaaGreatDoorPInb5
set_option linter.unusedSimpArgs false
set_option linter.unusedVariables false
namespace Bk
open Go Go.RowKit Go.Proofs
attribute [local irreducible] Go.Calls
theorem great17_c (t : Nd) (hwf : t.wf) (S : Nat → Prop) (a : Option Addr) (c : Nat) (w : World) (hs : t.sits S w a) :
 Calls Tryz.prog 8 #[.agg #[.slice none 0 0, .slice none 0 0, .int .u8 t.kind, .int .i64 t.num, str t.name, .slice a t.kids.length c]] w fun e w' => ∃ q : Int, e = .returned (.int .i64 q) ∧ (q = 1 ∨ (q = 0 ∧ (t.small 24 200).1 = true)) ∧ Ext w w' := by
 refine (Great_s ⟨[], [], t⟩ S none 0 none 0 a c w ⟨by simp, by simp, by simp, by simp, hwf⟩ ⟨by simp [VDs, Arr], by simp [PDs, Arr], hs⟩).mono ?_; rintro e w' ⟨q, h, hq, x⟩
 exact ⟨q, h, hq.imp id (fun h => ⟨h.1, h.2.main⟩), x⟩
theorem equalS_v (t : Nd) (hz : t.size ≤ 1000000) (S S' : Nat → Prop) (a a' : Option Addr) (c c' : Nat) (w : World) (hs : t.sits S w a) (hs' : t.sits S' w a') : Calls Tryz.prog 12 #[t.val a c, t.val a' c'] w fun e w' => e = .returned (.bool true) ∧ Ext w w' := by
 have := equalI_v t hz t S S' a a' c c' w hs hs'
 rw [(eqb_iff t t).2 rfl] at this; exact this
end Bk
namespace Bk
open Go Go.RowKit Go.Proofs
attribute [local irreducible] Go.Calls
def joinI (t u : Nd) : Nd := .mk 57 0 [] (t.kids ++ u.kids)
def JoinR (t u : Nd) (w : World) : Ending → World → Prop := fun e w' => ∃ a c, e = .returned (.agg #[.int .u8 57, .int .i64 0, str [], .slice a (t.kids ++ u.kids).length c]) ∧ (joinI t u).sits (· < w'.heap.size) w' a ∧ Ext w w'
theorem JoinR.ret {t u : Nd} {w : World} {e : Ending} {w' : World} (h : JoinR t u w e w') : ∃ v, e = .returned v := by
 obtain ⟨_, _, h, -⟩ := h
 exact ⟨_, h⟩
theorem kidsSitsI {S : Nat → Prop} {w : World} {t : Nd} {a : Option Addr} (h : t.sits S w a) : rowSits S w t.kids a := by
 obtain ⟨k, n, s, l⟩ := t
 exact h
theorem sits_mkI {S : Nat → Prop} {w : World} {t u : Nd} {a : Option Addr} (h : rowSits S w (t.kids ++ u.kids) a) : (joinI t u).sits S w a := h
theorem joinR_mk {t u : Nd} {w w' : World} {e g cap : Nat} (h : OwnG e w.heap.size w' g cap (t.kids ++ u.kids)) (X : Ext w w') : JoinR t u w (.returned (.agg #[.int .u8 57, .int .i64 0, str [], .slice (some ⟨g, 0, none⟩) (t.kids ++ u.kids).length cap])) w' := by
 have h1 := h.lt; have h2 := X.size
 exact ⟨_, _, rfl, Nd.sits.wide (sits_mkI h.sits) (fun b hb => by rcases hb with hb | rfl <;> omega), X⟩
set_option maxRecDepth 100000 in
set_option maxHeartbeats 4000000 in
theorem join_c (t u : Nd) (hj : (t.kids ++ u.kids).length ≤ 1000000) (S S' : Nat → Prop) (a a' : Option Addr) (c c' : Nat) (w : World) (hs : t.sits S w a) (hs' : u.sits S' w a') :
 Calls Tryz.prog 15 #[t.val a c, u.val a' c'] w (JoinR t u w) := by
 have X := Ext.refl w; replace hs := sits_ltA _ _ hs; replace hs' := sits_ltA _ _ hs'; have hj2 := hj; simp only [List.length_append] at hj2; refine calls_in Tryz.func15 Tryz.ntmps15 rfl rfl ?_
 focus
  refine cS ?_; (refine lw_box' [_, _, _, _] rfl rfl rfl ?_; intro b1 w2 n3); have h4 := n3.blk; have x5 := n3.ext; have p6 := n3.pos; have z7 := n3.size; clear n3; replace X := X.ext x5; replace hs := Nd.sits.ext hs x5; replace hs' := Nd.sits.ext hs' x5; clear x5; (refine lw_box' [_, _, _, _] rfl rfl rfl ?_; intro b8 w9 n10); have h11 := n10.blk; have x12 := n10.ext; have p13 := n10.pos; have z14 := n10.size; clear n10; replace h4 := h4.ext x12; replace X := X.ext x12; replace hs := Nd.sits.ext hs x12; replace hs' := Nd.sits.ext hs' x12; clear x12; (refine lw_alloc' [_, _, _, _] zOk rfl rfl ?_; intro b15 w16 n17); have h19 := n17.blk; have x20 := n17.ext; have p21 := n17.pos; have z22 := n17.size; clear n17; replace h11 := h11.ext x20; replace h4 := h4.ext x20; replace X := X.ext x20; replace hs := Nd.sits.ext hs x20; replace hs' := Nd.sits.ext hs' x20; clear x20; refine cT (cw_seq ?_); (refine cw_tdraw (fun wz => Ext w16 wz) 6 (.pure 1 (.pure 2 (.pure 4 (.pure 5 (.fork 0 (.fork 3 .tail .none) .none))))) mixed (by kernel_rfl) (panicOk_then panicOk_body) ?_; intro w23 x24 _); have qs25 : (fun wz => Ext w16 wz) w23 := x24; simp only at qs25; have d_h19 := h19; have d_h11 := h11; have d_h4 := h4; have d_hs := hs; have d_hs' := hs'; have z26 := x24.size; replace h19 := h19.ext x24; replace h11 := h11.ext x24; replace h4 := h4.ext x24; replace X := X.ext x24; replace hs := Nd.sits.ext hs x24; replace hs' := Nd.sits.ext hs' x24; clear x24; refine ⟨qs25, ?_⟩; refine tw_pure rfl (pur_fieldAddr tabOk rfl rfl rfl) rfl (tw_pure rfl (pur_load tabOk rfl rfl rfl (fun wz hz => Blk.cell (Blk.ext d_h4 hz) rfl)) rfl (tw_pure rfl (pur_fieldAddr tabOk rfl rfl rfl) rfl (tw_pure rfl (pur_load tabOk rfl rfl rfl (fun wz hz => Blk.cell (Blk.ext d_h11 hz) rfl)) rfl ?_)))
  refine tw_does rfl (does_slice0 (B := w.heap.size) tabOk rfl rfl (by omega)) rfl ?_ (fun _ h => h) tw_none; rintro _ w33 ⟨g28, ⟨rfl, ⟨h29, ⟨h30, ⟨h31, x32⟩⟩⟩⟩⟩; have z34 := x32.size; replace qs25 := qs25.ext x32; replace h19 := h19.ext x32; replace h11 := h11.ext x32; replace h4 := h4.ext x32; replace X := X.ext x32; replace hs := Nd.sits.ext hs x32; replace hs' := Nd.sits.ext hs' x32; clear x32; refine ⟨qs25, ?_⟩; refine tw_does rfl (does_appendG (B := w.heap.size) (List.nil_append t.kids) tabOk zOk rfl rfl rfl rfl (by kernel_rfl) rfl rfl (by assumption) (kidsSitsI (by assumption)) (by omega)) rfl ?_ (fun _ h => h) tw_none; rintro _ w42 ⟨g'36, ⟨cap'37, ⟨rfl, ⟨h38, ⟨h39, ⟨h40, f41⟩⟩⟩⟩⟩⟩; have z43 := f41.size; clear h29; replace qs25 := qs25.fr f41 (by omega); replace h19 := h19.fr f41 (by omega); replace h11 := h11.fr f41 (by omega); replace h4 := h4.fr f41 (by omega); replace X := X.fr f41 (by omega); replace hs := Nd.sits.fr hs f41 (by omega); replace hs' := Nd.sits.fr hs' f41 (by omega); clear f41; refine ⟨qs25, ?_⟩; clear d_h19 d_h11 d_h4 d_hs d_hs' qs25; refine tw_tail rfl ?_; refine lw_does (does_appendG (B := w.heap.size) (xs := t.kids) (us := u.kids) rfl tabOk zOk rfl rfl rfl rfl (by kernel_rfl) rfl rfl (by assumption) (kidsSitsI (by assumption)) (by omega)) rfl ?_ (fun _ h => h); rintro _ w50 ⟨g'44, ⟨cap'45, ⟨rfl, ⟨h46, ⟨h47, ⟨h48, f49⟩⟩⟩⟩⟩⟩; have z51 := f49.size; clear h38; replace h19 := h19.fr f49 (by omega); replace h11 := h11.fr f49 (by omega); replace h4 := h4.fr f49 (by omega)
  replace X := X.fr f49 (by omega); replace hs := Nd.sits.fr hs f49 (by omega); replace hs' := Nd.sits.fr hs' f49 (by omega); clear f49; refine lw_pure (pur_build' [_, _, _, _] tabOk zOk rfl rfl rfl rfl) rfl ?_; (refine lw_store' [_, _, _, _] [_, _, _, _] tabOk rfl rfl rfl rfl rfl rfl h19 rfl rfl ?_; intro w52 n53); have h56 := n53.blk; have f54 := n53.fr; have z55 := n53.size; clear n53 h19; replace h46 := h46.fr f54 (by omega); replace h11 := h11.fr f54 (by omega); replace h4 := h4.fr f54 (by omega); replace X := X.fr f54 (by omega); replace hs := Nd.sits.fr hs f54 (by omega); replace hs' := Nd.sits.fr hs' f54 (by omega); clear f54; refine cT (cw_ret (qw_retc rfl tabOk rfl rfl rfl h56 rfl ?_)); rotate_left 1
 exact joinR_mk (by assumption) X
end Bk
namespace Bk
open Go Go.RowKit Go.Proofs
attribute [local irreducible] Go.Calls
def JoinV (J : Nd) (w : World) : Ending → World → Prop := fun e w' => ∃ a c, e = .returned (J.val a c) ∧ J.sits (· < w'.heap.size) w' a ∧ Ext w w'
theorem JoinV.ret {J : Nd} {w : World} {e : Ending} {w' : World} (h : JoinV J w e w') : ∃ v, e = .returned v := by
 obtain ⟨_, _, h, -⟩ := h
 exact ⟨_, h⟩
theorem join_v (t u : Nd) (hj : (t.kids ++ u.kids).length ≤ 1000000) (S S' : Nat → Prop) (a a' : Option Addr) (c c' : Nat) (w : World) (hs : t.sits S w a) (hs' : u.sits S' w a') :
 Calls Tryz.prog 15 #[t.val a c, u.val a' c'] w (JoinV (joinI t u) w) := join_c t u hj S S' a a' c c' w hs hs'
theorem rowStmt_appI : ∀ l q : List Nd, rowStmt l = true → rowStmt q = true → rowStmt (l ++ q) = true
 | [], q, _, h => h
 | t :: r, q, h, k => by
  simp only [rowStmt, Bool.and_eq_true, List.cons_append] at h ⊢
  exact ⟨h.1, rowStmt_appI r q h.2 k⟩
theorem rowWf_appI : ∀ l q : List Nd, rowWf l → rowWf q → rowWf (l ++ q)
 | [], q, _, h => h
 | t :: r, q, h, k => by
  simp only [rowWf, List.cons_append] at h ⊢
  exact ⟨h.1, rowWf_appI r q h.2 k⟩
theorem len_rowI : ∀ l : List Nd, l.length ≤ rowSize l
 | [] => by simp [rowSize]
 | t :: r => by
  have := len_rowI r; obtain ⟨k, n, s, q⟩ := t
  simp only [rowSize, Nd.size, List.length_cons]; omega
theorem joinI_facts {t u : Nd} (ht : t.wf) (hu : u.wf) (h1 : t.isBlock = true) (h2 : u.isBlock = true) (z1 : t.size ≤ 200) (z2 : u.size ≤ 200) : (joinI t u).wf ∧ (joinI t u).isBlock = true ∧ (joinI t u).size ≤ 1000000 ∧ (t.kids ++ u.kids).length ≤ 1000000 ∧ (joinI t u).inv false = joinI (u.inv false) (t.inv false) := by
 obtain ⟨k, n, s, l⟩ := t; obtain ⟨k', n', s', q⟩ := u
 unfold Nd.isBlock at h1 h2
 simp only [Bool.and_eq_true, beq_iff_eq] at h1 h2; obtain ⟨⟨rfl, p1⟩, r1⟩ := h1; obtain ⟨⟨rfl, p2⟩, r2⟩ := h2
 have e1 : n = 0 ∧ s = [] := by simpa [plain] using p1
 have e2 : n' = 0 ∧ s' = [] := by simpa [plain] using p2
 obtain ⟨rfl, rfl⟩ := e1; obtain ⟨rfl, rfl⟩ := e2; simp only [Nd.size] at z1 z2; have e := rowSize_app l q; have hl := len_rowI (l ++ q); refine ⟨?_, ?_, ?_, ?_, ?_⟩
 · simp only [joinI, Nd.wf, Nd.kids]
   exact ⟨by omega, by omega, by omega, by omega, by simp, by omega, rowWf_appI l q ht.2.2.2.2.2.2 hu.2.2.2.2.2.2⟩
 · simp only [joinI, Nd.isBlock, Nd.kids, rowStmt_appI l q r1 r2, Bool.and_true]
   rfl
 · simp only [joinI, Nd.size, Nd.kids]; omega
 · simp only [Nd.kids]; omega
 · simp only [joinI, Nd.kids, inv_block, rowInv_app, List.reverse_append]
set_option maxRecDepth 100000 in
set_option maxHeartbeats 4000000 in
theorem InverterConcat_c (t : Nd) (hwf : t.wf) (S : Nat → Prop) (a : Option Addr) (c : Nat) (u : Nd) (hwf' : u.wf) (S' : Nat → Prop) (a' : Option Addr) (c' : Nat) (w : World) (hs : t.sits S w a) (hs' : u.sits S' w a') (hS : Syms w) (hE : Errs w) :
 Calls Tryz.prog 4 #[t.val a c, u.val a' c'] w fun e w' => e = .returned (.bool true) ∧ Ext w w' := by
 have X := Ext.refl w; have HG := Lib.hid (great17_c t hwf); have HG' := Lib.hid (great17_c u hwf'); refine calls_in Tryz.func4 Tryz.ntmps4 rfl rfl ?_
 focus
  refine cS ?_; (refine lw_box' [_, _, _, _] rfl rfl rfl ?_; intro b1 w2 n3); have h4 := n3.blk; have x5 := n3.ext; have p6 := n3.pos; have z7 := n3.size; clear n3; replace hs := Nd.sits.ext hs x5; replace hs' := Nd.sits.ext hs' x5; replace hS := hS.ext x5; replace hE := hE.ext x5; replace X := X.ext x5; clear x5; (refine lw_box' [_, _, _, _] rfl rfl rfl ?_; intro b8 w9 n10); have h11 := n10.blk; have x12 := n10.ext; have p13 := n10.pos; have z14 := n10.size; clear n10; replace h4 := h4.ext x12; replace hs := Nd.sits.ext hs x12; replace hs' := Nd.sits.ext hs' x12; replace hS := hS.ext x12; replace hE := hE.ext x12; replace X := X.ext x12; clear x12; refine cA rfl rfl (cT (cw_seq (cS ?_))); refine cC (by kernel_rfl) rfl (awake17_c _ (by assumption) (by assumption)) rfl ?_; rintro _ w16 ⟨⟨⟩, x15⟩; have z17 := x15.size; replace h11 := h11.ext x15; replace h4 := h4.ext x15; replace hs := Nd.sits.ext hs x15; replace hs' := Nd.sits.ext hs' x15; replace hS := hS.ext x15; replace hE := hE.ext x15; replace X := X.ext x15; clear x15; refine lw_pure (pur_not rfl) rfl (cT (cw_cond_f rfl (cw_skip (qw_then (cw_seq (cS (lw_loads_b' [_, _, _, _] tabOk rfl rfl rfl h4 rfl rfl rfl (lw_pure (pur_build' [_, _, _, _, _, _] tabOk zOk rfl rfl rfl rfl) rfl ?_)))))))); rotate_left 1
 refine lw_does (does_call (by kernel_rfl) rfl (HG.out S a c _ hs) (fun _ _ ⟨_, h, _⟩ => ⟨_, h⟩)) rfl ?_ (fun _ h => h); rintro _ w3 ⟨q, ⟨⟩, hq, x3⟩; replace hs := sits_ltA _ _ (hs.ext x3); replace hs' := sits_ltA _ _ (hs'.ext x3); replace hE := hE.ext x3; replace hS := hS.ext x3; replace X := X.trans x3; have z3 := x3.size; replace h4 := h4.ext x3; replace h11 := h11.ext x3; clear x3 HG
 rcases hq with rfl | ⟨rfl, hg⟩
 · focus
    refine lw_pure (pur_eql rfl rfl) rfl (cM rfl rfl ?_); refine lw_off rfl rfl rfl (gd_ft (by decide)) rfl ?_; refine lw_off rfl rfl rfl (gd_ft (by decide)) rfl ?_; refine lw_off rfl rfl rfl (gd_ft (by decide)) rfl ?_; refine lw_off rfl rfl rfl (gd_ft (by decide)) rfl ?_; refine lw_pure (pur_pick_yes rfl rfl (by decide)) rfl ?_; refine cM rfl rfl (lw_off rfl rfl rfl (rfl) rfl (lw_off rfl rfl rfl (rfl) rfl (lw_off rfl rfl rfl (rfl) rfl (lw_pure (pur_pick_t rfl rfl rfl) rfl (cM rfl rfl (lw_off rfl rfl rfl (rfl) rfl (lw_off rfl rfl rfl (rfl) rfl (lw_off rfl rfl rfl (rfl) rfl (lw_pure (pur_pick_t rfl rfl rfl) rfl (cT (cw_cond_t rfl ?_))))))))))); refine cS (cA rfl rfl (cT (cw_ret (qw_then_ret (qw_ret1 rfl rfl ?_))))); rotate_left 1
   exact ⟨rfl, X⟩
 focus
  refine lw_pure (pur_eql rfl rfl) rfl (cM rfl rfl ?_); refine lw_on rfl rfl rfl (gd_ff (by decide)) ?_; refine lw_loads_b' [_, _, _, _] tabOk rfl rfl rfl h11 rfl rfl rfl ?_; refine lw_on rfl rfl rfl (gd_ff (by decide)) ?_; refine lw_pure (pur_build' [_, _, _, _, _, _] tabOk zOk rfl rfl rfl rfl) rfl ?_; refine lw_on rfl rfl rfl (gd_ff (by decide)) ?_; rotate_left 1
 refine lw_does (does_call (by kernel_rfl) rfl (HG'.out _ a' c' _ hs') (fun _ _ ⟨_, h, _⟩ => ⟨_, h⟩)) rfl ?_ (fun _ h => h); rintro _ w4 ⟨q, ⟨⟩, hq, x3⟩; replace hs := sits_ltA _ _ (hs.ext x3); replace hs' := sits_ltA _ _ (hs'.ext x3); replace hE := hE.ext x3; replace hS := hS.ext x3; replace X := X.trans x3; have z4 := x3.size; replace h4 := h4.ext x3; replace h11 := h11.ext x3; clear x3 HG'
 rcases hq with rfl | ⟨rfl, hg'⟩
 · focus
    refine lw_on rfl rfl rfl (gd_ff (by decide)) ?_; refine lw_pure (pur_eql rfl rfl) rfl ?_; refine lw_pure (pur_pick_no rfl rfl (by decide)) rfl ?_; refine cM rfl rfl ?_; refine lw_off rfl rfl rfl (gd_ft (by decide)) rfl ?_; refine lw_off rfl rfl rfl (gd_ft (by decide)) rfl ?_; refine lw_off rfl rfl rfl (gd_ft (by decide)) rfl ?_; refine lw_pure (pur_pick_yes rfl rfl (by decide)) rfl ?_; refine cM rfl rfl (lw_off rfl rfl rfl (rfl) rfl (lw_off rfl rfl rfl (rfl) rfl (lw_off rfl rfl rfl (rfl) rfl (lw_pure (pur_pick_t rfl rfl rfl) rfl (cT (cw_cond_t rfl (cS (cA rfl rfl (cT (cw_ret (qw_then_ret ?_))))))))))); refine qw_ret1 rfl rfl ?_; rotate_left 1
   exact ⟨rfl, X⟩
 cases hb : t.isBlock
 · have HB := Lib.hid (isBlockI_v hwf hb)
   clear hwf hwf' hb
   focus
    refine lw_on rfl rfl rfl (gd_ff (by decide)) ?_; refine lw_pure (pur_eql rfl rfl) rfl ?_; refine lw_pure (pur_pick_no rfl rfl (by decide)) rfl ?_; refine cM rfl rfl ?_; refine lw_on rfl rfl rfl (gd_ff (by decide)) ?_; refine lw_loads_b' [_, _, _, _] tabOk rfl rfl rfl h4 rfl rfl rfl ?_; refine lw_on rfl rfl rfl (gd_ff (by decide)) ?_; refine cC (by kernel_rfl) rfl (HB.out _ _ _ _ (by assumption)) rfl ?_; rintro _ wd2 ⟨⟨⟩, xd1⟩; have zd3 := xd1.size; replace hs := Nd.sits.ext hs xd1; replace hs' := Nd.sits.ext hs' xd1; replace hE := hE.ext xd1; replace hS := hS.ext xd1; replace X := X.ext xd1; replace h4 := h4.ext xd1; replace h11 := h11.ext xd1; clear xd1; refine lw_on rfl rfl rfl (gd_ff (by decide)) ?_; refine lw_pure (pur_not rfl) rfl ?_; refine lw_pure (pur_pick_no rfl rfl (by decide)) rfl ?_; refine cM rfl rfl (lw_off rfl rfl rfl (rfl) rfl (lw_off rfl rfl rfl (rfl) rfl (lw_off rfl rfl rfl (rfl) rfl (lw_pure (pur_pick_t rfl rfl rfl) rfl (cT (cw_cond_t rfl (cS (cA rfl rfl (cT (cw_ret (qw_then_ret ?_))))))))))); refine qw_ret1 rfl rfl ?_; rotate_left 1
   exact ⟨rfl, X⟩
 cases hb' : u.isBlock
 · have HB := Lib.hid (isBlockI_v hwf hb)
   have HB' := Lib.hid (isBlockI_v hwf' hb'); clear hwf hwf' hb hb'
   focus
    refine lw_on rfl rfl rfl (gd_ff (by decide)) ?_; refine lw_pure (pur_eql rfl rfl) rfl ?_; refine lw_pure (pur_pick_no rfl rfl (by decide)) rfl ?_; refine cM rfl rfl ?_; refine lw_on rfl rfl rfl (gd_ff (by decide)) ?_; refine lw_loads_b' [_, _, _, _] tabOk rfl rfl rfl h4 rfl rfl rfl ?_; refine lw_on rfl rfl rfl (gd_ff (by decide)) ?_; refine cC (by kernel_rfl) rfl (HB.out _ _ _ _ (by assumption)) rfl ?_; rintro _ we2 ⟨⟨⟩, xe1⟩; have ze3 := xe1.size; replace hs := Nd.sits.ext hs xe1; replace hs' := Nd.sits.ext hs' xe1; replace hE := hE.ext xe1; replace hS := hS.ext xe1; replace X := X.ext xe1; replace h4 := h4.ext xe1; replace h11 := h11.ext xe1; clear xe1; refine lw_on rfl rfl rfl (gd_ff (by decide)) ?_; refine lw_pure (pur_not rfl) rfl ?_; refine lw_pure (pur_pick_no rfl rfl (by decide)) rfl ?_; refine cM rfl rfl (lw_on rfl rfl rfl (rfl) (lw_loads_b' [_, _, _, _] tabOk rfl rfl rfl h11 rfl rfl rfl (lw_on rfl rfl rfl (rfl) ?_))); refine cC (by kernel_rfl) rfl (HB'.out _ _ _ _ (by assumption)) rfl ?_; rintro _ we5 ⟨⟨⟩, xe4⟩; have ze6 := xe4.size; replace hs := Nd.sits.ext hs xe4; replace hs' := Nd.sits.ext hs' xe4; replace hE := hE.ext xe4; replace hS := hS.ext xe4; replace X := X.ext xe4; replace h4 := h4.ext xe4; replace h11 := h11.ext xe4; clear xe4; refine lw_on rfl rfl rfl (rfl) (lw_pure (pur_not rfl) rfl (lw_pure (pur_pick_f rfl rfl rfl) rfl (cT (cw_cond_t rfl (cS (cA rfl rfl (cT (cw_ret (qw_then_ret (qw_ret1 rfl rfl ?_)))))))))); rotate_left 1
   exact ⟨rfl, X⟩
 have zt : t.size ≤ 200 := by
  have y1 := small_size t 24 200 (by omega) hg; have y2 := small_le t 24 200 (by omega) hg
  omega
 have zu : u.size ≤ 200 := by
  have y1 := small_size u 24 200 (by omega) hg'; have y2 := small_le u 24 200 (by omega) hg'
  omega
 have it := inv_ok false (t.size + 1) t (by omega) (Or.inr hb); have iu := inv_ok false (u.size + 1) u (by omega) (Or.inr hb'); obtain ⟨j1, j2, j3, j4, j5⟩ := joinI_facts hwf hwf' hb hb' zt zu; obtain ⟨k1, k2, k3, k4, k5⟩ := joinI_facts hwf (it.wf hwf) hb (it.bl hb) zt (by rw [it.size]; exact zt); obtain ⟨l1, l2, l3, l4, l5⟩ := joinI_facts (iu.wf hwf') (it.wf hwf) (iu.bl hb') (it.bl hb) (by rw [iu.size]; exact zu) (by rw [it.size]; exact zt); have HB := Lib.hid (isBlockI_v hwf hb); have HB' := Lib.hid (isBlockI_v hwf' hb'); have HI := Lib.hid (iStmt_v hwf (by omega) (Or.inr hb)); have HI' := Lib.hid (iStmt_v hwf' (by omega) (Or.inr hb')); have HJ := Lib.hid (join_v t u j4); have HK := Lib.hid (join_v t (t.inv false) k4); have HL := Lib.hid (join_v (u.inv false) (t.inv false) l4); have HBJ := Lib.hid (isBlockI_v j1 j2); have HBK := Lib.hid (isBlockI_v k1 k2); have HIJ := Lib.hid (iStmt_v j1 j3 (Or.inr j2)); rw [j5] at HIJ; have HE := Lib.hid (equalS_v (joinI (u.inv false) (t.inv false)) l3); have HP := Lib.hid (palin_v k1 k3 k2); rw [k5, it.back, (eqb_iff _ _).2 rfl] at HP; clear hg hg' hwf hwf' hb hb' it iu j1 j2 j3 j4 j5 k1 k2 k3 k4 k5 l1 l2 l3 l4 l5 zt zu
 generalize joinI t u = J at *
 generalize joinI t (t.inv false) = K at *
 generalize joinI (u.inv false) (t.inv false) = L at *
 generalize t.inv false = p at *
 generalize u.inv false = q at *
 focus
  refine lw_on rfl rfl rfl (gd_ff (by decide)) ?_; refine lw_pure (pur_eql rfl rfl) rfl ?_; refine lw_pure (pur_pick_no rfl rfl (by decide)) rfl ?_; refine cM rfl rfl ?_; refine lw_on rfl rfl rfl (gd_ff (by decide)) ?_; refine lw_loads_b' [_, _, _, _] tabOk rfl rfl rfl h4 rfl rfl rfl ?_; refine lw_on rfl rfl rfl (gd_ff (by decide)) ?_; refine cC (by kernel_rfl) rfl (HB.out _ _ _ _ (by assumption)) rfl ?_; rintro _ wf2 ⟨⟨⟩, xf1⟩; have zf3 := xf1.size; replace hs := Nd.sits.ext hs xf1; replace hs' := Nd.sits.ext hs' xf1; replace hE := hE.ext xf1; replace hS := hS.ext xf1; replace X := X.ext xf1; replace h4 := h4.ext xf1; replace h11 := h11.ext xf1; clear xf1; refine lw_on rfl rfl rfl (gd_ff (by decide)) ?_; refine lw_pure (pur_not rfl) rfl ?_; refine lw_pure (pur_pick_no rfl rfl (by decide)) rfl ?_; refine cM rfl rfl (lw_on rfl rfl rfl (rfl) (lw_loads_b' [_, _, _, _] tabOk rfl rfl rfl h11 rfl rfl rfl (lw_on rfl rfl rfl (rfl) ?_))); refine cC (by kernel_rfl) rfl (HB'.out _ _ _ _ (by assumption)) rfl ?_; rintro _ wf5 ⟨⟨⟩, xf4⟩; have zf6 := xf4.size; replace hs := Nd.sits.ext hs xf4; replace hs' := Nd.sits.ext hs' xf4; replace hE := hE.ext xf4; replace hS := hS.ext xf4; replace X := X.ext xf4; replace h4 := h4.ext xf4; replace h11 := h11.ext xf4; clear xf4; refine lw_on rfl rfl rfl (rfl) (lw_pure (pur_not rfl) rfl (lw_pure (pur_pick_f rfl rfl rfl) rfl (cT (cw_cond_f rfl (cw_skip (qw_then (cS (cA rfl rfl (cN (lw_loads_b' [_, _, _, _] tabOk rfl rfl rfl h4 rfl rfl rfl ?_)))))))))); refine cR (by kernel_rfl) rfl (HI.out _ _ _ _ (by assumption)) (fun _ _ h => h.ret) rfl ?_
  rintro _ wf11 ⟨af7, ⟨cf8, ⟨⟨⟩, ⟨hf9, xf10⟩⟩⟩⟩; have zf12 := xf10.size; replace hs := Nd.sits.ext hs xf10; replace hs' := Nd.sits.ext hs' xf10; replace hE := hE.ext xf10; replace hS := hS.ext xf10; replace X := X.ext xf10; replace h4 := h4.ext xf10; replace h11 := h11.ext xf10; clear xf10; refine cM rfl rfl (lw_pure (pur_extract rfl rfl) rfl (lw_pure (pur_extract rfl rfl) rfl ?_)); (refine lw_alloc' [_, _, _, _] zOk rfl rfl ?_; intro bf13 wf14 nf15); (refine lw_init' [_, _, _, _] tabOk rfl rfl rfl rfl rfl rfl nf15 rfl ?_; clear nf15; clear wf14; intro wf16 nf15); have hf17 := nf15.blk; have xf18 := nf15.ext; have pf19 := nf15.pos; have zf20 := nf15.size; clear nf15; replace hf9 := Nd.sits.ext hf9 xf18; replace hs := Nd.sits.ext hs xf18; replace hs' := Nd.sits.ext hs' xf18; replace hE := hE.ext xf18; replace hS := hS.ext xf18; replace X := X.ext xf18; replace h4 := h4.ext xf18; replace h11 := h11.ext xf18; clear xf18; refine cA rfl rfl (cN (lw_loads_b' [_, _, _, _] tabOk rfl rfl rfl h11 rfl rfl rfl ?_)); refine cR (by kernel_rfl) rfl (HI'.out _ _ _ _ (by assumption)) (fun _ _ h => h.ret) rfl ?_; rintro _ wf25 ⟨af21, ⟨cf22, ⟨⟨⟩, ⟨hf23, xf24⟩⟩⟩⟩; have zf26 := xf24.size; replace hf17 := hf17.ext xf24; replace hf9 := Nd.sits.ext hf9 xf24; replace hs := Nd.sits.ext hs xf24; replace hs' := Nd.sits.ext hs' xf24; replace hE := hE.ext xf24; replace hS := hS.ext xf24; replace X := X.ext xf24; replace h4 := h4.ext xf24; replace h11 := h11.ext xf24; clear xf24; refine cM rfl rfl (lw_pure (pur_extract rfl rfl) rfl (lw_pure (pur_extract rfl rfl) rfl ?_))
  (refine lw_alloc' [_, _, _, _] zOk rfl rfl ?_; intro bf27 wf28 nf29); (refine lw_init' [_, _, _, _] tabOk rfl rfl rfl rfl rfl rfl nf29 rfl ?_; clear nf29; clear wf28; intro wf30 nf29); have hf31 := nf29.blk; have xf32 := nf29.ext; have pf33 := nf29.pos; have zf34 := nf29.size; clear nf29; replace hf23 := Nd.sits.ext hf23 xf32; replace hf17 := hf17.ext xf32; replace hf9 := Nd.sits.ext hf9 xf32; replace hs := Nd.sits.ext hs xf32; replace hs' := Nd.sits.ext hs' xf32; replace hE := hE.ext xf32; replace hS := hS.ext xf32; replace X := X.ext xf32; replace h4 := h4.ext xf32; replace h11 := h11.ext xf32; clear xf32; refine cA rfl rfl (cT (cw_seq (cS (cM rfl rfl (lw_loads_b' [_, _, _, _] tabOk rfl rfl rfl h4 rfl rfl rfl (lw_loads_b' [_, _, _, _] tabOk rfl rfl rfl h11 rfl rfl rfl ?_)))))); refine lw_does (does_callv (fi := []) (ca := []) (by kernel_rfl) rfl rfl (HJ.out _ _ _ _ _ _ _ (by assumption) (by assumption)) (fun _ _ h => h.ret)) rfl ?_ (fun _ h => h); rintro _ wf39 ⟨af35, ⟨cf36, ⟨⟨⟩, ⟨hf37, xf38⟩⟩⟩⟩; have zf40 := xf38.size; replace hf31 := hf31.ext xf38; replace hf23 := Nd.sits.ext hf23 xf38; replace hf17 := hf17.ext xf38; replace hf9 := Nd.sits.ext hf9 xf38; replace hs := Nd.sits.ext hs xf38; replace hs' := Nd.sits.ext hs' xf38; replace hE := hE.ext xf38; replace hS := hS.ext xf38; replace X := X.ext xf38; replace h4 := h4.ext xf38; replace h11 := h11.ext xf38; clear xf38; refine cC (by kernel_rfl) rfl (HBJ.out _ _ _ _ (by assumption)) rfl ?_; rintro _ wf42 ⟨⟨⟩, xf41⟩; have zf43 := xf41.size
  replace hf37 := Nd.sits.ext hf37 xf41; replace hf31 := hf31.ext xf41; replace hf23 := Nd.sits.ext hf23 xf41; replace hf17 := hf17.ext xf41; replace hf9 := Nd.sits.ext hf9 xf41; replace hs := Nd.sits.ext hs xf41; replace hs' := Nd.sits.ext hs' xf41; replace hE := hE.ext xf41; replace hS := hS.ext xf41; replace X := X.ext xf41; replace h4 := h4.ext xf41; replace h11 := h11.ext xf41; clear xf41; refine lw_pure (pur_not rfl) rfl (cM rfl rfl (lw_on rfl rfl rfl (rfl) (cM rfl rfl (lw_on rfl rfl rfl (rfl) (lw_loads_b' [_, _, _, _] tabOk rfl rfl rfl h4 rfl rfl rfl (lw_on rfl rfl rfl (rfl) (lw_loads_b' [_, _, _, _] tabOk rfl rfl rfl hf17 rfl rfl rfl (lw_on rfl rfl rfl (rfl) ?_)))))))); refine lw_does (does_callv (fi := []) (ca := []) (by kernel_rfl) rfl rfl (HK.out _ _ _ _ _ _ _ (by assumption) (by assumption)) (fun _ _ h => h.ret)) rfl ?_ (fun _ h => h); rintro _ wf48 ⟨af44, ⟨cf45, ⟨⟨⟩, ⟨hf46, xf47⟩⟩⟩⟩; have zf49 := xf47.size; replace hf37 := Nd.sits.ext hf37 xf47; replace hf31 := hf31.ext xf47; replace hf23 := Nd.sits.ext hf23 xf47; replace hf17 := hf17.ext xf47; replace hf9 := Nd.sits.ext hf9 xf47; replace hs := Nd.sits.ext hs xf47; replace hs' := Nd.sits.ext hs' xf47; replace hE := hE.ext xf47; replace hS := hS.ext xf47; replace X := X.ext xf47; replace h4 := h4.ext xf47; replace h11 := h11.ext xf47; clear xf47; refine lw_on rfl rfl rfl (rfl) ?_; refine cC (by kernel_rfl) rfl (HBK.out _ _ _ _ (by assumption)) rfl ?_; rintro _ wf51 ⟨⟨⟩, xf50⟩; have zf52 := xf50.size; replace hf46 := Nd.sits.ext hf46 xf50
  replace hf37 := Nd.sits.ext hf37 xf50; replace hf31 := hf31.ext xf50; replace hf23 := Nd.sits.ext hf23 xf50; replace hf17 := hf17.ext xf50; replace hf9 := Nd.sits.ext hf9 xf50; replace hs := Nd.sits.ext hs xf50; replace hs' := Nd.sits.ext hs' xf50; replace hE := hE.ext xf50; replace hS := hS.ext xf50; replace X := X.ext xf50; replace h4 := h4.ext xf50; replace h11 := h11.ext xf50; clear xf50; refine lw_on rfl rfl rfl (rfl) (lw_pure (pur_not rfl) rfl (lw_pure (pur_pick_f rfl rfl rfl) rfl (cT (cw_cond_f rfl (cw_skip (qw_then (cS (cM rfl rfl (lw_loads_b' [_, _, _, _] tabOk rfl rfl rfl h4 rfl rfl rfl (lw_loads_b' [_, _, _, _] tabOk rfl rfl rfl h11 rfl rfl rfl ?_)))))))))); refine lw_does (does_callv (fi := []) (ca := []) (by kernel_rfl) rfl rfl (HJ.out _ _ _ _ _ _ _ (by assumption) (by assumption)) (fun _ _ h => h.ret)) rfl ?_ (fun _ h => h); rintro _ wf57 ⟨af53, ⟨cf54, ⟨⟨⟩, ⟨hf55, xf56⟩⟩⟩⟩; have zf58 := xf56.size; replace hf46 := Nd.sits.ext hf46 xf56; replace hf37 := Nd.sits.ext hf37 xf56; replace hf31 := hf31.ext xf56; replace hf23 := Nd.sits.ext hf23 xf56; replace hf17 := hf17.ext xf56; replace hf9 := Nd.sits.ext hf9 xf56; replace hs := Nd.sits.ext hs xf56; replace hs' := Nd.sits.ext hs' xf56; replace hE := hE.ext xf56; replace hS := hS.ext xf56; replace X := X.ext xf56; replace h4 := h4.ext xf56; replace h11 := h11.ext xf56; clear xf56; refine cR (by kernel_rfl) rfl (HIJ.out _ _ _ _ (by assumption)) (fun _ _ h => h.ret) rfl ?_; rintro _ wf63 ⟨af59, ⟨cf60, ⟨⟨⟩, ⟨hf61, xf62⟩⟩⟩⟩
  have zf64 := xf62.size; replace hf55 := Nd.sits.ext hf55 xf62; replace hf46 := Nd.sits.ext hf46 xf62; replace hf37 := Nd.sits.ext hf37 xf62; replace hf31 := hf31.ext xf62; replace hf23 := Nd.sits.ext hf23 xf62; replace hf17 := hf17.ext xf62; replace hf9 := Nd.sits.ext hf9 xf62; replace hs := Nd.sits.ext hs xf62; replace hs' := Nd.sits.ext hs' xf62; replace hE := hE.ext xf62; replace hS := hS.ext xf62; replace X := X.ext xf62; replace h4 := h4.ext xf62; replace h11 := h11.ext xf62; clear xf62; refine cM rfl rfl (lw_pure (pur_extract rfl rfl) rfl (lw_pure (pur_extract rfl rfl) rfl ?_)); (refine lw_alloc' [_, _, _, _] zOk rfl rfl ?_; intro bf65 wf66 nf67); (refine lw_init' [_, _, _, _] tabOk rfl rfl rfl rfl rfl rfl nf67 rfl ?_; clear nf67; clear wf66; intro wf68 nf67); have hf69 := nf67.blk; have xf70 := nf67.ext; have pf71 := nf67.pos; have zf72 := nf67.size; clear nf67; replace hf61 := Nd.sits.ext hf61 xf70; replace hf55 := Nd.sits.ext hf55 xf70; replace hf46 := Nd.sits.ext hf46 xf70; replace hf37 := Nd.sits.ext hf37 xf70; replace hf31 := hf31.ext xf70; replace hf23 := Nd.sits.ext hf23 xf70; replace hf17 := hf17.ext xf70; replace hf9 := Nd.sits.ext hf9 xf70; replace hs := Nd.sits.ext hs xf70; replace hs' := Nd.sits.ext hs' xf70; replace hE := hE.ext xf70; replace hS := hS.ext xf70; replace X := X.ext xf70; replace h4 := h4.ext xf70; replace h11 := h11.ext xf70; clear xf70; refine cA rfl rfl (cT (cw_seq ?_)); (refine cw_tdraw (fun wz => Ext wf68 wz) 22 (.pure 0 (.pure 1 (.pure 2 (.pure 3 (.pure 4 (.pure 5 (.pure 6 (.pure 7 (.pure 8 (.pure 9 (.pure 10 (.pure 11 (.pure 12 (.pure 13 (.pure 14 (.fork 15 (.fork 16 (.pure 17 (.pure 18 (.pure 19 (.pure 20 (.pure 21 .tail))))) .none) .none)))))))))))))))) mixed (by kernel_rfl) (panicOk_then panicOk_body) ?_; intro wf73 xf74 _)
  have qsf75 : (fun wz => Ext wf68 wz) wf73 := xf74; simp only at qsf75; have d_hf69 := hf69; have d_hf61 := hf61; have d_hf55 := hf55; have d_hf46 := hf46; have d_hf37 := hf37; have d_hf31 := hf31; have d_hf23 := hf23; have d_hf17 := hf17; have d_hf9 := hf9; have d_hs := hs; have d_hs' := hs'; have d_hE := hE; have d_hS := hS; have d_h4 := h4; have d_h11 := h11; have zf76 := xf74.size; replace hf69 := hf69.ext xf74; replace hf61 := Nd.sits.ext hf61 xf74; replace hf55 := Nd.sits.ext hf55 xf74; replace hf46 := Nd.sits.ext hf46 xf74; replace hf37 := Nd.sits.ext hf37 xf74; replace hf31 := hf31.ext xf74; replace hf23 := Nd.sits.ext hf23 xf74; replace hf17 := hf17.ext xf74; replace hf9 := Nd.sits.ext hf9 xf74; replace hs := Nd.sits.ext hs xf74; replace hs' := Nd.sits.ext hs' xf74; replace hE := hE.ext xf74; replace hS := hS.ext xf74; replace X := X.ext xf74; replace h4 := h4.ext xf74; replace h11 := h11.ext xf74; clear xf74; refine ⟨qsf75, ?_⟩; refine tw_pure rfl (pur_move rfl) rfl (tw_pure rfl (pur_eql rfl rfl) rfl (tw_pure rfl (pur_move rfl) rfl ?_)); refine tw_on rfl rfl rfl rfl (gd_tt (by decide)) (pur_move rfl) rfl ?_; refine tw_on rfl rfl rfl rfl (gd_tt (by decide)) (pur_eql rfl rfl) rfl ?_; refine tw_pure rfl (pur_pick_yes rfl rfl (by decide)) rfl ?_; refine tw_pure rfl (pur_move rfl) rfl ?_; refine tw_on rfl rfl rfl rfl (gd_tt (by decide)) (pur_move rfl) rfl ?_; refine tw_on rfl rfl rfl rfl (gd_tt (by decide)) (pur_eql rfl rfl) rfl ?_; refine tw_pure rfl (pur_pick_yes rfl rfl (by decide)) rfl ?_
  refine tw_pure rfl (pur_move rfl) rfl ?_; refine tw_on rfl rfl rfl rfl (gd_tt (by decide)) (pur_loads_blk' [_, _, _, _] tabOk rfl rfl rfl (fun wz hz => (Blk.ext d_hf69 hz)) rfl rfl) rfl ?_; refine tw_on rfl rfl rfl rfl (gd_tt (by decide)) (pur_move rfl) rfl ?_; refine tw_on rfl rfl rfl rfl (gd_tt (by decide)) (pur_loads_blk' [_, _, _, _] tabOk rfl rfl rfl (fun wz hz => (Blk.ext d_hf31 hz)) rfl rfl) rfl ?_; refine tw_on rfl rfl rfl rfl (gd_tt (by decide)) (pur_loads_blk' [_, _, _, _] tabOk rfl rfl rfl (fun wz hz => (Blk.ext d_hf17 hz)) rfl rfl) rfl ?_; refine tw_does_on rfl rfl rfl rfl (gd_tt (by decide)) (does_callv (fi := []) (ca := []) (by kernel_rfl) rfl rfl (HL.out _ _ _ _ _ _ _ (by assumption) (by assumption)) (fun _ _ h => h.ret)) rfl ?_ (fun _ h => h) tw_none; rintro _ wf82 ⟨af78, ⟨cf79, ⟨⟨⟩, ⟨hf80, xf81⟩⟩⟩⟩; have zf83 := xf81.size; replace qsf75 := qsf75.ext xf81; replace hf69 := hf69.ext xf81; replace hf61 := Nd.sits.ext hf61 xf81; replace hf55 := Nd.sits.ext hf55 xf81; replace hf46 := Nd.sits.ext hf46 xf81; replace hf37 := Nd.sits.ext hf37 xf81; replace hf31 := hf31.ext xf81; replace hf23 := Nd.sits.ext hf23 xf81; replace hf17 := hf17.ext xf81; replace hf9 := Nd.sits.ext hf9 xf81; replace hs := Nd.sits.ext hs xf81; replace hs' := Nd.sits.ext hs' xf81; replace hE := hE.ext xf81; replace hS := hS.ext xf81; replace X := X.ext xf81; replace h4 := h4.ext xf81; replace h11 := h11.ext xf81; clear xf81; refine ⟨qsf75, ?_⟩; refine tw_does_on rfl rfl rfl rfl (gd_tt (by decide)) (does_call (by kernel_rfl) rfl (HE.out _ _ _ _ _ _ _ (by assumption) (by assumption)) (fun _ _ h => ⟨_, h.1⟩)) rfl ?_ (fun _ h => h) tw_none
  rintro _ wf86 ⟨⟨⟩, xf85⟩; have zf87 := xf85.size; replace hf80 := Nd.sits.ext hf80 xf85; replace qsf75 := qsf75.ext xf85; replace hf69 := hf69.ext xf85; replace hf61 := Nd.sits.ext hf61 xf85; replace hf55 := Nd.sits.ext hf55 xf85; replace hf46 := Nd.sits.ext hf46 xf85; replace hf37 := Nd.sits.ext hf37 xf85; replace hf31 := hf31.ext xf85; replace hf23 := Nd.sits.ext hf23 xf85; replace hf17 := hf17.ext xf85; replace hf9 := Nd.sits.ext hf9 xf85; replace hs := Nd.sits.ext hs xf85; replace hs' := Nd.sits.ext hs' xf85; replace hE := hE.ext xf85; replace hS := hS.ext xf85; replace X := X.ext xf85; replace h4 := h4.ext xf85; replace h11 := h11.ext xf85; clear xf85; refine ⟨qsf75, ?_⟩; refine tw_pure rfl (pur_pick_yes rfl rfl (by decide)) rfl ?_; refine tw_pure rfl (pur_move rfl) rfl (tw_on rfl rfl rfl rfl (rfl) (pur_move rfl) rfl (tw_on rfl rfl rfl rfl (rfl) (pur_loads_blk' [_, _, _, _] tabOk rfl rfl rfl (fun wz hz => (Blk.ext d_h4 hz)) rfl rfl) rfl (tw_on rfl rfl rfl rfl (rfl) (pur_loads_blk' [_, _, _, _] tabOk rfl rfl rfl (fun wz hz => (Blk.ext d_hf17 hz)) rfl rfl) rfl ?_))); clear d_hf69 d_hf61 d_hf55 d_hf46 d_hf37 d_hf31 d_hf23 d_hf17 d_hf9 d_hs d_hs' d_hE d_hS d_h4 d_h11 qsf75; refine tw_tail rfl (lw_on rfl rfl rfl (rfl) ?_); refine lw_does (does_callv (fi := []) (ca := []) (by kernel_rfl) rfl rfl (HK.out _ _ _ _ _ _ _ (by assumption) (by assumption)) (fun _ _ h => h.ret)) rfl ?_ (fun _ h => h); rintro _ wf92 ⟨af88, ⟨cf89, ⟨⟨⟩, ⟨hf90, xf91⟩⟩⟩⟩; have zf93 := xf91.size; replace hf80 := Nd.sits.ext hf80 xf91
  replace hf69 := hf69.ext xf91; replace hf61 := Nd.sits.ext hf61 xf91; replace hf55 := Nd.sits.ext hf55 xf91; replace hf46 := Nd.sits.ext hf46 xf91; replace hf37 := Nd.sits.ext hf37 xf91; replace hf31 := hf31.ext xf91; replace hf23 := Nd.sits.ext hf23 xf91; replace hf17 := hf17.ext xf91; replace hf9 := Nd.sits.ext hf9 xf91; replace hs := Nd.sits.ext hs xf91; replace hs' := Nd.sits.ext hs' xf91; replace hE := hE.ext xf91; replace hS := hS.ext xf91; replace X := X.ext xf91; replace h4 := h4.ext xf91; replace h11 := h11.ext xf91; clear xf91; refine lw_on rfl rfl rfl (rfl) ?_; refine cC (by kernel_rfl) rfl (HP.out _ _ _ _ (by assumption)) rfl ?_; rintro _ wf95 ⟨⟨⟩, xf94⟩; have zf96 := xf94.size; replace hf90 := Nd.sits.ext hf90 xf94; replace hf80 := Nd.sits.ext hf80 xf94; replace hf69 := hf69.ext xf94; replace hf61 := Nd.sits.ext hf61 xf94; replace hf55 := Nd.sits.ext hf55 xf94; replace hf46 := Nd.sits.ext hf46 xf94; replace hf37 := Nd.sits.ext hf37 xf94; replace hf31 := hf31.ext xf94; replace hf23 := Nd.sits.ext hf23 xf94; replace hf17 := hf17.ext xf94; replace hf9 := Nd.sits.ext hf9 xf94; replace hs := Nd.sits.ext hs xf94; replace hs' := Nd.sits.ext hs' xf94; replace hE := hE.ext xf94; replace hS := hS.ext xf94; replace X := X.ext xf94; replace h4 := h4.ext xf94; replace h11 := h11.ext xf94; clear xf94; refine lw_pure (pur_pick_t rfl rfl rfl) rfl (cA rfl rfl (cT (cw_ret (qw_ret1 rfl rfl ?_)))); rotate_left 1
 exact ⟨rfl, X⟩
end Bk
namespace Bk
open Go Go.RowKit Go.Proofs
def AllB : Nat → Prop := fun _ => True
theorem row_build (W : World) (b o : Nat) : ∀ (len i0 : Nat), (∀ i, i < len → ∃ (t : Nd) (a' : Option Addr) (c' : Nat), t.wf ∧ W.cell? ⟨b, o + (i0 + i) * 4, none⟩ = some (.int .u8 t.kind) ∧ W.cell? ⟨b, o + (i0 + i) * 4 + 1, none⟩ = some (.int .i64 t.num) ∧ W.cell? ⟨b, o + (i0 + i) * 4 + 2, none⟩ = some (str t.name) ∧ W.cell? ⟨b, o + (i0 + i) * 4 + 3, none⟩ = some (.slice a' t.kids.length c') ∧ t.sits AllB W a') →
 ∃ l : List Nd, l.length = len ∧ rowWf l ∧ rowSits AllB W l (some ⟨b, o + i0 * 4, none⟩)
 | 0, _, _ => ⟨[], rfl, by simp [rowWf], by simp [rowSits]⟩
 | len + 1, i0, h => by
  obtain ⟨l, hl, hw, hs⟩ := row_build W b o len (i0 + 1) (fun i hi => by
   have := h (i + 1) (by omega)
   rwa [show i0 + (i + 1) = i0 + 1 + i from by omega] at this)
  obtain ⟨t, a', c', hwf, h0, h1, h2, h3, hsk⟩ := h 0 (by omega); rw [Nat.add_zero] at h0 h1 h2 h3; refine ⟨t :: l, by simp [hl], by simp [rowWf, hwf, hw], ?_⟩; simp only [rowSits]; refine ⟨b, o + i0 * 4, a', c', rfl, trivial, h0, h1, h2, h3, hsk, ?_⟩
  rwa [show o + i0 * 4 + 4 = o + (i0 + 1) * 4 from by omega]
theorem cells4 {W : World} {a : Addr} {cs : List Value} (h : W.cells? 0 a 4 = some cs) : ∃ c0 c1 c2 c3, cs = [c0, c1, c2, c3] ∧ W.cell? (a.add 0) = some c0 ∧ W.cell? (a.add 1) = some c1 ∧ W.cell? (a.add 2) = some c2 ∧ W.cell? (a.add 3) = some c3 := by
 unfold World.cells? at h
 rw [if_pos (Nat.zero_le _)] at h; rw [show List.range 4 = [0, 1, 2, 3] from rfl] at h
 cases e0 : W.cell? (a.add 0) <;> simp [e0] at h
 cases e1 : W.cell? (a.add 1) <;> simp [e1] at h
 cases e2 : W.cell? (a.add 2) <;> simp [e2] at h
 cases e3 : W.cell? (a.add 3) <;> simp [e3] at h
 exact ⟨_, _, _, _, h.symm, rfl, rfl, rfl, rfl⟩
theorem addr_add2 (b o n m : Nat) : ((⟨b, o, none⟩ : Addr).add n).add m = ⟨b, o + n + m, none⟩ := by
 unfold Addr.add
 by_cases hn : n = 0 <;> by_cases hm : m = 0 <;> simp [hn, hm]
theorem cellsNode : Tryz.prog.cellsOf 24 = 4 := by kernel_rfl
theorem cells5 : Tryz.prog.cellsOf 5 = 1 := by kernel_rfl
theorem cells3 : Tryz.prog.cellsOf 3 = 1 := by kernel_rfl
theorem cells9 : Tryz.prog.cellsOf 9 = 1 := by kernel_rfl
theorem cells22 : Tryz.prog.cellsOf 22 = 1 := by kernel_rfl
theorem node_of_trod {H : Type} (enc : TypeId × Value → H) (W : World) (sp : Nat → Bool) (N : Nat) : ∀ (fuel : Nat), fuel < N → ∀ (cs : List Value) (x : DataW H × List MemPlace), DataW.trod enc Tryz.prog W 0 sp true fuel 24 cs = some x →
 ∃ (t : Nd) (a : Option Addr) (c : Nat), cs = [.int .u8 t.kind, .int .i64 t.num, str t.name, .slice a t.kids.length c] ∧ t.wf ∧ t.sits AllB W a := by
 induction N with
 | zero => intro fuel h; omega
 | succ N ih =>
  intro fuel hN cs x h; obtain ⟨xs, n, rfl, -, hl, hlen, hf⟩ := DataW.trod_struct Tryz.underlying24 h; rw [cellsNode] at hl
  obtain ⟨c0, c1, c2, c3, rfl⟩ : ∃ c0 c1 c2 c3, cs = [c0, c1, c2, c3] := by
   rcases cs with _ | ⟨c0, _ | ⟨c1, _ | ⟨c2, _ | ⟨c3, _ | ⟨c4, cs⟩⟩⟩⟩⟩
   · simp at hl
   · simp at hl
   · simp at hl
   · simp at hl
   · exact ⟨_, _, _, _, rfl⟩
   · simp at hl
  obtain ⟨y0, y1, y2, y3, rfl⟩ : ∃ y0 y1 y2 y3, xs = [y0, y1, y2, y3] := by
   have hlen' : xs.length = 4 := hlen
   rcases xs with _ | ⟨c0, _ | ⟨c1, _ | ⟨c2, _ | ⟨c3, _ | ⟨c4, cs⟩⟩⟩⟩⟩
   · simp at hlen'
   · simp at hlen'
   · simp at hlen'
   · simp at hlen'
   · exact ⟨_, _, _, _, rfl⟩
   · simp at hlen'
  · have f0 : DataW.trod enc Tryz.prog W 0 sp true n 5 (([c0, c1, c2, c3].drop 0).take (Tryz.prog.cellsOf 5)) = some y0 := hf 0 _ rfl
    have f1 : DataW.trod enc Tryz.prog W 0 sp true n 3 (([c0, c1, c2, c3].drop 1).take (Tryz.prog.cellsOf 3)) = some y1 := hf 1 _ rfl; have f2 : DataW.trod enc Tryz.prog W 0 sp true n 9 (([c0, c1, c2, c3].drop 2).take (Tryz.prog.cellsOf 9)) = some y2 := hf 2 _ rfl; have f3 : DataW.trod enc Tryz.prog W 0 sp true n 22 (([c0, c1, c2, c3].drop 3).take (Tryz.prog.cellsOf 22)) = some y3 := hf 3 _ rfl; simp only [cells5, cells3, cells9, cells22, List.drop_zero, List.drop_succ_cons, List.take_succ_cons, List.take_zero] at f0 f1 f2 f3; obtain ⟨k, hk, -, wk⟩ := DataW.trod_int (show Tryz.prog.underlying 5 = some (.int .u8) by kernel_rfl) f0; obtain ⟨m, hm, -, wm⟩ := DataW.trod_int Tryz.underlying3 f1; obtain ⟨s, hs, -, ws⟩ := DataW.trod_string (show Tryz.prog.underlying 9 = some .string by kernel_rfl) f2; simp only [List.cons.injEq, and_true] at hk hm hs; subst hk hm hs
    have wk' : 0 ≤ k ∧ k ≤ 255 := by simpa [Lit.wf, IntKind.min, IntKind.max, IntKind.signed, IntKind.bits] using wk
    have wm' : -9223372036854775808 ≤ m ∧ m ≤ 9223372036854775807 := by simpa [Lit.wf, IntKind.min, IntKind.max, IntKind.signed, IntKind.bits] using wm
    have ws' : s.data.toList.length ≤ 9223372036854775807 := by
     have : s.data.toList.length = s.size := by rw [Array.length_toList]; rfl
     unfold maxLen at ws; omega
    rcases DataW.trod_slice Tryz.underlying22 f3 with ⟨hc, -⟩ | ⟨a, len, cap, elems, rest, n', hn', hc, -, -, hle, hcm, hel, hE, -⟩
    · simp only [List.cons.injEq, and_true] at hc
      subst hc
      exact ⟨.mk k m s.data.toList [], none, 0, rfl, ⟨wk'.1, wk'.2, wm'.1, wm'.2, ws', by simp, by simp [rowWf]⟩, by simp [Nd.sits, rowSits]⟩
    · simp only [List.cons.injEq, and_true] at hc
      subst hc; rw [cellsNode] at hE
      rcases Nat.eq_zero_or_pos len with h0 | hpos
      · subst h0
        exact ⟨.mk k m s.data.toList [], some a, cap, rfl, ⟨wk'.1, wk'.2, wm'.1, wm'.2, ws', by simp, by simp [rowWf]⟩, by simp [Nd.sits, rowSits]⟩
      · have step : ∀ i, i < len → ∃ (t : Nd) (a' : Option Addr) (c' : Nat), t.wf ∧ W.cell? ((a.add (i * 4)).add 0) = some (.int .u8 t.kind) ∧ W.cell? ((a.add (i * 4)).add 1) = some (.int .i64 t.num) ∧ W.cell? ((a.add (i * 4)).add 2) = some (str t.name) ∧ W.cell? ((a.add (i * 4)).add 3) = some (.slice a' t.kids.length c') ∧ t.sits AllB W a' := by
         intro i hi; have hEi := hE i hi
         cases hc4 : W.cells? 0 (a.add (i * 4)) 4 with
         | none =>
          rw [hc4] at hEi; have hh : elems[i]? = some elems[i] := List.getElem?_eq_getElem (by omega); rw [hh] at hEi
          simp at hEi
         | some cs4 =>
          rw [hc4, List.getElem?_eq_getElem (by omega)] at hEi; obtain ⟨d0, d1, d2, d3, rfl, e0, e1, e2, e3⟩ := cells4 hc4; obtain ⟨t, a', c', hcs, hw, hs⟩ := ih n' (by omega) _ _ hEi; simp only [List.cons.injEq, and_true] at hcs; obtain ⟨rfl, rfl, rfl, rfl⟩ := hcs
          exact ⟨t, a', c', hw, e0, e1, e2, e3, hs⟩
        obtain ⟨b, o, spot⟩ := a
        have hspot : spot = none := by
         obtain ⟨t, a', c', -, e0, -⟩ := step 0 hpos; simp only [Nat.zero_mul, Addr.add, if_true] at e0
         unfold World.cell? at e0
         cases spot with
         | none => rfl
         | some q => simp at e0; split at e0 <;> simp at e0
        subst hspot
        obtain ⟨l, hl', hw', hs'⟩ := row_build W b o len 0 (fun i hi => by
         obtain ⟨t, a', c', hw, e0, e1, e2, e3, hs⟩ := step i hi; rw [addr_add2] at e0 e1 e2 e3; rw [Nat.zero_add]
         exact ⟨t, a', c', hw, e0, e1, e2, e3, hs⟩)
        subst hl'; refine ⟨.mk k m s.data.toList l, some ⟨b, o, none⟩, cap, rfl, ⟨wk'.1, wk'.2, wm'.1, wm'.2, ws', by unfold maxLen at hcm; omega, hw'⟩, ?_⟩
        simpa [Nd.sits] using hs'
end Bk
namespace Bk
open Go Go.RowKit Go.Proofs
theorem InverterConcat_d (t : Nd) (a : Option Addr) (c : Nat) (u : Nd) (a' : Option Addr) (c' : Nat) (w : World) (hwf : t.wf) (hs : t.sits AllB w a) (hwf' : u.wf) (hs' : u.sits AllB w a') (hS : Syms w) (hE : Errs w) :
 Calls Tryz.prog 4 #[t.val a c, u.val a' c'] w fun e w' => e = .returned (.bool true) ∧ Ext w w' := InverterConcat_c t hwf AllB a c u hwf' AllB a' c' w hs hs' hS hE
end Bk
namespace Bk
open Go Go.RowKit Go.Proofs Go.Lib
theorem cells_of_strs {H : Type} {enc : TypeId × Value → H} {P : Program} {w : World} {base : Nat} {sp : Nat → Bool} {held : Bool} {fuel : Nat} {t e : TypeId} {n : Nat} {cs : List Value} {zs : List (List UInt8)} {p : List MemPlace}
 (ht : P.underlying t = some (.array n e)) (he : P.underlying e = some .string) (hce : P.cellsOf e = 1) (hct : P.cellsOf t = n)
 (h : DataW.trod enc P w base sp held fuel t cs = some (.agg (zs.map fun z => .lit (.string z)), p)) : cs = zs.map str := by
 cases fuel with
 | zero => simp [DataW.trod] at h
 | succ fuel =>
  simp only [DataW.trod, ht, hce, hct, Nat.mul_one] at h
  split at h
  · rename_i hl
    obtain ⟨xs, hm, hx⟩ := Option.map_eq_some_iff.1 h
    have hxs : xs.map (·.1) = zs.map fun z => (DataW.lit (.string z) : DataW H) := by
     have := congrArg Prod.fst hx
     simpa using this
    have hxl : xs.length = n := by simpa using mapM_length hm
    have hzl : zs.length = n := by
     have := congrArg List.length hxs
     simp at this
     omega
    apply List.ext_getElem?
    intro i
    by_cases hi : i < n
    · obtain ⟨b, hb, hf⟩ := mapM_at hm i i (by simp [hi])
      obtain ⟨z, hc, rfl, _⟩ := DataW.trod_string he hf
      have h1 : cs[i]? = some (.string z) := by
       have := congrArg (·[0]?) hc
       simpa [List.getElem?_take, List.getElem?_drop] using this
      have h2 : (xs.map (·.1))[i]? = some (DataW.lit (.string z.data.toList) : DataW H) := by simp [hb]
      rw [hxs] at h2; simp only [List.getElem?_map, Option.map_eq_some_iff, DataW.lit.injEq, Lit.string.injEq] at h2; obtain ⟨z', hz', rfl⟩ := h2
      simp [h1, hz']
    · rw [List.getElem?_eq_none (by omega), List.getElem?_eq_none (by simp; omega)]
  · cases h
end Bk
namespace Bk
open Go Go.RowKit Go.Proofs Go.Lib
theorem gSym4 : Tryz.prog.globalNamed "backstep/arith.symbols" = some 0 := by kernel_rfl
theorem gSymT4 : (Tryz.prog.globals[0]?).map (·.type) = some 92 := by kernel_rfl
theorem uSymT4 : Tryz.prog.underlying 92 = some (.array 43 9) := by kernel_rfl
theorem cSymT4 : Tryz.prog.cellsOf 92 = 43 := by kernel_rfl
theorem uStr4 : Tryz.prog.underlying 9 = some .string := by kernel_rfl
theorem cStr4 : Tryz.prog.cellsOf 9 = 1 := by kernel_rfl
theorem gErr4 : Tryz.prog.globalNamed "strconv.ErrRange" = some 3 := by kernel_rfl
theorem gErrT4 : (Tryz.prog.globals[3]?).map (·.type) = some 103 := by kernel_rfl
theorem uErr4 : ∃ ms, Tryz.prog.underlying 103 = some (.interface ms) := ⟨_, Tryz.underlying103⟩
theorem symData4 : (YtgiikljkekpenaaGreatDoor.Rows.laid_backstep_arith_symbols : DataW Unit) = .agg (symbols.map fun z => .lit (.string z)) := rfl
abbrev laid4 : List (String × DataW Unit) := [("backstep/arith.symbols", YtgiikljkekpenaaGreatDoor.Rows.laid_backstep_arith_symbols), ("math/bits.deBruijn32tab", YtgiikljkekpenaaGreatDoor.Rows.laid_math_bits_deBruijn32tab), ("math/bits.deBruijn64tab", YtgiikljkekpenaaGreatDoor.Rows.laid_math_bits_deBruijn64tab), ("internal/strconv.uint64pow10", YtgiikljkekpenaaGreatDoor.Rows.laid_internal_strconv_uint64pow10), ("strconv.ErrRange", YtgiikljkekpenaaGreatDoor.Rows.laid_strconv_ErrRange), ("strconv.ErrSyntax", YtgiikljkekpenaaGreatDoor.Rows.laid_strconv_ErrSyntax)]
theorem syms_of_laid {W : World} (h : laidMetH Tryz.prog laid4 W) : Syms W ∧ Errs W := by
 have h' : laidMet Tryz.prog laid4 W := h; obtain ⟨ps, ⟨g1, t1, cs1, f1, p1, q1, hg1, ht1, hv1, hd1, ⟨g2, t2, cs2, f2, p2, q2, hg2, ht2, hv2, hd2, ⟨g3, t3, cs3, f3, p3, q3, hg3, ht3, hv3, hd3, ⟨g4, t4, cs4, f4, p4, q4, hg4, ht4, hv4, hd4, ⟨g5, t5, cs5, f5, p5, q5, hg5, ht5, hv5, hd5, -, -⟩, -⟩, -⟩, -⟩, -⟩, -⟩ := h'; obtain rfl := Option.some.inj (gSym4.symm.trans hg1); obtain rfl := Option.some.inj (gSymT4.symm.trans ht1); obtain rfl := Option.some.inj (gErr4.symm.trans hg5); obtain rfl := Option.some.inj (gErrT4.symm.trans ht5); rw [symData4] at hd1; have e1 := cells_of_strs uSymT4 uStr4 cStr4 cSymT4 hd1; refine ⟨⟨fun i hi => ?_⟩, ?_⟩
 · rw [World.var?_cell gSym4 hv1 i, ← Array.getElem?_toList, e1, List.getElem?_map]
   have : symbols[i]? = some (symbols.getD i []) := by
    rw [List.getD_eq_getElem?_getD, List.getElem?_eq_getElem (show i < symbols.length from hi)]; rfl
   rw [this]; rfl
 · obtain ⟨ms, hu⟩ := uErr4
   obtain ⟨f, u, v, hc, -, -⟩ := iface_of_trod hu hd5; refine ⟨⟨u, v, ?_⟩⟩; rw [World.var?_cell gErr4 hv5 0, ← Array.getElem?_toList, hc]
   rfl
end Bk
