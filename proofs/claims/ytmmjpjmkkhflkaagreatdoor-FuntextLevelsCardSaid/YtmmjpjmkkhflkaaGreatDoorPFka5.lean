/- Texts that the proofs of FuntextBack, FuntextLevels need. No condition. (Part 5 of 7.) -/
import Derived.Test.YtmmjpjmkkhflkaaGreatDoorPFka4
set_option linter.unusedSimpArgs false
set_option linter.unusedVariables false
namespace Bk
open Go Go.RowKit Go.Proofs
attribute [local irreducible] Go.Calls
theorem pur_bneqF {P : Program} {n : Nat} {l : Sl} {S : World → Prop} {tab : Tab} {t t' ty sz : Nat} {x y : Operand} {p q : Bool} (T : TabOk P tab) (ht : lookT tab t = some (.bool, sz)) (hx : ev l x = some (.bool p)) (hy : ev l y = some (.bool q)) : Pur P n l S (.binOp .neq t x y t') ty (.bool (decide (p ≠ q))) := by
 unfold Pur
 intro _ w dst pos after g ha _
 have e1 : (eqGuard .neq t x y (.bool p) (.bool q)).run P w = .ok () w := by unfold eqGuard; simp
 have hu : P.underlying t = some .bool := (T _ _ _ ht).under
 have e2 : (Op.equal t (.bool p) (.bool q)).run P w = .ok (p == q) w := by
  show (Op.equalIn (9999 + 1) t (.bool p) (.bool q)).run P w = _
  unfold Op.equalIn
  simp [run_underlying hu, Result.andThen]
 simp [execOp, ha.ev hx, ha.ev hy, e1, e2, binOp]
 cases p <;> cases q <;> rfl
theorem take_eq_succ {l q : List Bool} {j : Nat} (h1 : j < l.length) (h2 : j < q.length) (h : l.take j = q.take j) (hc : l[j] = q[j]) : l.take (j + 1) = q.take (j + 1) := by
 rw [List.take_succ_eq_append_getElem h1, List.take_succ_eq_append_getElem h2, h, hc]
theorem ne_at {l q : List Bool} {j : Nat} (h1 : j < l.length) (h2 : j < q.length) (hc : l[j] ≠ q[j]) : l ≠ q := by
 intro e; subst e; exact hc rfl
set_option maxRecDepth 100000 in
set_option maxHeartbeats 4000000 in
theorem sEqual_c (l q : List Bool) (S S' : Nat → Prop) (a a' : Option Addr) (c c' : Nat) (w : World) (hl : l.length ≤ 1000000) (hs : Els boolV S w l a) (hs' : Els boolV S' w q a') :
 Calls Tryz.prog 113 #[.slice a l.length c, .slice a' q.length c'] w fun e w' => e = .returned (.bool (decide (l = q))) ∧ Ext w w' := by
 have X := Ext.refl w
 by_cases hlen : l.length = q.length
 · refine calls_in Tryz.func113 Tryz.ntmps113 rfl rfl ?_
   focus
    refine cS (cA rfl rfl (cT (cw_seq (cS (cM rfl rfl (lw_pure (pur_len_slice tabOk rfl rfl) rfl (cM rfl rfl (lw_pure (pur_len_slice tabOk rfl rfl) rfl (lw_pure (pur_neq rfl rfl) rfl (cT ?_)))))))))); refine cw_no rfl (by omega) ?_; refine cw_skip (qw_then (cw_seq (cS (cM rfl rfl (lw_pure (pur_len_slice tabOk rfl rfl) rfl (cM rfl rfl (cT (cw_block ?_)))))))); rotate_left 1
   refine cw_loop (ι := Nat) (fun j => [(0, .slice a l.length c), (1, .slice a' q.length c'), (12, .int .i64 l.length), (13, .int .i64 j)]) (fun j w' => Els boolV S w' l a ∧ Els boolV S' w' q a' ∧ Ext w w' ∧ j ≤ l.length ∧ l.take j = q.take j) (fun j => l.length - j) 0 (by (refine sub_cons rfl ?_; refine sub_cons rfl ?_; refine sub_cons rfl ?_; refine sub_cons rfl ?_; exact sub_nil)) ⟨hs, hs', X, Nat.zero_le _, by simp⟩ ?_; clear hs hs' X; rintro j w1 ⟨hs, hs', X, hj, hn⟩
   by_cases hlt : j < l.length
   · obtain ⟨kb, ko, rfl, -, hk⟩ := Arr.get hs (by omega)
     obtain ⟨kb', ko', rfl, -, hk'⟩ := Arr.get hs' (by omega); have r1 := hk j _ (List.getElem?_eq_getElem hlt); have r2 := hk' j _ (List.getElem?_eq_getElem (show j < q.length by omega)); have hnx := Lib.hid (take_eq_succ hlt (show j < q.length by omega) hn); have hnt := Lib.hid (ne_at hlt (show j < q.length by omega)); clear hk hk' hn
     generalize l[j] = x at *
     generalize q[j] = y at *
     by_cases hx : x = y
     · have hq := Lib.hid (hnx.out hx)
       clear hnx hnt
       focus
        refine cS (lw_pure (pur_lss rfl rfl) rfl (cT (cw_seq ?_))); refine cw_yes rfl (by omega) ?_; refine cw_skip (qw_then (cw_seq (cw_block (cS (cM rfl rfl (cA rfl rfl (cT (cw_seq ?_)))))))); (refine cw_tdraw (fun wz => Ext w1 wz) 8 (.pure 0 (.pure 1 (.pure 2 (.pure 3 (.pure 4 (.pure 5 (.pure 6 (.pure 7 .tail)))))))) mixed (by kernel_rfl) (panicOk_then (panicOk_block (panicOk_then (panicOk_then (panicOk_block (panicOk_then panicOk_body)))))) ?_; intro wa1 xa2 _); have qsa3 : (fun wz => Ext w1 wz) wa1 := xa2; simp only at qsa3; have d_hs := hs; have d_hs' := hs'; have d_r1 := r1; have d_r2 := r2; have za4 := xa2.size; replace X := X.ext xa2; replace hs := hs.ext xa2; replace hs' := Els.ext hs' xa2; replace r1 := r1.ext xa2; replace r2 := r2.ext xa2; clear xa2; refine ⟨qsa3, ?_⟩; refine tw_pure rfl (pur_move rfl) rfl (tw_pure rfl (pur_move rfl) rfl ?_); refine tw_pure rfl (pur_indexAddr tabOk rfl rfl rfl rfl (by omega) (by omega)) rfl ?_; refine tw_pure rfl (pur_load tabOk rfl rfl rfl (fun wz hz => Row.at0 (Row.ext d_r1 hz) rfl)) rfl (tw_pure rfl (pur_move rfl) rfl (tw_pure rfl (pur_move rfl) rfl ?_)); refine tw_pure rfl (pur_indexAddr tabOk rfl rfl rfl rfl (by omega) (by omega)) rfl ?_; refine tw_pure rfl (pur_load tabOk rfl rfl rfl (fun wz hz => Row.at0 (Row.ext d_r2 hz) rfl)) rfl ?_; clear qsa3 d_hs d_hs' d_r1 d_r2; refine tw_tail rfl (lw_pure (pur_bneqF tabOk rfl rfl rfl) rfl (cT ?_)); refine cw_no rfl (not_not_intro (by assumption)) ?_; refine cw_skip (qw_block_norm (qw_then (cw_region ?_)))
        refine lw_pure (pur_add rfl rfl (IntWalk.i64_in _ (by omega))) rfl ?_; refine cM rfl rfl (lw_nil ?_); rotate_left 1
       exact qw_round (j + 1) (by (refine sub_cons rfl ?_; refine sub_cons rfl ?_; refine sub_cons rfl ?_; refine sub_cons rfl ?_; exact sub_nil)) ⟨hs, hs', X, by omega, hq.out⟩ (by omega)
     · have hq := Lib.hid (hnt.out hx)
       clear hnx hnt
       focus
        refine cS (lw_pure (pur_lss rfl rfl) rfl (cT (cw_seq ?_))); refine cw_yes rfl (by omega) ?_; refine cw_skip (qw_then (cw_seq (cw_block (cS (cM rfl rfl (cA rfl rfl (cT (cw_seq ?_)))))))); (refine cw_tdraw (fun wz => Ext w1 wz) 8 (.pure 0 (.pure 1 (.pure 2 (.pure 3 (.pure 4 (.pure 5 (.pure 6 (.pure 7 .tail)))))))) mixed (by kernel_rfl) (panicOk_then (panicOk_block (panicOk_then (panicOk_then (panicOk_block (panicOk_then panicOk_body)))))) ?_; intro wb1 xb2 _); have qsb3 : (fun wz => Ext w1 wz) wb1 := xb2; simp only at qsb3; have d_hs := hs; have d_hs' := hs'; have d_r1 := r1; have d_r2 := r2; have zb4 := xb2.size; replace X := X.ext xb2; replace hs := hs.ext xb2; replace hs' := Els.ext hs' xb2; replace r1 := r1.ext xb2; replace r2 := r2.ext xb2; clear xb2; refine ⟨qsb3, ?_⟩; refine tw_pure rfl (pur_move rfl) rfl (tw_pure rfl (pur_move rfl) rfl ?_); refine tw_pure rfl (pur_indexAddr tabOk rfl rfl rfl rfl (by omega) (by omega)) rfl ?_; refine tw_pure rfl (pur_load tabOk rfl rfl rfl (fun wz hz => Row.at0 (Row.ext d_r1 hz) rfl)) rfl (tw_pure rfl (pur_move rfl) rfl (tw_pure rfl (pur_move rfl) rfl ?_)); refine tw_pure rfl (pur_indexAddr tabOk rfl rfl rfl rfl (by omega) (by omega)) rfl ?_; refine tw_pure rfl (pur_load tabOk rfl rfl rfl (fun wz hz => Row.at0 (Row.ext d_r2 hz) rfl)) rfl ?_; clear qsb3 d_hs d_hs' d_r1 d_r2; refine tw_tail rfl (lw_pure (pur_bneqF tabOk rfl rfl rfl) rfl (cT ?_)); refine cw_yes rfl (by assumption) ?_; refine cS (cA rfl rfl (cT (cw_ret (qw_block_ret (qw_then_ret (qw_then_ret (qw_block_ret (qw_then_ret (qw_ret1 rfl rfl ?_)))))))))
        rotate_left 1
       exact ret2 (by rw [decide_eq_false hq.out]) X
   · have hje : j = l.length := by omega
     subst hje; rw [List.take_length, hlen, List.take_length] at hn; have hq := Lib.hid hn; clear hn
     focus
      refine cS (lw_pure (pur_lss rfl rfl) rfl (cT (cw_seq ?_))); refine cw_no rfl (by omega) ?_; refine cw_exit (qw_then_exit (qw_then_exit (qw_block_exit (qw_then (cS (cA rfl rfl (cT (cw_ret (qw_ret1 rfl rfl ?_))))))))); rotate_left 1
     exact ret2 (by rw [decide_eq_true hq.out]) X
 · have hq := Lib.hid (show l ≠ q from fun e => hlen (by rw [e]))
   refine calls_in Tryz.func113 Tryz.ntmps113 rfl rfl ?_
   focus
    refine cS (cA rfl rfl (cT (cw_seq (cS (cM rfl rfl (lw_pure (pur_len_slice tabOk rfl rfl) rfl (cM rfl rfl (lw_pure (pur_len_slice tabOk rfl rfl) rfl (lw_pure (pur_neq rfl rfl) rfl (cT ?_)))))))))); refine cw_yes rfl (by omega) ?_; refine cS (cA rfl rfl (cT (cw_ret (qw_then_ret (qw_ret1 rfl rfl ?_))))); rotate_left 1
   exact ret2 (by rw [decide_eq_false hq.out]) X
def VisOk (kvs : List (List UInt8 × Value)) (v : Vis) : Prop := ∀ s, getS kvs s = (seen v s).map Value.bool
theorem findI_none {lib : List FD} {s : List UInt8} (h : findF lib s = none) : findI lib s = -1 := by simp [findI, h]
theorem findI_some {lib : List FD} {s : List UInt8} {i : Nat} (h : findF lib s = some i) : findI lib s = i := by simp [findI, h]
theorem findF_lt {lib : List FD} {s : List UInt8} {i : Nat} (h : findF lib s = some i) : i < lib.length := by
 obtain ⟨h, -⟩ := List.findIdx?_eq_some_iff_getElem.1 h
 exact h
theorem Find_v {lib : List FD} {s : List UInt8} {q : Int} (h : findI lib s = q) (S : Nat → Prop) (a : Option Addr) (c : Nat) (w : World) (hL : lib.length ≤ 1000000) (hs : FDs S w lib a) :
 Calls Tryz.prog 70 #[.slice a lib.length c, str s] w fun e w' => e = .returned (.int .i64 q) ∧ Ext w w' := by
 have := Find_c lib s S a c w hL hs
 rw [h] at this; exact this
set_option maxRecDepth 100000 in
set_option maxHeartbeats 4000000 in
theorem reach_c (lib : List FD) (v : Vis) (kvs : List (List UInt8 × Value)) (r : Nat) (k n : Int) (s : List UInt8) (l : List Nd) (S : Nat → Prop) (la a : Option Addr) (lc c : Nat) (w : World) (hL : lib.length ≤ 1000000) (hV : VisOk kvs v) (hM : MapIs w r kvs) (hs : FDs S w lib la) (hk0 : l.length ≤ 1000000) :
 Calls Tryz.prog 101 #[.slice la lib.length lc, .map (some r), .agg #[.int .u8 k, .int .i64 n, str s, .slice a l.length c]] w fun e w' => e = .returned (.int .i64 (reachF lib v k s l.length)) ∧ Ext w w' := by
 have X := Ext.refl w; have hg := hV s; clear hV; replace hs := hs.ltA
 by_cases hk : k = 85
 · subst hk
   cases hf : findF lib s with
   | none =>
    have hq := findI_none hf; have HF := Lib.hid (Find_v hq); rw [show reachF lib v 85 s l.length = 6 from by simp [reachF, hf]]; clear hf hq
    cases hsn : seen v s with
    | none =>
     rw [hsn] at hg; simp only [Option.map_none] at hg; clear hsn; refine calls_in Tryz.func101 Tryz.ntmps101 rfl rfl ?_
     focus
      refine cS ?_; (refine lw_box' [_, _, _, _] rfl rfl rfl ?_; intro b1 w2 n3); have h4 := n3.blk; have x5 := n3.ext; have p6 := n3.pos; have z7 := n3.size; clear n3; replace hM := hM.ext x5; replace X := X.ext x5; replace hs := hs.ext x5; clear x5; refine cA rfl rfl (cN (cM rfl rfl (lw_pure (pur_fieldAddr tabOk rfl rfl rfl) rfl (lw_load_b tabOk rfl rfl rfl h4 rfl rfl ?_)))); refine lw_pure (pur_look_none tabOk rfl rfl rfl rfl rfl (fun wz hz => by subst hz; exact hM) (by assumption)) rfl ?_; refine cM rfl rfl (lw_pure (pur_extract rfl rfl) rfl (lw_pure (pur_extract rfl rfl) rfl (cA rfl rfl (cA rfl rfl (cT (cw_seq (cS (lw_pure (pur_fieldAddr0 tabOk rfl rfl rfl) rfl (lw_load_b tabOk rfl rfl rfl h4 rfl rfl (cT (cw_block ?_))))))))))); refine cS (lw_pure (pur_eql rfl rfl) rfl (cA rfl rfl (cT ?_))); refine cw_no rfl (by decide) ?_; refine cS (lw_pure (pur_eql rfl rfl) rfl (cA rfl rfl (cT ?_))); refine cw_no rfl (by decide) ?_; refine cS (lw_pure (pur_eql rfl rfl) rfl (cA rfl rfl (cT ?_))); refine cw_yes rfl (by decide) ?_; refine cS (cM rfl rfl (lw_pure (pur_fieldAddr tabOk rfl rfl rfl) rfl (lw_load_b tabOk rfl rfl rfl h4 rfl rfl ?_))); refine cC (by kernel_rfl) rfl (HF.out _ _ _ _ (by omega) (by assumption)) rfl ?_; rintro _ w9 ⟨⟨⟩, x8⟩; have z10 := x8.size; replace h4 := h4.ext x8; replace hM := hM.ext x8; replace X := X.ext x8; replace hs := hs.ext x8; clear x8; refine cA rfl rfl (cT (cw_seq (cS (cM rfl rfl (lw_pure (pur_lss rfl rfl) rfl (cT ?_)))))); refine cw_yes rfl (by decide) ?_
      refine cS (cA rfl rfl (cT (cw_ret (qw_then_ret (qw_block_ret (qw_then_ret (qw_ret1 rfl rfl ?_))))))); rotate_left 1
     exact ⟨rfl, X⟩
    | some b =>
     rw [hsn] at hg; simp only [Option.map_some] at hg; clear hsn; refine calls_in Tryz.func101 Tryz.ntmps101 rfl rfl ?_
     focus
      refine cS ?_; (refine lw_box' [_, _, _, _] rfl rfl rfl ?_; intro ba1 wa2 na3); have ha4 := na3.blk; have xa5 := na3.ext; have pa6 := na3.pos; have za7 := na3.size; clear na3; replace hM := hM.ext xa5; replace X := X.ext xa5; replace hs := hs.ext xa5; clear xa5; refine cA rfl rfl (cN (cM rfl rfl (lw_pure (pur_fieldAddr tabOk rfl rfl rfl) rfl (lw_load_b tabOk rfl rfl rfl ha4 rfl rfl ?_)))); refine lw_pure (pur_look_some tabOk rfl rfl rfl rfl rfl (fun wz hz => by subst hz; exact hM) (by assumption)) rfl ?_; refine cM rfl rfl (lw_pure (pur_extract rfl rfl) rfl (lw_pure (pur_extract rfl rfl) rfl (cA rfl rfl (cA rfl rfl (cT (cw_seq (cS (lw_pure (pur_fieldAddr0 tabOk rfl rfl rfl) rfl (lw_load_b tabOk rfl rfl rfl ha4 rfl rfl (cT (cw_block ?_))))))))))); refine cS (lw_pure (pur_eql rfl rfl) rfl (cA rfl rfl (cT ?_))); refine cw_no rfl (by decide) ?_; refine cS (lw_pure (pur_eql rfl rfl) rfl (cA rfl rfl (cT ?_))); refine cw_no rfl (by decide) ?_; refine cS (lw_pure (pur_eql rfl rfl) rfl (cA rfl rfl (cT ?_))); refine cw_yes rfl (by decide) ?_; refine cS (cM rfl rfl (lw_pure (pur_fieldAddr tabOk rfl rfl rfl) rfl (lw_load_b tabOk rfl rfl rfl ha4 rfl rfl ?_))); refine cC (by kernel_rfl) rfl (HF.out _ _ _ _ (by omega) (by assumption)) rfl ?_; rintro _ wa9 ⟨⟨⟩, xa8⟩; have za10 := xa8.size; replace ha4 := ha4.ext xa8; replace hM := hM.ext xa8; replace X := X.ext xa8; replace hs := hs.ext xa8; clear xa8; refine cA rfl rfl (cT (cw_seq (cS (cM rfl rfl (lw_pure (pur_lss rfl rfl) rfl (cT ?_))))))
      refine cw_yes rfl (by decide) ?_; refine cS (cA rfl rfl (cT (cw_ret (qw_then_ret (qw_block_ret (qw_then_ret (qw_ret1 rfl rfl ?_))))))); rotate_left 1
     exact ⟨rfl, X⟩
   | some i =>
    have hil := findF_lt hf; have hq := findI_some hf; have HF := Lib.hid (Find_v hq); rw [show reachF lib v 85 s l.length = if l.length = lib[i].params.length then 0 else 7 from by simp [reachF, hf, List.getElem?_eq_getElem hil]]; clear hf hq
    cases hsn : seen v s with
    | none =>
     rw [hsn] at hg; simp only [Option.map_none] at hg; clear hsn; have hs2 := hs; obtain ⟨kb, ko, ⟨⟩, hkS, hk⟩ := Arr.get hs2 (by omega); obtain ⟨pa, pc, ba, bc, hr, h1, h2⟩ := hk i lib[i] (List.getElem?_eq_getElem hil); clear hk hs2
     generalize lib[i] = x at *
     refine calls_in Tryz.func101 Tryz.ntmps101 rfl rfl ?_
     focus
      refine cS ?_; (refine lw_box' [_, _, _, _] rfl rfl rfl ?_; intro bb1 wb2 nb3); have hb4 := nb3.blk; have xb5 := nb3.ext; have pb6 := nb3.pos; have zb7 := nb3.size; clear nb3; replace hM := hM.ext xb5; replace X := X.ext xb5; replace hs := hs.ext xb5; replace hr := hr.ext xb5; replace h1 := h1.ext xb5; replace h2 := Nd.sits.ext h2 xb5; clear xb5; refine cA rfl rfl (cN (cM rfl rfl (lw_pure (pur_fieldAddr tabOk rfl rfl rfl) rfl (lw_load_b tabOk rfl rfl rfl hb4 rfl rfl ?_)))); refine lw_pure (pur_look_none tabOk rfl rfl rfl rfl rfl (fun wz hz => by subst hz; exact hM) (by assumption)) rfl ?_; refine cM rfl rfl (lw_pure (pur_extract rfl rfl) rfl (lw_pure (pur_extract rfl rfl) rfl (cA rfl rfl (cA rfl rfl (cT (cw_seq (cS (lw_pure (pur_fieldAddr0 tabOk rfl rfl rfl) rfl (lw_load_b tabOk rfl rfl rfl hb4 rfl rfl (cT (cw_block ?_))))))))))); refine cS (lw_pure (pur_eql rfl rfl) rfl (cA rfl rfl (cT ?_))); refine cw_no rfl (by decide) ?_; refine cS (lw_pure (pur_eql rfl rfl) rfl (cA rfl rfl (cT ?_))); refine cw_no rfl (by decide) ?_; refine cS (lw_pure (pur_eql rfl rfl) rfl (cA rfl rfl (cT ?_))); refine cw_yes rfl (by decide) ?_; refine cS (cM rfl rfl (lw_pure (pur_fieldAddr tabOk rfl rfl rfl) rfl (lw_load_b tabOk rfl rfl rfl hb4 rfl rfl ?_))); refine cC (by kernel_rfl) rfl (HF.out _ _ _ _ (by omega) (by assumption)) rfl ?_; rintro _ wb9 ⟨⟨⟩, xb8⟩; have zb10 := xb8.size; replace hb4 := hb4.ext xb8; replace hM := hM.ext xb8; replace X := X.ext xb8; replace hs := hs.ext xb8; replace hr := hr.ext xb8
      replace h1 := h1.ext xb8; replace h2 := Nd.sits.ext h2 xb8; clear xb8; refine cA rfl rfl (cT (cw_seq (cS (cM rfl rfl (lw_pure (pur_lss rfl rfl) rfl (cT ?_)))))); refine cw_no rfl (by omega) ?_; refine cw_skip (qw_then (cw_seq ?_)); (refine cw_tdraw (fun wz => Ext wb9 wz) 9 (.pure 0 (.pure 1 (.pure 2 (.pure 3 (.pure 4 (.pure 5 (.pure 6 (.pure 7 (.pure 8 .tail))))))))) mixed (by kernel_rfl) (panicOk_then (panicOk_block (panicOk_then panicOk_body))) ?_; intro wb11 xb12 _); have qsb13 : (fun wz => Ext wb9 wz) wb11 := xb12; simp only at qsb13; have d_hb4 := hb4; have d_hM := hM; have d_hs := hs; have d_hr := hr; have d_h1 := h1; have d_h2 := h2; have zb14 := xb12.size; replace hb4 := hb4.ext xb12; replace hM := hM.ext xb12; replace X := X.ext xb12; replace hs := hs.ext xb12; replace hr := hr.ext xb12; replace h1 := h1.ext xb12; replace h2 := Nd.sits.ext h2 xb12; clear xb12; refine ⟨qsb13, ?_⟩; refine tw_pure rfl (pur_fieldAddr tabOk rfl rfl rfl) rfl (tw_pure rfl (pur_load tabOk rfl rfl rfl (fun wz hz => Blk.cell (Blk.ext d_hb4 hz) rfl)) rfl (tw_pure rfl (pur_len_slice tabOk rfl rfl) rfl (tw_pure rfl (pur_move rfl) rfl (tw_pure rfl (pur_move rfl) rfl ?_)))); refine tw_pure rfl (pur_indexAddr tabOk rfl rfl rfl rfl (by omega) (by omega)) rfl ?_; refine tw_pure rfl (pur_fieldAddr tabOk rfl rfl rfl) rfl (tw_pure rfl (pur_load tabOk rfl rfl rfl (fun wz hz => Row.at (Row.ext d_hr hz) rfl)) rfl (tw_pure rfl (pur_len_slice tabOk rfl rfl) rfl ?_)); clear qsb13 d_hb4 d_hM d_hs d_hr d_h1 d_h2
      refine tw_tail rfl (lw_pure (pur_neq rfl rfl) rfl (cT ?_)); refine cw_decn rfl (fun cb15 => ?_) (fun cb15 => ?_); refine cS (cA rfl rfl (cT (cw_ret (qw_block_ret (qw_then_ret (qw_ret1 rfl rfl ?_)))))); rotate_left 1; refine cw_skip (qw_block_norm (qw_then (cS (cA rfl rfl (cT (cw_ret (qw_ret1 rfl rfl ?_))))))); rotate_left 1
     all_goals first | (rw [if_pos (by omega)]; exact ⟨rfl, X⟩) | (rw [if_neg (by omega)]; exact ⟨rfl, X⟩)
    | some b =>
     rw [hsn] at hg; simp only [Option.map_some] at hg; clear hsn; have hs2 := hs; obtain ⟨kb, ko, ⟨⟩, hkS, hk⟩ := Arr.get hs2 (by omega); obtain ⟨pa, pc, ba, bc, hr, h1, h2⟩ := hk i lib[i] (List.getElem?_eq_getElem hil); clear hk hs2
     generalize lib[i] = x at *
     refine calls_in Tryz.func101 Tryz.ntmps101 rfl rfl ?_
     focus
      refine cS ?_; (refine lw_box' [_, _, _, _] rfl rfl rfl ?_; intro bc1 wc2 nc3); have hc4 := nc3.blk; have xc5 := nc3.ext; have pc6 := nc3.pos; have zc7 := nc3.size; clear nc3; replace hM := hM.ext xc5; replace X := X.ext xc5; replace hs := hs.ext xc5; replace hr := hr.ext xc5; replace h1 := h1.ext xc5; replace h2 := Nd.sits.ext h2 xc5; clear xc5; refine cA rfl rfl (cN (cM rfl rfl (lw_pure (pur_fieldAddr tabOk rfl rfl rfl) rfl (lw_load_b tabOk rfl rfl rfl hc4 rfl rfl ?_)))); refine lw_pure (pur_look_some tabOk rfl rfl rfl rfl rfl (fun wz hz => by subst hz; exact hM) (by assumption)) rfl ?_; refine cM rfl rfl (lw_pure (pur_extract rfl rfl) rfl (lw_pure (pur_extract rfl rfl) rfl (cA rfl rfl (cA rfl rfl (cT (cw_seq (cS (lw_pure (pur_fieldAddr0 tabOk rfl rfl rfl) rfl (lw_load_b tabOk rfl rfl rfl hc4 rfl rfl (cT (cw_block ?_))))))))))); refine cS (lw_pure (pur_eql rfl rfl) rfl (cA rfl rfl (cT ?_))); refine cw_no rfl (by decide) ?_; refine cS (lw_pure (pur_eql rfl rfl) rfl (cA rfl rfl (cT ?_))); refine cw_no rfl (by decide) ?_; refine cS (lw_pure (pur_eql rfl rfl) rfl (cA rfl rfl (cT ?_))); refine cw_yes rfl (by decide) ?_; refine cS (cM rfl rfl (lw_pure (pur_fieldAddr tabOk rfl rfl rfl) rfl (lw_load_b tabOk rfl rfl rfl hc4 rfl rfl ?_))); refine cC (by kernel_rfl) rfl (HF.out _ _ _ _ (by omega) (by assumption)) rfl ?_; rintro _ wc9 ⟨⟨⟩, xc8⟩; have zc10 := xc8.size; replace hc4 := hc4.ext xc8; replace hM := hM.ext xc8; replace X := X.ext xc8; replace hs := hs.ext xc8; replace hr := hr.ext xc8
      replace h1 := h1.ext xc8; replace h2 := Nd.sits.ext h2 xc8; clear xc8; refine cA rfl rfl (cT (cw_seq (cS (cM rfl rfl (lw_pure (pur_lss rfl rfl) rfl (cT ?_)))))); refine cw_no rfl (by omega) ?_; refine cw_skip (qw_then (cw_seq ?_)); (refine cw_tdraw (fun wz => Ext wc9 wz) 9 (.pure 0 (.pure 1 (.pure 2 (.pure 3 (.pure 4 (.pure 5 (.pure 6 (.pure 7 (.pure 8 .tail))))))))) mixed (by kernel_rfl) (panicOk_then (panicOk_block (panicOk_then panicOk_body))) ?_; intro wc11 xc12 _); have qsc13 : (fun wz => Ext wc9 wz) wc11 := xc12; simp only at qsc13; have d_hc4 := hc4; have d_hM := hM; have d_hs := hs; have d_hr := hr; have d_h1 := h1; have d_h2 := h2; have zc14 := xc12.size; replace hc4 := hc4.ext xc12; replace hM := hM.ext xc12; replace X := X.ext xc12; replace hs := hs.ext xc12; replace hr := hr.ext xc12; replace h1 := h1.ext xc12; replace h2 := Nd.sits.ext h2 xc12; clear xc12; refine ⟨qsc13, ?_⟩; refine tw_pure rfl (pur_fieldAddr tabOk rfl rfl rfl) rfl (tw_pure rfl (pur_load tabOk rfl rfl rfl (fun wz hz => Blk.cell (Blk.ext d_hc4 hz) rfl)) rfl (tw_pure rfl (pur_len_slice tabOk rfl rfl) rfl (tw_pure rfl (pur_move rfl) rfl (tw_pure rfl (pur_move rfl) rfl ?_)))); refine tw_pure rfl (pur_indexAddr tabOk rfl rfl rfl rfl (by omega) (by omega)) rfl ?_; refine tw_pure rfl (pur_fieldAddr tabOk rfl rfl rfl) rfl (tw_pure rfl (pur_load tabOk rfl rfl rfl (fun wz hz => Row.at (Row.ext d_hr hz) rfl)) rfl (tw_pure rfl (pur_len_slice tabOk rfl rfl) rfl ?_)); clear qsc13 d_hc4 d_hM d_hs d_hr d_h1 d_h2
      refine tw_tail rfl (lw_pure (pur_neq rfl rfl) rfl (cT ?_)); refine cw_decn rfl (fun cc15 => ?_) (fun cc15 => ?_); refine cS (cA rfl rfl (cT (cw_ret (qw_block_ret (qw_then_ret (qw_ret1 rfl rfl ?_)))))); rotate_left 1; refine cw_skip (qw_block_norm (qw_then (cS (cA rfl rfl (cT (cw_ret (qw_ret1 rfl rfl ?_))))))); rotate_left 1
     all_goals first | (rw [if_pos (by omega)]; exact ⟨rfl, X⟩) | (rw [if_neg (by omega)]; exact ⟨rfl, X⟩)
 · cases hsn : seen v s with
   | none =>
    rw [hsn] at hg; simp only [Option.map_none] at hg; refine calls_in Tryz.func101 Tryz.ntmps101 rfl rfl ?_
    focus
     refine cS ?_; (refine lw_box' [_, _, _, _] rfl rfl rfl ?_; intro bd1 wd2 nd3); have hd4 := nd3.blk; have xd5 := nd3.ext; have pd6 := nd3.pos; have zd7 := nd3.size; clear nd3; replace hM := hM.ext xd5; replace X := X.ext xd5; replace hs := hs.ext xd5; clear xd5; refine cA rfl rfl (cN (cM rfl rfl (lw_pure (pur_fieldAddr tabOk rfl rfl rfl) rfl (lw_load_b tabOk rfl rfl rfl hd4 rfl rfl ?_)))); refine lw_pure (pur_look_none tabOk rfl rfl rfl rfl rfl (fun wz hz => by subst hz; exact hM) (by assumption)) rfl ?_; refine cM rfl rfl (lw_pure (pur_extract rfl rfl) rfl (lw_pure (pur_extract rfl rfl) rfl (cA rfl rfl (cA rfl rfl (cT (cw_seq (cS (lw_pure (pur_fieldAddr0 tabOk rfl rfl rfl) rfl (lw_load_b tabOk rfl rfl rfl hd4 rfl rfl (cT (cw_block ?_))))))))))); refine cS (lw_pure (pur_eql rfl rfl) rfl (cA rfl rfl (cT ?_))); refine cw_dec rfl (fun cd8 => ?_) (fun cd8 => ?_); refine cS (cM rfl rfl (lw_pure (pur_not rfl) rfl (cT (cw_cond_t rfl (cS (cA rfl rfl (cT (cw_ret (qw_block_ret (qw_then_ret (qw_ret1 rfl rfl ?_))))))))))); rotate_left 1; refine cS (lw_pure (pur_eql rfl rfl) rfl (cA rfl rfl (cT ?_))); refine cw_dec rfl (fun cd9 => ?_) (fun cd9 => ?_); refine cS (cM rfl rfl (cT (cw_cond_f rfl (cw_skip (qw_block_norm (qw_then (cS (cA rfl rfl (cT (cw_ret (qw_ret1 rfl rfl ?_))))))))))); rotate_left 1; refine cS (lw_pure (pur_eql rfl rfl) rfl (cA rfl rfl (cT ?_))); refine cw_no rfl (by assumption) ?_; refine cw_skip (qw_block_norm (qw_then (cS (cA rfl rfl (cT (cw_ret (qw_ret1 rfl rfl ?_)))))))
     rotate_left 1
    all_goals exact ⟨by simp [reachF, *], X⟩
   | some b =>
    rw [hsn] at hg; simp only [Option.map_some] at hg; refine calls_in Tryz.func101 Tryz.ntmps101 rfl rfl ?_
    focus
     refine cS ?_; (refine lw_box' [_, _, _, _] rfl rfl rfl ?_; intro be1 we2 ne3); have he4 := ne3.blk; have xe5 := ne3.ext; have pe6 := ne3.pos; have ze7 := ne3.size; clear ne3; replace hM := hM.ext xe5; replace X := X.ext xe5; replace hs := hs.ext xe5; clear xe5; refine cA rfl rfl (cN (cM rfl rfl (lw_pure (pur_fieldAddr tabOk rfl rfl rfl) rfl (lw_load_b tabOk rfl rfl rfl he4 rfl rfl ?_)))); refine lw_pure (pur_look_some tabOk rfl rfl rfl rfl rfl (fun wz hz => by subst hz; exact hM) (by assumption)) rfl ?_; refine cM rfl rfl (lw_pure (pur_extract rfl rfl) rfl (lw_pure (pur_extract rfl rfl) rfl (cA rfl rfl (cA rfl rfl (cT (cw_seq (cS (lw_pure (pur_fieldAddr0 tabOk rfl rfl rfl) rfl (lw_load_b tabOk rfl rfl rfl he4 rfl rfl (cT (cw_block ?_))))))))))); refine cS (lw_pure (pur_eql rfl rfl) rfl (cA rfl rfl (cT ?_))); refine cw_dec rfl (fun ce8 => ?_) (fun ce8 => ?_); refine cS (cM rfl rfl (lw_pure (pur_not rfl) rfl (cT (cw_cond_f rfl (cw_skip (qw_block_norm (qw_then (cS (cA rfl rfl (cT (cw_ret ?_))))))))))); refine qw_ret1 rfl rfl ?_; rotate_left 1; refine cS (lw_pure (pur_eql rfl rfl) rfl (cA rfl rfl (cT ?_))); refine cw_dec rfl (fun ce9 => ?_) (fun ce9 => ?_); refine cS (cM rfl rfl (cT (cw_cond_t rfl (cS (cA rfl rfl (cT (cw_ret (qw_block_ret (qw_then_ret (qw_ret1 rfl rfl ?_)))))))))); rotate_left 1; refine cS (lw_pure (pur_eql rfl rfl) rfl (cA rfl rfl (cT ?_))); refine cw_no rfl (by assumption) ?_; refine cw_skip (qw_block_norm (qw_then (cS (cA rfl rfl (cT (cw_ret (qw_ret1 rfl rfl ?_)))))))
     rotate_left 1
    all_goals exact ⟨by simp [reachF, *], X⟩
end Bk
namespace Bk
open Go Go.RowKit Go.Proofs
attribute [local irreducible] Go.Calls
section
variable {P : Program} {n : Nat} {l : Sl} {w : World} {tab : Tab} {zt : ZTab} {ty : TypeId} {α : Type} {sh : Shape α}
theorem lw_appendQ {ops : Array Oper} {Q : Exit → Act → World → Prop} {rest : List Oper} {d : Nat} {pos : String} {after : Array Edge} {x y : Operand} {t e sz1 B cap : Nat} {R R' : Nat → Prop} {sE : Sk} {zs : List Value} {v : Value} {xs : List α} {cs : List Value} {z : α} {p : Addr} (T : TabOk P tab) (Z : ZTabOk P zt) (ht : lookT tab t = some (.slice e, sz1)) (hE : lookT tab e = some (sE, sh.sz)) (hz : lookZ zt e = some zs) (hzl : zs.length = sh.sz)
 (hby : bytesOk P e = true) (hsz : Nat.blt 0 sh.sz = true) (hx : ev l x = some v) (hy : ev l y = some (.slice (some p) 1 cap)) (hown : OwnQ sh w R' B e v xs) (hw : ∀ b, R' b → R b) (hr : Row w p cs) (hrep : sh.rep w (fun b => R b ∧ v.ownBlock ≠ some b) z cs) (hlen : xs.length ≤ 10000000000) (hB : B ≤ w.heap.size) (hd : Nat.blt d n = true)
 (k : ∀ g cap' w1, OwnQ sh w1 R B e (.slice (some ⟨g, 0, none⟩) (xs ++ [z]).length cap') (xs ++ [z]) → (v.ownBlock = some g ∨ w.heap.size ≤ g) → g < w1.heap.size → Fr (fun k => v.ownBlock = some k) w w1 → LW P n ops Q rest ((d, .slice (some ⟨g, 0, none⟩) (xs ++ [z]).length cap') :: l) w1) :
 LW P n ops Q (⟨some d, .call ⟨.builtin .append, #[x, y], #[t, t]⟩, ty, pos, after, none⟩ :: rest) l w :=
 lw_does (does_appendQ T Z ht hE hz hzl hby hsz hx hy hown hw hr hrep hlen hB) hd (fun v w1 ⟨g, cap, h, ho, h1, h2, hf⟩ => by subst h; exact k g cap w1 ho h1 h2 hf) (fun _ h => h)
end
theorem lits_els {q : List Bool} {w : World} {b : Nat} (h : Blk w b (q.map boolV)) : Els boolV (fun _ => True) w q (some ⟨b, 0, none⟩) := row_els trivial (Blk.row h)
theorem map_snoc {l : List FP} {j : Nat} (hj : j < l.length) : ((l.take (j + 1)).map FP.list) = (l.take j).map FP.list ++ [l[j].list] := by
 rw [List.take_succ_eq_append_getElem hj, List.map_append]; rfl
def ResultR (w : World) (r : Bool × Int) (e : Ending) (w' : World) : Prop := e = .returned (.tuple #[.bool r.1, .int .i64 r.2]) ∧ Ext w w'
theorem resultR {w w' : World} {r : Bool × Int} {b : Bool} {e : Int} (h : r = (b, e)) (x : Ext w w') : ResultR w r (.returned (.tuple #[.bool b, .int .i64 e])) w' := ⟨by rw [h], x⟩
set_option maxRecDepth 100000 in
set_option maxHeartbeats 4000000 in
theorem result_82 (lib : List FD) (k n : Int) (s : List UInt8) (l : List Nd) (ty : List Bool) (S T : Nat → Prop) (la a ta : Option Addr) (lc c tc : Nat) (w : World) (hl : ty.length ≤ 1000000) (hs : Els boolV T w ty ta) (hk : k = 82) :
 Calls Tryz.prog 102 #[.slice la lib.length lc, .agg #[.int .u8 k, .int .i64 n, str s, .slice a l.length c], .slice ta ty.length tc] w (ResultR w (typeF lib k s ty)) := by
 have X := Ext.refl w; replace hs := hs.ltA; subst hk; refine calls_in Tryz.func102 Tryz.ntmps102 rfl rfl ?_
 focus
  refine cS ?_; (refine lw_box' [_, _, _, _] rfl rfl rfl ?_; intro b1 w2 n3); have h4 := n3.blk; have x5 := n3.ext; have p6 := n3.pos; have z7 := n3.size; clear n3; replace X := X.ext x5; replace hs := hs.ext x5; clear x5; refine cA rfl rfl (cA rfl rfl (cN (cA rfl rfl (cN (cA rfl rfl (cT (cw_seq (cS (lw_pure (pur_fieldAddr0 tabOk rfl rfl rfl) rfl (lw_load_b tabOk rfl rfl rfl h4 rfl rfl (cT ?_))))))))))); refine cw_block (cS (lw_pure (pur_eql rfl rfl) rfl (cA rfl rfl (cT ?_)))); refine cw_yes rfl (by decide) ?_; refine cw_region ?_; (refine lw_does (does_slice' [_, _] tabOk zOk rfl rfl rfl rfl rfl rfl rfl rfl rfl) rfl ?_ (fun _ h => h); rintro _ w9 ⟨b8, rfl, n10, t11⟩); clear t11; have h12 := n10.blk; have x13 := n10.ext; have p14 := n10.pos; have z15 := n10.size; clear n10; replace h4 := h4.ext x13; replace X := X.ext x13; replace hs := hs.ext x13; clear x13; refine cA rfl rfl (lw_nil (qw_block_norm (qw_then (cw_seq (cS (cM rfl rfl (cM rfl rfl ?_))))))); refine cC (by kernel_rfl) rfl (sEqual_c ty [false, false] _ (fun _ => True) _ _ _ _ _ (by omega) (by assumption) (lits_els (by assumption))) rfl ?_; rintro _ w17 ⟨⟨⟩, x16⟩; have z18 := x16.size; replace h12 := h12.ext x16; replace h4 := h4.ext x16; replace X := X.ext x16; replace hs := hs.ext x16; clear x16; refine lw_pure (pur_not rfl) rfl (cT ?_); refine cw_ncond rfl (fun c19 => ?_) (fun c19 => ?_); refine cS (cA rfl rfl (cA rfl rfl (cT (cw_ret (qw_then_ret (qw_ret2 rfl rfl rfl ?_)))))); rotate_left 1; refine cw_skip (qw_then (cS (cM rfl rfl (cA rfl rfl (cA rfl rfl (cT (cw_ret (qw_ret2 rfl rfl rfl ?_))))))))
  rotate_left 1
 all_goals exact resultR (by (try simp only [decide_eq_false_iff_not, decide_eq_true_eq] at *); simp [typeF, *]) X
set_option maxRecDepth 100000 in
set_option maxHeartbeats 4000000 in
theorem result_83 (lib : List FD) (k n : Int) (s : List UInt8) (l : List Nd) (ty : List Bool) (S T : Nat → Prop) (la a ta : Option Addr) (lc c tc : Nat) (w : World) (hl : ty.length ≤ 1000000) (hs : Els boolV T w ty ta) (hk : k = 83) (h2 : 2 ≤ ty.length) :
 Calls Tryz.prog 102 #[.slice la lib.length lc, .agg #[.int .u8 k, .int .i64 n, str s, .slice a l.length c], .slice ta ty.length tc] w (ResultR w (typeF lib k s ty)) := by
 have X := Ext.refl w; replace hs := hs.ltA; subst hk; obtain ⟨kb, ko, ⟨⟩, hkS, hk1⟩ := Arr.get hs (by omega); have r1 := hk1 1 (ty.getD 1 false) (by rw [List.getElem?_eq_getElem (by omega), List.getD_eq_getElem?_getD, List.getElem?_eq_getElem (by omega)]; rfl); clear hk1
 generalize hb : ty.getD 1 false = b at *
 refine calls_in Tryz.func102 Tryz.ntmps102 rfl rfl ?_
 focus
  refine cS ?_; (refine lw_box' [_, _, _, _] rfl rfl rfl ?_; intro b1 w2 n3); have h4 := n3.blk; have x5 := n3.ext; have p6 := n3.pos; have z7 := n3.size; clear n3; replace X := X.ext x5; replace hs := hs.ext x5; replace r1 := r1.ext x5; clear x5; refine cA rfl rfl (cA rfl rfl (cN (cA rfl rfl (cN (cA rfl rfl (cT (cw_seq (cS (lw_pure (pur_fieldAddr0 tabOk rfl rfl rfl) rfl (lw_load_b tabOk rfl rfl rfl h4 rfl rfl (cT ?_))))))))))); refine cw_block (cS (lw_pure (pur_eql rfl rfl) rfl (cA rfl rfl (cT ?_)))); refine cw_no rfl (by decide) ?_; refine cS (lw_pure (pur_eql rfl rfl) rfl (cA rfl rfl (cT ?_))); refine cw_yes rfl (by decide) ?_; refine cS (cM rfl rfl ?_); refine lw_pure (pur_indexAddr tabOk rfl rfl rfl rfl (by omega) (by omega)) rfl ?_; refine lw_load_r0 tabOk rfl rfl rfl r1 rfl rfl (cA rfl rfl (cT (cw_region (cM rfl rfl (cM rfl rfl ?_))))); (refine lw_does (does_slice' [_, _, _] tabOk zOk rfl rfl rfl rfl rfl rfl rfl rfl rfl) rfl ?_ (fun _ h => h); rintro _ w9 ⟨b8, rfl, n10, t11⟩); clear t11; have h12 := n10.blk; have x13 := n10.ext; have p14 := n10.pos; have z15 := n10.size; clear n10; replace h4 := h4.ext x13; replace X := X.ext x13; replace hs := hs.ext x13; replace r1 := r1.ext x13; clear x13; refine cA rfl rfl (lw_nil (qw_block_norm (qw_then (cw_seq (cS (cM rfl rfl (cM rfl rfl ?_))))))); refine cC (by kernel_rfl) rfl (sEqual_c ty [false, b, b] _ (fun _ => True) _ _ _ _ _ (by omega) (by assumption) (lits_els (by assumption))) rfl ?_; rintro _ w17 ⟨⟨⟩, x16⟩; have z18 := x16.size
  replace h12 := h12.ext x16; replace h4 := h4.ext x16; replace X := X.ext x16; replace hs := hs.ext x16; replace r1 := r1.ext x16; clear x16; refine lw_pure (pur_not rfl) rfl (cT ?_); refine cw_ncond rfl (fun c19 => ?_) (fun c19 => ?_); refine cS (cA rfl rfl (cA rfl rfl (cT (cw_ret (qw_then_ret (qw_ret2 rfl rfl rfl ?_)))))); rotate_left 1; refine cw_skip (qw_then (cS (cM rfl rfl (cA rfl rfl (cA rfl rfl (cT (cw_ret (qw_ret2 rfl rfl rfl ?_)))))))); rotate_left 1
 all_goals exact resultR (by (try simp only [decide_eq_false_iff_not, decide_eq_true_eq] at *); first | exact absurd trivial (by assumption) | (simp only [typeF, hb]; simp [*])) X
set_option maxRecDepth 100000 in
set_option maxHeartbeats 4000000 in
theorem result_84 (lib : List FD) (k n : Int) (s : List UInt8) (l : List Nd) (ty : List Bool) (S T : Nat → Prop) (la a ta : Option Addr) (lc c tc : Nat) (w : World) (hl : ty.length ≤ 1000000) (hs : Els boolV T w ty ta) (hk : k = 84) (h2 : 2 ≤ ty.length) :
 Calls Tryz.prog 102 #[.slice la lib.length lc, .agg #[.int .u8 k, .int .i64 n, str s, .slice a l.length c], .slice ta ty.length tc] w (ResultR w (typeF lib k s ty)) := by
 have X := Ext.refl w; replace hs := hs.ltA; subst hk; obtain ⟨kb, ko, ⟨⟩, hkS, hk1⟩ := Arr.get hs (by omega); have r1 := hk1 1 (ty.getD 1 false) (by rw [List.getElem?_eq_getElem (by omega), List.getD_eq_getElem?_getD, List.getElem?_eq_getElem (by omega)]; rfl); clear hk1
 generalize hb : ty.getD 1 false = b at *
 refine calls_in Tryz.func102 Tryz.ntmps102 rfl rfl ?_
 focus
  refine cS ?_; (refine lw_box' [_, _, _, _] rfl rfl rfl ?_; intro b1 w2 n3); have h4 := n3.blk; have x5 := n3.ext; have p6 := n3.pos; have z7 := n3.size; clear n3; replace X := X.ext x5; replace hs := hs.ext x5; replace r1 := r1.ext x5; clear x5; refine cA rfl rfl (cA rfl rfl (cN (cA rfl rfl (cN (cA rfl rfl (cT (cw_seq (cS (lw_pure (pur_fieldAddr0 tabOk rfl rfl rfl) rfl (lw_load_b tabOk rfl rfl rfl h4 rfl rfl (cT ?_))))))))))); refine cw_block (cS (lw_pure (pur_eql rfl rfl) rfl (cA rfl rfl (cT ?_)))); refine cw_no rfl (by decide) ?_; refine cS (lw_pure (pur_eql rfl rfl) rfl (cA rfl rfl (cT ?_))); refine cw_no rfl (by decide) ?_; refine cS (lw_pure (pur_eql rfl rfl) rfl (cA rfl rfl (cT ?_))); refine cw_yes rfl (by decide) ?_; refine cS (cM rfl rfl ?_); refine lw_pure (pur_indexAddr tabOk rfl rfl rfl rfl (by omega) (by omega)) rfl ?_; refine lw_load_r0 tabOk rfl rfl rfl r1 rfl rfl (cA rfl rfl (cT (cw_region (cM rfl rfl (cA rfl rfl (lw_nil (qw_block_norm (qw_then (cw_seq (cS (cM rfl rfl ?_))))))))))); refine cM rfl rfl ?_; refine cC (by kernel_rfl) rfl (sEqual_c ty ty _ _ _ _ _ _ _ (by omega) (by assumption) (by assumption)) rfl ?_; rintro _ w9 ⟨⟨⟩, x8⟩; have z10 := x8.size; replace h4 := h4.ext x8; replace X := X.ext x8; replace hs := hs.ext x8; replace r1 := r1.ext x8; clear x8; refine lw_pure (pur_not rfl) rfl (cT ?_); refine cw_ncond rfl (fun c11 => ?_) (fun c11 => ?_); refine cS (cA rfl rfl (cA rfl rfl (cT (cw_ret (qw_then_ret (qw_ret2 rfl rfl rfl ?_)))))); rotate_left 1; refine cw_skip (qw_then (cS (cM rfl rfl (cA rfl rfl (cA rfl rfl (cT (cw_ret (qw_ret2 rfl rfl rfl ?_))))))))
  rotate_left 1
 all_goals exact resultR (by (try simp only [decide_eq_false_iff_not, decide_eq_true_eq] at *); first | exact absurd trivial (by assumption) | (simp only [typeF, hb]; simp [*])) X
set_option maxRecDepth 100000 in
set_option maxHeartbeats 4000000 in
theorem result_86 (lib : List FD) (k n : Int) (s : List UInt8) (l : List Nd) (ty : List Bool) (S T : Nat → Prop) (la a ta : Option Addr) (lc c tc : Nat) (w : World) (hl : ty.length ≤ 1000000) (hs : Els boolV T w ty ta) (hk : k = 86) :
 Calls Tryz.prog 102 #[.slice la lib.length lc, .agg #[.int .u8 k, .int .i64 n, str s, .slice a l.length c], .slice ta ty.length tc] w (ResultR w (typeF lib k s ty)) := by
 have X := Ext.refl w; replace hs := hs.ltA; subst hk; refine calls_in Tryz.func102 Tryz.ntmps102 rfl rfl ?_
 focus
  refine cS ?_; (refine lw_box' [_, _, _, _] rfl rfl rfl ?_; intro b1 w2 n3); have h4 := n3.blk; have x5 := n3.ext; have p6 := n3.pos; have z7 := n3.size; clear n3; replace X := X.ext x5; replace hs := hs.ext x5; clear x5; refine cA rfl rfl (cA rfl rfl (cN (cA rfl rfl (cN (cA rfl rfl (cT (cw_seq (cS (lw_pure (pur_fieldAddr0 tabOk rfl rfl rfl) rfl (lw_load_b tabOk rfl rfl rfl h4 rfl rfl (cT ?_))))))))))); refine cw_block (cS (lw_pure (pur_eql rfl rfl) rfl (cA rfl rfl (cT ?_)))); refine cw_no rfl (by decide) ?_; refine cS (lw_pure (pur_eql rfl rfl) rfl (cA rfl rfl (cT ?_))); refine cw_no rfl (by decide) ?_; refine cS (lw_pure (pur_eql rfl rfl) rfl (cA rfl rfl (cT ?_))); refine cw_no rfl (by decide) ?_; refine cS (lw_pure (pur_eql rfl rfl) rfl (cA rfl rfl (cT ?_))); refine cw_no rfl (by decide) ?_; refine cS (lw_pure (pur_eql rfl rfl) rfl (cA rfl rfl (cT ?_))); refine cw_yes rfl (by decide) ?_; refine cw_region (cA rfl rfl (lw_nil (qw_block_norm (qw_then (cw_seq (cS (cM rfl rfl (cM rfl rfl ?_)))))))); refine cC (by kernel_rfl) rfl (sEqual_c ty [] _ (fun _ => True) _ _ _ _ _ (by omega) (by assumption) Els.nil) rfl ?_; rintro _ w9 ⟨⟨⟩, x8⟩; have z10 := x8.size; replace h4 := h4.ext x8; replace X := X.ext x8; replace hs := hs.ext x8; clear x8; refine lw_pure (pur_not rfl) rfl (cT ?_); refine cw_ncond rfl (fun c11 => ?_) (fun c11 => ?_); refine cS (cA rfl rfl (cA rfl rfl (cT (cw_ret (qw_then_ret (qw_ret2 rfl rfl rfl ?_)))))); rotate_left 1; refine cw_skip (qw_then (cS (cM rfl rfl (cA rfl rfl (cA rfl rfl (cT (cw_ret (qw_ret2 rfl rfl rfl ?_))))))))
  rotate_left 1
 all_goals exact resultR (by (try simp only [decide_eq_false_iff_not, decide_eq_true_eq] at *); simp [typeF, *]) X
set_option maxRecDepth 100000 in
set_option maxHeartbeats 4000000 in
theorem result_87 (lib : List FD) (k n : Int) (s : List UInt8) (l : List Nd) (ty : List Bool) (S T : Nat → Prop) (la a ta : Option Addr) (lc c tc : Nat) (w : World) (hl : ty.length ≤ 1000000) (hs : Els boolV T w ty ta) (hk : k = 87) :
 Calls Tryz.prog 102 #[.slice la lib.length lc, .agg #[.int .u8 k, .int .i64 n, str s, .slice a l.length c], .slice ta ty.length tc] w (ResultR w (typeF lib k s ty)) := by
 have X := Ext.refl w; replace hs := hs.ltA; subst hk; refine calls_in Tryz.func102 Tryz.ntmps102 rfl rfl ?_
 focus
  refine cS ?_; (refine lw_box' [_, _, _, _] rfl rfl rfl ?_; intro b1 w2 n3); have h4 := n3.blk; have x5 := n3.ext; have p6 := n3.pos; have z7 := n3.size; clear n3; replace X := X.ext x5; replace hs := hs.ext x5; clear x5; refine cA rfl rfl (cA rfl rfl (cN (cA rfl rfl (cN (cA rfl rfl (cT (cw_seq (cS (lw_pure (pur_fieldAddr0 tabOk rfl rfl rfl) rfl (lw_load_b tabOk rfl rfl rfl h4 rfl rfl (cT ?_))))))))))); refine cw_block (cS (lw_pure (pur_eql rfl rfl) rfl (cA rfl rfl (cT ?_)))); refine cw_no rfl (by decide) ?_; refine cS (lw_pure (pur_eql rfl rfl) rfl (cA rfl rfl (cT ?_))); refine cw_no rfl (by decide) ?_; refine cS (lw_pure (pur_eql rfl rfl) rfl (cA rfl rfl (cT ?_))); refine cw_no rfl (by decide) ?_; refine cS (lw_pure (pur_eql rfl rfl) rfl (cA rfl rfl (cT ?_))); refine cw_no rfl (by decide) ?_; refine cS (lw_pure (pur_eql rfl rfl) rfl (cA rfl rfl (cT ?_))); refine cw_no rfl (by decide) ?_; refine cS (lw_pure (pur_eql rfl rfl) rfl (cA rfl rfl (cT ?_))); refine cw_yes rfl (by decide) ?_; refine cS ?_; (refine lw_does (does_slice' [_, _] tabOk zOk rfl rfl rfl rfl rfl rfl rfl rfl rfl) rfl ?_ (fun _ h => h); rintro _ w9 ⟨b8, rfl, n10, t11⟩); clear t11; have h12 := n10.blk; have x13 := n10.ext; have p14 := n10.pos; have z15 := n10.size; clear n10; replace h4 := h4.ext x13; replace X := X.ext x13; replace hs := hs.ext x13; clear x13; refine cA rfl rfl (cT (cw_region (cA rfl rfl (lw_nil (qw_block_norm (qw_then (cw_seq (cS (cM rfl rfl (cM rfl rfl ?_)))))))))); refine cC (by kernel_rfl) rfl (sEqual_c ty [false, true] _ (fun _ => True) _ _ _ _ _ (by omega) (by assumption) (lits_els (by assumption))) rfl ?_
  rintro _ w17 ⟨⟨⟩, x16⟩; have z18 := x16.size; replace h12 := h12.ext x16; replace h4 := h4.ext x16; replace X := X.ext x16; replace hs := hs.ext x16; clear x16; refine lw_pure (pur_not rfl) rfl (cT ?_); refine cw_ncond rfl (fun c19 => ?_) (fun c19 => ?_); refine cS (cA rfl rfl (cA rfl rfl (cT (cw_ret (qw_then_ret (qw_ret2 rfl rfl rfl ?_)))))); rotate_left 1; refine cw_skip (qw_then (cS (cM rfl rfl (cA rfl rfl (cA rfl rfl (cT (cw_ret (qw_ret2 rfl rfl rfl ?_)))))))); rotate_left 1
 all_goals exact resultR (by (try simp only [decide_eq_false_iff_not, decide_eq_true_eq] at *); simp [typeF, *]) X
set_option maxRecDepth 100000 in
set_option maxHeartbeats 4000000 in
theorem result_88 (lib : List FD) (k n : Int) (s : List UInt8) (l : List Nd) (ty : List Bool) (S T : Nat → Prop) (la a ta : Option Addr) (lc c tc : Nat) (w : World) (hl : ty.length ≤ 1000000) (hs : Els boolV T w ty ta) (hk : k = 88) :
 Calls Tryz.prog 102 #[.slice la lib.length lc, .agg #[.int .u8 k, .int .i64 n, str s, .slice a l.length c], .slice ta ty.length tc] w (ResultR w (typeF lib k s ty)) := by
 have X := Ext.refl w; replace hs := hs.ltA; subst hk; refine calls_in Tryz.func102 Tryz.ntmps102 rfl rfl ?_
 focus
  refine cS ?_; (refine lw_box' [_, _, _, _] rfl rfl rfl ?_; intro b1 w2 n3); have h4 := n3.blk; have x5 := n3.ext; have p6 := n3.pos; have z7 := n3.size; clear n3; replace X := X.ext x5; replace hs := hs.ext x5; clear x5; refine cA rfl rfl (cA rfl rfl (cN (cA rfl rfl (cN (cA rfl rfl (cT (cw_seq (cS (lw_pure (pur_fieldAddr0 tabOk rfl rfl rfl) rfl (lw_load_b tabOk rfl rfl rfl h4 rfl rfl (cT ?_))))))))))); refine cw_block (cS (lw_pure (pur_eql rfl rfl) rfl (cA rfl rfl (cT ?_)))); refine cw_no rfl (by decide) ?_; refine cS (lw_pure (pur_eql rfl rfl) rfl (cA rfl rfl (cT ?_))); refine cw_no rfl (by decide) ?_; refine cS (lw_pure (pur_eql rfl rfl) rfl (cA rfl rfl (cT ?_))); refine cw_no rfl (by decide) ?_; refine cS (lw_pure (pur_eql rfl rfl) rfl (cA rfl rfl (cT ?_))); refine cw_no rfl (by decide) ?_; refine cS (lw_pure (pur_eql rfl rfl) rfl (cA rfl rfl (cT ?_))); refine cw_no rfl (by decide) ?_; refine cS (lw_pure (pur_eql rfl rfl) rfl (cA rfl rfl (cT ?_))); refine cw_no rfl (by decide) ?_; refine cw_seq (cS (lw_pure (pur_eql rfl rfl) rfl (cA rfl rfl (cT ?_)))); refine cw_yes rfl (by decide) ?_; refine cw_skip (qw_then ?_); refine cw_yes rfl (by decide) ?_; refine cw_region ?_; (refine lw_does (does_slice' [_] tabOk zOk rfl rfl rfl rfl rfl rfl rfl rfl rfl) rfl ?_ (fun _ h => h); rintro _ w9 ⟨b8, rfl, n10, t11⟩); clear t11; have h12 := n10.blk; have x13 := n10.ext; have p14 := n10.pos; have z15 := n10.size; clear n10; replace h4 := h4.ext x13; replace X := X.ext x13; replace hs := hs.ext x13
  clear x13; refine cA rfl rfl (lw_nil (qw_block_norm (qw_then (cw_seq (cS (cM rfl rfl (cM rfl rfl ?_))))))); refine cC (by kernel_rfl) rfl (sEqual_c ty [true] _ (fun _ => True) _ _ _ _ _ (by omega) (by assumption) (lits_els (by assumption))) rfl ?_; rintro _ w17 ⟨⟨⟩, x16⟩; have z18 := x16.size; replace h12 := h12.ext x16; replace h4 := h4.ext x16; replace X := X.ext x16; replace hs := hs.ext x16; clear x16; refine lw_pure (pur_not rfl) rfl (cT ?_); refine cw_ncond rfl (fun c19 => ?_) (fun c19 => ?_); refine cS (cA rfl rfl (cA rfl rfl (cT (cw_ret (qw_then_ret (qw_ret2 rfl rfl rfl ?_)))))); rotate_left 1; refine cw_skip (qw_then (cS (cM rfl rfl (cA rfl rfl (cA rfl rfl (cT (cw_ret (qw_ret2 rfl rfl rfl ?_)))))))); rotate_left 1
 all_goals exact resultR (by (try simp only [decide_eq_false_iff_not, decide_eq_true_eq] at *); simp [typeF, *]) X
set_option maxRecDepth 100000 in
set_option maxHeartbeats 4000000 in
theorem result_90 (lib : List FD) (k n : Int) (s : List UInt8) (l : List Nd) (ty : List Bool) (S T : Nat → Prop) (la a ta : Option Addr) (lc c tc : Nat) (w : World) (hl : ty.length ≤ 1000000) (hs : Els boolV T w ty ta) (hk : k = 90) :
 Calls Tryz.prog 102 #[.slice la lib.length lc, .agg #[.int .u8 k, .int .i64 n, str s, .slice a l.length c], .slice ta ty.length tc] w (ResultR w (typeF lib k s ty)) := by
 have X := Ext.refl w; replace hs := hs.ltA; subst hk; refine calls_in Tryz.func102 Tryz.ntmps102 rfl rfl ?_
 focus
  refine cS ?_; (refine lw_box' [_, _, _, _] rfl rfl rfl ?_; intro b1 w2 n3); have h4 := n3.blk; have x5 := n3.ext; have p6 := n3.pos; have z7 := n3.size; clear n3; replace X := X.ext x5; replace hs := hs.ext x5; clear x5; refine cA rfl rfl (cA rfl rfl (cN (cA rfl rfl (cN (cA rfl rfl (cT (cw_seq (cS (lw_pure (pur_fieldAddr0 tabOk rfl rfl rfl) rfl (lw_load_b tabOk rfl rfl rfl h4 rfl rfl (cT ?_))))))))))); refine cw_block (cS (lw_pure (pur_eql rfl rfl) rfl (cA rfl rfl (cT ?_)))); refine cw_no rfl (by decide) ?_; refine cS (lw_pure (pur_eql rfl rfl) rfl (cA rfl rfl (cT ?_))); refine cw_no rfl (by decide) ?_; refine cS (lw_pure (pur_eql rfl rfl) rfl (cA rfl rfl (cT ?_))); refine cw_no rfl (by decide) ?_; refine cS (lw_pure (pur_eql rfl rfl) rfl (cA rfl rfl (cT ?_))); refine cw_no rfl (by decide) ?_; refine cS (lw_pure (pur_eql rfl rfl) rfl (cA rfl rfl (cT ?_))); refine cw_no rfl (by decide) ?_; refine cS (lw_pure (pur_eql rfl rfl) rfl (cA rfl rfl (cT ?_))); refine cw_no rfl (by decide) ?_; refine cw_seq (cS (lw_pure (pur_eql rfl rfl) rfl (cA rfl rfl (cT ?_)))); refine cw_no rfl (by decide) ?_; refine cw_region (lw_pure (pur_eql rfl rfl) rfl (cA rfl rfl (cT ?_))); refine cw_yes rfl (by decide) ?_; refine cw_region ?_; (refine lw_does (does_slice' [_] tabOk zOk rfl rfl rfl rfl rfl rfl rfl rfl rfl) rfl ?_ (fun _ h => h); rintro _ w9 ⟨b8, rfl, n10, t11⟩); clear t11; have h12 := n10.blk; have x13 := n10.ext; have p14 := n10.pos; have z15 := n10.size; clear n10; replace h4 := h4.ext x13
  replace X := X.ext x13; replace hs := hs.ext x13; clear x13; refine cA rfl rfl (lw_nil (qw_block_norm (qw_then (cw_seq (cS (cM rfl rfl (cM rfl rfl ?_))))))); refine cC (by kernel_rfl) rfl (sEqual_c ty [true] _ (fun _ => True) _ _ _ _ _ (by omega) (by assumption) (lits_els (by assumption))) rfl ?_; rintro _ w17 ⟨⟨⟩, x16⟩; have z18 := x16.size; replace h12 := h12.ext x16; replace h4 := h4.ext x16; replace X := X.ext x16; replace hs := hs.ext x16; clear x16; refine lw_pure (pur_not rfl) rfl (cT ?_); refine cw_ncond rfl (fun c19 => ?_) (fun c19 => ?_); refine cS (cA rfl rfl (cA rfl rfl (cT (cw_ret (qw_then_ret (qw_ret2 rfl rfl rfl ?_)))))); rotate_left 1; refine cw_skip (qw_then (cS (cM rfl rfl (cA rfl rfl (cA rfl rfl (cT (cw_ret (qw_ret2 rfl rfl rfl ?_)))))))); rotate_left 1
 all_goals exact resultR (by (try simp only [decide_eq_false_iff_not, decide_eq_true_eq] at *); simp [typeF, *]) X
set_option maxRecDepth 100000 in
set_option maxHeartbeats 4000000 in
theorem result_89 (lib : List FD) (k n : Int) (s : List UInt8) (l : List Nd) (ty : List Bool) (S T : Nat → Prop) (la a ta : Option Addr) (lc c tc : Nat) (w : World) (hl : ty.length ≤ 1000000) (hs : Els boolV T w ty ta) (hk : k = 89) :
 Calls Tryz.prog 102 #[.slice la lib.length lc, .agg #[.int .u8 k, .int .i64 n, str s, .slice a l.length c], .slice ta ty.length tc] w (ResultR w (typeF lib k s ty)) := by
 have X := Ext.refl w; replace hs := hs.ltA; subst hk; refine calls_in Tryz.func102 Tryz.ntmps102 rfl rfl ?_
 focus
  refine cS ?_; (refine lw_box' [_, _, _, _] rfl rfl rfl ?_; intro b1 w2 n3); have h4 := n3.blk; have x5 := n3.ext; have p6 := n3.pos; have z7 := n3.size; clear n3; replace X := X.ext x5; replace hs := hs.ext x5; clear x5; refine cA rfl rfl (cA rfl rfl (cN (cA rfl rfl (cN (cA rfl rfl (cT (cw_seq (cS (lw_pure (pur_fieldAddr0 tabOk rfl rfl rfl) rfl (lw_load_b tabOk rfl rfl rfl h4 rfl rfl (cT ?_))))))))))); refine cw_block (cS (lw_pure (pur_eql rfl rfl) rfl (cA rfl rfl (cT ?_)))); refine cw_no rfl (by decide) ?_; refine cS (lw_pure (pur_eql rfl rfl) rfl (cA rfl rfl (cT ?_))); refine cw_no rfl (by decide) ?_; refine cS (lw_pure (pur_eql rfl rfl) rfl (cA rfl rfl (cT ?_))); refine cw_no rfl (by decide) ?_; refine cS (lw_pure (pur_eql rfl rfl) rfl (cA rfl rfl (cT ?_))); refine cw_no rfl (by decide) ?_; refine cS (lw_pure (pur_eql rfl rfl) rfl (cA rfl rfl (cT ?_))); refine cw_no rfl (by decide) ?_; refine cS (lw_pure (pur_eql rfl rfl) rfl (cA rfl rfl (cT ?_))); refine cw_no rfl (by decide) ?_; refine cw_seq (cS (lw_pure (pur_eql rfl rfl) rfl (cA rfl rfl (cT ?_)))); refine cw_no rfl (by decide) ?_; refine cw_region (lw_pure (pur_eql rfl rfl) rfl (cA rfl rfl (cT ?_))); refine cw_no rfl (by decide) ?_; refine cS (lw_pure (pur_eql rfl rfl) rfl (cA rfl rfl (cT ?_))); refine cw_yes rfl (by decide) ?_; refine cS ?_; (refine lw_does (does_slice' [_] tabOk zOk rfl rfl rfl rfl rfl rfl rfl rfl rfl) rfl ?_ (fun _ h => h); rintro _ w9 ⟨b8, rfl, n10, t11⟩); clear t11; have h12 := n10.blk; have x13 := n10.ext
  have p14 := n10.pos; have z15 := n10.size; clear n10; replace h4 := h4.ext x13; replace X := X.ext x13; replace hs := hs.ext x13; clear x13; refine cA rfl rfl (cT (cw_region (cA rfl rfl (lw_nil (qw_block_norm (qw_then (cw_seq (cS (cM rfl rfl (cM rfl rfl ?_)))))))))); refine cC (by kernel_rfl) rfl (sEqual_c ty [true] _ (fun _ => True) _ _ _ _ _ (by omega) (by assumption) (lits_els (by assumption))) rfl ?_; rintro _ w17 ⟨⟨⟩, x16⟩; have z18 := x16.size; replace h12 := h12.ext x16; replace h4 := h4.ext x16; replace X := X.ext x16; replace hs := hs.ext x16; clear x16; refine lw_pure (pur_not rfl) rfl (cT ?_); refine cw_ncond rfl (fun c19 => ?_) (fun c19 => ?_); refine cS (cA rfl rfl (cA rfl rfl (cT (cw_ret (qw_then_ret (qw_ret2 rfl rfl rfl ?_)))))); rotate_left 1; refine cw_skip (qw_then (cS (cM rfl rfl (cA rfl rfl (cA rfl rfl (cT (cw_ret (qw_ret2 rfl rfl rfl ?_)))))))); rotate_left 1
 all_goals exact resultR (by (try simp only [decide_eq_false_iff_not, decide_eq_true_eq] at *); simp [typeF, *]) X
set_option maxRecDepth 100000 in
set_option maxHeartbeats 4000000 in
theorem result_x (lib : List FD) (k n : Int) (s : List UInt8) (l : List Nd) (ty : List Bool) (S T : Nat → Prop) (la a ta : Option Addr) (lc c tc : Nat) (w : World) (hl : ty.length ≤ 1000000) (hs : Els boolV T w ty ta) (hk : k ≠ 82 ∧ k ≠ 83 ∧ k ≠ 84 ∧ k ≠ 85 ∧ k ≠ 86 ∧ k ≠ 87 ∧ k ≠ 88 ∧ k ≠ 89 ∧ k ≠ 90) :
 Calls Tryz.prog 102 #[.slice la lib.length lc, .agg #[.int .u8 k, .int .i64 n, str s, .slice a l.length c], .slice ta ty.length tc] w (ResultR w (typeF lib k s ty)) := by
 have X := Ext.refl w; replace hs := hs.ltA; obtain ⟨k1, k2, k3, k4, k5, k6, k7, k8, k9⟩ := hk; refine calls_in Tryz.func102 Tryz.ntmps102 rfl rfl ?_
 focus
  refine cS ?_; (refine lw_box' [_, _, _, _] rfl rfl rfl ?_; intro b1 w2 n3); have h4 := n3.blk; have x5 := n3.ext; have p6 := n3.pos; have z7 := n3.size; clear n3; replace X := X.ext x5; replace hs := hs.ext x5; clear x5; refine cA rfl rfl (cA rfl rfl (cN (cA rfl rfl (cN (cA rfl rfl (cT (cw_seq (cS (lw_pure (pur_fieldAddr0 tabOk rfl rfl rfl) rfl (lw_load_b tabOk rfl rfl rfl h4 rfl rfl (cT ?_))))))))))); refine cw_block (cS (lw_pure (pur_eql rfl rfl) rfl (cA rfl rfl (cT ?_)))); refine cw_no rfl (by assumption) ?_; refine cS (lw_pure (pur_eql rfl rfl) rfl (cA rfl rfl (cT ?_))); refine cw_no rfl (by assumption) ?_; refine cS (lw_pure (pur_eql rfl rfl) rfl (cA rfl rfl (cT ?_))); refine cw_no rfl (by assumption) ?_; refine cS (lw_pure (pur_eql rfl rfl) rfl (cA rfl rfl (cT ?_))); refine cw_no rfl (by assumption) ?_; refine cS (lw_pure (pur_eql rfl rfl) rfl (cA rfl rfl (cT ?_))); refine cw_no rfl (by assumption) ?_; refine cS (lw_pure (pur_eql rfl rfl) rfl (cA rfl rfl (cT ?_))); refine cw_no rfl (by assumption) ?_; refine cw_seq (cS (lw_pure (pur_eql rfl rfl) rfl (cA rfl rfl (cT ?_)))); refine cw_no rfl (by assumption) ?_; refine cw_region (lw_pure (pur_eql rfl rfl) rfl (cA rfl rfl (cT ?_))); refine cw_no rfl (by assumption) ?_; refine cS (lw_pure (pur_eql rfl rfl) rfl (cA rfl rfl (cT ?_))); refine cw_no rfl (by assumption) ?_; refine cw_skip (qw_block_norm (qw_then (cw_seq (cS (cM rfl rfl (cM rfl rfl ?_)))))); refine cC (by kernel_rfl) rfl (sEqual_c ty [] _ (fun _ => True) _ _ _ _ _ (by omega) (by assumption) Els.nil) rfl ?_
  rintro _ w9 ⟨⟨⟩, x8⟩; have z10 := x8.size; replace h4 := h4.ext x8; replace X := X.ext x8; replace hs := hs.ext x8; clear x8; refine lw_pure (pur_not rfl) rfl (cT ?_); refine cw_ncond rfl (fun c11 => ?_) (fun c11 => ?_); refine cS (cA rfl rfl (cA rfl rfl (cT (cw_ret (qw_then_ret (qw_ret2 rfl rfl rfl ?_)))))); rotate_left 1; refine cw_skip (qw_then (cS (cM rfl rfl (cA rfl rfl (cA rfl rfl (cT (cw_ret (qw_ret2 rfl rfl rfl ?_)))))))); rotate_left 1
 all_goals exact resultR (by (try simp only [decide_eq_false_iff_not, decide_eq_true_eq] at *); simp [typeF, *]) X
set_option maxRecDepth 100000 in
set_option maxHeartbeats 4000000 in
theorem result_85 (lib : List FD) (k n : Int) (s : List UInt8) (l : List Nd) (ty : List Bool) (i : Nat) (S T : Nat → Prop) (la a ta : Option Addr) (lc c tc : Nat) (w : World) (hl : ty.length ≤ 1000000) (hs : Els boolV T w ty ta) (hk : k = 85) (hf : findF lib s = some i) (hL : lib.length ≤ 1000000) (hps : ∀ f ∈ lib, f.params.length ≤ 1000000) (hd : FDs S w lib la) :
 Calls Tryz.prog 102 #[.slice la lib.length lc, .agg #[.int .u8 k, .int .i64 n, str s, .slice a l.length c], .slice ta ty.length tc] w (ResultR w (typeF lib k s ty)) := by
 subst hk; have X := Ext.refl w; replace hs := hs.ltA; replace hd := hd.ltA; have hil := findF_lt hf; have HF := Lib.hid (Find_v (findI_some hf)); have hxl := hps _ (List.getElem_mem hil); rw [show typeF lib 85 s ty = if ty = lib[i].params.map FP.list then (lib[i].list, 0) else (false, 7) from by simp [typeF, hf, List.getElem?_eq_getElem hil]]; clear hf hps; have hd2 := hd; obtain ⟨kb, ko, ⟨⟩, hkS, hk⟩ := Arr.get hd2 (by omega); obtain ⟨pa, pc, ba, bc, hr, h1, h2⟩ := hk i lib[i] (List.getElem?_eq_getElem hil); clear hk hd2
 generalize lib[i] = x at *
 simp only [FD.cells] at hr; refine calls_in Tryz.func102 Tryz.ntmps102 rfl rfl ?_
 focus
  refine cS ?_; (refine lw_box' [_, _, _, _] rfl rfl rfl ?_; intro b1 w2 n3); have h4 := n3.blk; have x5 := n3.ext; have p6 := n3.pos; have z7 := n3.size; clear n3; replace X := X.ext x5; replace hs := hs.ext x5; replace hd := hd.ext x5; replace hr := hr.ext x5; replace h1 := h1.ext x5; replace h2 := Nd.sits.ext h2 x5; clear x5; refine cA rfl rfl (cA rfl rfl (cN (cA rfl rfl (cN (cA rfl rfl (cT (cw_seq (cS (lw_pure (pur_fieldAddr0 tabOk rfl rfl rfl) rfl (lw_load_b tabOk rfl rfl rfl h4 rfl rfl (cT ?_))))))))))); refine cw_block (cS (lw_pure (pur_eql rfl rfl) rfl (cA rfl rfl (cT ?_)))); refine cw_no rfl (by decide) ?_; refine cS (lw_pure (pur_eql rfl rfl) rfl (cA rfl rfl (cT ?_))); refine cw_no rfl (by decide) ?_; refine cS (lw_pure (pur_eql rfl rfl) rfl (cA rfl rfl (cT ?_))); refine cw_no rfl (by decide) ?_; refine cS (lw_pure (pur_eql rfl rfl) rfl (cA rfl rfl (cT ?_))); refine cw_yes rfl (by decide) ?_; refine cS (cM rfl rfl (cM rfl rfl (lw_pure (pur_fieldAddr tabOk rfl rfl rfl) rfl (lw_load_b tabOk rfl rfl rfl h4 rfl rfl ?_)))); refine cC (by kernel_rfl) rfl (HF.out _ _ _ _ (by omega) (by assumption)) rfl ?_; rintro _ w9 ⟨⟨⟩, x8⟩; have z10 := x8.size; replace h4 := h4.ext x8; replace X := X.ext x8; replace hs := hs.ext x8; replace hd := hd.ext x8; replace hr := hr.ext x8; replace h1 := h1.ext x8; replace h2 := Nd.sits.ext h2 x8; clear x8; refine lw_pure (pur_indexAddr tabOk rfl rfl rfl rfl (by omega) (by omega)) rfl ?_; refine lw_loads_r0 tabOk rfl rfl rfl hr rfl rfl ?_; (refine lw_alloc' [_, _, _, _, _, _, _] zOk rfl rfl ?_; intro b11 w12 n13)
  (refine lw_init' [_, _, _, _, _, _, _] tabOk rfl rfl rfl rfl rfl rfl n13 rfl ?_; clear n13; clear w12; intro w14 n13); have h15 := n13.blk; have x16 := n13.ext; have p17 := n13.pos; have z18 := n13.size; clear n13; replace h4 := h4.ext x16; replace X := X.ext x16; replace hs := hs.ext x16; replace hd := hd.ext x16; replace hr := hr.ext x16; replace h1 := h1.ext x16; replace h2 := Nd.sits.ext h2 x16; clear x16; refine cT (cw_seq (cS (lw_pure (pur_fieldAddr tabOk rfl rfl rfl) rfl (lw_load_b tabOk rfl rfl rfl h15 rfl rfl (lw_pure (pur_len_slice tabOk rfl rfl) rfl (cM rfl rfl (cT (cw_block ?_)))))))); rotate_left 1
 refine cw_loop (ι := Nat × Option Addr × Nat) (fun y => [(2, .slice ta ty.length tc), (10, .pointer (some ⟨b11, 0, none⟩)), (42, .slice pa x.params.length pc), (43, .int .i64 x.params.length), (44, .int .i64 y.1), (8, .slice y.2.1 ((x.params.take y.1).map FP.list).length y.2.2)])
  (fun y w' => FPs (· < w.heap.size) w' x.params pa ∧ Els boolV (· < w.heap.size) w' ty ta ∧ Blk w' b11 (x.cells pa pc ba bc) ∧ OwnQ boolShape w' (fun _ => False) (b11 + 1) 4 (.slice y.2.1 ((x.params.take y.1).map FP.list).length y.2.2) ((x.params.take y.1).map FP.list) ∧ Ext w w' ∧ b11 < w'.heap.size ∧ y.1 ≤ x.params.length) (fun y => x.params.length - y.1) (0, none, 0) (by (refine sub_cons rfl ?_; refine sub_cons rfl ?_; refine sub_cons rfl ?_; refine sub_cons rfl ?_; refine sub_cons rfl ?_; refine sub_cons rfl ?_; exact sub_nil)) ⟨h1, hs, by assumption, OwnQ.nil, X, by omega, Nat.zero_le _⟩ ?_
 clear h1 hs h15 X hd hr; rintro ⟨j, oa, oc⟩ w1 ⟨hps, hs, hb, hown, X, hz, hj⟩; simp only at hps hs hb hown hj; simp only [FD.cells] at hb
 have hob : ∀ g, (Value.slice oa ((x.params.take j).map FP.list).length oc).ownBlock = some g → b11 + 1 ≤ g ∧ g < w1.heap.size := fun g h => ⟨hown.ge h, hown.lt h⟩
 refine CW.sub (m := [(2, .slice ta ty.length tc), (10, .pointer (some ⟨b11, 0, none⟩)), (42, .slice pa x.params.length pc), (43, .int .i64 x.params.length), (44, .int .i64 j), (8, .slice oa ((x.params.take j).map FP.list).length oc)]) ?_ (by (refine sub_cons rfl ?_; refine sub_cons rfl ?_; refine sub_cons rfl ?_; refine sub_cons rfl ?_; refine sub_cons rfl ?_; refine sub_cons rfl ?_; exact sub_nil))
 by_cases hlt : j < x.params.length
 · obtain ⟨qb, qo, rfl, hqS, hkk⟩ := Arr.get hps (by omega)
   have r1 := hkk j _ (List.getElem?_eq_getElem hlt); simp only [FPAt] at r1; have hsn := map_snoc hlt
   have hll : ((x.params.take j).map FP.list).length ≤ 1000000 := by simp only [List.length_map, List.length_take]; omega
   clear hkk
   generalize (x.params.take j).map FP.list = os at *
   generalize x.params[j] = y at *
   focus
    refine cS (lw_pure (pur_lss rfl rfl) rfl (cT (cw_seq ?_))); refine cw_yes rfl (by omega) ?_; refine cw_skip (qw_then (cw_seq (cw_block (cS ?_)))); refine lw_pure (pur_indexAddr tabOk rfl rfl rfl rfl (by omega) (by omega)) rfl ?_; refine lw_loads_r0 tabOk rfl rfl rfl r1 rfl rfl ?_; (refine lw_alloc' [_, _] zOk rfl rfl ?_; intro ba1 wa2 na3); (refine lw_init' [_, _] tabOk rfl rfl rfl rfl rfl rfl na3 rfl ?_; clear na3; clear wa2; intro wa4 na3); have ha5 := na3.blk; have xa6 := na3.ext; have pa7 := na3.pos; have za8 := na3.size; clear na3; replace hs := hs.ext xa6; replace X := X.ext xa6; replace hps := hps.ext xa6; replace hb := hb.ext xa6; replace hown := hown.ext xa6; replace r1 := r1.ext xa6; clear xa6; refine cT (cw_region (cM rfl rfl (lw_pure (pur_fieldAddr tabOk rfl rfl rfl) rfl (lw_load_b tabOk rfl rfl rfl ha5 rfl rfl ?_)))); (refine lw_does (does_slice' [_] tabOk zOk rfl rfl rfl rfl rfl rfl rfl rfl rfl) rfl ?_ (fun _ h => h); rintro _ wa10 ⟨ba9, rfl, na11, ta12⟩); clear ta12; have ha13 := na11.blk; have xa14 := na11.ext; have pa15 := na11.pos; have za16 := na11.size; clear na11; replace ha5 := ha5.ext xa14; replace hs := hs.ext xa14; replace X := X.ext xa14; replace hps := hps.ext xa14; replace hb := hb.ext xa14; replace hown := hown.ext xa14; replace r1 := r1.ext xa14; clear xa14; refine lw_appendQ (R := fun _ => False) (sh := boolShape) (z := y.list) tabOk zOk rfl rfl rfl rfl (by kernel_rfl) rfl rfl rfl (by assumption) (fun _ h => by exact h) (Blk.row (by assumption)) rfl (by omega) (by omega) rfl ?_
    rintro ga17 cap'a18 wa19 ha20 ha21 ha22 fa23; have za24 := fa23.size; replace ha13 := Blk.fr ha13 fa23 (fun e => by have := hob _ e; omega); replace ha5 := Blk.fr ha5 fa23 (fun e => by have := hob _ e; omega); replace hs := Els.fr hs fa23 (fun b hb hT => by have := hob _ hT; (try dsimp only at hb); omega); replace X := Ext.fr X fa23 (fun k hk => by have := hob _ hk; omega); replace hps := FPs.fr hps fa23 (fun b hb hT => by have := hob _ hT; (try dsimp only at hb); omega); replace hb := Blk.fr hb fa23 (fun e => by have := hob _ e; omega); clear hown r1 fa23; refine cA rfl rfl (lw_nil (qw_block_norm (qw_then (cw_region ?_)))); refine lw_pure (pur_add rfl rfl (IntWalk.i64_in _ (by omega))) rfl ?_; refine cM rfl rfl (lw_nil ?_); rotate_left 1
   refine qw_round (j + 1, some ⟨_, 0, none⟩, _) ?_ ⟨by assumption, by assumption, by assumption, by simp only; rw [hsn]; assumption, X, by omega, by simp only; omega⟩ (by simp only; omega); simp only [hsn]; (refine sub_cons rfl ?_; refine sub_cons rfl ?_; refine sub_cons rfl ?_; refine sub_cons rfl ?_; refine sub_cons rfl ?_; refine sub_cons rfl ?_; exact sub_nil)
 · have hje : j = x.params.length := by omega
   subst hje; rw [List.take_length] at hown hob; rw [List.take_length]
   generalize x.params.map FP.list = os at *
   have he := hown.els (S := fun b => b < w1.heap.size) (fun _ _ h => h); clear hown
   focus
    refine cS (lw_pure (pur_lss rfl rfl) rfl (cT (cw_seq ?_))); refine cw_no rfl (by omega) ?_; refine cw_exit (qw_then_exit (qw_then_exit (qw_block_exit (qw_then (cw_region (lw_pure (pur_fieldAddr tabOk rfl rfl rfl) rfl (lw_load_b tabOk rfl rfl rfl hb rfl rfl (cA rfl rfl (lw_nil (qw_block_norm (qw_then ?_))))))))))); refine cw_seq (cS (cM rfl rfl (cM rfl rfl ?_))); refine cC (by kernel_rfl) rfl (sEqual_c ty os _ _ _ _ _ _ _ (by omega) (by assumption) (by assumption)) rfl ?_; rintro _ wb2 ⟨⟨⟩, xb1⟩; have zb3 := xb1.size; replace hps := hps.ext xb1; replace hs := hs.ext xb1; replace hb := hb.ext xb1; replace X := X.ext xb1; replace he := he.ext xb1; clear xb1; refine lw_pure (pur_not rfl) rfl (cT ?_); refine cw_ncond rfl (fun cb4 => ?_) (fun cb4 => ?_); refine cS (cA rfl rfl (cA rfl rfl (cT (cw_ret (qw_then_ret (qw_ret2 rfl rfl rfl ?_)))))); rotate_left 1; refine cw_skip (qw_then (cS (cM rfl rfl (cA rfl rfl (cA rfl rfl (cT (cw_ret (qw_ret2 rfl rfl rfl ?_)))))))); rotate_left 1
   all_goals exact resultR (by (try simp only [decide_eq_false_iff_not, decide_eq_true_eq] at *); simp [*]) X
end Bk
namespace Bk
open Go Go.RowKit Go.Proofs
attribute [local irreducible] Go.Calls
theorem result_c (lib : List FD) (k n : Int) (s : List UInt8) (l : List Nd) (ty : List Bool) (S T : Nat → Prop) (la a ta : Option Addr) (lc c tc : Nat) (w : World) (hl : ty.length ≤ 1000000) (hs : Els boolV T w ty ta) (h2 : k = 83 ∨ k = 84 → 2 ≤ ty.length) (hf : k = 85 → ∃ i, findF lib s = some i) (hL : lib.length ≤ 1000000) (hps : ∀ f ∈ lib, f.params.length ≤ 1000000) (hd : FDs S w lib la) :
 Calls Tryz.prog 102 #[.slice la lib.length lc, .agg #[.int .u8 k, .int .i64 n, str s, .slice a l.length c], .slice ta ty.length tc] w (ResultR w (typeF lib k s ty)) := by
 by_cases k1 : k = 82
 · exact result_82 lib k n s l ty S T la a ta lc c tc w hl hs k1
 by_cases k2 : k = 83
 · exact result_83 lib k n s l ty S T la a ta lc c tc w hl hs k2 (h2 (Or.inl k2))
 by_cases k3 : k = 84
 · exact result_84 lib k n s l ty S T la a ta lc c tc w hl hs k3 (h2 (Or.inr k3))
 by_cases k4 : k = 85
 · obtain ⟨i, hi⟩ := hf k4
   exact result_85 lib k n s l ty i S T la a ta lc c tc w hl hs k4 hi hL hps hd
 by_cases k5 : k = 86
 · exact result_86 lib k n s l ty S T la a ta lc c tc w hl hs k5
 by_cases k6 : k = 87
 · exact result_87 lib k n s l ty S T la a ta lc c tc w hl hs k6
 by_cases k7 : k = 88
 · exact result_88 lib k n s l ty S T la a ta lc c tc w hl hs k7
 by_cases k8 : k = 89
 · exact result_89 lib k n s l ty S T la a ta lc c tc w hl hs k8
 by_cases k9 : k = 90
 · exact result_90 lib k n s l ty S T la a ta lc c tc w hl hs k9
 exact result_x lib k n s l ty S T la a ta lc c tc w hl hs ⟨k1, k2, k3, k4, k5, k6, k7, k8, k9⟩
theorem formN_83 {k n : Int} {s : List UInt8} {c : Nat} (h : formN k n s c = true) (hk : k = 83 ∨ k = 84) : 2 ≤ c := by
 rcases hk with rfl | rfl <;> simp [formN] at h <;> omega
theorem rowFormed_mem {l : List Nd} {x : Nd} (h : rowFormed l = true) (hx : x ∈ l) : x.formed = true := by
 cases hc : x.formed
 · rw [rowFormed_not hx hc] at h; exact h
 · rfl
theorem reach_85 {lib : List FD} {v : Vis} {s : List UInt8} {c : Nat} (h : reachF lib v 85 s c = 0) : ∃ i, findF lib s = some i := by
 cases hf : findF lib s with
 | none => simp [reachF, hf] at h
 | some i => exact ⟨i, rfl⟩
theorem reach_84 {lib : List FD} {v : Vis} {s : List UInt8} {c : Nat} (h : reachF lib v 84 s c = 0) : seen v s = none := by
 cases hf : seen v s with
 | none => rfl
 | some i => simp [reachF, hf] at h
theorem reach_81 {lib : List FD} {v : Vis} {s : List UInt8} {c : Nat} (h : reachF lib v 81 s c = 0) : ∃ b, seen v s = some b := by
 cases hf : seen v s with
 | none => simp [reachF, hf] at h
 | some i => exact ⟨i, rfl⟩
theorem visOk_set {kvs : List (List UInt8 × Value)} {v : Vis} (h : VisOk kvs v) (s : List UInt8) (b : Bool) : VisOk (setS kvs s (.bool b)) ((s, b) :: v) := by
 intro s'; rw [getS_set]
 unfold seen
 rw [List.find?_cons]
 by_cases hs : s' = s
 · subst hs; simp
 · rw [if_neg hs, h s']
   have : decide (s = s') = false := by simpa using fun e => hs e.symm
   simp only [this]
   rfl
def VisR (w : World) (r : Nat) (kvs : List (List UInt8 × Value)) (q : Bool × Int) (e : Ending) (w' : World) : Prop := e = .returned (.tuple #[.bool q.1, .int .i64 q.2]) ∧ Fr (· = r) w w' ∧ (q.2 = 0 → MapIs w' r kvs)
theorem vis_err {w w' : World} {r : Nat} {kvs : List (List UInt8 × Value)} {r' : List Bool × Int} {acc : List Bool} {qe : Int} {z : Bool × Int} (h : r' = (acc, qe)) (hq : ¬ qe = 0) (X : Fr (· = r) w w') : VisR w r kvs (if r'.2 ≠ 0 then (false, r'.2) else z) (.returned (.tuple #[.bool false, .int .i64 qe])) w' := by
 subst h; rw [if_pos hq]
 exact ⟨rfl, X, fun h => absurd h hq⟩
theorem vis_ok {w w' : World} {r : Nat} {kvs : List (List UInt8 × Value)} {r' : List Bool × Int} {acc : List Bool} {b : Bool} {e : Int} {z : List Bool → Bool × Int} (h : r' = (acc, 0)) (hz : z acc = (b, e)) (X : Fr (· = r) w w') (hm : MapIs w' r kvs) : VisR w r kvs (if r'.2 ≠ 0 then (false, r'.2) else z r'.1) (.returned (.tuple #[.bool b, .int .i64 e])) w' := by
 subst h; rw [if_neg (by simp), hz]
 exact ⟨rfl, X, fun _ => hm⟩
theorem rowChk_cons (lib : List FD) (v : Vis) (k : Int) (s : List UInt8) (acc : List Bool) (t : Nd) (r : List Nd) : rowChk lib v k s acc (t :: r) = if (t.chk lib (if k = 84 ∧ acc.length = 1 then (s, acc.getD 0 false) :: v else v)).2 ≠ 0 then (acc, (t.chk lib (if k = 84 ∧ acc.length = 1 then (s, acc.getD 0 false) :: v else v)).2) else rowChk lib v k s (acc ++ [(t.chk lib (if k = 84 ∧ acc.length = 1 then (s, acc.getD 0 false) :: v else v)).1]) r := by
 rw [rowChk]
section
variable (lib : List FD) (la : Option Addr) (lc bl bv bf r B0 : Nat)
def ChkC (N : Nat) : Prop := ∀ (t : Nd) (kvs : List (List UInt8 × Value)) (v : Vis) (a : Option Addr) (c : Nat) (w : World), t.size < N → t.size ≤ 1000000 → t.wf → t.formed = true → t.sits (· < B0) w a → MapIs w r kvs → VisOk kvs v →
 Blk w bl [.slice la lib.length lc] → Blk w bv [.map (some r)] → Blk w bf [.func (.func 100) #[] #[.pointer (some ⟨bl, 0, none⟩), .pointer (some ⟨bv, 0, none⟩), .pointer (some ⟨bf, 0, none⟩)]] → FDs (· < B0) w lib la → bf < w.heap.size →
 Calls Tryz.prog 100 #[t.val a c, .pointer (some ⟨bl, 0, none⟩), .pointer (some ⟨bv, 0, none⟩), .pointer (some ⟨bf, 0, none⟩)] w (VisR w r kvs (t.chk lib v))
set_option maxRecDepth 100000 in
set_option maxHeartbeats 8000000 in
theorem visit_c (hB : B0 ≤ bl ∧ bl < r ∧ r < bv ∧ bv < bf) (hL : lib.length ≤ 1000000) (hps : ∀ f ∈ lib, f.params.length ≤ 1000000) (N : Nat) : ChkC lib la lc bl bv bf r B0 N := by
 induction N with
 | zero => intro t kvs v a c w h; omega
 | succ N ih =>
  rintro ⟨k, n, s, l⟩ kvs v a c w hN hM hwf hfo hs hmap hV hbl hbv hbf hd hbz; obtain ⟨q1, q2, q3, q4⟩ := hB
  have IH := Lib.hid ih; clear ih
  simp only [Nd.sits] at hs; simp only [Nd.size] at hN hM; simp only [Nd.wf] at hwf; obtain ⟨-, -, -, -, n1, n2, n3⟩ := hwf; have HW := Lib.hid (rowWf_iffF.1 n3); clear n3; simp only [Nd.formed, Bool.and_eq_true] at hfo; have HK := Lib.hid (fun x hx => rowFormed_mem (x := x) hfo.2 hx); have h83 := Lib.hid (formN_83 hfo.1); clear hfo; have X : Fr (· = r) w w := Fr.refl _ _; have hl := length_rowSize l; have HV := Lib.hid hV; clear hV; have HP := Lib.hid hps; clear hps; have HR := Lib.hid (fun (la : Option Addr) (lc : Nat) (w : World) (hs : FDs (· < B0) w lib la) (hm : MapIs w r kvs) => reach_c lib v kvs r k n s l _ la a lc c w hL HV.out hm hs (by omega))
  by_cases hr : reachF lib v k s l.length = 0
  · rw [hr] at HR
    have e85 := Lib.hid (fun h : k = 85 => reach_85 (h ▸ hr)); have e84 := Lib.hid (fun h : k = 84 => reach_84 (h ▸ hr)); have e81 := Lib.hid (fun h : k = 81 => reach_81 (h ▸ hr))
    have hchk : (Nd.mk k n s l).chk lib v = if (rowChk lib v k s [] l).2 ≠ 0 then (false, (rowChk lib v k s [] l).2) else if k = 81 then ((seen v s).getD false, 0) else typeF lib k s (rowChk lib v k s [] l).1 := by rw [Nd.chk, if_neg (by rw [hr]; simp)]
    rw [hchk]; clear hchk hr; rw [show (Nd.mk k n s l).val a c = .agg #[.int .u8 k, .int .i64 n, str s, .slice a l.length c] from rfl]; refine calls_in Tryz.func100 Tryz.ntmps100 rfl rfl ?_
    focus
     refine cS ?_; (refine lw_box' [_, _, _, _] rfl rfl rfl ?_; intro b1 w2 n3); have h4 := n3.blk; have x5 := n3.ext; have p6 := n3.pos; have z7 := n3.size; clear n3; replace hs := Bk.rowSits.ext hs x5; replace hmap := hmap.ext x5; replace hbl := hbl.ext x5; replace hbv := hbv.ext x5; replace hbf := hbf.ext x5; replace hd := hd.ext x5; replace X := X.ext x5; clear x5; refine cA rfl rfl (cA rfl rfl (cT (cw_seq (cS (lw_load_b tabOk rfl rfl rfl hbl rfl rfl (lw_load_b tabOk rfl rfl rfl hbv rfl rfl (lw_loads_b' [_, _, _, _] tabOk rfl rfl rfl h4 rfl rfl rfl ?_))))))); refine cC (by kernel_rfl) rfl (HR.out _ _ _ (by assumption) (by assumption)) rfl ?_; rintro _ w9 ⟨⟨⟩, x8⟩; have z10 := x8.size; replace h4 := h4.ext x8; replace hs := Bk.rowSits.ext hs x8; replace hmap := hmap.ext x8; replace hbl := hbl.ext x8; replace hbv := hbv.ext x8; replace hbf := hbf.ext x8; replace hd := hd.ext x8; replace X := X.ext x8; clear x8; refine cA rfl rfl (cN (cM rfl rfl (lw_pure (pur_neq rfl rfl) rfl (cT ?_)))); refine cw_no rfl (by decide) ?_; refine cw_skip (qw_then (cS (cA rfl rfl (cT (cw_seq (cS (lw_pure (pur_fieldAddr tabOk rfl rfl rfl) rfl (lw_load_b tabOk rfl rfl rfl h4 rfl rfl (lw_pure (pur_len_slice tabOk rfl rfl) rfl (cM rfl rfl (cT ?_))))))))))); refine cw_block ?_; rotate_left 1
    refine cw_loop (ι := Nat × Option Addr × Nat × List Bool) (fun y => [(1, .pointer (some ⟨bl, 0, none⟩)), (2, .pointer (some ⟨bv, 0, none⟩)), (3, .pointer (some ⟨bf, 0, none⟩)), (4, .pointer (some ⟨b1, 0, none⟩)), (22, .slice a l.length c), (23, .int .i64 l.length), (24, .int .i64 y.1), (8, .slice y.2.1 y.2.2.2.length y.2.2.1)])
     (fun y w' => rowSits (· < B0) w' l a ∧ MapIs w' r kvs ∧ Blk w' bl [.slice la lib.length lc] ∧ Blk w' bv [.map (some r)] ∧ Blk w' bf [.func (.func 100) #[] #[.pointer (some ⟨bl, 0, none⟩), .pointer (some ⟨bv, 0, none⟩), .pointer (some ⟨bf, 0, none⟩)]] ∧ FDs (· < B0) w' lib la ∧ Blk w' b1 [.int .u8 k, .int .i64 n, str s, .slice a l.length c] ∧
      OwnQ boolShape w' (fun _ => False) (b1 + 1) 4 (.slice y.2.1 y.2.2.2.length y.2.2.1) y.2.2.2 ∧ Fr (· = r) w w' ∧ b1 < w'.heap.size ∧ y.1 ≤ l.length ∧ y.2.2.2.length = y.1 ∧ rowChk lib v k s [] l = rowChk lib v k s y.2.2.2 (l.drop y.1)) (fun y => l.length - y.1) (0, none, 0, []) (by (refine sub_cons rfl ?_; refine sub_cons rfl ?_; refine sub_cons rfl ?_; refine sub_cons rfl ?_; refine sub_cons rfl ?_; refine sub_cons rfl ?_; refine sub_cons rfl ?_; refine sub_cons rfl ?_; exact sub_nil))
     ⟨hs, hmap, hbl, hbv, hbf, hd, h4, OwnQ.nil, X, by omega, Nat.zero_le _, rfl, rfl⟩ ?_
    clear hs hmap hbl hbv hbf hd h4 X HR; rintro ⟨j, oa, oc, acc⟩ w1 ⟨hs, hmap, hbl, hbv, hbf, hd, hb1, hown, X, hz, hj, hal, he⟩; simp only at hown hj hal he; have HE := Lib.hid he; clear he
    have hob : ∀ g, (Value.slice oa acc.length oc).ownBlock = some g → b1 + 1 ≤ g ∧ g < w1.heap.size := fun g h => ⟨hown.ge h, hown.lt h⟩
    refine CW.sub (m := [(1, .pointer (some ⟨bl, 0, none⟩)), (2, .pointer (some ⟨bv, 0, none⟩)), (3, .pointer (some ⟨bf, 0, none⟩)), (4, .pointer (some ⟨b1, 0, none⟩)), (22, .slice a l.length c), (23, .int .i64 l.length), (24, .int .i64 j), (8, .slice oa acc.length oc)]) ?_ (by (refine sub_cons rfl ?_; refine sub_cons rfl ?_; refine sub_cons rfl ?_; refine sub_cons rfl ?_; refine sub_cons rfl ?_; refine sub_cons rfl ?_; refine sub_cons rfl ?_; refine sub_cons rfl ?_; exact sub_nil))
    by_cases hlt : j < l.length
    · have hs2 := hs
      obtain ⟨kb, ko, rfl, hkS, hkid⟩ := kidRows hs2 (by intro e; subst e; simp at hlt); obtain ⟨xa, xc, rx, sx⟩ := hkid j l[j] (List.getElem?_eq_getElem hlt); have hsz := size_mem (List.getElem_mem hlt); have hxw := HW.out _ (List.getElem_mem hlt); have hxf := HK.out _ (List.getElem_mem hlt); have he := HE.out; rw [List.drop_eq_getElem_cons hlt, rowChk_cons] at he; clear hkid HE hs2
      generalize l[j] = x at *
      have HX := Lib.hid (fun (kvs : List (List UInt8 × Value)) (v : Vis) (hV : VisOk kvs v) (a : Option Addr) (c : Nat) (w : World) (h1 : x.sits (· < B0) w a) (h2 : MapIs w r kvs) h3 h4 h5 h6 h7 => IH.out x kvs v a c w (by omega) (by omega) hxw hxf h1 h2 hV h3 h4 h5 h6 h7); clear hxw hxf
      by_cases hb : k = 84 ∧ j = 1
      · obtain ⟨hk, hj1⟩ := hb
        have hse := e84.out hk
        have hg : getS kvs s = none := by rw [HV.out s, hse]; rfl
        have hif : (if k = 84 ∧ acc.length = 1 then (s, acc.getD 0 false) :: v else v) = (s, acc.getD 0 false) :: v := if_pos ⟨hk, by omega⟩; rw [hif] at he; clear hif
        obtain ⟨b0, rfl⟩ : ∃ b0, acc = [b0] := by
         match acc, hal with
         | [b0], _ => exact ⟨b0, rfl⟩
         | [], h => simp at h; omega
         | _ :: _ :: _, h => simp at h; omega
        have hels := hown.els (S := fun b => b1 + 1 ≤ b ∧ b < w1.heap.size) (fun _ h h' => ⟨h, h'⟩); obtain ⟨gb, go, rfl, ⟨hg1, hg2⟩, hgk⟩ := Arr.get hels (by simp); have rg := hgk 0 b0 rfl; clear hels hgk; simp only [List.getD_eq_getElem?_getD, List.getElem?_cons_zero, Option.getD_some] at he; have hV2 := visOk_set HV.out s b0; have her := erase_set hg (.bool b0); have HX2 := HX.out _ _ hV2
        generalize x.chk lib ((s, b0) :: v) = q at *
        obtain ⟨qb, qe⟩ := q; clear HX hV2 hg hse; dsimp only at he
        by_cases hqe : qe = 0
        · subst hqe
          rw [if_neg (by simp)] at he; have HE := Lib.hid he; have HXc := Lib.hid (fun (a : Option Addr) (c : Nat) (w : World) h1 h2 h3 h4 h5 h6 h7 => Calls.mono (HX2 a c w h1 h2 h3 h4 h5 h6 h7) (fun e w' h => (⟨h.1, h.2.1, h.2.2 rfl⟩ : e = .returned (.tuple #[.bool qb, .int .i64 0]) ∧ Fr (· = r) w w' ∧ MapIs w' r (setS kvs s (.bool b0))))); clear he HX2
          focus
           refine cS (lw_pure (pur_lss rfl rfl) rfl (cT (cw_seq ?_))); refine cw_yes rfl (by omega) ?_; refine cw_skip (qw_then (cw_seq (cw_block (cS (cM rfl rfl ?_))))); refine lw_pure (pur_indexAddr tabOk rfl rfl rfl rfl (by omega) (by omega)) rfl ?_; refine lw_loads_r0 tabOk rfl rfl rfl rx rfl rfl ?_; (refine lw_alloc' [_, _, _, _] zOk rfl rfl ?_; intro ba1 wa2 na3); have ha5 := na3.blk; have xa6 := na3.ext; have pa7 := na3.pos; have za8 := na3.size; clear na3; replace hmap := hmap.ext xa6; replace hbl := hbl.ext xa6; replace hbv := hbv.ext xa6; replace hbf := hbf.ext xa6; replace hd := hd.ext xa6; replace X := X.ext xa6; replace hs := Bk.rowSits.ext hs xa6; replace hb1 := hb1.ext xa6; replace rx := rx.ext xa6; replace sx := Nd.sits.ext sx xa6; replace hown := hown.ext xa6; replace rg := rg.ext xa6; clear xa6; refine cA rfl rfl ?_; (refine lw_store' [_, _, _, _] [_, _, _, _] tabOk rfl rfl rfl rfl rfl rfl ha5 rfl rfl ?_; intro wa9 na10); have ha13 := na10.blk; have fa11 := na10.fr; have za12 := na10.size; clear na10 ha5; replace hmap := hmap.fr fa11 (by omega); replace hbl := hbl.fr fa11 (by omega); replace hbv := hbv.fr fa11 (by omega); replace hbf := hbf.fr fa11 (by omega); replace hd := hd.fr fa11 (by omega); replace X := X.fr fa11 (by omega); replace hs := Bk.rowSits.fr hs fa11 (by omega); replace hb1 := hb1.fr fa11 (by omega); replace rx := Row.fr rx fa11 (by simp only; omega); replace sx := Nd.sits.fr sx fa11 (by omega); replace hown := OwnQ.fr hown fa11 (fun k hk => ⟨fun h => h.elim, fun e => by have := hob _ e; (try dsimp only at hk); omega⟩)
           replace rg := Row.fr rg fa11 (by simp only; omega); clear fa11; refine cN (lw_pure (pur_fieldAddr0 tabOk rfl rfl rfl) rfl (lw_load_b tabOk rfl rfl rfl hb1 rfl rfl (lw_pure (pur_eql rfl rfl) rfl (cM rfl rfl ?_)))); refine lw_on rfl rfl rfl (gd_tt (by assumption)) ?_; refine cM rfl rfl ?_; refine lw_on rfl rfl rfl (gd_tt (by assumption)) ?_; refine lw_pure (pur_eql rfl rfl) rfl ?_; refine lw_pure (pur_pick_yes rfl rfl (by assumption)) rfl ?_; refine cA rfl rfl (cT (cw_seq (cS (cM rfl rfl (cT ?_))))); refine cw_yes rfl (by omega) ?_; (refine cw_tdraw (fun wz => Ext wa9 wz) 6 (.pure 0 (.pure 1 (.pure 2 (.pure 3 (.pure 4 (.pure 5 .tail)))))) mixed (by kernel_rfl) (panicOk_then (panicOk_block (panicOk_then (panicOk_then (panicOk_block (panicOk_then panicOk_body)))))) ?_; intro wa14 xa15 _); have qsa16 : (fun wz => Ext wa9 wz) wa14 := xa15; simp only at qsa16; have d_ha13 := ha13; have d_hmap := hmap; have d_hbl := hbl; have d_hbv := hbv; have d_hbf := hbf; have d_hd := hd; have d_hs := hs; have d_hb1 := hb1; have d_rx := rx; have d_sx := sx; have d_hown := hown; have d_rg := rg; have za17 := xa15.size; replace ha13 := ha13.ext xa15; replace hmap := hmap.ext xa15; replace hbl := hbl.ext xa15; replace hbv := hbv.ext xa15; replace hbf := hbf.ext xa15; replace hd := hd.ext xa15; replace X := X.ext xa15; replace hs := Bk.rowSits.ext hs xa15; replace hb1 := hb1.ext xa15; replace rx := rx.ext xa15; replace sx := Nd.sits.ext sx xa15; replace hown := hown.ext xa15; replace rg := rg.ext xa15
           clear xa15; refine ⟨qsa16, ?_⟩; refine tw_pure rfl (pur_load tabOk rfl rfl rfl (fun wz hz => Blk.cell (Blk.ext d_hbv hz) rfl)) rfl (tw_pure rfl (pur_fieldAddr tabOk rfl rfl rfl) rfl (tw_pure rfl (pur_load tabOk rfl rfl rfl (fun wz hz => Blk.cell (Blk.ext d_hb1 hz) rfl)) rfl (tw_pure rfl (pur_move rfl) rfl ?_))); refine tw_pure rfl (pur_indexAddr tabOk rfl rfl rfl rfl (by omega) (by omega)) rfl ?_; refine tw_pure rfl (pur_load tabOk rfl rfl rfl (fun wz hz => Row.at (Row.ext d_rg hz) rfl)) rfl ?_; clear qsa16 d_ha13 d_hmap d_hbl d_hbv d_hbf d_hd d_hs d_hb1 d_rx d_sx d_hown d_rg; refine tw_tail rfl (lw_mapput tabOk rfl rfl rfl rfl rfl hmap ?_); rintro wa18 ha19 fa20; have za21 := fa20.size; replace ha13 := ha13.fr fa20 (by omega); clear hmap; replace hbl := hbl.fr fa20 (by omega); replace hbv := hbv.fr fa20 (by omega); replace hbf := hbf.fr fa20 (by omega); replace hd := hd.fr fa20 (by omega); replace X := X.fr fa20 (by omega); replace hs := Bk.rowSits.fr hs fa20 (by omega); replace hb1 := hb1.fr fa20 (by omega); replace rx := Row.fr rx fa20 (by simp only; omega); replace sx := Nd.sits.fr sx fa20 (by omega); replace hown := OwnQ.fr hown fa20 (fun k hk => ⟨fun h => h.elim, fun e => by have := hob _ e; (try dsimp only at hk); omega⟩); replace rg := Row.fr rg fa20 (by simp only; omega); clear fa20; refine cN (lw_load_b tabOk rfl rfl rfl hbf rfl rfl (lw_loads_b' [_, _, _, _] tabOk rfl rfl rfl ha13 rfl rfl rfl ?_)); refine lw_does (does_callv (fi := []) (ca := [.pointer (some ⟨bl, 0, none⟩), .pointer (some ⟨bv, 0, none⟩), .pointer (some ⟨bf, 0, none⟩)]) (by kernel_rfl) rfl rfl (HXc.out _ _ _ (by assumption) (by assumption) (by assumption) (by assumption) (by assumption) (by assumption) (by omega)) (fun _ _ h => ⟨_, h.1⟩)) rfl ?_ (fun _ h => h)
           rintro _ wa24 ⟨⟨⟩, ⟨fa22, ha23⟩⟩; have za25 := fa22.size; clear ha19; replace ha13 := ha13.fr fa22 (by omega); replace hbl := hbl.fr fa22 (by omega); replace hbv := hbv.fr fa22 (by omega); replace hbf := hbf.fr fa22 (by omega); replace hd := hd.fr fa22 (by omega); replace X := X.fr fa22 (by omega); replace hs := Bk.rowSits.fr hs fa22 (by omega); replace hb1 := hb1.fr fa22 (by omega); replace rx := Row.fr rx fa22 (by simp only; omega); replace sx := Nd.sits.fr sx fa22 (by omega); replace hown := OwnQ.fr hown fa22 (fun k hk => ⟨fun h => h.elim, fun e => by have := hob _ e; (try dsimp only at hk); omega⟩); replace rg := Row.fr rg fa22 (by simp only; omega); clear fa22; refine cM rfl rfl (lw_pure (pur_extract rfl rfl) rfl (lw_pure (pur_extract rfl rfl) rfl (cA rfl rfl (cA rfl rfl (cT (cw_seq (cS (cM rfl rfl (lw_pure (pur_neq rfl rfl) rfl (cT ?_)))))))))); refine cw_no rfl (by decide) ?_; refine cw_skip (qw_then (cw_seq (cS (cM rfl rfl (cT ?_))))); refine cw_yes rfl (by omega) ?_; refine cw_region (lw_load_b tabOk rfl rfl rfl hbv rfl rfl (lw_pure (pur_fieldAddr tabOk rfl rfl rfl) rfl (lw_load_b tabOk rfl rfl rfl hb1 rfl rfl ?_))); refine lw_delete tabOk rfl rfl rfl rfl (by assumption) ?_; rintro wa26 ha27 fa28; have za29 := fa28.size; clear ha23; replace ha13 := ha13.fr fa28 (by omega); replace hbl := hbl.fr fa28 (by omega); replace hbv := hbv.fr fa28 (by omega); replace hbf := hbf.fr fa28 (by omega); replace hd := hd.fr fa28 (by omega); replace X := X.fr fa28 (by omega)
           replace hs := Bk.rowSits.fr hs fa28 (by omega); replace hb1 := hb1.fr fa28 (by omega); replace rx := Row.fr rx fa28 (by simp only; omega); replace sx := Nd.sits.fr sx fa28 (by omega); replace hown := OwnQ.fr hown fa28 (fun k hk => ⟨fun h => h.elim, fun e => by have := hob _ e; (try dsimp only at hk); omega⟩); replace rg := Row.fr rg fa28 (by simp only; omega); clear fa28; refine cT (cw_region (cM rfl rfl (cM rfl rfl ?_))); (refine lw_does (does_slice' [_] tabOk zOk rfl rfl rfl rfl rfl rfl rfl rfl rfl) rfl ?_ (fun _ h => h); rintro _ wa31 ⟨ba30, rfl, na32, ta33⟩); clear ta33; have ha34 := na32.blk; have xa35 := na32.ext; have pa36 := na32.pos; have za37 := na32.size; clear na32; replace ha27 := ha27.ext xa35; replace ha13 := ha13.ext xa35; replace hbl := hbl.ext xa35; replace hbv := hbv.ext xa35; replace hbf := hbf.ext xa35; replace hd := hd.ext xa35; replace X := X.ext xa35; replace hs := Bk.rowSits.ext hs xa35; replace hb1 := hb1.ext xa35; replace rx := rx.ext xa35; replace sx := Nd.sits.ext sx xa35; replace hown := hown.ext xa35; replace rg := rg.ext xa35; clear xa35; refine lw_appendQ (R := fun _ => False) (sh := boolShape) (z := qb) tabOk zOk rfl rfl rfl rfl (by kernel_rfl) rfl rfl rfl (by assumption) (fun _ h => by exact h) (Blk.row (by assumption)) rfl (by omega) (by omega) rfl ?_; rintro ga38 cap'a39 wa40 ha41 ha42 ha43 fa44; have za45 := fa44.size; replace ha34 := Blk.fr ha34 fa44 (fun e => by have := hob _ e; omega); replace ha27 := MapIs.fr ha27 fa44 (fun e => by have := hob _ e; omega)
           replace ha13 := Blk.fr ha13 fa44 (fun e => by have := hob _ e; omega); replace hbl := Blk.fr hbl fa44 (fun e => by have := hob _ e; omega); replace hbv := Blk.fr hbv fa44 (fun e => by have := hob _ e; omega); replace hbf := Blk.fr hbf fa44 (fun e => by have := hob _ e; omega); replace hd := FDs.fr hd fa44 (fun b hb hT => by have := hob _ hT; (try dsimp only at hb); omega); replace X := Fr.fr X fa44 (fun k hk => by have := hob _ hk; omega); replace hs := Bk.rowSits.fr hs fa44 (fun b hb hT => by have := hob _ hT; (try dsimp only at hb); omega); replace hb1 := Blk.fr hb1 fa44 (fun e => by have := hob _ e; omega); replace rx := Row.fr rx fa44 (fun e => by simp only [Go.Value.ownBlock, Option.some.injEq] at e; omega); replace sx := Nd.sits.fr sx fa44 (fun b hb hT => by have := hob _ hT; (try dsimp only at hb); omega); clear hown rg fa44; refine cA rfl rfl (lw_nil (qw_block_norm (qw_then (cw_region ?_)))); refine lw_pure (pur_add rfl rfl (IntWalk.i64_in _ (by omega))) rfl ?_; refine cM rfl rfl (lw_nil ?_); rotate_left 1
          exact qw_round (j + 1, some ⟨_, 0, none⟩, _, [b0] ++ [qb]) (by (refine sub_cons rfl ?_; refine sub_cons rfl ?_; refine sub_cons rfl ?_; refine sub_cons rfl ?_; refine sub_cons rfl ?_; refine sub_cons rfl ?_; refine sub_cons rfl ?_; refine sub_cons rfl ?_; exact sub_nil)) ⟨hs, by rw [← her]; assumption, hbl, hbv, hbf, hd, hb1, by assumption, X, by omega, by simp only; omega, by simp only; rw [List.length_append, hal]; rfl, HE.out⟩ (by simp only; omega)
        · rw [if_pos hqe] at he
          have HE := Lib.hid he; have HXc := Lib.hid (fun (a : Option Addr) (c : Nat) (w : World) h1 h2 h3 h4 h5 h6 h7 => Calls.mono (HX2 a c w h1 h2 h3 h4 h5 h6 h7) (fun e w' h => (⟨h.1, h.2.1⟩ : e = .returned (.tuple #[.bool qb, .int .i64 qe]) ∧ Fr (· = r) w w'))); clear he HX2
          focus
           refine cS (lw_pure (pur_lss rfl rfl) rfl (cT (cw_seq ?_))); refine cw_yes rfl (by omega) ?_; refine cw_skip (qw_then (cw_seq (cw_block (cS (cM rfl rfl ?_))))); refine lw_pure (pur_indexAddr tabOk rfl rfl rfl rfl (by omega) (by omega)) rfl ?_; refine lw_loads_r0 tabOk rfl rfl rfl rx rfl rfl ?_; (refine lw_alloc' [_, _, _, _] zOk rfl rfl ?_; intro bb1 wb2 nb3); have hb5 := nb3.blk; have xb6 := nb3.ext; have pb7 := nb3.pos; have zb8 := nb3.size; clear nb3; replace hmap := hmap.ext xb6; replace hbl := hbl.ext xb6; replace hbv := hbv.ext xb6; replace hbf := hbf.ext xb6; replace hd := hd.ext xb6; replace X := X.ext xb6; replace hs := Bk.rowSits.ext hs xb6; replace hb1 := hb1.ext xb6; replace rx := rx.ext xb6; replace sx := Nd.sits.ext sx xb6; replace hown := hown.ext xb6; replace rg := rg.ext xb6; clear xb6; refine cA rfl rfl ?_; (refine lw_store' [_, _, _, _] [_, _, _, _] tabOk rfl rfl rfl rfl rfl rfl hb5 rfl rfl ?_; intro wb9 nb10); have hb13 := nb10.blk; have fb11 := nb10.fr; have zb12 := nb10.size; clear nb10 hb5; replace hmap := hmap.fr fb11 (by omega); replace hbl := hbl.fr fb11 (by omega); replace hbv := hbv.fr fb11 (by omega); replace hbf := hbf.fr fb11 (by omega); replace hd := hd.fr fb11 (by omega); replace X := X.fr fb11 (by omega); replace hs := Bk.rowSits.fr hs fb11 (by omega); replace hb1 := hb1.fr fb11 (by omega); replace rx := Row.fr rx fb11 (by simp only; omega); replace sx := Nd.sits.fr sx fb11 (by omega); replace hown := OwnQ.fr hown fb11 (fun k hk => ⟨fun h => h.elim, fun e => by have := hob _ e; (try dsimp only at hk); omega⟩)
           replace rg := Row.fr rg fb11 (by simp only; omega); clear fb11; refine cN (lw_pure (pur_fieldAddr0 tabOk rfl rfl rfl) rfl (lw_load_b tabOk rfl rfl rfl hb1 rfl rfl (lw_pure (pur_eql rfl rfl) rfl (cM rfl rfl ?_)))); refine lw_on rfl rfl rfl (gd_tt (by assumption)) ?_; refine cM rfl rfl ?_; refine lw_on rfl rfl rfl (gd_tt (by assumption)) ?_; refine lw_pure (pur_eql rfl rfl) rfl ?_; refine lw_pure (pur_pick_yes rfl rfl (by assumption)) rfl ?_; refine cA rfl rfl (cT (cw_seq (cS (cM rfl rfl (cT ?_))))); refine cw_yes rfl (by omega) ?_; (refine cw_tdraw (fun wz => Ext wb9 wz) 6 (.pure 0 (.pure 1 (.pure 2 (.pure 3 (.pure 4 (.pure 5 .tail)))))) mixed (by kernel_rfl) (panicOk_then (panicOk_block (panicOk_then (panicOk_then (panicOk_block (panicOk_then panicOk_body)))))) ?_; intro wb14 xb15 _); have qsb16 : (fun wz => Ext wb9 wz) wb14 := xb15; simp only at qsb16; have d_hb13 := hb13; have d_hmap := hmap; have d_hbl := hbl; have d_hbv := hbv; have d_hbf := hbf; have d_hd := hd; have d_hs := hs; have d_hb1 := hb1; have d_rx := rx; have d_sx := sx; have d_hown := hown; have d_rg := rg; have zb17 := xb15.size; replace hb13 := hb13.ext xb15; replace hmap := hmap.ext xb15; replace hbl := hbl.ext xb15; replace hbv := hbv.ext xb15; replace hbf := hbf.ext xb15; replace hd := hd.ext xb15; replace X := X.ext xb15; replace hs := Bk.rowSits.ext hs xb15; replace hb1 := hb1.ext xb15; replace rx := rx.ext xb15; replace sx := Nd.sits.ext sx xb15; replace hown := hown.ext xb15; replace rg := rg.ext xb15
           clear xb15; refine ⟨qsb16, ?_⟩; refine tw_pure rfl (pur_load tabOk rfl rfl rfl (fun wz hz => Blk.cell (Blk.ext d_hbv hz) rfl)) rfl (tw_pure rfl (pur_fieldAddr tabOk rfl rfl rfl) rfl (tw_pure rfl (pur_load tabOk rfl rfl rfl (fun wz hz => Blk.cell (Blk.ext d_hb1 hz) rfl)) rfl (tw_pure rfl (pur_move rfl) rfl ?_))); refine tw_pure rfl (pur_indexAddr tabOk rfl rfl rfl rfl (by omega) (by omega)) rfl ?_; refine tw_pure rfl (pur_load tabOk rfl rfl rfl (fun wz hz => Row.at (Row.ext d_rg hz) rfl)) rfl ?_; clear qsb16 d_hb13 d_hmap d_hbl d_hbv d_hbf d_hd d_hs d_hb1 d_rx d_sx d_hown d_rg; refine tw_tail rfl (lw_mapput tabOk rfl rfl rfl rfl rfl hmap ?_); rintro wb18 hb19 fb20; have zb21 := fb20.size; replace hb13 := hb13.fr fb20 (by omega); clear hmap; replace hbl := hbl.fr fb20 (by omega); replace hbv := hbv.fr fb20 (by omega); replace hbf := hbf.fr fb20 (by omega); replace hd := hd.fr fb20 (by omega); replace X := X.fr fb20 (by omega); replace hs := Bk.rowSits.fr hs fb20 (by omega); replace hb1 := hb1.fr fb20 (by omega); replace rx := Row.fr rx fb20 (by simp only; omega); replace sx := Nd.sits.fr sx fb20 (by omega); replace hown := OwnQ.fr hown fb20 (fun k hk => ⟨fun h => h.elim, fun e => by have := hob _ e; (try dsimp only at hk); omega⟩); replace rg := Row.fr rg fb20 (by simp only; omega); clear fb20; refine cN (lw_load_b tabOk rfl rfl rfl hbf rfl rfl (lw_loads_b' [_, _, _, _] tabOk rfl rfl rfl hb13 rfl rfl rfl ?_)); refine lw_does (does_callv (fi := []) (ca := [.pointer (some ⟨bl, 0, none⟩), .pointer (some ⟨bv, 0, none⟩), .pointer (some ⟨bf, 0, none⟩)]) (by kernel_rfl) rfl rfl (HXc.out _ _ _ (by assumption) (by assumption) (by assumption) (by assumption) (by assumption) (by assumption) (by omega)) (fun _ _ h => ⟨_, h.1⟩)) rfl ?_ (fun _ h => h)
           rintro _ wb23 ⟨⟨⟩, fb22⟩; have zb24 := fb22.size; clear hb19; replace hb13 := hb13.fr fb22 (by omega); replace hbl := hbl.fr fb22 (by omega); replace hbv := hbv.fr fb22 (by omega); replace hbf := hbf.fr fb22 (by omega); replace hd := hd.fr fb22 (by omega); replace X := X.fr fb22 (by omega); replace hs := Bk.rowSits.fr hs fb22 (by omega); replace hb1 := hb1.fr fb22 (by omega); replace rx := Row.fr rx fb22 (by simp only; omega); replace sx := Nd.sits.fr sx fb22 (by omega); replace hown := OwnQ.fr hown fb22 (fun k hk => ⟨fun h => h.elim, fun e => by have := hob _ e; (try dsimp only at hk); omega⟩); replace rg := Row.fr rg fb22 (by simp only; omega); clear fb22; refine cM rfl rfl (lw_pure (pur_extract rfl rfl) rfl (lw_pure (pur_extract rfl rfl) rfl (cA rfl rfl (cA rfl rfl (cT (cw_seq (cS (cM rfl rfl (lw_pure (pur_neq rfl rfl) rfl (cT ?_)))))))))); refine cw_yes rfl (by assumption) ?_; refine cS (cM rfl rfl (cA rfl rfl (cA rfl rfl (cT (cw_ret (qw_then_ret (qw_block_ret (qw_then_ret (qw_then_ret (qw_block_ret (qw_then_ret ?_))))))))))); refine qw_ret2 rfl rfl rfl ?_; rotate_left 1
          exact vis_err HE.out hqe X
      · have hif : (if k = 84 ∧ acc.length = 1 then (s, acc.getD 0 false) :: v else v) = v := if_neg (fun h => hb ⟨h.1, by omega⟩)
        rw [hif] at he; clear hif; have HX2 := HX.out _ _ HV.out
        generalize x.chk lib v = q at *
        obtain ⟨qb, qe⟩ := q; clear HX; dsimp only at he
        have hb' : k = 84 → ¬ j = 1 := fun h1 h2 => hb ⟨h1, h2⟩
        clear hb
        by_cases hqe : qe = 0
        · subst hqe
          rw [if_neg (by simp)] at he; have HE := Lib.hid he; have HXc := Lib.hid (fun (a : Option Addr) (c : Nat) (w : World) h1 h2 h3 h4 h5 h6 h7 => Calls.mono (HX2 a c w h1 h2 h3 h4 h5 h6 h7) (fun e w' h => (⟨h.1, h.2.1, h.2.2 rfl⟩ : e = .returned (.tuple #[.bool qb, .int .i64 0]) ∧ Fr (· = r) w w' ∧ MapIs w' r kvs))); clear he HX2
          by_cases hk : k = 84
          · have hj1 := hb' hk
            clear hb'
            focus
             refine cS (lw_pure (pur_lss rfl rfl) rfl (cT (cw_seq ?_))); refine cw_yes rfl (by omega) ?_; refine cw_skip (qw_then (cw_seq (cw_block (cS (cM rfl rfl ?_))))); refine lw_pure (pur_indexAddr tabOk rfl rfl rfl rfl (by omega) (by omega)) rfl ?_; refine lw_loads_r0 tabOk rfl rfl rfl rx rfl rfl ?_; (refine lw_alloc' [_, _, _, _] zOk rfl rfl ?_; intro bc1 wc2 nc3); have hc5 := nc3.blk; have xc6 := nc3.ext; have pc7 := nc3.pos; have zc8 := nc3.size; clear nc3; replace hmap := hmap.ext xc6; replace hbl := hbl.ext xc6; replace hbv := hbv.ext xc6; replace hbf := hbf.ext xc6; replace hd := hd.ext xc6; replace hown := hown.ext xc6; replace X := X.ext xc6; replace hs := Bk.rowSits.ext hs xc6; replace hb1 := hb1.ext xc6; replace rx := rx.ext xc6; replace sx := Nd.sits.ext sx xc6; clear xc6; refine cA rfl rfl ?_; (refine lw_store' [_, _, _, _] [_, _, _, _] tabOk rfl rfl rfl rfl rfl rfl hc5 rfl rfl ?_; intro wc9 nc10); have hc13 := nc10.blk; have fc11 := nc10.fr; have zc12 := nc10.size; clear nc10 hc5; replace hmap := hmap.fr fc11 (by omega); replace hbl := hbl.fr fc11 (by omega); replace hbv := hbv.fr fc11 (by omega); replace hbf := hbf.fr fc11 (by omega); replace hd := hd.fr fc11 (by omega); replace hown := OwnQ.fr hown fc11 (fun k hk => ⟨fun h => h.elim, fun e => by have := hob _ e; (try dsimp only at hk); omega⟩); replace X := X.fr fc11 (by omega); replace hs := Bk.rowSits.fr hs fc11 (by omega); replace hb1 := hb1.fr fc11 (by omega); replace rx := Row.fr rx fc11 (by simp only; omega)
             replace sx := Nd.sits.fr sx fc11 (by omega); clear fc11; refine cN (lw_pure (pur_fieldAddr0 tabOk rfl rfl rfl) rfl (lw_load_b tabOk rfl rfl rfl hb1 rfl rfl (lw_pure (pur_eql rfl rfl) rfl (cM rfl rfl ?_)))); refine lw_on rfl rfl rfl (gd_tt (by assumption)) ?_; refine cM rfl rfl ?_; refine lw_on rfl rfl rfl (gd_tt (by assumption)) ?_; refine lw_pure (pur_eql rfl rfl) rfl ?_; refine lw_pure (pur_pick_yes rfl rfl (by assumption)) rfl ?_; refine cA rfl rfl (cT (cw_seq (cS (cM rfl rfl (cT ?_))))); refine cw_no rfl (by omega) ?_; refine cw_skip (qw_then (cS (lw_load_b tabOk rfl rfl rfl hbf rfl rfl (lw_loads_b' [_, _, _, _] tabOk rfl rfl rfl hc13 rfl rfl rfl ?_)))); refine lw_does (does_callv (fi := []) (ca := [.pointer (some ⟨bl, 0, none⟩), .pointer (some ⟨bv, 0, none⟩), .pointer (some ⟨bf, 0, none⟩)]) (by kernel_rfl) rfl rfl (HXc.out _ _ _ (by assumption) (by assumption) (by assumption) (by assumption) (by assumption) (by assumption) (by omega)) (fun _ _ h => ⟨_, h.1⟩)) rfl ?_ (fun _ h => h); rintro _ wc16 ⟨⟨⟩, ⟨fc14, hc15⟩⟩; have zc17 := fc14.size; replace hc13 := hc13.fr fc14 (by omega); clear hmap; replace hbl := hbl.fr fc14 (by omega); replace hbv := hbv.fr fc14 (by omega); replace hbf := hbf.fr fc14 (by omega); replace hd := hd.fr fc14 (by omega); replace hown := OwnQ.fr hown fc14 (fun k hk => ⟨fun h => h.elim, fun e => by have := hob _ e; (try dsimp only at hk); omega⟩); replace X := X.fr fc14 (by omega); replace hs := Bk.rowSits.fr hs fc14 (by omega); replace hb1 := hb1.fr fc14 (by omega)
             replace rx := Row.fr rx fc14 (by simp only; omega); replace sx := Nd.sits.fr sx fc14 (by omega); clear fc14; refine cM rfl rfl (lw_pure (pur_extract rfl rfl) rfl (lw_pure (pur_extract rfl rfl) rfl (cA rfl rfl (cA rfl rfl (cT (cw_seq (cS (cM rfl rfl (lw_pure (pur_neq rfl rfl) rfl (cT ?_)))))))))); refine cw_no rfl (by decide) ?_; refine cw_skip (qw_then (cw_seq (cS (cM rfl rfl (cT ?_))))); refine cw_no rfl (by omega) ?_; refine cw_skip (qw_then (cw_region (cM rfl rfl (cM rfl rfl ?_)))); (refine lw_does (does_slice' [_] tabOk zOk rfl rfl rfl rfl rfl rfl rfl rfl rfl) rfl ?_ (fun _ h => h); rintro _ wc19 ⟨bc18, rfl, nc20, tc21⟩); clear tc21; have hc22 := nc20.blk; have xc23 := nc20.ext; have pc24 := nc20.pos; have zc25 := nc20.size; clear nc20; replace hc15 := hc15.ext xc23; replace hc13 := hc13.ext xc23; replace hbl := hbl.ext xc23; replace hbv := hbv.ext xc23; replace hbf := hbf.ext xc23; replace hd := hd.ext xc23; replace hown := hown.ext xc23; replace X := X.ext xc23; replace hs := Bk.rowSits.ext hs xc23; replace hb1 := hb1.ext xc23; replace rx := rx.ext xc23; replace sx := Nd.sits.ext sx xc23; clear xc23; refine lw_appendQ (R := fun _ => False) (sh := boolShape) (z := qb) tabOk zOk rfl rfl rfl rfl (by kernel_rfl) rfl rfl rfl (by assumption) (fun _ h => by exact h) (Blk.row (by assumption)) rfl (by omega) (by omega) rfl ?_; rintro gc26 cap'c27 wc28 hc29 hc30 hc31 fc32; have zc33 := fc32.size; replace hc22 := Blk.fr hc22 fc32 (fun e => by have := hob _ e; omega); replace hc15 := MapIs.fr hc15 fc32 (fun e => by have := hob _ e; omega)
             replace hc13 := Blk.fr hc13 fc32 (fun e => by have := hob _ e; omega); replace hbl := Blk.fr hbl fc32 (fun e => by have := hob _ e; omega); replace hbv := Blk.fr hbv fc32 (fun e => by have := hob _ e; omega); replace hbf := Blk.fr hbf fc32 (fun e => by have := hob _ e; omega); replace hd := FDs.fr hd fc32 (fun b hb hT => by have := hob _ hT; (try dsimp only at hb); omega); clear hown; replace X := Fr.fr X fc32 (fun k hk => by have := hob _ hk; omega); replace hs := Bk.rowSits.fr hs fc32 (fun b hb hT => by have := hob _ hT; (try dsimp only at hb); omega); replace hb1 := Blk.fr hb1 fc32 (fun e => by have := hob _ e; omega); clear rx; replace sx := Nd.sits.fr sx fc32 (fun b hb hT => by have := hob _ hT; (try dsimp only at hb); omega); clear fc32; refine cA rfl rfl (lw_nil (qw_block_norm (qw_then (cw_region ?_)))); refine lw_pure (pur_add rfl rfl (IntWalk.i64_in _ (by omega))) rfl ?_; refine cM rfl rfl (lw_nil ?_); rotate_left 1
            exact qw_round (j + 1, some ⟨_, 0, none⟩, _, acc ++ [qb]) (by (refine sub_cons rfl ?_; refine sub_cons rfl ?_; refine sub_cons rfl ?_; refine sub_cons rfl ?_; refine sub_cons rfl ?_; refine sub_cons rfl ?_; refine sub_cons rfl ?_; refine sub_cons rfl ?_; exact sub_nil)) ⟨hs, by assumption, hbl, hbv, hbf, hd, hb1, by assumption, X, by omega, by simp only; omega, by simp only; rw [List.length_append, hal]; rfl, HE.out⟩ (by simp only; omega)
          · clear hb'
            focus
             refine cS (lw_pure (pur_lss rfl rfl) rfl (cT (cw_seq ?_))); refine cw_yes rfl (by omega) ?_; refine cw_skip (qw_then (cw_seq (cw_block (cS (cM rfl rfl ?_))))); refine lw_pure (pur_indexAddr tabOk rfl rfl rfl rfl (by omega) (by omega)) rfl ?_; refine lw_loads_r0 tabOk rfl rfl rfl rx rfl rfl ?_; (refine lw_alloc' [_, _, _, _] zOk rfl rfl ?_; intro bd1 wd2 nd3); have hd5 := nd3.blk; have xd6 := nd3.ext; have pd7 := nd3.pos; have zd8 := nd3.size; clear nd3; replace hmap := hmap.ext xd6; replace hbl := hbl.ext xd6; replace hbv := hbv.ext xd6; replace hbf := hbf.ext xd6; replace hd := hd.ext xd6; replace hown := hown.ext xd6; replace X := X.ext xd6; replace hs := Bk.rowSits.ext hs xd6; replace hb1 := hb1.ext xd6; replace rx := rx.ext xd6; replace sx := Nd.sits.ext sx xd6; clear xd6; refine cA rfl rfl ?_; (refine lw_store' [_, _, _, _] [_, _, _, _] tabOk rfl rfl rfl rfl rfl rfl hd5 rfl rfl ?_; intro wd9 nd10); have hd13 := nd10.blk; have fd11 := nd10.fr; have zd12 := nd10.size; clear nd10 hd5; replace hmap := hmap.fr fd11 (by omega); replace hbl := hbl.fr fd11 (by omega); replace hbv := hbv.fr fd11 (by omega); replace hbf := hbf.fr fd11 (by omega); replace hd := hd.fr fd11 (by omega); replace hown := OwnQ.fr hown fd11 (fun k hk => ⟨fun h => h.elim, fun e => by have := hob _ e; (try dsimp only at hk); omega⟩); replace X := X.fr fd11 (by omega); replace hs := Bk.rowSits.fr hs fd11 (by omega); replace hb1 := hb1.fr fd11 (by omega); replace rx := Row.fr rx fd11 (by simp only; omega)
             replace sx := Nd.sits.fr sx fd11 (by omega); clear fd11; refine cN (lw_pure (pur_fieldAddr0 tabOk rfl rfl rfl) rfl (lw_load_b tabOk rfl rfl rfl hb1 rfl rfl (lw_pure (pur_eql rfl rfl) rfl (cM rfl rfl ?_)))); refine lw_off rfl rfl rfl (gd_tf (by assumption)) rfl ?_; refine lw_off rfl rfl rfl (gd_tf (by assumption)) rfl ?_; refine lw_pure (pur_pick_no rfl rfl (by assumption)) rfl ?_; refine cA rfl rfl (cT (cw_seq (cS (cM rfl rfl (cT (cw_cond_f rfl (cw_skip (qw_then (cS (lw_load_b tabOk rfl rfl rfl hbf rfl rfl (lw_loads_b' [_, _, _, _] tabOk rfl rfl rfl hd13 rfl rfl rfl ?_))))))))))); refine lw_does (does_callv (fi := []) (ca := [.pointer (some ⟨bl, 0, none⟩), .pointer (some ⟨bv, 0, none⟩), .pointer (some ⟨bf, 0, none⟩)]) (by kernel_rfl) rfl rfl (HXc.out _ _ _ (by assumption) (by assumption) (by assumption) (by assumption) (by assumption) (by assumption) (by omega)) (fun _ _ h => ⟨_, h.1⟩)) rfl ?_ (fun _ h => h); rintro _ wd16 ⟨⟨⟩, ⟨fd14, hd15⟩⟩; have zd17 := fd14.size; replace hd13 := hd13.fr fd14 (by omega); clear hmap; replace hbl := hbl.fr fd14 (by omega); replace hbv := hbv.fr fd14 (by omega); replace hbf := hbf.fr fd14 (by omega); replace hd := hd.fr fd14 (by omega); replace hown := OwnQ.fr hown fd14 (fun k hk => ⟨fun h => h.elim, fun e => by have := hob _ e; (try dsimp only at hk); omega⟩); replace X := X.fr fd14 (by omega); replace hs := Bk.rowSits.fr hs fd14 (by omega); replace hb1 := hb1.fr fd14 (by omega); replace rx := Row.fr rx fd14 (by simp only; omega)
             replace sx := Nd.sits.fr sx fd14 (by omega); clear fd14; refine cM rfl rfl (lw_pure (pur_extract rfl rfl) rfl (lw_pure (pur_extract rfl rfl) rfl (cA rfl rfl (cA rfl rfl (cT (cw_seq (cS (cM rfl rfl (lw_pure (pur_neq rfl rfl) rfl (cT ?_)))))))))); refine cw_no rfl (by decide) ?_; refine cw_skip (qw_then (cw_seq (cS (cM rfl rfl (cT (cw_cond_f rfl (cw_skip (qw_then (cw_region (cM rfl rfl (cM rfl rfl ?_))))))))))); (refine lw_does (does_slice' [_] tabOk zOk rfl rfl rfl rfl rfl rfl rfl rfl rfl) rfl ?_ (fun _ h => h); rintro _ wd19 ⟨bd18, rfl, nd20, td21⟩); clear td21; have hd22 := nd20.blk; have xd23 := nd20.ext; have pd24 := nd20.pos; have zd25 := nd20.size; clear nd20; replace hd15 := hd15.ext xd23; replace hd13 := hd13.ext xd23; replace hbl := hbl.ext xd23; replace hbv := hbv.ext xd23; replace hbf := hbf.ext xd23; replace hd := hd.ext xd23; replace hown := hown.ext xd23; replace X := X.ext xd23; replace hs := Bk.rowSits.ext hs xd23; replace hb1 := hb1.ext xd23; replace rx := rx.ext xd23; replace sx := Nd.sits.ext sx xd23; clear xd23; refine lw_appendQ (R := fun _ => False) (sh := boolShape) (z := qb) tabOk zOk rfl rfl rfl rfl (by kernel_rfl) rfl rfl rfl (by assumption) (fun _ h => by exact h) (Blk.row (by assumption)) rfl (by omega) (by omega) rfl ?_; rintro gd26 cap'd27 wd28 hd29 hd30 hd31 fd32; have zd33 := fd32.size; replace hd22 := Blk.fr hd22 fd32 (fun e => by have := hob _ e; omega); replace hd15 := MapIs.fr hd15 fd32 (fun e => by have := hob _ e; omega); replace hd13 := Blk.fr hd13 fd32 (fun e => by have := hob _ e; omega)
             replace hbl := Blk.fr hbl fd32 (fun e => by have := hob _ e; omega); replace hbv := Blk.fr hbv fd32 (fun e => by have := hob _ e; omega); replace hbf := Blk.fr hbf fd32 (fun e => by have := hob _ e; omega); replace hd := FDs.fr hd fd32 (fun b hb hT => by have := hob _ hT; (try dsimp only at hb); omega); clear hown; replace X := Fr.fr X fd32 (fun k hk => by have := hob _ hk; omega); replace hs := Bk.rowSits.fr hs fd32 (fun b hb hT => by have := hob _ hT; (try dsimp only at hb); omega); replace hb1 := Blk.fr hb1 fd32 (fun e => by have := hob _ e; omega); clear rx; replace sx := Nd.sits.fr sx fd32 (fun b hb hT => by have := hob _ hT; (try dsimp only at hb); omega); clear fd32; refine cA rfl rfl (lw_nil (qw_block_norm (qw_then (cw_region ?_)))); refine lw_pure (pur_add rfl rfl (IntWalk.i64_in _ (by omega))) rfl ?_; refine cM rfl rfl (lw_nil ?_); rotate_left 1
            exact qw_round (j + 1, some ⟨_, 0, none⟩, _, acc ++ [qb]) (by (refine sub_cons rfl ?_; refine sub_cons rfl ?_; refine sub_cons rfl ?_; refine sub_cons rfl ?_; refine sub_cons rfl ?_; refine sub_cons rfl ?_; refine sub_cons rfl ?_; refine sub_cons rfl ?_; exact sub_nil)) ⟨hs, by assumption, hbl, hbv, hbf, hd, hb1, by assumption, X, by omega, by simp only; omega, by simp only; rw [List.length_append, hal]; rfl, HE.out⟩ (by simp only; omega)
        · rw [if_pos hqe] at he
          have HE := Lib.hid he; have HXc := Lib.hid (fun (a : Option Addr) (c : Nat) (w : World) h1 h2 h3 h4 h5 h6 h7 => Calls.mono (HX2 a c w h1 h2 h3 h4 h5 h6 h7) (fun e w' h => (⟨h.1, h.2.1⟩ : e = .returned (.tuple #[.bool qb, .int .i64 qe]) ∧ Fr (· = r) w w'))); clear he HX2
          by_cases hk : k = 84
          · have hj1 := hb' hk
            clear hb'
            focus
             refine cS (lw_pure (pur_lss rfl rfl) rfl (cT (cw_seq ?_))); refine cw_yes rfl (by omega) ?_; refine cw_skip (qw_then (cw_seq (cw_block (cS (cM rfl rfl ?_))))); refine lw_pure (pur_indexAddr tabOk rfl rfl rfl rfl (by omega) (by omega)) rfl ?_; refine lw_loads_r0 tabOk rfl rfl rfl rx rfl rfl ?_; (refine lw_alloc' [_, _, _, _] zOk rfl rfl ?_; intro be1 we2 ne3); have he5 := ne3.blk; have xe6 := ne3.ext; have pe7 := ne3.pos; have ze8 := ne3.size; clear ne3; replace hmap := hmap.ext xe6; replace hbl := hbl.ext xe6; replace hbv := hbv.ext xe6; replace hbf := hbf.ext xe6; replace hd := hd.ext xe6; replace hown := hown.ext xe6; replace X := X.ext xe6; replace hs := Bk.rowSits.ext hs xe6; replace hb1 := hb1.ext xe6; replace rx := rx.ext xe6; replace sx := Nd.sits.ext sx xe6; clear xe6; refine cA rfl rfl ?_; (refine lw_store' [_, _, _, _] [_, _, _, _] tabOk rfl rfl rfl rfl rfl rfl he5 rfl rfl ?_; intro we9 ne10); have he13 := ne10.blk; have fe11 := ne10.fr; have ze12 := ne10.size; clear ne10 he5; replace hmap := hmap.fr fe11 (by omega); replace hbl := hbl.fr fe11 (by omega); replace hbv := hbv.fr fe11 (by omega); replace hbf := hbf.fr fe11 (by omega); replace hd := hd.fr fe11 (by omega); replace hown := OwnQ.fr hown fe11 (fun k hk => ⟨fun h => h.elim, fun e => by have := hob _ e; (try dsimp only at hk); omega⟩); replace X := X.fr fe11 (by omega); replace hs := Bk.rowSits.fr hs fe11 (by omega); replace hb1 := hb1.fr fe11 (by omega); replace rx := Row.fr rx fe11 (by simp only; omega)
             replace sx := Nd.sits.fr sx fe11 (by omega); clear fe11; refine cN (lw_pure (pur_fieldAddr0 tabOk rfl rfl rfl) rfl (lw_load_b tabOk rfl rfl rfl hb1 rfl rfl (lw_pure (pur_eql rfl rfl) rfl (cM rfl rfl ?_)))); refine lw_on rfl rfl rfl (gd_tt (by assumption)) ?_; refine cM rfl rfl ?_; refine lw_on rfl rfl rfl (gd_tt (by assumption)) ?_; refine lw_pure (pur_eql rfl rfl) rfl ?_; refine lw_pure (pur_pick_yes rfl rfl (by assumption)) rfl ?_; refine cA rfl rfl (cT (cw_seq (cS (cM rfl rfl (cT ?_))))); refine cw_no rfl (by omega) ?_; refine cw_skip (qw_then (cS (lw_load_b tabOk rfl rfl rfl hbf rfl rfl (lw_loads_b' [_, _, _, _] tabOk rfl rfl rfl he13 rfl rfl rfl ?_)))); refine lw_does (does_callv (fi := []) (ca := [.pointer (some ⟨bl, 0, none⟩), .pointer (some ⟨bv, 0, none⟩), .pointer (some ⟨bf, 0, none⟩)]) (by kernel_rfl) rfl rfl (HXc.out _ _ _ (by assumption) (by assumption) (by assumption) (by assumption) (by assumption) (by assumption) (by omega)) (fun _ _ h => ⟨_, h.1⟩)) rfl ?_ (fun _ h => h); rintro _ we15 ⟨⟨⟩, fe14⟩; have ze16 := fe14.size; replace he13 := he13.fr fe14 (by omega); clear hmap; replace hbl := hbl.fr fe14 (by omega); replace hbv := hbv.fr fe14 (by omega); replace hbf := hbf.fr fe14 (by omega); replace hd := hd.fr fe14 (by omega); replace hown := OwnQ.fr hown fe14 (fun k hk => ⟨fun h => h.elim, fun e => by have := hob _ e; (try dsimp only at hk); omega⟩); replace X := X.fr fe14 (by omega); replace hs := Bk.rowSits.fr hs fe14 (by omega); replace hb1 := hb1.fr fe14 (by omega)
             replace rx := Row.fr rx fe14 (by simp only; omega); replace sx := Nd.sits.fr sx fe14 (by omega); clear fe14; refine cM rfl rfl (lw_pure (pur_extract rfl rfl) rfl (lw_pure (pur_extract rfl rfl) rfl (cA rfl rfl (cA rfl rfl (cT (cw_seq (cS (cM rfl rfl (lw_pure (pur_neq rfl rfl) rfl (cT ?_)))))))))); refine cw_yes rfl (by assumption) ?_; refine cS (cM rfl rfl (cA rfl rfl (cA rfl rfl (cT (cw_ret (qw_then_ret (qw_block_ret (qw_then_ret (qw_then_ret (qw_block_ret (qw_then_ret ?_))))))))))); refine qw_ret2 rfl rfl rfl ?_; rotate_left 1
            exact vis_err HE.out hqe X
          · clear hb'
            focus
             refine cS (lw_pure (pur_lss rfl rfl) rfl (cT (cw_seq ?_))); refine cw_yes rfl (by omega) ?_; refine cw_skip (qw_then (cw_seq (cw_block (cS (cM rfl rfl ?_))))); refine lw_pure (pur_indexAddr tabOk rfl rfl rfl rfl (by omega) (by omega)) rfl ?_; refine lw_loads_r0 tabOk rfl rfl rfl rx rfl rfl ?_; (refine lw_alloc' [_, _, _, _] zOk rfl rfl ?_; intro bf1 wf2 nf3); have hf5 := nf3.blk; have xf6 := nf3.ext; have pf7 := nf3.pos; have zf8 := nf3.size; clear nf3; replace hmap := hmap.ext xf6; replace hbl := hbl.ext xf6; replace hbv := hbv.ext xf6; replace hbf := hbf.ext xf6; replace hd := hd.ext xf6; replace hown := hown.ext xf6; replace X := X.ext xf6; replace hs := Bk.rowSits.ext hs xf6; replace hb1 := hb1.ext xf6; replace rx := rx.ext xf6; replace sx := Nd.sits.ext sx xf6; clear xf6; refine cA rfl rfl ?_; (refine lw_store' [_, _, _, _] [_, _, _, _] tabOk rfl rfl rfl rfl rfl rfl hf5 rfl rfl ?_; intro wf9 nf10); have hf13 := nf10.blk; have ff11 := nf10.fr; have zf12 := nf10.size; clear nf10 hf5; replace hmap := hmap.fr ff11 (by omega); replace hbl := hbl.fr ff11 (by omega); replace hbv := hbv.fr ff11 (by omega); replace hbf := hbf.fr ff11 (by omega); replace hd := hd.fr ff11 (by omega); replace hown := OwnQ.fr hown ff11 (fun k hk => ⟨fun h => h.elim, fun e => by have := hob _ e; (try dsimp only at hk); omega⟩); replace X := X.fr ff11 (by omega); replace hs := Bk.rowSits.fr hs ff11 (by omega); replace hb1 := hb1.fr ff11 (by omega); replace rx := Row.fr rx ff11 (by simp only; omega)
             replace sx := Nd.sits.fr sx ff11 (by omega); clear ff11; refine cN (lw_pure (pur_fieldAddr0 tabOk rfl rfl rfl) rfl (lw_load_b tabOk rfl rfl rfl hb1 rfl rfl (lw_pure (pur_eql rfl rfl) rfl (cM rfl rfl ?_)))); refine lw_off rfl rfl rfl (gd_tf (by assumption)) rfl ?_; refine lw_off rfl rfl rfl (gd_tf (by assumption)) rfl ?_; refine lw_pure (pur_pick_no rfl rfl (by assumption)) rfl ?_; refine cA rfl rfl (cT (cw_seq (cS (cM rfl rfl (cT (cw_cond_f rfl (cw_skip (qw_then (cS (lw_load_b tabOk rfl rfl rfl hbf rfl rfl (lw_loads_b' [_, _, _, _] tabOk rfl rfl rfl hf13 rfl rfl rfl ?_))))))))))); refine lw_does (does_callv (fi := []) (ca := [.pointer (some ⟨bl, 0, none⟩), .pointer (some ⟨bv, 0, none⟩), .pointer (some ⟨bf, 0, none⟩)]) (by kernel_rfl) rfl rfl (HXc.out _ _ _ (by assumption) (by assumption) (by assumption) (by assumption) (by assumption) (by assumption) (by omega)) (fun _ _ h => ⟨_, h.1⟩)) rfl ?_ (fun _ h => h); rintro _ wf15 ⟨⟨⟩, ff14⟩; have zf16 := ff14.size; replace hf13 := hf13.fr ff14 (by omega); clear hmap; replace hbl := hbl.fr ff14 (by omega); replace hbv := hbv.fr ff14 (by omega); replace hbf := hbf.fr ff14 (by omega); replace hd := hd.fr ff14 (by omega); replace hown := OwnQ.fr hown ff14 (fun k hk => ⟨fun h => h.elim, fun e => by have := hob _ e; (try dsimp only at hk); omega⟩); replace X := X.fr ff14 (by omega); replace hs := Bk.rowSits.fr hs ff14 (by omega); replace hb1 := hb1.fr ff14 (by omega); replace rx := Row.fr rx ff14 (by simp only; omega); replace sx := Nd.sits.fr sx ff14 (by omega)
             clear ff14; refine cM rfl rfl (lw_pure (pur_extract rfl rfl) rfl (lw_pure (pur_extract rfl rfl) rfl (cA rfl rfl (cA rfl rfl (cT (cw_seq (cS (cM rfl rfl (lw_pure (pur_neq rfl rfl) rfl (cT ?_)))))))))); refine cw_yes rfl (by assumption) ?_; refine cS (cM rfl rfl (cA rfl rfl (cA rfl rfl (cT (cw_ret (qw_then_ret (qw_block_ret (qw_then_ret (qw_then_ret (qw_block_ret (qw_then_ret ?_))))))))))); refine qw_ret2 rfl rfl rfl ?_; rotate_left 1
            exact vis_err HE.out hqe X
    · have hje : j = l.length := by omega
      subst hje; have he := HE.out; rw [List.drop_length, rowChk] at he; have HE := Lib.hid he; clear he HK HW IH; have hels := hown.els (S := fun b => b < w1.heap.size) (fun _ _ h => h); have HF := Lib.hid (fun (la : Option Addr) (lc : Nat) (ta : Option Addr) (tc : Nat) (T : Nat → Prop) (w : World) (hs : Els boolV T w acc ta) (hd : FDs (· < B0) w lib la) => result_c lib k n s l acc _ T la a ta lc c tc w (by omega) hs (fun h => by have := h83.out h; omega) e85.out hL HP.out hd); clear hown
      by_cases hk : k = 81
      · obtain ⟨b, hsb⟩ := e81.out hk
        have hg : getS kvs s = some (.bool b) := by rw [HV.out s, hsb]; rfl
        have hq := Lib.hid (show (if k = 81 then ((seen v s).getD false, 0) else typeF lib k s acc) = (b, (0 : Int)) from by rw [if_pos hk, hsb]; rfl); clear hsb
        focus
         refine cS (lw_pure (pur_lss rfl rfl) rfl (cT (cw_seq ?_))); refine cw_no rfl (by omega) ?_; refine cw_exit (qw_then_exit (qw_then_exit (qw_block_exit (qw_then (cw_seq (cS (lw_pure (pur_fieldAddr0 tabOk rfl rfl rfl) rfl (lw_load_b tabOk rfl rfl rfl hb1 rfl rfl (lw_pure (pur_eql rfl rfl) rfl (cT ?_)))))))))); refine cw_yes rfl (by assumption) ?_; refine cS (lw_load_b tabOk rfl rfl rfl hbv rfl rfl (lw_pure (pur_fieldAddr tabOk rfl rfl rfl) rfl (lw_load_b tabOk rfl rfl rfl hb1 rfl rfl ?_))); refine lw_pure (pur_lookup tabOk rfl rfl rfl rfl rfl (fun wz hz => by subst hz; exact hmap)) rfl ?_; refine cA rfl rfl (cA rfl rfl (cT (cw_ret (qw_then_ret (qw_ret2 rfl rfl rfl ?_))))); rotate_left 1
        rw [hg]
        exact vis_ok (z := fun acc => if k = 81 then ((seen v s).getD false, 0) else typeF lib k s acc) HE.out hq.out X (by assumption)
      · have hq := Lib.hid (show (if k = 81 then ((seen v s).getD false, 0) else typeF lib k s acc) = ((typeF lib k s acc).1, (typeF lib k s acc).2) from by rw [if_neg hk])
        focus
         refine cS (lw_pure (pur_lss rfl rfl) rfl (cT (cw_seq ?_))); refine cw_no rfl (by omega) ?_; refine cw_exit (qw_then_exit (qw_then_exit (qw_block_exit (qw_then (cw_seq (cS (lw_pure (pur_fieldAddr0 tabOk rfl rfl rfl) rfl (lw_load_b tabOk rfl rfl rfl hb1 rfl rfl (lw_pure (pur_eql rfl rfl) rfl (cT ?_)))))))))); refine cw_no rfl (by assumption) ?_; refine cw_skip (qw_then (cS (lw_load_b tabOk rfl rfl rfl hbl rfl rfl (lw_loads_b' [_, _, _, _] tabOk rfl rfl rfl hb1 rfl rfl rfl (cM rfl rfl ?_))))); refine cC (by kernel_rfl) rfl (HF.out _ _ _ _ _ _ (by assumption) (by assumption)) rfl ?_; rintro _ wh2 ⟨⟨⟩, xh1⟩; have zh3 := xh1.size; replace hs := Bk.rowSits.ext hs xh1; replace hmap := hmap.ext xh1; replace hbl := hbl.ext xh1; replace hbv := hbv.ext xh1; replace hbf := hbf.ext xh1; replace hd := hd.ext xh1; replace hb1 := hb1.ext xh1; replace X := X.ext xh1; replace hels := hels.ext xh1; clear xh1; refine lw_pure (pur_extract rfl rfl) rfl (lw_pure (pur_extract rfl rfl) rfl (cA rfl rfl (cA rfl rfl (cT (cw_ret (qw_ret2 rfl rfl rfl ?_)))))); rotate_left 1
        exact vis_ok (z := fun acc => if k = 81 then ((seen v s).getD false, 0) else typeF lib k s acc) HE.out hq.out X (by assumption)
  · have hchk : (Nd.mk k n s l).chk lib v = (false, reachF lib v k s l.length) := by rw [Nd.chk, if_pos hr]
    rw [hchk]; clear hchk
    generalize reachF lib v k s l.length = q at *
    refine calls_in Tryz.func100 Tryz.ntmps100 rfl rfl ?_
    focus
     refine cS ?_; (refine lw_box' [_, _, _, _] rfl rfl rfl ?_; intro bi1 wi2 ni3); have hi4 := ni3.blk; have xi5 := ni3.ext; have pi6 := ni3.pos; have zi7 := ni3.size; clear ni3; replace hs := Bk.rowSits.ext hs xi5; replace hmap := hmap.ext xi5; replace hbl := hbl.ext xi5; replace hbv := hbv.ext xi5; replace hbf := hbf.ext xi5; replace hd := hd.ext xi5; replace X := X.ext xi5; clear xi5; refine cA rfl rfl (cA rfl rfl (cT (cw_seq (cS (lw_load_b tabOk rfl rfl rfl hbl rfl rfl (lw_load_b tabOk rfl rfl rfl hbv rfl rfl (lw_loads_b' [_, _, _, _] tabOk rfl rfl rfl hi4 rfl rfl rfl ?_))))))); refine cC (by kernel_rfl) rfl (HR.out _ _ _ (by assumption) (by assumption)) rfl ?_; rintro _ wi9 ⟨⟨⟩, xi8⟩; have zi10 := xi8.size; replace hi4 := hi4.ext xi8; replace hs := Bk.rowSits.ext hs xi8; replace hmap := hmap.ext xi8; replace hbl := hbl.ext xi8; replace hbv := hbv.ext xi8; replace hbf := hbf.ext xi8; replace hd := hd.ext xi8; replace X := X.ext xi8; clear xi8; refine cA rfl rfl (cN (cM rfl rfl (lw_pure (pur_neq rfl rfl) rfl (cT ?_)))); refine cw_yes rfl (by assumption) ?_; refine cS (cM rfl rfl (cA rfl rfl (cA rfl rfl (cT (cw_ret (qw_then_ret (qw_ret2 rfl rfl rfl ?_))))))); rotate_left 1
    exact ⟨rfl, X, fun h => absurd h hr⟩
end
end Bk
namespace Bk
open Go Go.RowKit Go.Proofs
attribute [local irreducible] Go.Calls
def visM (l : List FP) : List (List UInt8 × Value) := l.foldl (fun m p => setS m p.name (.bool p.list)) []
theorem visM_snoc (l : List FP) (p : FP) : visM (l ++ [p]) = setS (visM l) p.name (.bool p.list) := by simp [visM]
theorem visM_take {l : List FP} {j : Nat} (hj : j < l.length) : setS (visM (l.take j)) l[j].name (.bool l[j].list) = visM (l.take (j + 1)) := by
 rw [List.take_succ_eq_append_getElem hj, visM_snoc]
def visL (l : List FP) : Vis := l.map fun p => (p.name, p.list)
theorem seen_append (a b : Vis) (s : List UInt8) : seen (a ++ b) s = (seen a s).or (seen b s) := by
 unfold seen
 rw [List.find?_append]
 cases a.find? (fun p => decide (p.1 = s)) <;> simp
theorem seen_none {l : List FP} {s : List UInt8} (h : s ∉ l.map FP.name) : seen (visL l) s = none := by
 unfold seen visL
 rw [Option.map_eq_none_iff, List.find?_eq_none]; intro x hx; obtain ⟨p, hp, rfl⟩ := List.mem_map.1 hx
 have : p.name ≠ s := fun e => h (List.mem_map.2 ⟨p, hp, e⟩)
 simpa using this
theorem visM_ok : ∀ l : List FP, (l.map FP.name).Nodup → VisOk (visM l) (visL l) := by
 have key : ∀ r l : List FP, VisOk (visM l) (visL l) → ((l ++ r).map FP.name).Nodup → VisOk (visM (l ++ r)) (visL (l ++ r)) := by
  intro r
  induction r with
  | nil => intro l h _; simpa using h
  | cons p r ih =>
   intro l h hn
   have e : l ++ p :: r = (l ++ [p]) ++ r := by simp
   rw [e] at hn ⊢; refine ih _ (fun s => ?_) hn; rw [visM_snoc, getS_set]
   have hv : visL (l ++ [p]) = visL l ++ [(p.name, p.list)] := by simp [visL]
   rw [hv, seen_append]
   by_cases hs : s = p.name
   · subst hs
     rw [if_pos rfl]
     have : p.name ∉ l.map FP.name := by
      rw [List.map_append, List.nodup_append] at hn; have h1 := hn.1; rw [List.map_append, List.nodup_append] at h1; intro hm
      exact h1.2.2 _ hm p.name (by simp) rfl
     rw [seen_none this]
     simp [seen]
   · rw [if_neg hs, h s]
     have : seen [(p.name, p.list)] s = none := by
      have hd : p.name ≠ s := fun e => hs e.symm
      simp [seen, hd]
     rw [this]
     cases seen (visL l) s <;> rfl
 intro l h; have := key l [] (by intro s; simp [visM, visL, seen, getS]) (by simpa using h)
 simpa using this
set_option maxRecDepth 100000 in
set_option maxHeartbeats 8000000 in
theorem check_c (lib : List FD) (ps : List FP) (t : Nd) (la pa a : Option Addr) (lc pc c : Nat) (w : World) (hL : lib.length ≤ 1000000) (hps : ∀ f ∈ lib, f.params.length ≤ 1000000) (hpl : ps.length ≤ 1000000) (hnd : (ps.map FP.name).Nodup) (ht : t.size ≤ 1000000) (hwf : t.wf) (hf : t.formed = true) (S S' S'' : Nat → Prop) (hd : FDs S w lib la) (hp : FPs S' w ps pa) (hs : t.sits S'' w a) :
 Calls Tryz.prog 74 #[.slice la lib.length lc, .slice pa ps.length pc, t.val a c] w (ResultR w (t.chk lib (visL ps))) := by
 have X := Ext.refl w; replace hd := hd.ltA; replace hp := hp.ltA
 replace hs : t.sits (· < w.heap.size) w a := Nd.sits.wide (sits_lt2 _ _ hs) fun _ h => h.2
 have hV := visM_ok ps hnd; have HK := Lib.hid (fun (bl bv bf r : Nat) (h : w.heap.size ≤ bl ∧ bl < r ∧ r < bv ∧ bv < bf) => visit_c lib la lc bl bv bf r w.heap.size h hL hps (t.size + 1) t (visM ps) (visL ps) a c); have HK2 := Lib.hid (fun (bl bv bf r : Nat) (h : w.heap.size ≤ bl ∧ bl < r ∧ r < bv ∧ bv < bf) (w' : World) h1 h2 h3 h4 h5 h6 h7 => Calls.mono (HK.out bl bv bf r h w' (by omega) ht hwf hf h1 h2 hV h3 h4 h5 h6 h7) (fun e w'' h => (⟨h.1, h.2.1⟩ : e = .returned (.tuple #[.bool (t.chk lib (visL ps)).1, .int .i64 (t.chk lib (visL ps)).2]) ∧ Fr (· = r) w' w''))); clear HK hV hwf hf hnd hps
 generalize t.chk lib (visL ps) = q at *
 refine calls_in Tryz.func74 Tryz.ntmps74 rfl rfl ?_
 focus
  refine cS ?_; (refine lw_box' [_] rfl rfl rfl ?_; intro b1 w2 n3); have h4 := n3.blk; have x5 := n3.ext; have p6 := n3.pos; have z7 := n3.size; clear n3; replace X := X.ext x5; replace hd := hd.ext x5; replace hp := hp.ext x5; replace hs := Nd.sits.ext hs x5; clear x5; (refine lw_box' [_, _, _, _] rfl rfl rfl ?_; intro b8 w9 n10); have h11 := n10.blk; have x12 := n10.ext; have p13 := n10.pos; have z14 := n10.size; clear n10; replace h4 := h4.ext x12; replace X := X.ext x12; replace hd := hd.ext x12; replace hp := hp.ext x12; replace hs := Nd.sits.ext hs x12; clear x12; refine cA rfl rfl (cA rfl rfl (cN (lw_makeMap rfl ?_))); rintro r15 w16 rfl h17 x18 h19; have z20 := x18.size; replace h11 := h11.ext x18; replace h4 := h4.ext x18; replace X := X.ext x18; replace hd := hd.ext x18; replace hp := hp.ext x18; replace hs := Nd.sits.ext hs x18; clear x18; (refine lw_alloc' [_] zOk rfl rfl ?_; intro b21 w22 n23); (refine lw_init' [_] tabOk rfl rfl rfl rfl rfl rfl n23 rfl ?_; clear n23; clear w22; intro w24 n23); have h25 := n23.blk; have x26 := n23.ext; have p27 := n23.pos; have z28 := n23.size; clear n23; replace h17 := h17.ext x26; replace h11 := h11.ext x26; replace h4 := h4.ext x26; replace X := X.ext x26; replace hd := hd.ext x26; replace hp := hp.ext x26; replace hs := Nd.sits.ext hs x26; clear x26; refine cT (cw_seq (cS (cM rfl rfl (lw_pure (pur_len_slice tabOk rfl rfl) rfl (cM rfl rfl (cT (cw_block ?_))))))); rotate_left 1
 generalize hr : w9.heap.size = r at *
 refine cw_loop (ι := Nat) (fun j => [(3, .pointer (some ⟨b1, 0, none⟩)), (5, .pointer (some ⟨b8, 0, none⟩)), (8, .pointer (some ⟨b21, 0, none⟩)), (13, .slice pa ps.length pc), (14, .int .i64 ps.length), (15, .int .i64 j)])
  (fun j w' => FPs (· < w.heap.size) w' ps pa ∧ FDs (· < w.heap.size) w' lib la ∧ t.sits (· < w.heap.size) w' a ∧ MapIs w' r (visM (ps.take j)) ∧ Blk w' b21 [.map (some r)] ∧ Blk w' b8 [.int .u8 t.kind, .int .i64 t.num, str t.name, .slice a t.kids.length c] ∧ Blk w' b1 [.slice la lib.length lc] ∧ Ext w w' ∧ b21 < w'.heap.size ∧ j ≤ ps.length) (fun j => ps.length - j) 0 (by (refine sub_cons rfl ?_; refine sub_cons rfl ?_; refine sub_cons rfl ?_; refine sub_cons rfl ?_; refine sub_cons rfl ?_; refine sub_cons rfl ?_; exact sub_nil)) ⟨hp, hd, hs, h17, by assumption, by assumption, by assumption, X, by omega, Nat.zero_le _⟩ ?_
 clear hp hd hs h17 h25 h11 h4 X; rintro j w1 ⟨hp, hd, hs, hM, hbv, hbn, hbl, X, hz, hj⟩
 by_cases hlt : j < ps.length
 · obtain ⟨kb, ko, ⟨⟩, -, hk⟩ := Arr.get hp (by omega)
   have hrx := hk j ps[j] (List.getElem?_eq_getElem hlt); simp only [FPAt] at hrx; have hst := visM_take hlt; clear hk
   generalize ps[j] = x at *
   focus
    refine cS (lw_pure (pur_lss rfl rfl) rfl (cT (cw_seq ?_))); refine cw_yes rfl (by omega) ?_; refine cw_skip (qw_then (cw_seq (cw_block (cS ?_)))); refine lw_pure (pur_indexAddr tabOk rfl rfl rfl rfl (by omega) (by omega)) rfl ?_; refine lw_loads_r0 tabOk rfl rfl rfl hrx rfl rfl ?_; (refine lw_alloc' [_, _] zOk rfl rfl ?_; intro ba1 wa2 na3); (refine lw_init' [_, _] tabOk rfl rfl rfl rfl rfl rfl na3 rfl ?_; clear na3; clear wa2; intro wa4 na3); have ha5 := na3.blk; have xa6 := na3.ext; have pa7 := na3.pos; have za8 := na3.size; clear na3; replace hd := hd.ext xa6; replace hs := Nd.sits.ext hs xa6; replace hM := hM.ext xa6; replace hbv := hbv.ext xa6; replace hbn := hbn.ext xa6; replace hbl := hbl.ext xa6; replace X := X.ext xa6; replace hp := hp.ext xa6; replace hrx := hrx.ext xa6; clear xa6; refine cT (cw_region (lw_load_b tabOk rfl rfl rfl hbv rfl rfl (lw_pure (pur_fieldAddr0 tabOk rfl rfl rfl) rfl (lw_load_b tabOk rfl rfl rfl ha5 rfl rfl (lw_pure (pur_fieldAddr tabOk rfl rfl rfl) rfl (lw_load_b tabOk rfl rfl rfl ha5 rfl rfl (lw_mapput tabOk rfl rfl rfl rfl rfl hM ?_))))))); rintro wa9 ha10 fa11; have za12 := fa11.size; replace ha5 := ha5.fr fa11 (by omega); replace hd := hd.fr fa11 (by omega); replace hs := Nd.sits.fr hs fa11 (by omega); clear hM; replace hbv := hbv.fr fa11 (by omega); replace hbn := hbn.fr fa11 (by omega); replace hbl := hbl.fr fa11 (by omega); replace X := X.fr fa11 (by omega); replace hp := hp.fr fa11 (by omega); clear hrx fa11; refine lw_nil (qw_block_norm (qw_then (cw_region ?_)))
    refine lw_pure (pur_add rfl rfl (IntWalk.i64_in _ (by omega))) rfl ?_; refine cM rfl rfl (lw_nil ?_); rotate_left 1
   exact qw_round (j + 1) (by (refine sub_cons rfl ?_; refine sub_cons rfl ?_; refine sub_cons rfl ?_; refine sub_cons rfl ?_; refine sub_cons rfl ?_; refine sub_cons rfl ?_; exact sub_nil)) ⟨hp, hd, hs, by rw [← hst]; assumption, hbv, hbn, hbl, X, by omega, by omega⟩ (by omega)
 · have hje : j = ps.length := by omega
   subst hje; rw [List.take_length] at hM
   focus
    refine cS (lw_pure (pur_lss rfl rfl) rfl (cT (cw_seq ?_))); refine cw_no rfl (by omega) ?_; refine cw_exit (qw_then_exit (qw_then_exit (qw_block_exit (qw_then (cS ?_))))); (refine lw_alloc' [_] zOk rfl rfl ?_; intro bb1 wb2 nb3); have hb5 := nb3.blk; have xb6 := nb3.ext; have pb7 := nb3.pos; have zb8 := nb3.size; clear nb3; replace hp := hp.ext xb6; replace hd := hd.ext xb6; replace hs := Nd.sits.ext hs xb6; replace hbv := hbv.ext xb6; replace hbn := hbn.ext xb6; replace hbl := hbl.ext xb6; replace X := X.ext xb6; replace hM := hM.ext xb6; clear xb6; refine cN (lw_pure (pur_funcC rfl) rfl ?_); (refine lw_store' [_] [_] tabOk rfl rfl rfl rfl rfl rfl hb5 rfl rfl ?_; intro wb9 nb10); have hb13 := nb10.blk; have fb11 := nb10.fr; have zb12 := nb10.size; clear nb10 hb5; replace hp := hp.fr fb11 (by omega); replace hd := hd.fr fb11 (by omega); replace hs := Nd.sits.fr hs fb11 (by omega); replace hbv := hbv.fr fb11 (by omega); replace hbn := hbn.fr fb11 (by omega); replace hbl := hbl.fr fb11 (by omega); replace X := X.fr fb11 (by omega); replace hM := hM.fr fb11 (by omega); clear fb11; refine cN (lw_load_b tabOk rfl rfl rfl hb13 rfl rfl (lw_loads_b' [_, _, _, _] tabOk rfl rfl rfl hbn rfl rfl rfl ?_)); refine lw_does (does_callv (fi := []) (ca := [.pointer (some ⟨b1, 0, none⟩), .pointer (some ⟨b21, 0, none⟩), .pointer (some ⟨bb1, 0, none⟩)]) (by kernel_rfl) rfl rfl (HK2.out b1 b21 bb1 r (by omega) _ (by assumption) (by assumption) (by assumption) (by assumption) (by assumption) (by assumption) (by omega)) (fun _ _ h => ⟨_, h.1⟩)) rfl ?_ (fun _ h => h)
    rintro _ wb15 ⟨⟨⟩, fb14⟩; have zb16 := fb14.size; replace hb13 := hb13.fr fb14 (by omega); replace hp := hp.fr fb14 (by omega); replace hd := hd.fr fb14 (by omega); replace hs := Nd.sits.fr hs fb14 (by omega); replace hbv := hbv.fr fb14 (by omega); replace hbn := hbn.fr fb14 (by omega); replace hbl := hbl.fr fb14 (by omega); replace X := X.fr fb14 (by omega); clear hM fb14; refine lw_pure (pur_extract rfl rfl) rfl (lw_pure (pur_extract rfl rfl) rfl (cA rfl rfl (cA rfl rfl (cT (cw_ret (qw_ret2 rfl rfl rfl ?_)))))); rotate_left 1
   exact ⟨rfl, X⟩
end Bk
namespace Bk
open Go Go.RowKit Go.Proofs
attribute [local irreducible] Go.Calls
structure LibFew (lib : List FD) : Prop where
 len : lib.length ≤ 1000000
 all : ∀ f ∈ lib, f.name.length ≤ 9223372036854775807 ∧ f.params.length ≤ 1000000 ∧ (∀ p ∈ f.params, p.name.length ≤ 9223372036854775807) ∧ f.body.size ≤ 1000000 ∧ f.body.wf
theorem findF_mem {lib : List FD} {i : Nat} (h : i < lib.length) : ∃ q, findF lib lib[i].name = some q ∧ q ≤ i := by
 cases hf : findF lib lib[i].name with
 | none =>
  unfold findF at hf
  rw [List.findIdx?_eq_none_iff] at hf; have := hf lib[i] (List.getElem_mem h)
  simp at this
 | some q =>
  refine ⟨q, rfl, ?_⟩; obtain ⟨h1, h2, h3⟩ := List.findIdx?_eq_some_iff_getElem.1 hf
  rcases Nat.lt_or_ge i q with h4 | h4
  · have := h3 i h4
    simp at this
  · exact h4
theorem paramErr_nodup {l : List FP} (h : paramErr l = 0) : (l.map FP.name).Nodup := by
 unfold paramErr at h
 split at h
 · cases h
 · split at h
   · split at h
     · assumption
     · cases h
   · cases h
theorem params_v {l : List FP} {q : Int} (h : paramErr l = q) (S : Nat → Prop) (a : Option Addr) (c : Nat) (w : World) (hL : l.length ≤ 1000000) (hN : ∀ p ∈ l, p.name.length ≤ 9223372036854775807) (hs : FPs S w l a) :
 Calls Tryz.prog 71 #[.slice a l.length c] w fun e w' => e = .returned (.int .i64 q) ∧ Ext w w' := by
 have := parameters_c l S a c w hL hN hs
 rw [h] at this; exact this
theorem formed_v {t : Nd} {q : Bool} (h : t.formed = q) (ht : t.size ≤ 1000000) (hw : t.wf) (S : Nat → Prop) (a : Option Addr) (c : Nat) (w : World) (hs : t.sits S w a) :
 Calls Tryz.prog 72 #[t.val a c] w fun e w' => e = .returned (.bool q) ∧ Ext w w' := by
 have := formed_c (t.size + 1) t S a c w (by omega) (by omega) hw hs
 rw [h] at this; exact this
def IntR (w : World) (q : Int) (e : Ending) (w' : World) : Prop := e = .returned (.int .i64 q) ∧ Ext w w'
theorem intR {w w' : World} {q q' : Int} (h : q = q') (x : Ext w w') : IntR w q (.returned (.int .i64 q')) w' := ⟨by rw [h], x⟩
set_option maxRecDepth 100000 in
set_option maxHeartbeats 8000000 in
theorem fun_c (lib : List FD) (i : Nat) (S : Nat → Prop) (a : Option Addr) (c : Nat) (w : World) (hl : LibFew lib) (hi : i < lib.length) (hs : FDs S w lib a) :
 Calls Tryz.prog 40 #[.slice a lib.length c, .int .i64 i] w (IntR w (fnErr lib i lib[i])) := by
 have X := Ext.refl w; replace hs := hs.ltA; have hL := hl.len; obtain ⟨m1, m2, m3, m4, m5⟩ := hl.all _ (List.getElem_mem hi); obtain ⟨fq, hfq, hqi⟩ := findF_mem hi; have hps := Lib.hid (fun f hf => (hl.all f hf).2.1); clear hl; have hs2 := hs; obtain ⟨kb, ko, ⟨⟩, hkS, hk⟩ := Arr.get hs2 (by omega); obtain ⟨pa, pc, ba, bc, hr, h1, h2⟩ := hk i lib[i] (List.getElem?_eq_getElem hi); clear hk hs2
 generalize lib[i] = f at *
 simp only [FD.cells] at hr
 have hdef : fnErr lib i f = if 30 ≤ i then 5 else if !funName f.name then 3 else if fq < i then 22
  else if paramErr f.params ≠ 0 then paramErr f.params
  else if !f.body.formed then 3 else if 80 < f.body.depth then 19 else if 2000 < f.body.size then 5
  else if (f.body.chk lib (visL f.params)).2 ≠ 0 then (f.body.chk lib (visL f.params)).2
  else if (f.body.chk lib (visL f.params)).1 ≠ f.list then 7 else 0 := by
  rw [fnErr, hfq]; rfl
 rw [hdef]; clear hdef; have HF := Lib.hid (Find_v (findI_some hfq)); clear hfq
 by_cases c1 : 30 ≤ i
 · rw [if_pos c1]
   refine calls_in Tryz.func40 Tryz.ntmps40 rfl rfl ?_
   focus
    refine cS (cA rfl rfl (cN (cM rfl rfl (cM rfl rfl ?_)))); refine lw_pure (pur_indexAddr tabOk rfl rfl rfl rfl (by omega) (by omega)) rfl ?_; refine lw_loads_r0 tabOk rfl rfl rfl hr rfl rfl ?_; (refine lw_alloc' [_, _, _, _, _, _, _] zOk rfl rfl ?_; intro b1 w2 n3); (refine lw_init' [_, _, _, _, _, _, _] tabOk rfl rfl rfl rfl rfl rfl n3 rfl ?_; clear n3; clear w2; intro w4 n3); have h5 := n3.blk; have x6 := n3.ext; have p7 := n3.pos; have z8 := n3.size; clear n3; replace X := X.ext x6; replace hs := hs.ext x6; replace hr := hr.ext x6; replace h1 := h1.ext x6; replace h2 := Nd.sits.ext h2 x6; clear x6; refine cT (cw_seq (cS (cM rfl rfl (lw_pure (pur_geq rfl rfl) rfl (cT ?_))))); refine cw_yes rfl (by omega) ?_; refine cS (cA rfl rfl (cT (cw_ret (qw_then_ret (qw_ret1 rfl rfl ?_))))); rotate_left 1
   exact intR rfl X
 rw [if_neg c1]
 cases hn : funName f.name
 · have HN := Lib.hid (funIsName_v hn)
   clear hn; simp only [Bool.not_false, if_true]; refine calls_in Tryz.func40 Tryz.ntmps40 rfl rfl ?_
   focus
    refine cS (cA rfl rfl (cN (cM rfl rfl (cM rfl rfl ?_)))); refine lw_pure (pur_indexAddr tabOk rfl rfl rfl rfl (by omega) (by omega)) rfl ?_; refine lw_loads_r0 tabOk rfl rfl rfl hr rfl rfl ?_; (refine lw_alloc' [_, _, _, _, _, _, _] zOk rfl rfl ?_; intro ba1 wa2 na3); (refine lw_init' [_, _, _, _, _, _, _] tabOk rfl rfl rfl rfl rfl rfl na3 rfl ?_; clear na3; clear wa2; intro wa4 na3); have ha5 := na3.blk; have xa6 := na3.ext; have pa7 := na3.pos; have za8 := na3.size; clear na3; replace X := X.ext xa6; replace hs := hs.ext xa6; replace hr := hr.ext xa6; replace h1 := h1.ext xa6; replace h2 := Nd.sits.ext h2 xa6; clear xa6; refine cT (cw_seq (cS (cM rfl rfl (lw_pure (pur_geq rfl rfl) rfl (cT ?_))))); refine cw_no rfl (by omega) ?_; refine cw_skip (qw_then (cw_seq (cS (lw_pure (pur_fieldAddr0 tabOk rfl rfl rfl) rfl (lw_load_b tabOk rfl rfl rfl ha5 rfl rfl ?_))))); refine cC (by kernel_rfl) rfl (HN.out _ (by omega)) rfl ?_; rintro _ wa10 ⟨⟨⟩, xa9⟩; have za11 := xa9.size; replace ha5 := ha5.ext xa9; replace X := X.ext xa9; replace hs := hs.ext xa9; replace hr := hr.ext xa9; replace h1 := h1.ext xa9; replace h2 := Nd.sits.ext h2 xa9; clear xa9; refine lw_pure (pur_not rfl) rfl (cT (cw_cond_t rfl (cS (cA rfl rfl (cT (cw_ret (qw_then_ret (qw_ret1 rfl rfl ?_)))))))); rotate_left 1
   exact intR rfl X
 have HN := Lib.hid (funIsName_v hn); clear hn; simp only [Bool.not_true, Bool.false_eq_true, if_false]
 by_cases c3 : fq < i
 · rw [if_pos c3]
   refine calls_in Tryz.func40 Tryz.ntmps40 rfl rfl ?_
   focus
    refine cS (cA rfl rfl (cN (cM rfl rfl (cM rfl rfl ?_)))); refine lw_pure (pur_indexAddr tabOk rfl rfl rfl rfl (by omega) (by omega)) rfl ?_; refine lw_loads_r0 tabOk rfl rfl rfl hr rfl rfl ?_; (refine lw_alloc' [_, _, _, _, _, _, _] zOk rfl rfl ?_; intro bb1 wb2 nb3); (refine lw_init' [_, _, _, _, _, _, _] tabOk rfl rfl rfl rfl rfl rfl nb3 rfl ?_; clear nb3; clear wb2; intro wb4 nb3); have hb5 := nb3.blk; have xb6 := nb3.ext; have pb7 := nb3.pos; have zb8 := nb3.size; clear nb3; replace X := X.ext xb6; replace hs := hs.ext xb6; replace hr := hr.ext xb6; replace h1 := h1.ext xb6; replace h2 := Nd.sits.ext h2 xb6; clear xb6; refine cT (cw_seq (cS (cM rfl rfl (lw_pure (pur_geq rfl rfl) rfl (cT ?_))))); refine cw_no rfl (by omega) ?_; refine cw_skip (qw_then (cw_seq (cS (lw_pure (pur_fieldAddr0 tabOk rfl rfl rfl) rfl (lw_load_b tabOk rfl rfl rfl hb5 rfl rfl ?_))))); refine cC (by kernel_rfl) rfl (HN.out _ (by omega)) rfl ?_; rintro _ wb10 ⟨⟨⟩, xb9⟩; have zb11 := xb9.size; replace hb5 := hb5.ext xb9; replace X := X.ext xb9; replace hs := hs.ext xb9; replace hr := hr.ext xb9; replace h1 := h1.ext xb9; replace h2 := Nd.sits.ext h2 xb9; clear xb9; refine lw_pure (pur_not rfl) rfl (cT (cw_cond_f rfl (cw_skip (qw_then (cw_seq (cS (cM rfl rfl (lw_pure (pur_fieldAddr0 tabOk rfl rfl rfl) rfl (lw_load_b tabOk rfl rfl rfl hb5 rfl rfl ?_))))))))); refine cC (by kernel_rfl) rfl (HF.out _ _ _ _ (by omega) (by assumption)) rfl ?_; rintro _ wb13 ⟨⟨⟩, xb12⟩; have zb14 := xb12.size; replace hb5 := hb5.ext xb12
    replace X := X.ext xb12; replace hs := hs.ext xb12; replace hr := hr.ext xb12; replace h1 := h1.ext xb12; replace h2 := Nd.sits.ext h2 xb12; clear xb12; refine cM rfl rfl (lw_pure (pur_lss rfl rfl) rfl (cT ?_)); refine cw_yes rfl (by omega) ?_; refine cS (cA rfl rfl (cT (cw_ret (qw_then_ret (qw_ret1 rfl rfl ?_))))); rotate_left 1
   exact intR rfl X
 rw [if_neg c3]; have HP := Lib.hid (fun (q : Int) (h : paramErr f.params = q) => params_v h)
 by_cases c4 : paramErr f.params = 0
 case neg =>
  rw [if_pos c4]; have HP := Lib.hid (HP.out _ rfl); have HM := Lib.hid m3
  generalize paramErr f.params = q at *
  refine calls_in Tryz.func40 Tryz.ntmps40 rfl rfl ?_
  focus
   refine cS (cA rfl rfl (cN (cM rfl rfl (cM rfl rfl ?_)))); refine lw_pure (pur_indexAddr tabOk rfl rfl rfl rfl (by omega) (by omega)) rfl ?_; refine lw_loads_r0 tabOk rfl rfl rfl hr rfl rfl ?_; (refine lw_alloc' [_, _, _, _, _, _, _] zOk rfl rfl ?_; intro bc1 wc2 nc3); (refine lw_init' [_, _, _, _, _, _, _] tabOk rfl rfl rfl rfl rfl rfl nc3 rfl ?_; clear nc3; clear wc2; intro wc4 nc3); have hc5 := nc3.blk; have xc6 := nc3.ext; have pc7 := nc3.pos; have zc8 := nc3.size; clear nc3; replace X := X.ext xc6; replace hs := hs.ext xc6; replace hr := hr.ext xc6; replace h1 := h1.ext xc6; replace h2 := Nd.sits.ext h2 xc6; clear xc6; refine cT (cw_seq (cS (cM rfl rfl (lw_pure (pur_geq rfl rfl) rfl (cT ?_))))); refine cw_no rfl (by omega) ?_; refine cw_skip (qw_then (cw_seq (cS (lw_pure (pur_fieldAddr0 tabOk rfl rfl rfl) rfl (lw_load_b tabOk rfl rfl rfl hc5 rfl rfl ?_))))); refine cC (by kernel_rfl) rfl (HN.out _ (by omega)) rfl ?_; rintro _ wc10 ⟨⟨⟩, xc9⟩; have zc11 := xc9.size; replace hc5 := hc5.ext xc9; replace X := X.ext xc9; replace hs := hs.ext xc9; replace hr := hr.ext xc9; replace h1 := h1.ext xc9; replace h2 := Nd.sits.ext h2 xc9; clear xc9; refine lw_pure (pur_not rfl) rfl (cT (cw_cond_f rfl (cw_skip (qw_then (cw_seq (cS (cM rfl rfl (lw_pure (pur_fieldAddr0 tabOk rfl rfl rfl) rfl (lw_load_b tabOk rfl rfl rfl hc5 rfl rfl ?_))))))))); refine cC (by kernel_rfl) rfl (HF.out _ _ _ _ (by omega) (by assumption)) rfl ?_; rintro _ wc13 ⟨⟨⟩, xc12⟩; have zc14 := xc12.size; replace hc5 := hc5.ext xc12
   replace X := X.ext xc12; replace hs := hs.ext xc12; replace hr := hr.ext xc12; replace h1 := h1.ext xc12; replace h2 := Nd.sits.ext h2 xc12; clear xc12; refine cM rfl rfl (lw_pure (pur_lss rfl rfl) rfl (cT ?_)); refine cw_no rfl (by omega) ?_; refine cw_skip (qw_then (cw_seq (cS (lw_pure (pur_fieldAddr tabOk rfl rfl rfl) rfl (lw_load_b tabOk rfl rfl rfl hc5 rfl rfl ?_))))); refine cC (by kernel_rfl) rfl (HP.out _ _ _ _ (by omega) HM.out (by assumption)) rfl ?_; rintro _ wc16 ⟨⟨⟩, xc15⟩; have zc17 := xc15.size; replace hc5 := hc5.ext xc15; replace X := X.ext xc15; replace hs := hs.ext xc15; replace hr := hr.ext xc15; replace h1 := h1.ext xc15; replace h2 := Nd.sits.ext h2 xc15; clear xc15; refine cA rfl rfl (cN (cM rfl rfl (lw_pure (pur_neq rfl rfl) rfl (cT ?_)))); refine cw_yes rfl (by assumption) ?_; refine cS (cM rfl rfl (cA rfl rfl (cT (cw_ret (qw_then_ret (qw_ret1 rfl rfl ?_)))))); rotate_left 1
  exact intR rfl X
 rw [if_neg (by omega)]; have HP := Lib.hid (HP.out _ c4); have hnd := Lib.hid (paramErr_nodup c4); have HM := Lib.hid m3; have HW := Lib.hid m5; clear c4 m3 m5
 cases hf : f.body.formed
 · have HG := Lib.hid (formed_v hf)
   clear hf; simp only [Bool.not_false, if_true]; refine calls_in Tryz.func40 Tryz.ntmps40 rfl rfl ?_
   focus
    refine cS (cA rfl rfl (cN (cM rfl rfl (cM rfl rfl ?_)))); refine lw_pure (pur_indexAddr tabOk rfl rfl rfl rfl (by omega) (by omega)) rfl ?_; refine lw_loads_r0 tabOk rfl rfl rfl hr rfl rfl ?_; (refine lw_alloc' [_, _, _, _, _, _, _] zOk rfl rfl ?_; intro bd1 wd2 nd3); (refine lw_init' [_, _, _, _, _, _, _] tabOk rfl rfl rfl rfl rfl rfl nd3 rfl ?_; clear nd3; clear wd2; intro wd4 nd3); have hd5 := nd3.blk; have xd6 := nd3.ext; have pd7 := nd3.pos; have zd8 := nd3.size; clear nd3; replace X := X.ext xd6; replace hs := hs.ext xd6; replace hr := hr.ext xd6; replace h1 := h1.ext xd6; replace h2 := Nd.sits.ext h2 xd6; clear xd6; refine cT (cw_seq (cS (cM rfl rfl (lw_pure (pur_geq rfl rfl) rfl (cT ?_))))); refine cw_no rfl (by omega) ?_; refine cw_skip (qw_then (cw_seq (cS (lw_pure (pur_fieldAddr0 tabOk rfl rfl rfl) rfl (lw_load_b tabOk rfl rfl rfl hd5 rfl rfl ?_))))); refine cC (by kernel_rfl) rfl (HN.out _ (by omega)) rfl ?_; rintro _ wd10 ⟨⟨⟩, xd9⟩; have zd11 := xd9.size; replace hd5 := hd5.ext xd9; replace X := X.ext xd9; replace hs := hs.ext xd9; replace hr := hr.ext xd9; replace h1 := h1.ext xd9; replace h2 := Nd.sits.ext h2 xd9; clear xd9; refine lw_pure (pur_not rfl) rfl (cT (cw_cond_f rfl (cw_skip (qw_then (cw_seq (cS (cM rfl rfl (lw_pure (pur_fieldAddr0 tabOk rfl rfl rfl) rfl (lw_load_b tabOk rfl rfl rfl hd5 rfl rfl ?_))))))))); refine cC (by kernel_rfl) rfl (HF.out _ _ _ _ (by omega) (by assumption)) rfl ?_; rintro _ wd13 ⟨⟨⟩, xd12⟩; have zd14 := xd12.size; replace hd5 := hd5.ext xd12
    replace X := X.ext xd12; replace hs := hs.ext xd12; replace hr := hr.ext xd12; replace h1 := h1.ext xd12; replace h2 := Nd.sits.ext h2 xd12; clear xd12; refine cM rfl rfl (lw_pure (pur_lss rfl rfl) rfl (cT ?_)); refine cw_no rfl (by omega) ?_; refine cw_skip (qw_then (cw_seq (cS (lw_pure (pur_fieldAddr tabOk rfl rfl rfl) rfl (lw_load_b tabOk rfl rfl rfl hd5 rfl rfl ?_))))); refine cC (by kernel_rfl) rfl (HP.out _ _ _ _ (by omega) HM.out (by assumption)) rfl ?_; rintro _ wd16 ⟨⟨⟩, xd15⟩; have zd17 := xd15.size; replace hd5 := hd5.ext xd15; replace X := X.ext xd15; replace hs := hs.ext xd15; replace hr := hr.ext xd15; replace h1 := h1.ext xd15; replace h2 := Nd.sits.ext h2 xd15; clear xd15; refine cA rfl rfl (cN (cM rfl rfl (lw_pure (pur_neq rfl rfl) rfl (cT ?_)))); refine cw_no rfl (by decide) ?_; refine cw_skip (qw_then (cw_seq (cS (lw_pure (pur_fieldAddr tabOk rfl rfl rfl) rfl (lw_loads_b' [_, _, _, _] tabOk rfl rfl rfl hd5 rfl rfl rfl ?_))))); refine cC (by kernel_rfl) rfl (HG.out (by omega) HW.out _ _ _ _ (by assumption)) rfl ?_; rintro _ wd19 ⟨⟨⟩, xd18⟩; have zd20 := xd18.size; replace hd5 := hd5.ext xd18; replace X := X.ext xd18; replace hs := hs.ext xd18; replace hr := hr.ext xd18; replace h1 := h1.ext xd18; replace h2 := Nd.sits.ext h2 xd18; clear xd18; refine lw_pure (pur_not rfl) rfl (cT (cw_cond_t rfl (cS (cA rfl rfl (cT (cw_ret (qw_then_ret (qw_ret1 rfl rfl ?_)))))))); rotate_left 1
   exact intR rfl X
 have HG := Lib.hid (formed_v hf); have HFo := Lib.hid hf; clear hf; simp only [Bool.not_true, Bool.false_eq_true, if_false]; have HS := Lib.hid (fun (S : Nat → Prop) (a : Option Addr) (c : Nat) (w : World) (hs : f.body.sits S w a) => measure_c (f.body.size + 1) f.body S a c w (by omega) (by omega) hs); have HC := Lib.hid (fun la pa a lc pc c w S S' S'' => check_c lib f.params f.body la pa a lc pc c w hL hps.out m2 hnd.out m4 HW.out HFo.out S S' S'')
 generalize f.body.chk lib (visL f.params) = q at *
 obtain ⟨qb, qe⟩ := q; refine calls_in Tryz.func40 Tryz.ntmps40 rfl rfl ?_
 focus
  refine cS (cA rfl rfl (cN (cM rfl rfl (cM rfl rfl ?_)))); refine lw_pure (pur_indexAddr tabOk rfl rfl rfl rfl (by omega) (by omega)) rfl ?_; refine lw_loads_r0 tabOk rfl rfl rfl hr rfl rfl ?_; (refine lw_alloc' [_, _, _, _, _, _, _] zOk rfl rfl ?_; intro be1 we2 ne3); (refine lw_init' [_, _, _, _, _, _, _] tabOk rfl rfl rfl rfl rfl rfl ne3 rfl ?_; clear ne3; clear we2; intro we4 ne3); have he5 := ne3.blk; have xe6 := ne3.ext; have pe7 := ne3.pos; have ze8 := ne3.size; clear ne3; replace X := X.ext xe6; replace hs := hs.ext xe6; replace hr := hr.ext xe6; replace h1 := h1.ext xe6; replace h2 := Nd.sits.ext h2 xe6; clear xe6; refine cT (cw_seq (cS (cM rfl rfl (lw_pure (pur_geq rfl rfl) rfl (cT ?_))))); refine cw_no rfl (by omega) ?_; refine cw_skip (qw_then (cw_seq (cS (lw_pure (pur_fieldAddr0 tabOk rfl rfl rfl) rfl (lw_load_b tabOk rfl rfl rfl he5 rfl rfl ?_))))); refine cC (by kernel_rfl) rfl (HN.out _ (by omega)) rfl ?_; rintro _ we10 ⟨⟨⟩, xe9⟩; have ze11 := xe9.size; replace he5 := he5.ext xe9; replace X := X.ext xe9; replace hs := hs.ext xe9; replace hr := hr.ext xe9; replace h1 := h1.ext xe9; replace h2 := Nd.sits.ext h2 xe9; clear xe9; refine lw_pure (pur_not rfl) rfl (cT (cw_cond_f rfl (cw_skip (qw_then (cw_seq (cS (cM rfl rfl (lw_pure (pur_fieldAddr0 tabOk rfl rfl rfl) rfl (lw_load_b tabOk rfl rfl rfl he5 rfl rfl ?_))))))))); refine cC (by kernel_rfl) rfl (HF.out _ _ _ _ (by omega) (by assumption)) rfl ?_; rintro _ we13 ⟨⟨⟩, xe12⟩; have ze14 := xe12.size; replace he5 := he5.ext xe12
  replace X := X.ext xe12; replace hs := hs.ext xe12; replace hr := hr.ext xe12; replace h1 := h1.ext xe12; replace h2 := Nd.sits.ext h2 xe12; clear xe12; refine cM rfl rfl (lw_pure (pur_lss rfl rfl) rfl (cT ?_)); refine cw_no rfl (by omega) ?_; refine cw_skip (qw_then (cw_seq (cS (lw_pure (pur_fieldAddr tabOk rfl rfl rfl) rfl (lw_load_b tabOk rfl rfl rfl he5 rfl rfl ?_))))); refine cC (by kernel_rfl) rfl (HP.out _ _ _ _ (by omega) HM.out (by assumption)) rfl ?_; rintro _ we16 ⟨⟨⟩, xe15⟩; have ze17 := xe15.size; replace he5 := he5.ext xe15; replace X := X.ext xe15; replace hs := hs.ext xe15; replace hr := hr.ext xe15; replace h1 := h1.ext xe15; replace h2 := Nd.sits.ext h2 xe15; clear xe15; refine cA rfl rfl (cN (cM rfl rfl (lw_pure (pur_neq rfl rfl) rfl (cT ?_)))); refine cw_no rfl (by decide) ?_; refine cw_skip (qw_then (cw_seq (cS (lw_pure (pur_fieldAddr tabOk rfl rfl rfl) rfl (lw_loads_b' [_, _, _, _] tabOk rfl rfl rfl he5 rfl rfl rfl ?_))))); refine cC (by kernel_rfl) rfl (HG.out (by omega) HW.out _ _ _ _ (by assumption)) rfl ?_; rintro _ we19 ⟨⟨⟩, xe18⟩; have ze20 := xe18.size; replace he5 := he5.ext xe18; replace X := X.ext xe18; replace hs := hs.ext xe18; replace hr := hr.ext xe18; replace h1 := h1.ext xe18; replace h2 := Nd.sits.ext h2 xe18; clear xe18; refine lw_pure (pur_not rfl) rfl (cT (cw_cond_f rfl (cw_skip (qw_then (cS (lw_pure (pur_fieldAddr tabOk rfl rfl rfl) rfl (lw_loads_b' [_, _, _, _] tabOk rfl rfl rfl he5 rfl rfl rfl ?_))))))); refine cC (by kernel_rfl) rfl (HS.out _ _ _ _ (by assumption)) rfl ?_
  rintro _ we22 ⟨⟨⟩, xe21⟩; have ze23 := xe21.size; replace he5 := he5.ext xe21; replace X := X.ext xe21; replace hs := hs.ext xe21; replace hr := hr.ext xe21; replace h1 := h1.ext xe21; replace h2 := Nd.sits.ext h2 xe21; clear xe21; refine cM rfl rfl (lw_pure (pur_extract rfl rfl) rfl (lw_pure (pur_extract rfl rfl) rfl (cA rfl rfl (cA rfl rfl (cT (cw_seq (cS (cM rfl rfl (lw_pure (pur_gtr rfl rfl) rfl (cT ?_)))))))))); refine cw_dec rfl (fun ce24 => ?_) (fun ce24 => ?_); refine cS (cA rfl rfl (cT (cw_ret (qw_then_ret (qw_ret1 rfl rfl ?_))))); rotate_left 1; refine cw_skip (qw_then (cw_seq (cS (cM rfl rfl (lw_pure (pur_gtr rfl rfl) rfl (cT ?_)))))); refine cw_dec rfl (fun ce25 => ?_) (fun ce25 => ?_); refine cS (cA rfl rfl (cT (cw_ret (qw_then_ret (qw_ret1 rfl rfl ?_))))); rotate_left 1; refine cw_skip (qw_then (cS (cM rfl rfl (lw_pure (pur_fieldAddr tabOk rfl rfl rfl) rfl (lw_load_b tabOk rfl rfl rfl he5 rfl rfl (lw_pure (pur_fieldAddr tabOk rfl rfl rfl) rfl (lw_loads_b' [_, _, _, _] tabOk rfl rfl rfl he5 rfl rfl rfl ?_))))))); refine cC (by kernel_rfl) rfl (HC.out _ _ _ _ _ _ _ _ _ _ (by assumption) (by assumption) (by assumption)) rfl ?_; rintro _ we27 ⟨⟨⟩, xe26⟩; have ze28 := xe26.size; replace he5 := he5.ext xe26; replace X := X.ext xe26; replace hs := hs.ext xe26; replace hr := hr.ext xe26; replace h1 := h1.ext xe26; replace h2 := Nd.sits.ext h2 xe26; clear xe26; refine cM rfl rfl (lw_pure (pur_extract rfl rfl) rfl (lw_pure (pur_extract rfl rfl) rfl (cA rfl rfl (cA rfl rfl (cT (cw_seq (cS (cM rfl rfl (lw_pure (pur_neq rfl rfl) rfl (cT ?_))))))))))
  refine cw_decn rfl (fun ce29 => ?_) (fun ce29 => ?_); refine cS (cM rfl rfl (cA rfl rfl (cT (cw_ret (qw_then_ret (qw_ret1 rfl rfl ?_)))))); rotate_left 1; refine cw_skip (qw_then (cw_seq (cS (cM rfl rfl (lw_pure (pur_fieldAddr tabOk rfl rfl rfl) rfl (lw_load_b tabOk rfl rfl rfl he5 rfl rfl (lw_pure (pur_bneqF tabOk rfl rfl rfl) rfl (cT ?_)))))))); refine cw_decn rfl (fun ce30 => ?_) (fun ce30 => ?_); refine cS (cA rfl rfl (cT (cw_ret (qw_then_ret (qw_ret1 rfl rfl ?_))))); rotate_left 1; refine cw_skip (qw_then (cS (cA rfl rfl (cT (cw_ret (qw_ret1 rfl rfl ?_)))))); rotate_left 1
 all_goals
  refine intR ?_ X; (try simp only [decide_eq_false_iff_not, decide_eq_true_eq] at *)
  first
  | (have hsz := (show ¬ 2000 < f.body.size from by omega); simp [*]; done)
  | (have hsz := (show 2000 < f.body.size from by omega); simp [*]; done)
  | (simp [*]; done)
def validI (lib : List FD) : Int × Int := match libErr lib with
 | none => (-1, 0)
 | some (i, e) => (i, e)
def PairR (w : World) (q : Int × Int) (e : Ending) (w' : World) : Prop := e = .returned (.tuple #[.int .i64 q.1, .int .i64 q.2]) ∧ Ext w w'
theorem pairR {w w' : World} {q : Int × Int} {a b : Int} (h : q = (a, b)) (x : Ext w w') : PairR w q (.returned (.tuple #[.int .i64 a, .int .i64 b])) w' := ⟨by rw [h], x⟩
theorem fun_v {lib : List FD} {i : Nat} (hi : i < lib.length) {q : Int} (h : fnErr lib i lib[i] = q) (S : Nat → Prop) (a : Option Addr) (c : Nat) (w : World) (hl : LibFew lib) (hs : FDs S w lib a) :
 Calls Tryz.prog 40 #[.slice a lib.length c, .int .i64 i] w fun e w' => e = .returned (.int .i64 q) ∧ Ext w w' := by
 have := fun_c lib i S a c w hl hi hs
 rw [h] at this; exact this
set_option maxRecDepth 100000 in
set_option maxHeartbeats 4000000 in
theorem Valid_c (lib : List FD) (S : Nat → Prop) (a : Option Addr) (c : Nat) (w : World) (hl : LibFew lib) (hs : FDs S w lib a) :
 Calls Tryz.prog 15 #[.slice a lib.length c] w (PairR w (validI lib)) := by
 have X := Ext.refl w; replace hs := hs.ltA; have hL := hl.len; have HL := Lib.hid hl; clear hl; refine calls_in Tryz.func15 Tryz.ntmps15 rfl rfl ?_
 focus
  refine cS (cA rfl rfl (cA rfl rfl (cT (cw_seq (cS (cM rfl rfl (lw_pure (pur_len_slice tabOk rfl rfl) rfl (cM rfl rfl (cT (cw_block ?_)))))))))); rotate_left 1
 refine cw_loop (ι := Nat) (fun j => [(0, .slice a lib.length c), (7, .int .i64 lib.length), (8, .int .i64 j)]) (fun j w' => FDs (· < w.heap.size) w' lib a ∧ Ext w w' ∧ j ≤ lib.length ∧ libErr lib = libErrFrom lib j (lib.drop j)) (fun j => lib.length - j) 0 (by (refine sub_cons rfl ?_; refine sub_cons rfl ?_; refine sub_cons rfl ?_; exact sub_nil)) ⟨hs, X, Nat.zero_le _, rfl⟩ ?_; clear hs X; rintro j w1 ⟨hs, X, hj, hn⟩
 by_cases hlt : j < lib.length
 · rw [List.drop_eq_getElem_cons hlt, libErrFrom] at hn
   have HF := Lib.hid (fun (q : Int) => fun_v hlt (q := q))
   by_cases hq : fnErr lib j lib[j] = 0
   · rw [if_neg (by omega)] at hn
     have HE := Lib.hid hn; have HF := Lib.hid (HF.out _ hq); clear hn hq
     focus
      refine cS (lw_pure (pur_lss rfl rfl) rfl (cT (cw_seq ?_))); refine cw_yes rfl (by omega) ?_; refine cw_skip (qw_then (cw_seq (cw_block (cS (cM rfl rfl (cA rfl rfl (cN (cM rfl rfl (cM rfl rfl ?_))))))))); refine cC (by kernel_rfl) rfl (HF.out _ _ _ _ HL.out (by assumption)) rfl ?_; rintro _ wa2 ⟨⟨⟩, xa1⟩; have za3 := xa1.size; replace hs := hs.ext xa1; replace X := X.ext xa1; clear xa1; refine cA rfl rfl (cN (cM rfl rfl (lw_pure (pur_neq rfl rfl) rfl (cT ?_)))); refine cw_no rfl (by decide) ?_; refine cw_skip (qw_block_norm (qw_then (cw_region ?_))); refine lw_pure (pur_add rfl rfl (IntWalk.i64_in _ (by omega))) rfl ?_; refine cM rfl rfl (lw_nil ?_); rotate_left 1
     exact qw_round (j + 1) (by (refine sub_cons rfl ?_; refine sub_cons rfl ?_; refine sub_cons rfl ?_; exact sub_nil)) ⟨hs, X, by omega, HE.out⟩ (by omega)
   · rw [if_pos hq] at hn
     have HE := Lib.hid hn; have HF := Lib.hid (HF.out _ rfl); clear hn
     generalize fnErr lib j lib[j] = q at *
     focus
      refine cS (lw_pure (pur_lss rfl rfl) rfl (cT (cw_seq ?_))); refine cw_yes rfl (by omega) ?_; refine cw_skip (qw_then (cw_seq (cw_block (cS (cM rfl rfl (cA rfl rfl (cN (cM rfl rfl (cM rfl rfl ?_))))))))); refine cC (by kernel_rfl) rfl (HF.out _ _ _ _ HL.out (by assumption)) rfl ?_; rintro _ wb2 ⟨⟨⟩, xb1⟩; have zb3 := xb1.size; replace hs := hs.ext xb1; replace X := X.ext xb1; clear xb1; refine cA rfl rfl (cN (cM rfl rfl (lw_pure (pur_neq rfl rfl) rfl (cT ?_)))); refine cw_yes rfl (by assumption) ?_; refine cS (cM rfl rfl (cM rfl rfl (cA rfl rfl (cA rfl rfl (cT (cw_ret (qw_block_ret (qw_then_ret (qw_then_ret (qw_block_ret (qw_then_ret ?_))))))))))); refine qw_ret2 rfl rfl rfl ?_; rotate_left 1
     exact pairR (by rw [validI, HE.out]) X
 · have hje : j = lib.length := by omega
   subst hje; rw [List.drop_length, libErrFrom] at hn; have HE := Lib.hid hn; clear hn
   focus
    refine cS (lw_pure (pur_lss rfl rfl) rfl (cT (cw_seq ?_))); refine cw_no rfl (by omega) ?_; refine cw_exit (qw_then_exit (qw_then_exit (qw_block_exit (qw_then (cS (cA rfl rfl (cA rfl rfl (cT (cw_ret (qw_ret2 rfl rfl rfl ?_)))))))))); rotate_left 1
   exact pairR (by rw [validI, HE.out]) X
end Bk
namespace Bk
open Go
def Po {α : Type} (ts : List Tok) (n : Int) (m : Nat) (p : Pr α) (R : Nat → Nat → α → Prop) : Prop := ∀ σ, σ.at_ ≤ ts.length → mS ts σ ≤ m → (p ts n σ).2.err = 0 → R σ.at_ (p ts n σ).2.at_ (p ts n σ).1
theorem peek_memF {ts : List Tok} {σ : PS} (h : σ.err = 0 ∧ σ.at_ < ts.length) : peekP ts σ ∈ ts := by
 unfold peekP
 rw [if_neg (by rintro (h1 | h1); exact h1 h.1; omega)]; simp only [List.getD_eq_getElem?_getD, List.getElem?_eq_getElem h.2, Option.getD_some]
 exact List.getElem_mem h.2
section
variable {ts : List Tok} {n : Int} {m : Nat} {α β : Type}
theorem Po.mono {p : Pr α} {R : Nat → Nat → α → Prop} {m' : Nat} (h : Po ts n m p R) (hm : m' ≤ m) : Po ts n m' p R := fun σ hw hs he => h σ hw (by omega) he
theorem Po.weaken {p : Pr α} {R R' : Nat → Nat → α → Prop} (h : Po ts n m p R) (g : Good p) (k : ∀ a b x, a ≤ b → b ≤ ts.length → R a b x → R' a b x) : Po ts n m p R' := fun σ hw hs he => k _ _ _ (g.le ts n σ hw).le (g.le ts n σ hw).wf (h σ hw hs he)
theorem Po.congr {p q : Pr α} {R : Nat → Nat → α → Prop} (h : ∀ ts n σ, p ts n σ = q ts n σ) (k : Po ts n m q R) : Po ts n m p R := fun σ hw hs he => by
 rw [h] at he ⊢; exact k σ hw hs he
theorem Po.ret {x : α} {R : Nat → Nat → α → Prop} (h : ∀ a, a ≤ ts.length → R a a x) : Po ts n m (retP x) R := fun σ hw _ _ => h _ hw
theorem Po.bind {p : Pr α} {f : α → Pr β} {R : Nat → Nat → α → Prop} {R' : α → Nat → Nat → β → Prop} {T : Nat → Nat → β → Prop} (gp : Good p) (hp : Po ts n m p R) (gf : ∀ x, Good (f x)) (hf : ∀ x, Po ts n m (f x) (R' x)) (hT : ∀ a b c x y, a ≤ b → b ≤ c → c ≤ ts.length → R a b x → R' x b c y → T a c y) : Po ts n m (bindP p f) T := fun σ hw hs he => by
 have l1 := gp.le ts n σ hw; have l2 := (gf (p ts n σ).1).le ts n _ l1.wf
 exact hT _ _ _ _ _ l1.le l2.le l2.wf (hp σ hw hs (l2.ok he)) (hf _ _ l1.wf (Nat.le_trans (mS_le l1) hs) he)
theorem Po.bindL {p : Pr α} {f : α → Pr β} {R : Nat → Nat → α → Prop} {R' : α → Nat → Nat → β → Prop} {T : Nat → Nat → β → Prop} (gp : Good p) (lp : LtP p) (hp : Po ts n m p R) (gf : ∀ x, Good (f x)) (hf : ∀ x, Po ts n (m - 1) (f x) (R' x)) (hT : ∀ a b c x y, a ≤ b → b ≤ c → c ≤ ts.length → R a b x → R' x b c y → T a c y) : Po ts n m (bindP p f) T := fun σ hw hs he => by
 have l1 := gp.le ts n σ hw; have l2 := (gf (p ts n σ).1).le ts n _ l1.wf; have := mS_lt l1 (lp ts n σ hw)
 exact hT _ _ _ _ _ l1.le l2.le l2.wf (hp σ hw hs (l2.ok he)) (hf _ _ l1.wf (by omega) he)
theorem Po.rd {c : Int → List UInt8 → Bool} {y z : Int → List UInt8 → Pr α} {T : Nat → Nat → α → Prop} (h0 : c 0 [] = false) (hy : 1 ≤ m → ∀ k t, c k t = true → Po ts n (m - 1) (y k t) (fun a b x => ∀ a0, a = a0 + 1 → T a0 b x)) (hz : ∀ k t, Po ts n m (z k t) T) : Po ts n m (rdP c y z) T := fun σ hw hs he => by
 unfold rdP at he ⊢
 by_cases hc : c (peekP ts σ).kind (peekP ts σ).text = true
 · rw [if_pos hc] at he ⊢
   have hin := rd_in h0 hw hc; have := mS_next hin
   exact hy (by omega) _ _ hc (nextP σ) hin.2 (by omega) he _ rfl
 · rw [if_neg hc] at he ⊢
   exact hz _ _ σ hw hs he
theorem Po.te {c : Int → List UInt8 → Bool} {y z : Pr α} {T : Nat → Nat → α → Prop} (h0 : c 0 [] = false) (hy : 1 ≤ m → Po ts n m y T) (hz : Po ts n m z T) : Po ts n m (teP c y z) T := fun σ hw hs he => by
 unfold teP at he ⊢
 by_cases hc : c (peekP ts σ).kind (peekP ts σ).text = true
 · rw [if_pos hc] at he ⊢
   have := mS_pos (rd_in h0 hw hc)
   exact hy (by omega) σ hw hs he
 · rw [if_neg hc] at he ⊢
   exact hz σ hw hs he
theorem po_exp {t : List UInt8} : Po ts n m (expP t) (fun a b _ => a + 1 ≤ b) := fun σ hw hs he => by
 rw [← exp_at] at he ⊢
 exact expect_lt he
theorem po_name (hT : ∀ t ∈ ts, t.text.length ≤ 1000000) : Po ts n m (fun ts n σ => nameP ts n σ) (fun a b m => a + 1 ≤ b ∧ m.length ≤ 1000000) := fun σ hw hs he => by
 refine ⟨name_lt he, ?_⟩
 show (nameP ts n σ).1.length ≤ 1000000
 unfold nameP
 split
 · rename_i hh
   exact hT _ (peek_memF (peek_in hw (Or.inl (isName_ne hh))))
 · simp
def RT (a b : Nat) (t : Nd) : Prop := t.size + a ≤ b ∧ t.wf
def RL (a b : Nat) (l : List Nd) : Prop := rowSize l + a + 2 ≤ b ∧ rowWf l
theorem rowWf_app {l q : List Nd} : rowWf (l ++ q) ↔ rowWf l ∧ rowWf q := by
 induction l with
 | nil => simp [rowWf]
 | cons x r ih => simp only [List.cons_append, rowWf, ih, and_assoc]
theorem mkNd {k v : Int} {s : List UInt8} {l : List Nd} {a b : Nat} (hb : b ≤ 1000000) (h1 : 0 ≤ k ∧ k ≤ 255) (h2 : 0 ≤ v ∧ v ≤ 9223372036854775807) (h3 : s.length ≤ 1000000) (h4 : rowSize l + 1 + a ≤ b) (h5 : rowWf l) : RT a b (.mk k v s l) := by
 have := length_rowSize l; refine ⟨?_, ?_⟩
 · simp only [Nd.size]; omega
 · simp only [Nd.wf]
   exact ⟨h1.1, h1.2, by omega, h2.2, by omega, by omega, h5⟩
theorem po_fnum {z : Pr Nd} (hL : ts.length ≤ 1000000) (hz : Po ts n m z RT) : Po ts n m (fnumZ z) RT := fun σ hw hs he => by
 unfold fnumZ at he ⊢
 split at he
 · rename_i hk
   rw [if_pos hk]; have hin := peek_in hw (Or.inr (by rw [hk]; decide))
   unfold fnumP at he ⊢
   split at he
   · rename_i hv
     rw [if_pos hv]; refine mkNd (by simp only [nextP]; omega) (by decide) ⟨by omega, hv⟩ (by simp) ?_ trivial
     simp only [rowSize, nextP]; omega
   · exact absurd he (fail_err (by decide))
 · rename_i hk
   rw [if_neg hk]
   exact hz σ hw hs he
structure PoF (ts : List Tok) (n : Int) (k : Nat) : Prop where
 e : ∀ m lv, 4 * m + 4 ≤ k → Po ts n m (fun ts n σ => exprF ts n k lv σ) RT
 c : ∀ m lv x, 4 * m + 1 ≤ k → Po ts n m (fun ts n σ => climbF ts n k lv x σ) (fun a b y => x.wf → y.size + a ≤ b + x.size ∧ y.wf)
 p : ∀ m, 4 * m + 3 ≤ k → Po ts n m (fun ts n σ => primF ts n k σ) RT
 i : ∀ m, 1 ≤ m → 4 * m + 2 ≤ k → Po ts n m (fun ts n σ => ifF ts n k σ) RT
 l : ∀ m, 1 ≤ m → 4 * m + 2 ≤ k → Po ts n m (fun ts n σ => letF ts n k σ) RT
 d : ∀ m, 4 * m + 2 ≤ k → Po ts n m (fun ts n σ => namedF ts n k σ) RT
 a1 : ∀ m, 4 * m + 5 ≤ k → Po ts n m (fun ts n σ => args1F ts n k σ) RL
 a2 : ∀ m, 4 * m + 5 ≤ k → Po ts n m (fun ts n σ => args2F ts n k σ) RL
 b : ∀ m, 4 * m + 5 ≤ k → Po ts n m (fun ts n σ => braceF ts n k σ) RT
 m : ∀ m acc, 4 * m + 1 ≤ k → Po ts n m (fun ts n σ => moreF ts n k acc σ) (fun a b l => rowWf acc → rowSize l + a ≤ b + rowSize acc ∧ rowWf l)
theorem po_F (hL : ts.length ≤ 1000000) (hT : ∀ t ∈ ts, t.text.length ≤ 1000000) (k : Nat) : PoF ts n k := by
 induction k with
 | zero => refine ⟨?_, ?_, ?_, ?_, ?_, ?_, ?_, ?_, ?_, ?_⟩ <;> intros <;> omega
 | succ k ih =>
  have g := good_F k; refine ⟨fun m lv h => ?_, fun m lv x h => ?_, fun m h => ?_, fun m h1 h => ?_, fun m h1 h => ?_, fun m h => ?_, fun m h => ?_, fun m h => ?_, fun m h => ?_, fun m acc h => ?_⟩
  · obtain ⟨k, rfl⟩ : ∃ j, k = j + 2 := ⟨k - 2, by omega⟩
    refine Po.congr (exprF_at (k + 2) lv) (Po.bindL g.p (lt_prim k) (ih.p m (by omega)) (fun x => g.c lv x) (fun x => ih.c (m - 1) lv x (by omega)) ?_); rintro a b c x y h1 h2 h3 ⟨r1, r2⟩ r3; obtain ⟨r4, r5⟩ := r3 r2
    exact ⟨by omega, r5⟩
  · refine Po.congr (climbF_at k lv x) (Po.rd (by rw [bin_nil0]) (fun h1 _ t hc => ?_) (fun _ _ => Po.ret (fun a _ hx => ⟨by omega, hx⟩)))
    cases ho : binOf t with
    | none => rw [ho] at hc; cases hc
    | some op =>
     refine Po.bind (g.e _) (ih.e (m - 1) _ (by omega)) (fun y => g.c _ _) (fun y => ih.c (m - 1) lv _ (by omega)) ?_; rintro a b c y z h1 h2 h3 ⟨r1, r2⟩ r3 a0 rfl hx; have hop := binOf_ne ho; have hxs := Nd.size_pos x; obtain ⟨r4, r5⟩ := r3 (by simp only [Nd.wf, rowWf]; exact ⟨by omega, by omega, by omega, by omega, by simp, by simp, hx, r2, trivial⟩); simp only [Nd.size, rowSize] at r4
     exact ⟨by omega, r5⟩
  · refine Po.congr (primF_at k) ?_
    refine Po.rd (eqF_nil (by decide)) (fun _ _ _ _ => ?_) (fun _ _ => Po.rd (eqF_nil (by decide)) (fun h1 _ _ _ => ?_) (fun _ _ => Po.rd (eqF_nil (by decide)) (fun h1 _ _ _ => ?_) (fun _ _ => Po.rd (eqF_nil (by decide)) (fun h1 _ _ _ => ?_) (fun _ _ =>
     Po.rd (eqF_nil (by decide)) (fun h1 _ _ _ => ?_) (fun _ _ => Po.te (eqF_nil (by decide)) (fun h1 => ih.i m h1 (by omega)) (Po.te (eqF_nil (by decide)) (fun h1 => ih.l m h1 (by omega)) (Po.rd (eqF_nil (by decide)) (fun h1 _ _ _ => ?_) (fun _ _ => po_fnum hL (ih.d m (by omega))))))))))
    · refine Po.bind (good_exp (by decide)) po_exp (fun _ => Good.ret _) (fun _ => Po.ret (R := fun a b y => y = Nd.mk 86 0 [] [] ∧ a = b) (fun _ _ => ⟨rfl, rfl⟩)) ?_
      rintro a b c _ y h1 h2 h3 r1 ⟨rfl, rfl⟩ a0 rfl
      exact mkNd (by omega) (by decide) (by decide) (by simp) (by simp only [rowSize]; omega) trivial
    · refine Po.bind g.a2 (ih.a2 (m - 1) (by omega)) (fun _ => Good.ret _) (fun x => Po.ret (R := fun a b y => y = Nd.mk 87 0 [] x ∧ a = b) (fun _ _ => ⟨rfl, rfl⟩)) ?_
      rintro a b c x y h1 h2 h3 ⟨r1, r2⟩ ⟨rfl, rfl⟩ a0 rfl
      exact mkNd (by omega) (by decide) (by decide) (by simp) (by omega) r2
    · refine Po.bind g.a1 (ih.a1 (m - 1) (by omega)) (fun _ => Good.ret _) (fun x => Po.ret (R := fun a b y => y = Nd.mk 89 0 [] x ∧ a = b) (fun _ _ => ⟨rfl, rfl⟩)) ?_
      rintro a b c x y h1 h2 h3 ⟨r1, r2⟩ ⟨rfl, rfl⟩ a0 rfl
      exact mkNd (by omega) (by decide) (by decide) (by simp) (by omega) r2
    · refine Po.bind g.a1 (ih.a1 (m - 1) (by omega)) (fun _ => Good.ret _) (fun x => Po.ret (R := fun a b y => y = Nd.mk 88 0 [] x ∧ a = b) (fun _ _ => ⟨rfl, rfl⟩)) ?_
      rintro a b c x y h1 h2 h3 ⟨r1, r2⟩ ⟨rfl, rfl⟩ a0 rfl
      exact mkNd (by omega) (by decide) (by decide) (by simp) (by omega) r2
    · refine Po.bind g.p (ih.p (m - 1) (by omega)) (fun _ => Good.ret _) (fun x => Po.ret (R := fun a b y => y = Nd.mk 90 0 [] [x] ∧ a = b) (fun _ _ => ⟨rfl, rfl⟩)) ?_
      rintro a b c x y h1 h2 h3 ⟨r1, r2⟩ ⟨rfl, rfl⟩ a0 rfl
      exact mkNd (by omega) (by decide) (by decide) (by simp) (by simp only [rowSize]; omega) ⟨r2, trivial⟩
    · refine Po.bind (g.e 1) (ih.e (m - 1) 1 (by omega)) (fun _ => Good.bind (good_exp (by decide)) (fun _ => Good.ret _)) (fun x => Po.bind (good_exp (by decide)) po_exp (fun _ => Good.ret _) (fun _ => Po.ret (R := fun a b y => y = x ∧ a = b) (fun _ _ => ⟨rfl, rfl⟩)) (T := fun a b y => y = x ∧ a ≤ b) ?_) ?_
      · rintro a b c _ y h1 h2 h3 r1 ⟨rfl, rfl⟩
        exact ⟨rfl, h1⟩
      · rintro a b c x y h1 h2 h3 ⟨r1, r2⟩ ⟨rfl, r3⟩ a0 rfl
        exact ⟨by omega, r2⟩
  · refine Po.congr (ifF_at k) ?_
    have gb : ∀ c x : Nd, Good (bindP (fun ts n σ => braceF ts n k σ) (fun y => retP (Nd.mk 83 0 [] [c, x, y]))) := fun c x => Good.bind g.b (fun _ => Good.ret _)
    refine Po.bindL (good_exp (by decide)) lt_exp po_exp (fun _ => Good.bind (g.e 1) (fun c => Good.bind g.b (fun x => Good.bind (good_exp (by decide)) (fun _ => gb c x)))) (R' := fun _ a b t => ∀ a0, a0 + 1 ≤ a → RT a0 b t) (fun _ => ?_) (fun a b c _ y h1 h2 h3 r1 r2 => r2 a r1); refine Po.bind (g.e 1) (ih.e (m - 1) 1 (by omega)) (fun c => Good.bind g.b (fun x => Good.bind (good_exp (by decide)) (fun _ => gb c x))) (R' := fun c a b t => c.wf → ∀ a0, c.size + a0 + 1 ≤ a → RT a0 b t) (fun c => ?_) (fun a b d c y h1 h2 h3 r1 r2 a0 h => r2 r1.2 a0 (by have := r1.1; omega)); refine Po.bind g.b (ih.b (m - 1) (by omega)) (fun x => Good.bind (good_exp (by decide)) (fun _ => gb c x)) (R' := fun x a b t => c.wf → x.wf → ∀ a0, c.size + x.size + a0 + 1 ≤ a → RT a0 b t) (fun x => ?_) (fun a b d x y h1 h2 h3 r1 r2 hc a0 h => r2 hc r1.2 a0 (by have := r1.1; omega)); refine Po.bind (good_exp (by decide)) po_exp (fun _ => gb c x) (R' := fun _ a b t => c.wf → x.wf → ∀ a0, c.size + x.size + a0 + 1 ≤ a → RT a0 b t) (fun _ => ?_) (fun a b d _ y h1 h2 h3 r1 r2 hc hx a0 h => r2 hc hx a0 (by omega)); refine Po.bind g.b (ih.b (m - 1) (by omega)) (fun _ => Good.ret _) (fun y => Po.ret (R := fun a b t => t = Nd.mk 83 0 [] [c, x, y] ∧ a = b) (fun _ _ => ⟨rfl, rfl⟩)) ?_; rintro a b d y t h1 h2 h3 ⟨r1, r2⟩ ⟨rfl, rfl⟩ hc hx a0 h
    exact mkNd (by omega) (by decide) (by decide) (by simp) (by simp only [rowSize]; omega) ⟨hc, hx, r2, trivial⟩
  · refine Po.congr (letF_at k) ?_
    have gb : ∀ (mm : List UInt8) (v : Nd), Good (bindP (fun ts n σ => braceF ts n k σ) (fun y => retP (Nd.mk 84 0 mm [v, y]))) := fun mm v => Good.bind g.b (fun _ => Good.ret _)
    refine Po.bindL (good_exp (by decide)) lt_exp po_exp (fun _ => Good.bind good_name (fun mm => Good.bind (good_exp (by decide)) (fun _ => Good.bind (g.e 1) (fun v => gb mm v)))) (R' := fun _ a b t => ∀ a0, a0 + 1 ≤ a → RT a0 b t) (fun _ => ?_) (fun a b c _ y h1 h2 h3 r1 r2 => r2 a r1); refine Po.bind good_name (po_name hT) (fun mm => Good.bind (good_exp (by decide)) (fun _ => Good.bind (g.e 1) (fun v => gb mm v))) (R' := fun mm a b t => mm.length ≤ 1000000 → ∀ a0, a0 + 1 ≤ a → RT a0 b t) (fun mm => ?_) (fun a b c _ y h1 h2 h3 r1 r2 a0 h => r2 r1.2 a0 (by omega)); refine Po.bind (good_exp (by decide)) po_exp (fun _ => Good.bind (g.e 1) (fun v => gb mm v)) (R' := fun _ a b t => mm.length ≤ 1000000 → ∀ a0, a0 + 1 ≤ a → RT a0 b t) (fun _ => ?_) (fun a b c _ y h1 h2 h3 r1 r2 hm a0 h => r2 hm a0 (by omega)); refine Po.bind (g.e 1) (ih.e (m - 1) 1 (by omega)) (fun v => gb mm v) (R' := fun v a b t => v.wf → mm.length ≤ 1000000 → ∀ a0, v.size + a0 + 1 ≤ a → RT a0 b t) (fun v => ?_) (fun a b c v y h1 h2 h3 r1 r2 hm a0 h => r2 r1.2 hm a0 (by have := r1.1; omega)); refine Po.bind g.b (ih.b (m - 1) (by omega)) (fun _ => Good.ret _) (fun y => Po.ret (R := fun a b t => t = Nd.mk 84 0 mm [v, y] ∧ a = b) (fun _ _ => ⟨rfl, rfl⟩)) ?_; rintro a b d y t h1 h2 h3 ⟨r1, r2⟩ ⟨rfl, rfl⟩ hv hm a0 h
    exact mkNd (by omega) (by decide) (by decide) hm (by simp only [rowSize]; omega) ⟨hv, r2, trivial⟩
  · refine Po.congr (namedF_at k) ?_
    refine Po.bindL good_name lt_name (po_name hT) (fun mm => Good.rd (eqF_nil (by decide)) (fun _ _ => Good.rd (eqF_nil (by decide)) (fun _ _ => Good.ret _) (fun _ _ => Good.bind (g.e 1) (fun _ => Good.bind (g.m _) (fun _ => Good.bind (good_exp (by decide)) (fun _ => Good.ret _))))) (fun _ _ => Good.ret _)) (R' := fun mm a b t => mm.length ≤ 1000000 → ∀ a0, a0 + 1 ≤ a → RT a0 b t) (fun mm => ?_) (fun a b c _ y h1 h2 h3 r1 r2 => r2 r1.2 a r1.1); refine Po.rd (eqF_nil (by decide)) (fun h1 _ _ _ => Po.rd (eqF_nil (by decide)) (fun h2 _ _ _ => Po.ret ?_) (fun _ _ => ?_)) (fun _ _ => Po.ret ?_)
    · rintro a hl a1 rfl a2 rfl hm a0 h
      exact mkNd (by omega) (by decide) (by decide) hm (by simp only [rowSize]; omega) trivial
    · refine Po.bind (g.e 1) (ih.e (m - 1 - 1) 1 (by omega)) (fun _ => Good.bind (g.m _) (fun _ => Good.bind (good_exp (by decide)) (fun _ => Good.ret _))) (R' := fun x a b t => x.wf → mm.length ≤ 1000000 → ∀ a0, x.size + a0 + 1 ≤ a → RT a0 b t) (fun x => ?_) (fun a b c x y h1 h2 h3 r1 r2 a1 ha hm a0 h => r2 r1.2 hm a0 (by have := r1.1; omega))
      refine Po.bind (g.m _) (ih.m (m - 1 - 1) _ (by omega)) (fun _ => Good.bind (good_exp (by decide)) (fun _ => Good.ret _)) (R' := fun l a b t => rowWf l → mm.length ≤ 1000000 → ∀ a0, rowSize l + a0 + 1 ≤ a → RT a0 b t) (fun l => ?_) (fun a b c l y h1 h2 h3 r1 r2 hx hm a0 h => by
       obtain ⟨r3, r4⟩ := r1 ⟨hx, trivial⟩; simp only [rowSize] at r3
       exact r2 r4 hm a0 (by omega))
      refine Po.bind (good_exp (by decide)) po_exp (fun _ => Good.ret _) (fun _ => Po.ret (R := fun a b t => t = Nd.mk 85 0 mm l ∧ a = b) (fun _ _ => ⟨rfl, rfl⟩)) ?_; rintro a b c _ t h1 h2 h3 r1 ⟨rfl, rfl⟩ hl hm a0 h
      exact mkNd (by omega) (by decide) (by decide) hm (by omega) hl
    · rintro a hl hm a0 h
      exact mkNd (by omega) (by decide) (by decide) hm (by simp only [rowSize]; omega) trivial
  · refine Po.congr (args1F_at k) ?_
    refine Po.bindL (good_exp (by decide)) lt_exp po_exp (fun _ => Good.bind (g.e 1) (fun _ => Good.bind (good_exp (by decide)) (fun _ => Good.ret _))) (R' := fun _ a b l => ∀ a0, a0 + 1 ≤ a → RL a0 b l) (fun _ => ?_) (fun a b c _ y h1 h2 h3 r1 r2 => r2 a r1); refine Po.bind (g.e 1) (ih.e (m - 1) 1 (by omega)) (fun _ => Good.bind (good_exp (by decide)) (fun _ => Good.ret _)) (R' := fun x a b l => x.wf → ∀ a0, x.size + a0 + 1 ≤ a → RL a0 b l) (fun x => ?_) (fun a b c x y h1 h2 h3 r1 r2 a0 h => r2 r1.2 a0 (by have := r1.1; omega)); refine Po.bind (good_exp (by decide)) po_exp (fun _ => Good.ret _) (fun _ => Po.ret (R := fun a b t => t = [x] ∧ a = b) (fun _ _ => ⟨rfl, rfl⟩)) ?_; rintro a b c _ t h1 h2 h3 r1 ⟨rfl, rfl⟩ hx a0 h
    exact ⟨by simp only [rowSize]; omega, hx, trivial⟩
  · refine Po.congr (args2F_at k) ?_
    refine Po.bindL (good_exp (by decide)) lt_exp po_exp (fun _ => Good.bind (g.e 1) (fun _ => Good.bind (good_exp (by decide)) (fun _ => Good.bind (g.e 1) (fun _ => Good.bind (good_exp (by decide)) (fun _ => Good.ret _))))) (R' := fun _ a b l => ∀ a0, a0 + 1 ≤ a → RL a0 b l) (fun _ => ?_) (fun a b c _ y h1 h2 h3 r1 r2 => r2 a r1); refine Po.bind (g.e 1) (ih.e (m - 1) 1 (by omega)) (fun _ => Good.bind (good_exp (by decide)) (fun _ => Good.bind (g.e 1) (fun _ => Good.bind (good_exp (by decide)) (fun _ => Good.ret _)))) (R' := fun x a b l => x.wf → ∀ a0, x.size + a0 + 1 ≤ a → RL a0 b l) (fun x => ?_) (fun a b c x y h1 h2 h3 r1 r2 a0 h => r2 r1.2 a0 (by have := r1.1; omega)); refine Po.bind (good_exp (by decide)) po_exp (fun _ => Good.bind (g.e 1) (fun _ => Good.bind (good_exp (by decide)) (fun _ => Good.ret _))) (R' := fun _ a b l => x.wf → ∀ a0, x.size + a0 + 1 ≤ a → RL a0 b l) (fun _ => ?_) (fun a b c _ y h1 h2 h3 r1 r2 hx a0 h => r2 hx a0 (by omega)); refine Po.bind (g.e 1) (ih.e (m - 1) 1 (by omega)) (fun _ => Good.bind (good_exp (by decide)) (fun _ => Good.ret _)) (R' := fun v a b l => x.wf → v.wf → ∀ a0, x.size + v.size + a0 + 1 ≤ a → RL a0 b l) (fun v => ?_) (fun a b c v y h1 h2 h3 r1 r2 hx a0 h => r2 hx r1.2 a0 (by have := r1.1; omega)); refine Po.bind (good_exp (by decide)) po_exp (fun _ => Good.ret _) (fun _ => Po.ret (R := fun a b t => t = [x, v] ∧ a = b) (fun _ _ => ⟨rfl, rfl⟩)) ?_; rintro a b c _ t h1 h2 h3 r1 ⟨rfl, rfl⟩ hx hv a0 h
    exact ⟨by simp only [rowSize]; omega, hx, hv, trivial⟩
  · refine Po.congr (braceF_at k) ?_
    refine Po.bindL (good_exp (by decide)) lt_exp po_exp (fun _ => Good.bind (g.e 1) (fun _ => Good.bind (good_exp (by decide)) (fun _ => Good.ret _))) (R' := fun _ => RT) (fun _ => ?_) (fun a b c _ y h1 h2 h3 r1 r2 => ⟨by have := r2.1; omega, r2.2⟩); refine Po.bind (g.e 1) (ih.e (m - 1) 1 (by omega)) (fun _ => Good.bind (good_exp (by decide)) (fun _ => Good.ret _)) (R' := fun x a b y => y = x ∧ a ≤ b) (fun x => ?_) (fun a b c x y h1 h2 h3 r1 r2 => ⟨by have := r1.1; have := r2.2; rw [r2.1]; omega, by rw [r2.1]; exact r1.2⟩); refine Po.bind (good_exp (by decide)) po_exp (fun _ => Good.ret _) (fun _ => Po.ret (R := fun a b t => t = x ∧ a = b) (fun _ _ => ⟨rfl, rfl⟩)) ?_; rintro a b c _ t h1 h2 h3 r1 ⟨rfl, rfl⟩
    exact ⟨rfl, h1⟩
  · refine Po.congr (moreF_at k acc) ?_
    refine Po.rd (eqF_nil (by decide)) (fun h1 _ _ _ => ?_) (fun _ _ => Po.ret (fun a _ hw => ⟨by omega, hw⟩)); refine Po.bind (g.e 1) (ih.e (m - 1) 1 (by omega)) (fun x => g.m _) (fun x => ih.m (m - 1) (acc ++ [x]) (by omega)) ?_; rintro a b c x y h1 h2 h3 ⟨r1, r2⟩ r3 a0 rfl hw; obtain ⟨r4, r5⟩ := r3 (rowWf_app.2 ⟨hw, r2, trivial⟩); rw [rowSize_snoc] at r4
    exact ⟨by omega, r5⟩
end
end Bk
namespace Bk
open Go
def FewF (f : FD) : Prop := f.name.length ≤ 1000000 ∧ f.params.length ≤ 1000000 ∧ (∀ p ∈ f.params, p.name.length ≤ 1000000) ∧ f.body.size ≤ 1000000 ∧ f.body.wf
def FT (a b : Nat) (f : FD) : Prop := f.name.length ≤ 1000000 ∧ f.params.length + f.body.size + a + 1 ≤ b ∧ (∀ p ∈ f.params, p.name.length ≤ 1000000) ∧ f.body.wf
section
variable {ts : List Tok} {n : Int} {m : Nat}
theorem po_any {α : Type} (p : Pr α) : Po ts n m p (fun _ _ _ => True) := fun _ _ _ _ => trivial
theorem po_fparam (hT : ∀ t ∈ ts, t.text.length ≤ 1000000) : Po ts n m (fun ts n σ => fparamP ts n σ) (fun a b p => a + 1 ≤ b ∧ p.name.length ≤ 1000000) := by
 refine Po.congr (q := bindP (fun ts n σ => listP ts n σ) (fun l => bindP (fun ts n σ => nameP ts n σ) (fun m => retP (⟨m, l⟩ : FP)))) (fun ts n σ => rfl) ?_; refine Po.bind good_list (po_any _) (fun _ => Good.bind good_name (fun _ => Good.ret _)) (R' := fun _ a b p => a + 1 ≤ b ∧ p.name.length ≤ 1000000) (fun l => ?_) (fun a b c _ p h1 h2 h3 _ r => ⟨by omega, r.2⟩); refine Po.bind good_name (po_name hT) (fun _ => Good.ret _) (fun x => Po.ret (R := fun a b t => t = ⟨x, l⟩ ∧ a = b) (fun _ _ => ⟨rfl, rfl⟩)) ?_; rintro a b c x y h1 h2 h3 r1 ⟨rfl, rfl⟩
 exact r1
theorem po_fparams (hT : ∀ t ∈ ts, t.text.length ≤ 1000000) (k : Nat) : ∀ (m : Nat) (acc : List FP), m + 1 ≤ k → Po ts n m (fun ts n σ => fparamsP ts n k acc σ) (fun a b l => (∀ p ∈ acc, p.name.length ≤ 1000000) → l.length + a ≤ b + acc.length ∧ ∀ p ∈ l, p.name.length ≤ 1000000) := by
 induction k with
 | zero => intro m acc h; omega
 | succ k ih =>
  intro m acc h; refine Po.congr (fparams_at k acc) ?_
  have key : ∀ p : FP, (∀ p ∈ acc, p.name.length ≤ 1000000) → p.name.length ≤ 1000000 → ∀ q ∈ acc ++ [p], q.name.length ≤ 1000000 := by
   intro p h1 h2 q hq
   rcases List.mem_append.1 hq with h | h
   · exact h1 q h
   · obtain rfl := List.mem_singleton.1 h; exact h2
  refine Po.bindL good_fparam lt_fparam (po_fparam hT) (fun p => Good.rd (eqF_nil (by decide)) (fun _ _ => good_fparams _ _) (fun _ _ => Good.ret _)) (R' := fun p a b l => (∀ p ∈ acc, p.name.length ≤ 1000000) → p.name.length ≤ 1000000 → l.length + a ≤ b + acc.length + 1 ∧ ∀ p ∈ l, p.name.length ≤ 1000000) (fun p => ?_) (fun a b c p l h1 h2 h3 r1 r2 ha => by
   obtain ⟨r3, r4⟩ := r2 ha r1.2
   exact ⟨by omega, r4⟩)
  refine Po.rd (eqF_nil (by decide)) (fun h1 _ _ _ => ?_) (fun _ _ => Po.ret (fun a _ ha hp => ⟨by simp only [List.length_append, List.length_cons, List.length_nil]; omega, key p ha hp⟩)); refine (ih (m - 1 - 1) (acc ++ [p]) (by omega)).weaken (good_fparams _ _) (fun a b l h1 h2 r a0 ha0 ha hp => ?_); obtain ⟨r3, r4⟩ := r (key p ha hp); simp only [List.length_append, List.length_cons, List.length_nil] at r3
  exact ⟨by omega, r4⟩
theorem po_params (hT : ∀ t ∈ ts, t.text.length ≤ 1000000) (k m : Nat) (h : m + 1 ≤ k) : Po ts n m (paramsC k) (fun a b l => l.length + a ≤ b ∧ ∀ p ∈ l, p.name.length ≤ 1000000) := by
 refine Po.rd (eqF_nil (by decide)) (fun _ _ _ _ => Po.ret (fun a _ a0 h => ⟨by simp only [List.length_nil]; omega, by simp⟩)) (fun _ _ => ?_)
 refine Po.bind (good_fparams k []) (po_fparams hT k m [] h) (fun _ => Good.bind (good_exp (by decide)) (fun _ => Good.ret _)) (R' := fun r a b l => l = r ∧ a ≤ b) (fun r => ?_) (fun a b c r l h1 h2 h3 r1 r2 => by
  obtain ⟨r3, r4⟩ := r1 (by simp); simp only [List.length_nil] at r3; obtain ⟨rfl, r5⟩ := r2
  exact ⟨by omega, r4⟩)
 refine Po.bind (good_exp (by decide)) po_exp (fun _ => Good.ret _) (fun _ => Po.ret (R := fun a b t => t = r ∧ a = b) (fun _ _ => ⟨rfl, rfl⟩)) ?_; rintro a b c _ t h1 h2 h3 r1 ⟨rfl, rfl⟩
 exact ⟨rfl, h1⟩
theorem po_function (hL : ts.length ≤ 1000000) (hT : ∀ t ∈ ts, t.text.length ≤ 1000000) (k m : Nat) (h : 4 * m + 5 ≤ k) : Po ts n m (fun ts n σ => functionP ts n k σ) FT := by
 refine Po.congr (functionP_at k) ?_; have g := good_F k; have p := po_F (n := n) hL hT k
 have g5 : ∀ mm q l, Good (bindP (fun ts n σ => braceF ts n k σ) (fun x => retP (⟨mm, q, l, x⟩ : FD))) := fun _ _ _ => Good.bind g.b (fun _ => Good.ret _)
 have g4 : ∀ mm q, Good (bindP (fun ts n σ => listP ts n σ) (fun l => bindP (fun ts n σ => braceF ts n k σ) (fun x => retP (⟨mm, q, l, x⟩ : FD)))) := fun _ _ => Good.bind good_list (fun _ => g5 _ _ _)
 refine Po.bindL (good_exp (by decide)) lt_exp po_exp (fun _ => Good.bind good_name (fun _ => Good.bind (good_exp (by decide)) (fun _ => Good.bind (good_paramsC k) (fun _ => g4 _ _)))) (R' := fun _ => fun a b f => ∀ a0, a0 + 1 ≤ a → FT a0 b f) (fun _ => ?_) (fun a b c _ y h1 h2 h3 r1 r2 => r2 a r1); refine Po.bind good_name (po_name hT) (fun _ => Good.bind (good_exp (by decide)) (fun _ => Good.bind (good_paramsC k) (fun _ => g4 _ _))) (R' := fun mm a b f => mm.length ≤ 1000000 → ∀ a0, a0 + 1 ≤ a → FT a0 b f) (fun mm => ?_) (fun a b c _ y h1 h2 h3 r1 r2 a0 h => r2 r1.2 a0 (by omega)); refine Po.bind (good_exp (by decide)) po_exp (fun _ => Good.bind (good_paramsC k) (fun _ => g4 _ _)) (R' := fun _ a b f => mm.length ≤ 1000000 → ∀ a0, a0 + 1 ≤ a → FT a0 b f) (fun _ => ?_) (fun a b c _ y h1 h2 h3 r1 r2 hm a0 h => r2 hm a0 (by omega)); refine Po.bind (good_paramsC k) (po_params hT k (m - 1) (by omega)) (fun _ => g4 _ _) (R' := fun q a b f => (∀ p ∈ q, p.name.length ≤ 1000000) → mm.length ≤ 1000000 → ∀ a0, q.length + a0 + 1 ≤ a → FT a0 b f) (fun q => ?_) (fun a b c q y h1 h2 h3 r1 r2 hm a0 h => r2 r1.2 hm a0 (by have := r1.1; omega)); refine Po.bind good_list (po_any _) (fun _ => g5 _ _ _) (R' := fun _ a b f => (∀ p ∈ q, p.name.length ≤ 1000000) → mm.length ≤ 1000000 → ∀ a0, q.length + a0 + 1 ≤ a → FT a0 b f) (fun l => ?_) (fun a b c _ y h1 h2 h3 r1 r2 hq hm a0 h => r2 hq hm a0 (by omega)); refine Po.bind g.b (p.b (m - 1) (by omega)) (fun _ => Good.ret _) (fun x => Po.ret (R := fun a b f => f = (⟨mm, q, l, x⟩ : FD) ∧ a = b) (fun _ _ => ⟨rfl, rfl⟩)) ?_
 rintro a b c x f h1 h2 h3 ⟨r1, r2⟩ ⟨rfl, rfl⟩ hq hm a0 h
 exact ⟨hm, by dsimp only; omega, hq, r2⟩
theorem libP_few (hL : ts.length ≤ 1000000) (hT : ∀ t ∈ ts, t.text.length ≤ 1000000) (k : Nat) : ∀ (acc : List FD) (at_ : List Int) (σ : PS), σ.at_ ≤ ts.length → 4 * mS ts σ + 6 ≤ k → (∀ f ∈ acc, FewF f) → (libP ts n k acc at_ σ).2.err = 0 → (∀ f ∈ (libP ts n k acc at_ σ).1.1, FewF f) ∧ (libP ts n k acc at_ σ).1.1.length + σ.at_ ≤ acc.length + ts.length ∧ ((libP ts n k acc at_ σ).1.2.length + acc.length = at_.length + (libP ts n k acc at_ σ).1.1.length) := by
 induction k with
 | zero => intro acc at_ σ _ h; omega
 | succ k ih =>
  intro acc at_ σ hw hk ha he; rw [libP] at he ⊢
  by_cases hc : σ.err = 0 ∧ σ.at_ < ts.length
  · rw [if_pos hc] at he ⊢
    have l1 := (good_function k).le ts n σ hw; have l2 := libP_le (n := n) k (acc ++ [(functionP ts n k σ).1]) (at_ ++ [(ts.getD σ.at_ Tok.zero).pos]) _ l1.wf; have hm := mS_pos hc; obtain ⟨f1, f2, f3, f4⟩ := po_function (n := n) hL hT k (mS ts σ) (by omega) σ hw (Nat.le_refl _) (l2.ok he); have h2 := l1.wf; dsimp only at f1 f2 f3 f4 h2 l1; have h3 := mS_lt l1 (lt_function k ts n σ hw)
    obtain ⟨r1, r2, r3⟩ := ih (acc ++ [(functionP ts n k σ).1]) (at_ ++ [(ts.getD σ.at_ Tok.zero).pos]) _ l1.wf (by omega) (fun f hf => by
     rcases List.mem_append.1 hf with h | h
     · exact ha f h
     · obtain rfl := List.mem_singleton.1 h
       exact ⟨f1, by omega, f3, by omega, f4⟩) he
    simp only [List.length_append, List.length_cons, List.length_nil] at r2 r3
    exact ⟨r1, by omega, by omega⟩
  · rw [if_neg hc]
    dsimp only
    exact ⟨ha, by omega, by omega⟩
end
end Bk
namespace Bk
open Go Go.RowKit Go.Proofs
attribute [local irreducible] Go.Calls
theorem setS_binF (j : Nat) (h : j < 16) : setS (binMap.take j) (symbol (8 + (j : Int))) (.int .u8 (8 + (j : Int))) = binMap.take (j + 1) := by
 have : j = 0 ∨ j = 1 ∨ j = 2 ∨ j = 3 ∨ j = 4 ∨ j = 5 ∨ j = 6 ∨ j = 7 ∨ j = 8 ∨ j = 9 ∨ j = 10 ∨ j = 11 ∨ j = 12 ∨ j = 13 ∨ j = 14 ∨ j = 15 := by omega
 rcases this with rfl | rfl | rfl | rfl | rfl | rfl | rfl | rfl | rfl | rfl | rfl | rfl | rfl | rfl | rfl | rfl <;> rfl
theorem Syms.ltF {w : World} (h : Syms w) : 0 < w.heap.size := cell_lt (h.sym 0 (by omega))
theorem Errs.ltF {w : World} (h : Errs w) : 6 < w.heap.size := by
 obtain ⟨te, pe, h⟩ := h.ex
 exact cell_lt h
def LibR (w : World) (r : List FD × Int × Int) (e : Ending) (w' : World) : Prop := ∃ la lc, e = .returned (.tuple #[.slice la r.1.length lc, .int .i64 r.2.1, .int .i64 r.2.2]) ∧ FDs (w.heap.size ≤ ·) w' r.1 la ∧ Ext w w'
theorem LibR.ret {w : World} {r : List FD × Int × Int} {e : Ending} {w' : World} (h : LibR w r e w') : ∃ v, e = .returned v := by
 obtain ⟨_, _, h, -⟩ := h
 exact ⟨_, h⟩
theorem libR_mk {w w' : World} {r r' : List FD × Int × Int} {la : Option Addr} {lc : Nat} (h : r = r') (hs : FDs (w.heap.size ≤ ·) w' r'.1 la) (x : Ext w w') : LibR w r (.returned (.tuple #[.slice la r'.1.length lc, .int .i64 r'.2.1, .int .i64 r'.2.2])) w' := by
 subst h; exact ⟨_, _, rfl, hs, x⟩
theorem lexT_off {s : List UInt8} (h : (lexT s).2.2 = 0) : (lexT s).2.1 = 0 := by
 unfold lexT at h ⊢
 split at h
 · cases h
 · rename_i hc
   rw [if_neg hc]
   split at h
   · rfl
   · cases h
theorem libErrFrom_some {lib : List FD} {i : Nat} {e : Int} : ∀ (r : List FD) (j : Nat), libErrFrom lib j r = some (i, e) → i < j + r.length ∧ e ≠ 0 := by
 intro r
 induction r with
 | nil => intro j h; cases h
 | cons f r ih =>
  intro j h; rw [libErrFrom] at h
  split at h
  · rename_i hne
    simp only [Option.some.injEq, Prod.mk.injEq] at h; obtain ⟨rfl, rfl⟩ := h
    exact ⟨by simp only [List.length_cons]; omega, hne⟩
  · obtain ⟨h1, h2⟩ := ih _ h
    exact ⟨by simp only [List.length_cons]; omega, h2⟩
theorem libErr_some {lib : List FD} {i : Nat} {e : Int} (h : libErr lib = some (i, e)) : i < lib.length ∧ e ≠ 0 := by
 have := libErrFrom_some lib 0 h
 exact ⟨by omega, this.2⟩
theorem Valid_v {lib : List FD} {i e : Int} (h : validI lib = (i, e)) (S : Nat → Prop) (a : Option Addr) (c : Nat) (w : World) (hl : LibFew lib) (hs : FDs S w lib a) :
 Calls Tryz.prog 15 #[.slice a lib.length c] w fun r w' => r = .returned (.tuple #[.int .i64 i, .int .i64 e]) ∧ Ext w w' := by
 have := Valid_c lib S a c w hl hs
 rw [h] at this; exact this
def finLib (r : (List FD × List Int) × PS) : List FD × Int × Int :=
 if r.2.err ≠ 0 then ([], r.2.off, r.2.err) else match libErr r.1.1 with
 | some (i, e) => ([], r.1.2.getD i 0, e)
 | none => (r.1.1, 0, 0)
set_option maxRecDepth 100000 in
set_option maxHeartbeats 8000000 in
theorem funParse_c (s : List UInt8) (w : World) (hs : s.length ≤ 1000000) (hS : Syms w) (hE : Errs w) : Calls Tryz.prog 12 #[str s] w (LibR w (parseLib s)) := by
 have X := Ext.refl w; have hg1 := hS.ltF; have hg2 := hE.ltF; have hl1 := lexT_len s
 by_cases he : (lexT s).2.2 = 0
 case neg =>
  have hp : parseLib s = ([], (lexT s).2.1, (lexT s).2.2) := by unfold parseLib; rw [if_pos (show (startP s).2.err ≠ 0 from he)]; rfl
  rw [hp]; clear hp hl1; refine calls_in Tryz.func12 Tryz.ntmps12 rfl rfl ?_
  focus
   refine cS (cA rfl rfl (cA rfl rfl (cA rfl rfl (cN (cM rfl rfl ?_))))); refine cR (by kernel_rfl) rfl (Lex_c _ _ (by omega)) (fun _ _ h => h.ret) rfl ?_; rintro _ w5 ⟨a1, ⟨k2, ⟨⟨⟩, ⟨h3, x4⟩⟩⟩⟩; have z6 := x4.size; replace hS := hS.ext x4; replace hE := hE.ext x4; replace X := X.ext x4; clear x4; refine cM rfl rfl (lw_pure (pur_extract rfl rfl) rfl (lw_pure (pur_extract rfl rfl) rfl (lw_pure (pur_extract rfl rfl) rfl (cA rfl rfl (cA rfl rfl (cA rfl rfl (cT (cw_seq (cS (cM rfl rfl (lw_pure (pur_neq rfl rfl) rfl ?_))))))))))); refine cT ?_; refine cw_yes rfl (by assumption) ?_; refine cS (cM rfl rfl (cM rfl rfl (cA rfl rfl (cA rfl rfl (cA rfl rfl (cT (cw_ret (qw_then_ret (qw_ret3 rfl rfl rfl rfl ?_))))))))); rotate_left 1
  exact libR_mk rfl (Or.inl rfl) X
 have hoff := lexT_off he
 have hst : startP s = (solidT (lexT s).1, ⟨0, 0, 0⟩) := by unfold startP; rw [he, hoff]
 have hp : parseLib s = finLib (libP (solidT (lexT s).1) s.length (fuelP s) [] [] ⟨0, 0, 0⟩) := by
  unfold parseLib
  rw [hst, if_neg (by simp)]
  rfl
 have hsl := start_len s; have hok := solid_ok s; rw [hst] at hsl hok; simp only at hsl hok
 have htx : ∀ t ∈ solidT (lexT s).1, t.text.length ≤ 1000000 := fun t ht => Nat.le_trans (hok t ht).len hs
 have hnm : ∀ t ∈ solidT (lexT s).1, t.kind = 2 → t.text ≠ [] ∧ ∀ x ∈ t.text, digit x = true := fun t ht => (hok t ht).num
 have hfew := libP_few (ts := solidT (lexT s).1) (n := s.length) (by omega) htx (fuelP s) [] [] ⟨0, 0, 0⟩ (Nat.zero_le _) (by have := mS_len (ts := solidT (lexT s).1) (σ := ⟨0, 0, 0⟩); unfold fuelP; omega) (by simp)
 have hfu : 4 * mS (solidT (lexT s).1) ⟨0, 0, 0⟩ + 6 ≤ fuelP s := by have := mS_len (ts := solidT (lexT s).1) (σ := ⟨0, 0, 0⟩); unfold fuelP; omega
 rw [hp]; have HT := Lib.hid htx; have HN := Lib.hid hnm; have HW := Lib.hid hfew; clear hp hst htx hnm hfew hok; refine calls_in Tryz.func12 Tryz.ntmps12 rfl rfl ?_
 focus
  refine cS (cA rfl rfl (cA rfl rfl (cA rfl rfl (cN (cM rfl rfl ?_))))); refine cR (by kernel_rfl) rfl (Lex_c _ _ (by omega)) (fun _ _ h => h.ret) rfl ?_; rintro _ wa5 ⟨aa1, ⟨ka2, ⟨⟨⟩, ⟨ha3, xa4⟩⟩⟩⟩; have za6 := xa4.size; replace hS := hS.ext xa4; replace hE := hE.ext xa4; replace X := X.ext xa4; clear xa4; refine cM rfl rfl (lw_pure (pur_extract rfl rfl) rfl (lw_pure (pur_extract rfl rfl) rfl (lw_pure (pur_extract rfl rfl) rfl (cA rfl rfl (cA rfl rfl (cA rfl rfl (cT (cw_seq (cS (cM rfl rfl (lw_pure (pur_neq rfl rfl) rfl ?_))))))))))); refine cT ?_; refine cw_no rfl (by omega) ?_; refine cw_skip (qw_then (cS (cM rfl rfl ?_))); refine cR (by kernel_rfl) rfl (Solid_c _ _ _ _ _ (by omega) (by assumption) (by intro b h; exact h.2)) (fun _ _ h => h.ret) rfl ?_; rintro _ wa11 ⟨aa7, ⟨ka8, ⟨⟨⟩, ⟨ha9, xa10⟩⟩⟩⟩; have za12 := xa10.size; replace ha3 := ha3.ext xa10; replace hS := hS.ext xa10; replace hE := hE.ext xa10; replace X := X.ext xa10; clear xa10; refine cM rfl rfl (lw_pure (pur_len_s tabOk rfl rfl) rfl (lw_makeMap rfl ?_)); rintro ra13 wa14 rfl ha15 xa16 ha17; have za18 := xa16.size; replace ha9 := ha9.ext xa16; replace ha3 := ha3.ext xa16; replace hS := hS.ext xa16; replace hE := hE.ext xa16; replace X := X.ext xa16; clear xa16; refine lw_pure (pur_build' [_, _, _, _, _, _] tabOk zOk rfl rfl rfl rfl) rfl ?_; (refine lw_alloc' [_, _, _, _, _, _] zOk rfl rfl ?_; intro ba19 wa20 na21); (refine lw_init' [_, _, _, _, _, _] tabOk rfl rfl rfl rfl rfl rfl na21 rfl ?_; clear na21; clear wa20; intro wa22 na21)
  have ha23 := na21.blk; have xa24 := na21.ext; have pa25 := na21.pos; have za26 := na21.size; clear na21; replace ha15 := ha15.ext xa24; replace ha9 := ha9.ext xa24; replace ha3 := ha3.ext xa24; replace hS := hS.ext xa24; replace hE := hE.ext xa24; replace X := X.ext xa24; clear xa24; refine cT (cw_seq (cS ?_)); refine cR (by kernel_rfl) rfl (Operators_c _) (fun _ _ h => h.ret) rfl ?_; rintro _ wa33 ⟨ba27, ⟨ka28, ⟨⟨⟩, ⟨ha29, ⟨ha30, ⟨ha31, xa32⟩⟩⟩⟩⟩⟩; have za34 := xa32.size; replace ha23 := ha23.ext xa32; replace ha15 := ha15.ext xa32; replace ha9 := ha9.ext xa32; replace ha3 := ha3.ext xa32; replace hS := hS.ext xa32; replace hE := hE.ext xa32; replace X := X.ext xa32; clear xa32; refine lw_pure (pur_len_slice tabOk rfl rfl) rfl (cM rfl rfl (cT (cw_block ?_))); rotate_left 1
 generalize hr : wa11.heap.size = r at *
 generalize solidT (lexT s).1 = ts at *
 clear ha3 he hoff hl1; refine cw_loop (ι := Nat) (fun j => [(8, .pointer (some ⟨ba19, 0, none⟩)), (31, .slice (some ⟨ba27, 0, none⟩) 16 ka28), (32, .int .i64 16), (33, .int .i64 j)])
  (fun j w' => j ≤ 16 ∧ MapIs w' r (binMap.take j) ∧ Row w' ⟨ba27, 0, none⟩ ((ops8 16).map (.int .u8 ·)) ∧ Blk w' ba19 [.slice aa7 ts.length ka8, .int .i64 0, .int .i64 s.length, .map (some r), .int .i64 0, .int .i64 0] ∧
   Toks (fun b => wa5.heap.size ≤ b ∧ b < r) w' ts aa7 ∧ Syms w' ∧ Errs w' ∧ Ext w w' ∧ wa33.heap.size ≤ w'.heap.size) (fun j => 16 - j) 0 (by (refine sub_cons rfl ?_; refine sub_cons rfl ?_; refine sub_cons rfl ?_; refine sub_cons rfl ?_; exact sub_nil)) ⟨Nat.zero_le _, ha15, ha31, ha23, ha9, hS, hE, X, Nat.le_refl _⟩ ?_
 clear ha15 ha31 ha23 ha9 hS hE X; rintro j w1 ⟨hj, hM, hrow, hb, hT, hS, hE, X, hz⟩
 by_cases hlt : j < 16
 · have hr1 : Row w1 ⟨ba27, 0 + j * 1, none⟩ [.int .u8 (8 + (j : Int))] := by
    have h1 := hrow.sub j 1
    have e : (((ops8 16).map (.int .u8 ·)).drop j).take 1 = [Value.int .u8 (8 + (j : Int))] := by
     have : j = 0 ∨ j = 1 ∨ j = 2 ∨ j = 3 ∨ j = 4 ∨ j = 5 ∨ j = 6 ∨ j = 7 ∨ j = 8 ∨ j = 9 ∨ j = 10 ∨ j = 11 ∨ j = 12 ∨ j = 13 ∨ j = 14 ∨ j = 15 := by omega
     rcases this with rfl | rfl | rfl | rfl | rfl | rfl | rfl | rfl | rfl | rfl | rfl | rfl | rfl | rfl | rfl | rfl <;> rfl
    rw [e] at h1
    rw [Nat.mul_one]; exact h1
   have hset := setS_binF j hlt
   focus
    refine cS (lw_pure (pur_lss rfl rfl) rfl (cT (cw_seq ?_))); refine cw_yes rfl (by omega) ?_; refine cw_skip (qw_then (cw_seq (cw_block (cS ?_)))); refine lw_pure (pur_indexAddr tabOk rfl rfl rfl rfl (by omega) (by omega)) rfl ?_; refine lw_load_r0 tabOk rfl rfl rfl hr1 rfl rfl (cA rfl rfl (cT ?_)); (refine cw_tdraw (fun wz => Ext w1 wz) 5 (.pure 0 (.pure 1 (.pure 2 (.pure 4 (.fork 3 .tail .none))))) mixed (by kernel_rfl) (panicOk_block (panicOk_then (panicOk_then (panicOk_block (panicOk_then panicOk_body))))) ?_; intro wb1 xb2 _); have qsb3 : (fun wz => Ext w1 wz) wb1 := xb2; simp only at qsb3; have d_hM := hM; have d_hrow := hrow; have d_hb := hb; have d_hT := hT; have d_hS := hS; have d_hE := hE; have d_hr1 := hr1; have zb4 := xb2.size; replace hM := hM.ext xb2; replace hrow := hrow.ext xb2; replace hb := hb.ext xb2; replace hT := hT.ext xb2; replace hS := hS.ext xb2; replace hE := hE.ext xb2; replace X := X.ext xb2; replace hr1 := hr1.ext xb2; clear xb2; refine ⟨qsb3, ?_⟩; refine tw_pure rfl (pur_fieldAddr tabOk rfl rfl rfl) rfl (tw_pure rfl (pur_load tabOk rfl rfl rfl (fun wz hz => Blk.cell (Blk.ext d_hb hz) rfl)) rfl (tw_pure rfl (pur_move rfl) rfl (tw_pure rfl (pur_move rfl) rfl ?_))); refine tw_does rfl (does_call (by kernel_rfl) rfl (arith_Symbol_s _ _ (by omega) (by omega) (by assumption)) (fun _ _ h => ⟨_, h.1⟩)) rfl ?_ (fun _ h => h) tw_none; rintro _ wb6 ⟨⟨⟩, rfl⟩; refine ⟨qsb3, ?_⟩; clear qsb3 d_hM d_hrow d_hb d_hT d_hS d_hE d_hr1; refine tw_tail rfl (lw_mapput tabOk rfl rfl rfl rfl rfl hM ?_)
    rintro wb7 hb8 fb9; have zb10 := fb9.size; clear hM; replace hrow := Row.fr hrow fb9 (by simp only; omega); replace hb := hb.fr fb9 (by omega); replace hT := hT.fr fb9 (by omega); replace hS := hS.fr fb9 (by omega); replace hE := hE.fr fb9 (by omega); replace X := X.fr fb9 (by omega); replace hr1 := Row.fr hr1 fb9 (by simp only; omega); clear fb9; refine lw_nil (qw_block_norm (qw_then (cw_region ?_))); refine lw_pure (pur_add rfl rfl (IntWalk.i64_in _ (by omega))) rfl ?_; refine cM rfl rfl (lw_nil ?_); rotate_left 1
   refine qw_round (j + 1) (by (refine sub_cons rfl ?_; refine sub_cons rfl ?_; refine sub_cons rfl ?_; refine sub_cons rfl ?_; exact sub_nil)) ⟨by omega, by rw [← hset]; assumption, hrow, hb, hT, hS, hE, X, by omega⟩ (by omega)
 · have : j = 16 := by omega
   subst this
   have hPP : PPF ⟨ba19, w1.heap.size, ts, s.length, aa7, ka8, r⟩ ⟨0, 0, 0⟩ w1 := by
    refine ⟨hb, hT.wide (fun b h => ⟨by simp only; omega, by simp only; omega⟩), hM, by simp only; omega, by simp only; omega, by simp only; omega, Nat.le_refl _, Nat.zero_le _, by simp only; omega, HT.out, HN.out, hE, by simp only; omega⟩
   clear hb hT hM hrow hS hE HT HN; have hPP0 := hPP; clear hPP; obtain ⟨c, hc1, hc2, hc3, hc4, hPP⟩ : ∃ c : PCF, c.pb = ba19 ∧ c.B = w1.heap.size ∧ c.ts = ts ∧ c.n = s.length ∧ PPF c ⟨0, 0, 0⟩ w1 := ⟨_, rfl, rfl, rfl, rfl, hPP0⟩; clear hPP0; obtain rfl := hc1; obtain rfl := hc3; rw [← hc4] at HW ⊢
   generalize fuelP s = K at *
   have hcp := hPP.pbB
   focus
    refine cS (lw_pure (pur_lss rfl rfl) rfl (cT (cw_seq ?_))); refine cw_no rfl (by decide) ?_; refine cw_exit (qw_then_exit (qw_then_exit (qw_block_exit (qw_then (cS (cA rfl rfl (cN (cA rfl rfl (cT (cw_seq (cw_block ?_))))))))))); rotate_left 1
   refine cw_loop (ι := Nat × List FD × List Int × (Option Addr × Nat) × (Option Addr × Nat) × PS) (fun y => [(8, .pointer (some ⟨c.pb, 0, none⟩)), (11, .slice y.2.2.2.1.1 y.2.1.length y.2.2.2.1.2), (12, .slice y.2.2.2.2.1.1 y.2.2.1.length y.2.2.2.2.1.2)])
    (fun y w' => PPF c y.2.2.2.2.2 w' ∧ OwnQ intShape w' (fun _ => False) c.B 3 (.slice y.2.2.2.2.1.1 y.2.2.1.length y.2.2.2.2.1.2) y.2.2.1 ∧ OwnQ fdShape w' (fun b => c.B ≤ b ∧ (Value.slice y.2.2.2.2.1.1 y.2.2.1.length y.2.2.2.2.1.2).ownBlock ≠ some b) c.B 51 (.slice y.2.2.2.1.1 y.2.1.length y.2.2.2.1.2) y.2.1 ∧
     (∀ g, (Value.slice y.2.2.2.1.1 y.2.1.length y.2.2.2.1.2).ownBlock = some g → (Value.slice y.2.2.2.2.1.1 y.2.2.1.length y.2.2.2.2.1.2).ownBlock ≠ some g) ∧ Ext w w' ∧ c.B ≤ w'.heap.size ∧ libP c.ts c.n K [] [] ⟨0, 0, 0⟩ = libP c.ts c.n y.1 y.2.1 y.2.2.1 y.2.2.2.2.2 ∧ 4 * mS c.ts y.2.2.2.2.2 + 6 ≤ y.1 ∧ y.2.1.length + mS c.ts y.2.2.2.2.2 ≤ 1000000 ∧ y.2.2.1.length = y.2.1.length) (fun y => y.1) (K, [], [], (none, 0), (none, 0), ⟨0, 0, 0⟩) (by (refine sub_cons rfl ?_; refine sub_cons rfl ?_; refine sub_cons rfl ?_; exact sub_nil))
    ⟨by assumption, OwnQ.nil, OwnQ.nil, (fun g h => nomatch h), X, by omega, rfl, hfu, by have := mS_len (ts := c.ts) (σ := ⟨0, 0, 0⟩); simp only [List.length_nil]; omega, rfl⟩ ?_
   clear hPP X hfu; rintro ⟨k, fs, at_, ⟨fa, fc⟩, ⟨sa, sc⟩, σ⟩ w2 ⟨hP, ho1, ho2, hdis, X, hB, heq, hk, hfl, hal⟩; simp only at hP ho1 ho2 hdis heq hk hfl hal; have HQ := Lib.hid heq; clear heq; refine CW.sub (m := [(8, .pointer (some ⟨c.pb, 0, none⟩)), (11, .slice fa fs.length fc), (12, .slice sa at_.length sc)]) ?_ (by (refine sub_cons rfl ?_; refine sub_cons rfl ?_; refine sub_cons rfl ?_; exact sub_nil))
   have hob1 : ∀ g, (Value.slice sa at_.length sc).ownBlock = some g → c.B ≤ g ∧ g < w2.heap.size := fun g h => ⟨ho1.ge h, ho1.lt h⟩
   have hob2 : ∀ g, (Value.slice fa fs.length fc).ownBlock = some g → c.B ≤ g ∧ g < w2.heap.size := fun g h => ⟨ho2.ge h, ho2.lt h⟩
   have hat := hP.at_
   by_cases hgo : σ.err = 0 ∧ σ.at_ < c.ts.length
   · obtain ⟨hg, hlt⟩ := hgo
     obtain ⟨k, rfl⟩ : ∃ j, k = j + 1 := ⟨k - 1, by omega⟩; have he := HQ.out; rw [libP, if_pos ⟨hg, hlt⟩] at he
     have hpos : (c.ts.getD σ.at_ Tok.zero).pos = c.ts[σ.at_].pos := by simp [List.getElem?_eq_getElem hlt]
     rw [hpos] at he; have HQ := Lib.hid he; obtain ⟨tb, tof, hta, htS, hrow⟩ := hP.toks.get (by omega); have hr : Row w2 ⟨tb, tof + σ.at_ * 3, none⟩ c.ts[σ.at_].cells := hrow σ.at_ _ (List.getElem?_eq_getElem hlt); clear hrow he hpos
     generalize c.ts[σ.at_] = tk at *
     replace ho2 := ho2.ltR
     focus
      refine cw_seq (cS (lw_pure (pur_fieldAddr tabOk rfl rfl rfl) rfl (lw_load_b tabOk rfl rfl rfl (PPF.blk hP) rfl rfl (lw_pure (pur_eql rfl rfl) rfl (cM rfl rfl ?_))))); refine lw_on rfl rfl rfl (gd_tt (by assumption)) ?_; refine lw_pure (pur_fieldAddr tabOk rfl rfl rfl) rfl ?_; refine lw_on rfl rfl rfl (gd_tt (by assumption)) ?_; refine lw_load_b tabOk rfl rfl rfl (PPF.blk hP) rfl rfl ?_; refine lw_on rfl rfl rfl (gd_tt (by assumption)) ?_; refine lw_pure (pur_fieldAddr0 tabOk rfl rfl rfl) rfl ?_; refine lw_on rfl rfl rfl (gd_tt (by assumption)) ?_; refine lw_load_b tabOk rfl rfl rfl (PPF.blk hP) rfl rfl ?_; refine lw_on rfl rfl rfl (gd_tt (by assumption)) ?_; refine lw_pure (pur_len_slice tabOk rfl rfl) rfl ?_; refine lw_on rfl rfl rfl (gd_tt (by assumption)) ?_; refine lw_pure (pur_lss rfl rfl) rfl ?_; refine lw_pure (pur_pick_yes rfl rfl (by assumption)) rfl ?_; refine cT ?_; refine cw_yes rfl (by omega) ?_; refine cw_skip (qw_then (cw_block (cS (cM rfl rfl (lw_pure (pur_fieldAddr0 tabOk rfl rfl rfl) rfl (lw_load_b tabOk rfl rfl rfl (PPF.blk hP) rfl rfl (lw_pure (pur_fieldAddr tabOk rfl rfl rfl) rfl (lw_load_b tabOk rfl rfl rfl (PPF.blk hP) rfl rfl ?_)))))))); refine lw_pure (pur_indexAddr_eq tabOk rfl rfl rfl (by assumption) rfl (by omega) (by omega)) rfl ?_; refine lw_pure (pur_fieldAddr tabOk rfl rfl rfl) rfl (lw_load_r tabOk rfl rfl rfl hr rfl rfl ?_); (refine lw_does (does_slice' [_] tabOk zOk rfl rfl rfl rfl rfl rfl rfl rfl rfl) rfl ?_ (fun _ h => h); rintro _ wd2 ⟨bd1, rfl, nd3, td4⟩)
      clear td4; have hd5 := nd3.blk; have xd6 := nd3.ext; have pd7 := nd3.pos; have zd8 := nd3.size; clear nd3; replace hP := hP.ext xd6; replace ho1 := ho1.ext xd6; replace X := X.ext xd6; replace hr := hr.ext xd6; replace ho2 := ho2.ext xd6; clear xd6; refine lw_appendQ (R := fun _ => False) (sh := intShape) (z := tk.pos) tabOk zOk rfl rfl rfl rfl (by kernel_rfl) rfl rfl rfl (by assumption) (fun _ h => by exact h) (Blk.row (by assumption)) rfl (by omega) (by omega) rfl ?_; rintro gd9 cap'd10 wd11 hd12 hd13 hd14 fd15; have zd16 := fd15.size; replace hd5 := Blk.fr hd5 fd15 (fun e => by have := hob1 _ e; omega); replace hP := PPF.fr hP fd15 (fun k hk => by have := hob1 _ hk; omega); clear ho1; replace X := Ext.fr X fd15 (fun k hk => by have := hob1 _ hk; omega); clear hr; replace ho2 := OwnQ.fr ho2 fd15 (fun k hk => ⟨fun h => h.1.2 hk, fun e => hdis k e hk⟩); clear fd15; refine cA rfl rfl (cT (cw_region (cM rfl rfl ?_))); rotate_left 1
     have hgB : c.B ≤ gd9 := hd12.ge rfl
     have hdis2 : ∀ g, (Value.slice fa fs.length fc).ownBlock = some g → g ≠ gd9 := by
      intro g hg e; subst e
      rcases hd13 with h | h
      · exact hdis g hg h
      · have := hob2 g hg; omega
     have ho3 : OwnQ fdShape wd11 (fun b => c.B ≤ b ∧ b ≠ gd9) c.B 51 (.slice fa fs.length fc) fs := ho2.wide (fun b h => ⟨h.1.1, fun e => by
      subst e
      rcases hd13 with h' | h'
      · exact h.1.2 h'
      · have := h.2; omega⟩)
     clear ho2 hd13
     focus
      refine cR (by kernel_rfl) rfl (function_fw c k σ _ (by assumption) (by omega)) (fun _ _ h => h.ret) rfl ?_; rintro _ we9 ⟨pae1, ⟨pce2, ⟨bae3, ⟨bce4, ⟨⟨⟩, ⟨he5, ⟨he6, ⟨he7, fe8⟩⟩⟩⟩⟩⟩⟩⟩; have ze10 := fe8.size; replace hd12 := OwnQ.fr hd12 fe8 (fun k hk => ⟨fun h => h.elim, fun e => by simp only [Value.ownBlock, Option.some.injEq] at e; (try dsimp only at hk); omega⟩); replace hd5 := hd5.fr fe8 (by omega); clear hP; replace X := X.fr fe8 (by omega); replace ho3 := OwnQ.fr ho3 fe8 (fun k hk => ⟨fun h => by (try dsimp only at hk h); omega, fun e => by have := hob2 _ e; (try dsimp only at hk); omega⟩); clear fe8; (refine lw_does (does_slice' [_, _, _, _, _, _, _] tabOk zOk rfl rfl rfl rfl rfl rfl rfl rfl rfl) rfl ?_ (fun _ h => h); rintro _ we12 ⟨be11, rfl, ne13, te14⟩); clear te14; have he15 := ne13.blk; have xe16 := ne13.ext; have pe17 := ne13.pos; have ze18 := ne13.size; clear ne13; replace he5 := he5.ext xe16; replace he6 := Nd.sits.ext he6 xe16; replace he7 := he7.ext xe16; replace hd12 := hd12.ext xe16; replace hd5 := hd5.ext xe16; replace X := X.ext xe16; replace ho3 := ho3.ext xe16; clear xe16; refine lw_appendQ (R := fun b => c.B ≤ b ∧ b ≠ gd9) (sh := fdShape) (z := (functionP c.ts c.n k σ).1) tabOk zOk rfl rfl rfl rfl (by kernel_rfl) rfl rfl rfl (by assumption) (fun _ h => by exact h) (Blk.row (by assumption)) ⟨_, _, _, _, rfl, FPs.wide (by assumption) (fun b h => ⟨⟨by (try dsimp only at h); omega, by (try dsimp only at h); omega⟩, fun e => by have := hob2 _ e; (try dsimp only at h); omega⟩), Nd.sits.wide (by assumption) (fun b h => ⟨⟨by (try dsimp only at h); omega, by (try dsimp only at h); omega⟩, fun e => by have := hob2 _ e; (try dsimp only at h); omega⟩)⟩ (by omega) (by omega) rfl ?_
      rintro ge19 cap'e20 we21 he22 he23 he24 fe25; have ze26 := fe25.size; replace he15 := Blk.fr he15 fe25 (fun e => by have := hob2 _ e; omega); clear he5 he6; replace he7 := PPF.fr he7 fe25 (fun k hk => by have := hob2 _ hk; omega); replace hd12 := OwnQ.fr hd12 fe25 (fun k hk => ⟨fun h => h.elim, fun e => by simp only [Value.ownBlock, Option.some.injEq] at e; exact hdis2 _ hk e.symm⟩); replace hd5 := Blk.fr hd5 fe25 (fun e => by have := hob2 _ e; omega); replace X := Ext.fr X fe25 (fun k hk => by have := hob2 _ hk; omega); clear ho3 fe25; refine cA rfl rfl (lw_nil (qw_block_norm ?_)); rotate_left 1
     have lf := (good_function k).le c.ts c.n σ hat; have mf := mS_lt lf (lt_function k c.ts c.n σ hat); have mp := mS_pos (ts := c.ts) (σ := σ) ⟨hg, hlt⟩; (try dsimp only at mf); refine qw_round (k, fs ++ [(functionP c.ts c.n k σ).1], at_ ++ [tk.pos], (some ⟨ge19, 0, none⟩, _), (some ⟨gd9, 0, none⟩, _), (functionP c.ts c.n k σ).2) (by (refine sub_cons rfl ?_; refine sub_cons rfl ?_; refine sub_cons rfl ?_; exact sub_nil)) ⟨by assumption, by assumption, OwnQ.wide he22 (fun b h => ⟨h.1, fun e => h.2 (by simpa [Value.ownBlock] using e.symm)⟩), ?_, X, by omega, HQ.out, by simp only; omega, by simp only [List.length_append, List.length_cons, List.length_nil]; omega, by simp only [List.length_append, List.length_cons, List.length_nil]; omega⟩ (by simp only; omega); intro g hg' e; simp only [Value.ownBlock, Option.some.injEq] at hg' e; subst hg'
     rcases he23 with h | h
     · exact hdis2 _ h e.symm
     · omega
   · have he := HQ.out
     have hend := libP_end (ts := c.ts) (n := c.n) (k := k) (acc := fs) (at_ := at_) (σ := σ) (by
      rcases Decidable.em (σ.err = 0) with h | h
      · exact Or.inr (fun h' => hgo ⟨h, h'⟩)
      · exact Or.inl h)
     rw [hend] at he; rw [he] at HW ⊢; have hw := HW.out; clear HQ he HW; simp only at hw; have hfd := ho2.fds (S := fun b => c.B ≤ b) (fun b h => h.1) (fun b h => h); have hel := ho1.els (S := fun b => c.B ≤ b ∧ b < w2.heap.size) (fun b h h' => ⟨h, h'⟩); clear ho1 ho2 hdis hob1 hob2
     by_cases hz : σ.err = 0
     · obtain ⟨hf1, hf2, hf3⟩ := hw hz
       have hf4 : LibFew fs := ⟨by simp only [List.length_nil] at hf2; omega, fun f hf => by
        obtain ⟨k1, k2, k3, k4, k5⟩ := hf1 f hf
        exact ⟨by omega, k2, fun p hp => by have := k3 p hp; omega, k4, k5⟩⟩
       have HL := Lib.hid hf4; have hlen := hf4.len; clear hf1 hf2 hf3 hw hf4
       cases hv : libErr fs with
       | none =>
        have hfin : finLib ((fs, at_), σ) = (fs, 0, 0) := by unfold finLib; rw [if_neg (by simp [hz])]; simp only [hv]
        have hval : validI fs = (-1, 0) := by unfold validI; rw [hv]
        have HV := Lib.hid (Valid_v hval); rw [hfin]; clear hfin hval hv
        focus
         refine cw_seq (cS (lw_pure (pur_fieldAddr tabOk rfl rfl rfl) rfl (lw_load_b tabOk rfl rfl rfl (PPF.blk hP) rfl rfl (lw_pure (pur_eql rfl rfl) rfl (cM rfl rfl ?_))))); refine lw_on rfl rfl rfl (gd_tt (by assumption)) ?_; refine lw_pure (pur_fieldAddr tabOk rfl rfl rfl) rfl ?_; refine lw_on rfl rfl rfl (gd_tt (by assumption)) ?_; refine lw_load_b tabOk rfl rfl rfl (PPF.blk hP) rfl rfl ?_; refine lw_on rfl rfl rfl (gd_tt (by assumption)) ?_; refine lw_pure (pur_fieldAddr0 tabOk rfl rfl rfl) rfl ?_; refine lw_on rfl rfl rfl (gd_tt (by assumption)) ?_; refine lw_load_b tabOk rfl rfl rfl (PPF.blk hP) rfl rfl ?_; refine lw_on rfl rfl rfl (gd_tt (by assumption)) ?_; refine lw_pure (pur_len_slice tabOk rfl rfl) rfl ?_; refine lw_on rfl rfl rfl (gd_tt (by assumption)) ?_; refine lw_pure (pur_lss rfl rfl) rfl ?_; refine lw_pure (pur_pick_yes rfl rfl (by assumption)) rfl ?_; refine cT ?_; refine cw_no rfl (by omega) ?_; refine cw_exit (qw_then_exit (qw_then_exit (qw_block_exit (qw_then (cw_seq (cS (lw_pure (pur_fieldAddr tabOk rfl rfl rfl) rfl (lw_load_b tabOk rfl rfl rfl (PPF.blk hP) rfl rfl (lw_pure (pur_neq rfl rfl) rfl (cT ?_)))))))))); refine cw_no rfl (by omega) ?_; refine cw_skip (qw_then (cw_seq (cS (cM rfl rfl ?_)))); refine cC (by kernel_rfl) rfl (HV.out _ _ _ _ HL.out (by assumption)) rfl ?_; rintro _ wf2 ⟨⟨⟩, xf1⟩; have zf3 := xf1.size; replace hP := hP.ext xf1; replace X := X.ext xf1; replace hfd := hfd.ext xf1; replace hel := hel.ext xf1; clear xf1; refine cM rfl rfl (lw_pure (pur_extract rfl rfl) rfl (lw_pure (pur_extract rfl rfl) rfl (cA rfl rfl (cA rfl rfl (cN (cM rfl rfl (lw_pure (pur_neq rfl rfl) rfl (cT ?_))))))))
         refine cw_no rfl (by decide) ?_; refine cw_skip (qw_then (cS (cM rfl rfl (cA rfl rfl (cA rfl rfl (cA rfl rfl (cT (cw_ret (qw_ret3 rfl rfl rfl rfl ?_))))))))); rotate_left 1
        exact libR_mk (r' := (fs, 0, 0)) rfl (FDs.wide (by assumption) (fun b h => by omega)) X
       | some q =>
        obtain ⟨i, e⟩ := q; obtain ⟨hi, hne⟩ := libErr_some hv
        have hil : i < at_.length := by omega
        have hfin : finLib ((fs, at_), σ) = ([], at_[i], e) := by unfold finLib; rw [if_neg (by simp [hz])]; simp only [hv, List.getD_eq_getElem?_getD, List.getElem?_eq_getElem hil, Option.getD_some]
        have hval : validI fs = ((i : Int), e) := by unfold validI; rw [hv]
        have HV := Lib.hid (Valid_v hval); rw [hfin]; clear hfin hval hv; obtain ⟨gb, go, ⟨⟩, ⟨hg3, hg4⟩, hgk⟩ := Arr.get hel (by omega); have rg := hgk i _ (List.getElem?_eq_getElem hil); clear hel hgk
        generalize at_[i] = ai at *
        focus
         refine cw_seq (cS (lw_pure (pur_fieldAddr tabOk rfl rfl rfl) rfl (lw_load_b tabOk rfl rfl rfl (PPF.blk hP) rfl rfl (lw_pure (pur_eql rfl rfl) rfl (cM rfl rfl ?_))))); refine lw_on rfl rfl rfl (gd_tt (by assumption)) ?_; refine lw_pure (pur_fieldAddr tabOk rfl rfl rfl) rfl ?_; refine lw_on rfl rfl rfl (gd_tt (by assumption)) ?_; refine lw_load_b tabOk rfl rfl rfl (PPF.blk hP) rfl rfl ?_; refine lw_on rfl rfl rfl (gd_tt (by assumption)) ?_; refine lw_pure (pur_fieldAddr0 tabOk rfl rfl rfl) rfl ?_; refine lw_on rfl rfl rfl (gd_tt (by assumption)) ?_; refine lw_load_b tabOk rfl rfl rfl (PPF.blk hP) rfl rfl ?_; refine lw_on rfl rfl rfl (gd_tt (by assumption)) ?_; refine lw_pure (pur_len_slice tabOk rfl rfl) rfl ?_; refine lw_on rfl rfl rfl (gd_tt (by assumption)) ?_; refine lw_pure (pur_lss rfl rfl) rfl ?_; refine lw_pure (pur_pick_yes rfl rfl (by assumption)) rfl ?_; refine cT ?_; refine cw_no rfl (by omega) ?_; refine cw_exit (qw_then_exit (qw_then_exit (qw_block_exit (qw_then (cw_seq (cS (lw_pure (pur_fieldAddr tabOk rfl rfl rfl) rfl (lw_load_b tabOk rfl rfl rfl (PPF.blk hP) rfl rfl (lw_pure (pur_neq rfl rfl) rfl (cT ?_)))))))))); refine cw_no rfl (by omega) ?_; refine cw_skip (qw_then (cw_seq (cS (cM rfl rfl ?_)))); refine cC (by kernel_rfl) rfl (HV.out _ _ _ _ HL.out (by assumption)) rfl ?_; rintro _ wg2 ⟨⟨⟩, xg1⟩; have zg3 := xg1.size; replace hP := hP.ext xg1; replace X := X.ext xg1; replace hfd := hfd.ext xg1; replace rg := rg.ext xg1; clear xg1; refine cM rfl rfl (lw_pure (pur_extract rfl rfl) rfl (lw_pure (pur_extract rfl rfl) rfl (cA rfl rfl (cA rfl rfl (cN (cM rfl rfl (lw_pure (pur_neq rfl rfl) rfl (cT ?_))))))))
         refine cw_yes rfl (by assumption) ?_; refine cw_seq ?_; (refine cw_tdraw (fun wz => Ext wg2 wz) 7 (.pure 0 (.pure 1 (.pure 2 (.pure 3 (.pure 4 (.pure 5 (.pure 6 .tail))))))) mixed (by kernel_rfl) (panicOk_then (panicOk_then panicOk_body)) ?_; intro wg4 xg5 _); have qsg6 : (fun wz => Ext wg2 wz) wg4 := xg5; simp only at qsg6; have d_hP := hP; have d_hfd := hfd; have d_rg := rg; have zg7 := xg5.size; replace hP := hP.ext xg5; replace X := X.ext xg5; replace hfd := hfd.ext xg5; replace rg := rg.ext xg5; clear xg5; refine ⟨qsg6, ?_⟩; refine tw_pure rfl (pur_move rfl) rfl (tw_pure rfl (pur_move rfl) rfl ?_); refine tw_pure rfl (pur_indexAddr tabOk rfl rfl rfl rfl (by omega) (by omega)) rfl ?_; refine tw_pure rfl (pur_load tabOk rfl rfl rfl (fun wz hz => Row.at0 (Row.ext d_rg hz) rfl)) rfl (tw_pure rfl (pur_move rfl) rfl (tw_pure rfl (pur_assign rfl) rfl (tw_pure rfl (pur_assign rfl) rfl ?_))); clear qsg6 d_hP d_hfd d_rg; refine tw_tail rfl (cA rfl rfl (cT (cw_ret (qw_then_ret (qw_ret3 rfl rfl rfl rfl ?_))))); rotate_left 1
        exact libR_mk (r' := ([], ai, e)) rfl (Or.inl rfl) X
     · have hfin : finLib ((fs, at_), σ) = ([], σ.off, σ.err) := by unfold finLib; rw [if_pos hz]
       rw [hfin]
       focus
        refine cw_seq (cS (lw_pure (pur_fieldAddr tabOk rfl rfl rfl) rfl (lw_load_b tabOk rfl rfl rfl (PPF.blk hP) rfl rfl (lw_pure (pur_eql rfl rfl) rfl (cM rfl rfl ?_))))); refine lw_off rfl rfl rfl (gd_tf (by assumption)) rfl ?_; refine lw_off rfl rfl rfl (gd_tf (by assumption)) rfl ?_; refine lw_off rfl rfl rfl (gd_tf (by assumption)) rfl ?_; refine lw_off rfl rfl rfl (gd_tf (by assumption)) rfl ?_; refine lw_off rfl rfl rfl (gd_tf (by assumption)) rfl ?_; refine lw_off rfl rfl rfl (gd_tf (by assumption)) rfl ?_; refine lw_pure (pur_pick_no rfl rfl (by assumption)) rfl ?_; refine cT (cw_cond_f rfl (cw_exit (qw_then_exit (qw_then_exit (qw_block_exit (qw_then (cw_seq (cS (lw_pure (pur_fieldAddr tabOk rfl rfl rfl) rfl (lw_load_b tabOk rfl rfl rfl (PPF.blk hP) rfl rfl (lw_pure (pur_neq rfl rfl) rfl ?_))))))))))); refine cT ?_; refine cw_yes rfl (by assumption) ?_; refine cw_seq ?_; (refine cw_tdraw (fun wz => Ext w2 wz) 6 (.pure 0 (.pure 1 (.pure 2 (.pure 3 (.pure 4 (.pure 5 .tail)))))) mixed (by kernel_rfl) (panicOk_then (panicOk_then panicOk_body)) ?_; intro wh1 xh2 _); have qsh3 : (fun wz => Ext w2 wz) wh1 := xh2; simp only at qsh3; have d_hP := hP; have d_hfd := hfd; have d_hel := hel; have zh4 := xh2.size; replace hP := hP.ext xh2; replace X := X.ext xh2; replace hfd := hfd.ext xh2; replace hel := hel.ext xh2; clear xh2; refine ⟨qsh3, ?_⟩; refine tw_pure rfl (pur_fieldAddr tabOk rfl rfl rfl) rfl (tw_pure rfl (pur_load tabOk rfl rfl rfl (fun wz hz => Blk.cell (Blk.ext (PPF.blk d_hP) hz) rfl)) rfl (tw_pure rfl (pur_fieldAddr tabOk rfl rfl rfl) rfl (tw_pure rfl (pur_load tabOk rfl rfl rfl (fun wz hz => Blk.cell (Blk.ext (PPF.blk d_hP) hz) rfl)) rfl (tw_pure rfl (pur_assign rfl) rfl (tw_pure rfl (pur_assign rfl) rfl ?_)))))
        clear qsh3 d_hP d_hfd d_hel; refine tw_tail rfl (cA rfl rfl (cT (cw_ret (qw_then_ret (qw_ret3 rfl rfl rfl rfl ?_))))); rotate_left 1
       exact libR_mk rfl (Or.inl rfl) X
end Bk
