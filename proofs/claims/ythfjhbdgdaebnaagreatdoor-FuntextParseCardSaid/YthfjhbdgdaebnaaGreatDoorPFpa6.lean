/- Texts that the proofs of FuntextParse need. No condition. (Part 6 of 8.) -/
import Derived.Test.YthfjhbdgdaebnaaGreatDoorPFpa5
set_option linter.unusedSimpArgs false
set_option linter.unusedVariables false
namespace Bk
open Go Go.RowKit Go.Proofs
attribute [local irreducible] Go.Calls
def exS : List UInt8 := [112, 114, 111, 99, 32, 108, 101, 110, 40, 115, 116, 97, 99, 107, 32, 120, 115, 41, 32, 105, 110, 116, 32, 123, 32, 105, 102, 32, 33, 120, 115, 32, 123, 32, 48, 32, 125, 32, 101, 108, 115, 101, 32, 123, 32, 49, 32, 43, 32, 108, 101, 110, 40, 112, 111, 112, 40, 120, 115, 41, 41, 32, 125, 32, 125] ++ [10]
def exF : FD := ⟨[108, 101, 110], [⟨[120, 115], true⟩], false, .mk 83 0 [] [.mk 90 0 [] [.mk 81 0 [120, 115] []], .mk 80 0 [] [], .mk 82 8 [] [.mk 80 1 [] [], .mk 85 0 [108, 101, 110] [.mk 89 0 [] [.mk 81 0 [120, 115] []]]]]⟩
theorem ex_parse : parseLib exS = ([exF], 0, 0) := by kernel_rfl
theorem ex_print : printL [exF] = (exS, 0) := by kernel_rfl
theorem ex_few : LibFew [exF] := ⟨by decide, fun f hf => by
 obtain rfl := List.mem_singleton.1 hf; refine ⟨by decide, by decide, by decide, by decide, ?_⟩
 simp [exF, Nd.wf, rowWf]⟩
set_option maxRecDepth 100000 in
set_option maxHeartbeats 4000000 in
theorem awake36_c (w : World) (ht : TabsF w) (hE : Errs w) : Calls Tryz.prog 5 #[] w fun e w' => e = .returned (.bool true) ∧ Ext w w' := by
 have X := Ext.refl w; have hS : Syms w := ⟨ht.t.sym⟩; have HA := Lib.hid (fun w hS hE => funParse_c exS w (by decide) hS hE); rw [ex_parse] at HA; have HB := Lib.hid (fun (S : Nat → Prop) (a : Option Addr) (c : Nat) (w : World) hs ht => Print_c [exF] S a c w ex_few hs ht); rw [ex_print] at HB; refine calls_in Tryz.func5 Tryz.ntmps5 rfl rfl ?_
 focus
  refine cS (C1 Pa (cN (C1 Pa (cN (C1 Mv ?_))))); refine cR (by kernel_rfl) rfl (HA.out _ (by assumption) (by assumption)) (fun _ _ h => h.ret) rfl ?_; rintro _ w5 ⟨la1, ⟨lc2, ⟨⟨⟩, ⟨h3, x4⟩⟩⟩⟩; have z6 := x4.size; replace ht := ht.ext x4; replace hE := hE.ext x4; replace X := X.ext x4; replace hS := hS.ext x4; clear x4; refine C1 Mv (C1 Px (C1 Px (C1 Px (C1 Pa (C1 Pa (C1 Pa (cT (cw_seq ?_)))))))); rotate_left 1
 have h3' : FDs (w.heap.size ≤ ·) w5 [exF] la1 := h3; have h9 := h3'; obtain ⟨kb, ko, rfl, hkS, hk⟩ := Arr.get h9 (by decide); obtain ⟨pa, pc, ba, bc, hr, -, -⟩ := hk 0 exF rfl; have hr' : Row w5 ⟨kb, ko + 0 * 7, none⟩ [str [108, 101, 110], .slice pa 1 pc, .bool false, .int .u8 83, .int .i64 0, str [], .slice ba 3 bc] := hr; clear hr hk h9 h3 HA
 focus
  refine cS (C1 Mv (C1 V2 (C1 Mv (Gnd (C1 Mv (Gnd (C1 V2 (C1 Qnd (C1 Mv (Gnd (C1 Mv ?_))))))))))); refine Gnd (C1 Pz (Gnd (C1 V2 (C1 Qnd (C1 Mv (Gnd (C1 Mv (Gnd ?_)))))))); refine C1 (pur_indexAddr tabOk rfl rfl rfl rfl (by omega) (by simp only [List.length_cons, List.length_nil]; omega)) ?_; refine Gnd (C1 Pg (Gnd (C1 (Pw hr') (Gnd (C1 V9 (C1 Qnd (C1 Mv (Gnd (C1 Mv (Gnd ?_)))))))))); refine C1 (pur_indexAddr tabOk rfl rfl rfl rfl (by omega) (by simp only [List.length_cons, List.length_nil]; omega)) ?_; refine Gnd (C1 Pf (Gnd (C1 (Pw hr') (C1 Qnd (C1 Mv (lw_on rfl rfl rfl (rfl) (C1 Mv (lw_on rfl rfl rfl (rfl) ?_)))))))); refine C1 (pur_indexAddr tabOk rfl rfl rfl rfl (by omega) (by simp only [List.length_cons, List.length_nil]; omega)) ?_; refine lw_on rfl rfl rfl (rfl) (C1 Pf (lw_on rfl rfl rfl (rfl) (C1 Pg (lw_on rfl rfl rfl (rfl) (C1 (Pw hr') (lw_on rfl rfl rfl (rfl) (C1 V2 (C1 (pur_pick_f rfl rfl rfl) (cT (Wnd (cw_skip ?_))))))))))); refine qw_then (cS (C1 Mv ?_)); refine cC rfl (HB.out _ _ _ _ (by assumption) (by assumption)) ?_; rintro _ wa2 ⟨⟨⟩, xa1⟩; have za3 := xa1.size; replace ht := ht.ext xa1; replace hE := hE.ext xa1; replace X := X.ext xa1; replace hS := hS.ext xa1; replace h3' := FDs.ext h3' xa1; replace hr' := Row.ext hr' xa1; clear xa1; refine C1 Mv (C1 Px (C1 Px (C1 Pa (C1 Pa (cN (C1 Mv (C1 V1 (C1 Mv (Gyd (C1 Mv (Gyd ?_))))))))))); refine C1 Mv (Gyd (C1 V8 (C1 Qyd (C1 Pa (cT (cw_ret (qw_ret1 rfl rfl ?_))))))); rotate_left 1
 exact ⟨rfl, X⟩
end Bk
namespace Bk
open Go Go.RowKit Go.Proofs
attribute [local irreducible] Go.Calls
theorem length_rowSize2 (l : List Nd) : l.length ≤ rowSize l := by
 induction l with
 | nil => simp [rowSize]
 | cons x r ih => have := Nd.size_pos x; simp only [rowSize, List.length_cons]; omega
set_option maxRecDepth 100000 in
set_option maxHeartbeats 1000000 in
theorem Equal_t (N : Nat) : ∀ (t : Nd) (S S' : Nat → Prop) (a a' : Option Addr) (c c' : Nat) (w : World), t.size < N → t.kids.length ≤ 1000000000 → rowSize t.kids ≤ 1000000000 → t.sits S w a → t.sits S' w a' →
 Calls Tryz.prog 35 #[t.val a c, t.val a' c'] w fun e w' => e = .returned (.bool true) ∧ Ext w w' := by
 induction N with
 | zero => intro t S S' a a' c c' w h; omega
 | succ N ih =>
  rintro ⟨k, n, s, l⟩ S S' a a' c c' w hN hM hR hs hs'
  have IH := Lib.hid ih; clear ih
  simp only [Nd.sits] at hs hs'; simp only [Nd.size, Nd.kids] at hN hM hR; simp only [Nd.val, Nd.kind, Nd.num, Nd.name, Nd.kids]; have X := Ext.refl w; refine calls_in Tryz.func35 Tryz.ntmps35 rfl rfl ?_
  focus
   refine cS ?_; (refine lw_box' [_, _, _, _] rfl rfl rfl ?_; intro b1 w2 n3); have h4 := n3.blk; have x5 := n3.ext; have p6 := n3.pos; have z7 := n3.size; clear n3; replace hs := Bk.rowSits.ext hs x5; replace hs' := Bk.rowSits.ext hs' x5; replace X := X.ext x5; clear x5; (refine lw_box' [_, _, _, _] rfl rfl rfl ?_; intro b8 w9 n10); have h11 := n10.blk; have x12 := n10.ext; have p13 := n10.pos; have z14 := n10.size; clear n10; replace h4 := h4.ext x12; replace hs := Bk.rowSits.ext hs x12; replace hs' := Bk.rowSits.ext hs' x12; replace X := X.ext x12; clear x12; refine C1 Pa (cT (cw_seq (cS (C1 Pg (C1 (Pl h4) (C1 Pg (C1 (Pl h11) (C1 V2 (C1 Mv (Gno (C1 Pf ?_))))))))))); refine Gno (C1 (Pl h4) (Gno (C1 Pf (Gno (C1 (Pl h11) (Gno (C1 V2 (C1 Qno (C1 Mv (Gno (C1 Pf ?_))))))))))); refine Gno (C1 (Pl h4) (Gno (C1 Pf (Gno (C1 (Pl h11) (Gno (C1 V9 (C1 Qno (C1 Mv (lw_on rfl rfl rfl (gd_ff (not_not_intro rfl)) (C1 Pf ?_))))))))))); refine lw_on rfl rfl rfl (gd_ff (not_not_intro rfl)) (C1 (Pl h4) (lw_on rfl rfl rfl (gd_ff (not_not_intro rfl)) (C1 Pz (lw_on rfl rfl rfl (gd_ff (not_not_intro rfl)) (C1 Pf (lw_on rfl rfl rfl (gd_ff (not_not_intro rfl)) (C1 (Pl h11) (lw_on rfl rfl rfl (gd_ff (not_not_intro rfl)) (C1 Pz (lw_on rfl rfl rfl (gd_ff (not_not_intro rfl)) (C1 V2 ?_))))))))))); refine C1 (Qn (not_not_intro rfl)) (cT (Wno (cw_skip (qw_then (cw_seq (cS (C1 Pa (cT (cw_block ?_))))))))); rotate_left 1
  refine cw_loop (ι := Nat) (fun j => [(2, .pointer (some ⟨b1, 0, none⟩)), (3, .pointer (some ⟨b8, 0, none⟩)), (5, .int .i64 j)]) (fun j w' => rowSits S w' l a ∧ rowSits S' w' l a' ∧ Ext w w' ∧ Blk w' b1 [.int .u8 k, .int .i64 n, str s, .slice a l.length c] ∧ Blk w' b8 [.int .u8 k, .int .i64 n, str s, .slice a' l.length c'] ∧ j ≤ l.length) (fun j => l.length - j) 0 (by (refine sub_cons rfl ?_; refine sub_cons rfl ?_; refine sub_cons rfl ?_; exact sub_nil)) ⟨hs, hs', X, h4, h11, Nat.zero_le _⟩ ?_; rintro j w1 ⟨hs, hs', X, hb, hb', hj⟩; clear h4 h11
  by_cases hlt : j < l.length
  · obtain ⟨kb, ko, rfl, hkS, hkid⟩ := kidRows hs (by intro e; subst e; simp at hlt)
    obtain ⟨kb', ko', rfl, hkS', hkid'⟩ := kidRows hs' (by intro e; subst e; simp at hlt); obtain ⟨xa, xc, rx, sx⟩ := hkid j l[j] (List.getElem?_eq_getElem hlt); obtain ⟨ya, yc, ry, sy⟩ := hkid' j l[j] (List.getElem?_eq_getElem hlt); have hsz := size_mem (List.getElem_mem hlt)
    have hsz2 : l[j].size = 1 + rowSize l[j].kids := by cases l[j]; simp [Nd.size, Nd.kids]
    have hln := length_rowSize2 l[j].kids; clear hkid hkid'
    generalize l[j] = x at *
    focus
     refine cw_seq (cS (C1 Mv (C1 Pf (C1 (Pl hb) (C1 Pz (C1 V3 (cT (Wyo (cw_skip (qw_then (cw_seq ?_))))))))))); refine cw_block (cw_seq ?_); (refine cw_tdraw (fun wz => Ext w1 wz) 10 (.pure 0 (.pure 1 (.pure 2 (.pure 3 (.pure 4 (.pure 5 (.pure 6 (.pure 7 (.pure 8 (.pure 9 .tail)))))))))) mixed (by kernel_rfl) (panicOk_then (panicOk_block (panicOk_then (panicOk_then (panicOk_block (panicOk_then panicOk_body)))))) ?_; intro wa1 xa2 _); have qsa3 : (fun wz => Ext w1 wz) wa1 := xa2; simp only at qsa3; have d_hs := hs; have d_hb := hb; have d_hs' := hs'; have d_hb' := hb'; have d_rx := rx; have d_sx := sx; have d_ry := ry; have d_sy := sy; have za4 := xa2.size; replace X := X.ext xa2; replace hs := Bk.rowSits.ext hs xa2; replace hb := hb.ext xa2; replace hs' := Bk.rowSits.ext hs' xa2; replace hb' := Blk.ext hb' xa2; replace rx := rx.ext xa2; replace sx := Nd.sits.ext sx xa2; replace ry := ry.ext xa2; replace sy := Nd.sits.ext sy xa2; clear xa2; refine ⟨qsa3, ?_⟩; refine Tq rfl Pf (Tq rfl (Db d_hb) (Tq rfl Mv (Tq rfl Pi (Tq rfl (pur_loads' tabOk rfl rfl rfl (fun wz hz => (Row.ext d_rx hz)) rfl) (Tq rfl Pf (Tq rfl (pur_load tabOk rfl rfl rfl (fun wz hz => Blk.cell (Blk.ext d_hb' hz) rfl)) (Tq rfl Mv (Tq rfl Pi (Tq rfl (pur_loads' tabOk rfl rfl rfl (fun wz hz => (Row.ext d_ry hz)) rfl) ?_))))))))); clear qsa3 d_hs d_hb d_hs' d_hb' d_rx d_sx d_ry d_sy; refine tw_tail rfl ?_; refine cC rfl (IH.out x S S' _ _ _ _ _ (by omega) (by omega) (by omega) (by assumption) (by assumption)) ?_; rintro _ wa6 ⟨⟨⟩, xa5⟩
     have za7 := xa5.size; replace X := X.ext xa5; replace hs := Bk.rowSits.ext hs xa5; replace hb := hb.ext xa5; replace hs' := Bk.rowSits.ext hs' xa5; replace hb' := Blk.ext hb' xa5; replace rx := rx.ext xa5; replace sx := Nd.sits.ext sx xa5; replace ry := ry.ext xa5; replace sy := Nd.sits.ext sy xa5; clear xa5; refine C1 Pt (cT (cw_cond_f rfl (cw_skip (qw_block_norm (qw_then (cw_region (C1 Mv (C1 V7 (C1 Pa (lw_nil ?_)))))))))); rotate_left 1
    exact qw_round (j + 1) (by (refine sub_cons rfl ?_; refine sub_cons rfl ?_; refine sub_cons rfl ?_; exact sub_nil)) ⟨hs, hs', X, hb, hb', by omega⟩ (by omega)
  · focus
     refine cw_seq (cS (C1 Mv (C1 Pf (C1 (Pl hb) (C1 Pz (C1 V3 (cT (Wno (cw_exit (qw_then_exit (qw_then_exit ?_))))))))))); refine qw_block_exit (qw_then (cS (C1 Pa (cT (cw_ret (qw_ret1 rfl rfl ?_)))))); rotate_left 1
    exact ⟨rfl, X⟩
end Bk
namespace Bk
open Go Go.RowKit Go.Proofs
theorem fp_fields : (Tryz.prog.fieldsOf 52).toList.map (fun f => (f.name == "_", f.type, f.offset)) = [(false, 9, 0), (false, 4, 1)] := by kernel_rfl
theorem fp_under : Tryz.prog.underlying 52 = some (.struct (Tryz.prog.fieldsOf 52)) := by kernel_rfl
theorem fp_stood : Tryz.prog.stoodInHeld 52 = false := by kernel_rfl
theorem fp_guard : Tryz.prog.eqGuardType Tryz.prog.depth 52 = false := by kernel_rfl
theorem eqFields_same {P : Program} {d : Nat} {xs : Array Value} {w : World} : ∀ (fs : List Field), (∀ f ∈ fs, ∃ v, (part f.type xs f.offset).run P w = .ok v w ∧ (Op.equalIn d f.type v v).run P w = .ok true w) → (Op.eqFields d xs xs fs).run P w = .ok true w
 | [], _ => by simp [Op.eqFields]
 | f :: fs, h => by
  obtain ⟨v, h1, h2⟩ := h f List.mem_cons_self; have ih := eqFields_same (P := P) (d := d) (xs := xs) (w := w) fs (fun g hg => h g (List.mem_cons_of_mem _ hg))
  unfold Op.eqFields
  split
  · simp only [Sem.run_bind, h1, h2, Result.andThen_ok, Bool.not_true, Bool.false_eq_true, if_false, ih]
  · exact ih
theorem run_part {P : Program} {tab : Tab} {t sz off : Nat} {s : Sk} {cs : List Value} {v : Value} (T : TabOk P tab) (ht : lookT tab t = some (s, sz)) (hs : s.agg = false) (hv : cs[off]? = some v) (w : World) : (part t cs.toArray off).run P w = .ok v w := by
 simp [part, Sem.run_bind, run_isAgg (T _ _ _ ht), hs, Result.andThen, hv]
theorem run_fp_same (v : FP) (w : World) : (Op.equalIn 10000 52 v.val v.val).run Tryz.prog w = .ok true w := by
 rw [show (10000 : Nat) = 9999 + 1 from rfl, run_equalIn_agg w 9999 _ _ _ fp_under fp_stood]; refine eqFields_same _ (fun f hf => ?_); have hm : (f.name == "_", f.type, f.offset) ∈ (Tryz.prog.fieldsOf 52).toList.map (fun f => (f.name == "_", f.type, f.offset)) := List.mem_map.2 ⟨f, hf, rfl⟩; rw [fp_fields] at hm; simp only [List.mem_cons, List.not_mem_nil, or_false, Prod.mk.injEq] at hm
 rcases hm with ⟨-, h1, h2⟩ | ⟨-, h1, h2⟩
 · rw [h1, h2]
   refine ⟨str v.name, run_part (cs := v.cells) tabOk rfl rfl rfl w, ?_⟩
   rw [run_equalIn_string w 9998 _ _ _ (show Tryz.prog.underlying 9 = some .string from (tabOk 9 .str 1 rfl).under)]; simp
 · rw [h1, h2]
   refine ⟨.bool v.list, run_part (cs := v.cells) tabOk rfl rfl rfl w, ?_⟩; have hu : Tryz.prog.underlying 4 = some .bool := (tabOk 4 .bool 1 rfl).under
   unfold Op.equalIn
   simp [run_underlying hu, Result.andThen]
theorem pur_fpneq {n : Nat} {l : Sl} {S : World → Prop} {ty t' : TypeId} {x y : Operand} {v : FP} (hx : ev l x = some v.val) (hy : ev l y = some v.val) : Pur Tryz.prog n l S (.binOp .neq 52 x y t') ty (.bool false) := by
 unfold Pur
 intro a w dst pos after g ha _; have e1 := run_eqGuard_agg (P := Tryz.prog) w .neq 52 x y v.cells.toArray v.cells.toArray fp_guard
 have e2 : (binOp .neq 52 v.val v.val).run Tryz.prog w = .ok (.bool false) w := by
  rw [run_neq_struct, run_fp_same]; rfl
 simp only [execOp, ha.ev hx, ha.ev hy, Sem.run_bind, e1, e2, Result.andThen_ok, Sem.run_pure]
end Bk
namespace Bk
open Go Go.RowKit Go.Proofs
attribute [local irreducible] Go.Calls
theorem kids_size36 (t : Nd) : t.kids.length ≤ t.size ∧ rowSize t.kids ≤ t.size := by
 obtain ⟨k, n, s, l⟩ := t; have := length_rowSize2 l
 show l.length ≤ 1 + rowSize l ∧ rowSize l ≤ 1 + rowSize l
 omega
set_option maxRecDepth 100000 in
set_option maxHeartbeats 8000000 in
theorem same36_t (lib : List FD) (S S' : Nat → Prop) (a a' : Option Addr) (c c' : Nat) (w : World) (hl : lib.length ≤ 1000000) (hf : ∀ f ∈ lib, f.params.length ≤ 1000000 ∧ f.body.size ≤ 1000000) (hs : FDs S w lib a) (hs' : FDs S' w lib a') :
 Calls Tryz.prog 12 #[.slice a lib.length c, .slice a' lib.length c'] w fun e w' => e = .returned (.bool true) ∧ Ext w w' := by
 have X := Ext.refl w; replace hs := hs.ltA; replace hs' := hs'.ltA; have HF := Lib.hid hf; clear hf; refine calls_in Tryz.func12 Tryz.ntmps12 rfl rfl ?_
 focus
  refine cS (C1 Pa (cT (cw_seq (cS (C1 Mv (C1 Pz (C1 Mv (C1 Pz (C1 V2 (cT (Wno ?_))))))))))); refine cw_skip (qw_then (cw_seq (cS (C1 Pa (cT (cw_block ?_)))))); rotate_left 1
 refine cw_loop (ι := Nat) (fun j => [(0, .slice a lib.length c), (1, .slice a' lib.length c'), (5, .int .i64 j)]) (fun j w' => FDs (· < w.heap.size) w' lib a ∧ FDs (· < w.heap.size) w' lib a' ∧ Ext w w' ∧ j ≤ lib.length) (fun j => lib.length - j) 0 (by (refine sub_cons rfl ?_; refine sub_cons rfl ?_; refine sub_cons rfl ?_; exact sub_nil)) ⟨hs, hs', X, Nat.zero_le _⟩ ?_; clear hs hs' X; rintro j w1 ⟨hs, hs', X, hj⟩
 by_cases hlt : j < lib.length
 · have hs2 := hs
   have hs3 := hs'; obtain ⟨kb, ko, ⟨⟩, hkS, hk⟩ := Arr.get hs2 (by omega); obtain ⟨qb, qo, ⟨⟩, hqS, hq⟩ := Arr.get hs3 (by omega); obtain ⟨pa, pc, ba, bc, hr, h1, h2⟩ := hk j lib[j] (List.getElem?_eq_getElem hlt); obtain ⟨pa', pc', ba', bc', hr', h1', h2'⟩ := hq j lib[j] (List.getElem?_eq_getElem hlt); obtain ⟨f1, f2⟩ := HF.out _ (List.getElem_mem hlt); clear hk hq hs2 hs3; have g1 := kids_size36 lib[j].body; have HE := Lib.hid (fun (S S' : Nat → Prop) (a a' : Option Addr) (c c' : Nat) (w : World) => Equal_t (lib[j].body.size + 1) lib[j].body S S' a a' c c' w (by omega) (by omega) (by omega)); clear g1
   generalize lib[j] = x at *
   simp only [FD.cells] at hr hr'
   focus
    refine cw_seq (cS (C1 Mv (C1 Mv (C1 Pz (C1 V3 (cT (Wyo (cw_skip (qw_then (cw_seq (cw_block ?_))))))))))); refine cw_seq (cw_seq ?_); (refine cw_tdraw (fun wz => Ext w1 wz) 50 (.pure 0 (.pure 1 (.pure 2 (.pure 3 (.pure 4 (.pure 5 (.pure 6 (.pure 7 (.pure 8 (.pure 9 (.pure 10 (.pure 11 (.pure 12 (.pure 13 (.pure 14 (.pure 15 (.pure 16 (.pure 17 (.pure 18 (.pure 19 (.pure 20 (.pure 21 (.pure 22 (.pure 23 (.pure 24 (.pure 25 (.pure 26 (.pure 27 (.pure 28 (.pure 29 (.pure 30 (.pure 31 (.pure 32 (.pure 33 (.pure 34 (.pure 35 (.pure 36 (.pure 37 (.pure 38 (.pure 39 (.pure 40 (.pure 41 (.pure 42 (.pure 43 (.pure 44 (.pure 45 (.pure 46 (.pure 47 (.pure 48 (.pure 49 .tail)))))))))))))))))))))))))))))))))))))))))))))))))) mixed (by kernel_rfl) (panicOk_then (panicOk_then (panicOk_block (panicOk_then (panicOk_then (panicOk_block (panicOk_then panicOk_body))))))) ?_; intro wa1 xa2 _); have qsa3 : (fun wz => Ext w1 wz) wa1 := xa2; simp only at qsa3; have d_hs := hs; have d_hs' := hs'; have d_hr := hr; have d_h1 := h1; have d_h2 := h2; have d_hr' := hr'; have d_h1' := h1'; have d_h2' := h2'; have za4 := xa2.size; replace X := X.ext xa2; replace hs := hs.ext xa2; replace hs' := FDs.ext hs' xa2; replace hr := hr.ext xa2; replace h1 := h1.ext xa2; replace h2 := Nd.sits.ext h2 xa2; replace hr' := Row.ext hr' xa2; replace h1' := FPs.ext h1' xa2; replace h2' := Nd.sits.ext h2' xa2; clear xa2; refine ⟨qsa3, ?_⟩; refine Tq rfl Mv (Tq rfl Mv (Tq rfl Pi (Tq rfl Pg (Tq rfl (pur_load tabOk rfl rfl rfl (fun wz hz => Row.at0 (Row.ext d_hr hz) rfl)) (Tq rfl Mv (Tq rfl Mv (Tq rfl Pi (Tq rfl Pg (Tq rfl (pur_load tabOk rfl rfl rfl (fun wz hz => Row.at0 (Row.ext d_hr' hz) rfl)) (Tq rfl V9 (Tq rfl Mv ?_)))))))))))
    refine tw_on rfl rfl rfl rfl (gd_ff (not_not_intro rfl)) (pur_move rfl) rfl (tw_on rfl rfl rfl rfl (gd_ff (not_not_intro rfl)) (pur_move rfl) rfl ?_); refine tw_on rfl rfl rfl rfl (gd_ff (not_not_intro rfl)) (pur_indexAddr tabOk rfl rfl rfl rfl (by omega) (by omega)) rfl ?_; refine tw_on rfl rfl rfl rfl (gd_ff (not_not_intro rfl)) (pur_fieldAddr tabOk rfl rfl rfl) rfl (tw_on rfl rfl rfl rfl (gd_ff (not_not_intro rfl)) (pur_load tabOk rfl rfl rfl (fun wz hz => Row.at (Row.ext d_hr hz) rfl)) rfl (tw_on rfl rfl rfl rfl (gd_ff (not_not_intro rfl)) (pur_move rfl) rfl (tw_on rfl rfl rfl rfl (gd_ff (not_not_intro rfl)) (pur_move rfl) rfl ?_))); refine tw_on rfl rfl rfl rfl (gd_ff (not_not_intro rfl)) (pur_indexAddr tabOk rfl rfl rfl rfl (by omega) (by omega)) rfl ?_; refine tw_on rfl rfl rfl rfl (gd_ff (not_not_intro rfl)) (pur_fieldAddr tabOk rfl rfl rfl) rfl (tw_on rfl rfl rfl rfl (gd_ff (not_not_intro rfl)) (pur_load tabOk rfl rfl rfl (fun wz hz => Row.at (Row.ext d_hr' hz) rfl)) rfl (tw_on rfl rfl rfl rfl (gd_ff (not_not_intro rfl)) (pur_bneqF tabOk rfl rfl rfl) rfl (Tq rfl (Qn (not_not_intro rfl)) (Tq rfl Mv (tw_on rfl rfl rfl rfl (gd_ff (not_not_intro rfl)) (pur_move rfl) rfl (tw_on rfl rfl rfl rfl (gd_ff (not_not_intro rfl)) (pur_move rfl) rfl ?_)))))); refine tw_on rfl rfl rfl rfl (gd_ff (not_not_intro rfl)) (pur_indexAddr tabOk rfl rfl rfl rfl (by omega) (by omega)) rfl ?_; refine tw_on rfl rfl rfl rfl (gd_ff (not_not_intro rfl)) (pur_fieldAddr tabOk rfl rfl rfl) rfl (tw_on rfl rfl rfl rfl (gd_ff (not_not_intro rfl)) (pur_load tabOk rfl rfl rfl (fun wz hz => Row.at (Row.ext d_hr hz) rfl)) rfl (tw_on rfl rfl rfl rfl (gd_ff (not_not_intro rfl)) (pur_len_slice tabOk rfl rfl) rfl (tw_on rfl rfl rfl rfl (gd_ff (not_not_intro rfl)) (pur_move rfl) rfl (tw_on rfl rfl rfl rfl (gd_ff (not_not_intro rfl)) (pur_move rfl) rfl ?_))))
    refine tw_on rfl rfl rfl rfl (gd_ff (not_not_intro rfl)) (pur_indexAddr tabOk rfl rfl rfl rfl (by omega) (by omega)) rfl ?_; refine tw_on rfl rfl rfl rfl (gd_ff (not_not_intro rfl)) (pur_fieldAddr tabOk rfl rfl rfl) rfl (tw_on rfl rfl rfl rfl (gd_ff (not_not_intro rfl)) (pur_load tabOk rfl rfl rfl (fun wz hz => Row.at (Row.ext d_hr' hz) rfl)) rfl (tw_on rfl rfl rfl rfl (gd_ff (not_not_intro rfl)) (pur_len_slice tabOk rfl rfl) rfl (tw_on rfl rfl rfl rfl (gd_ff (not_not_intro rfl)) (pur_neq rfl rfl) rfl (Tq rfl (Qn (not_not_intro rfl)) (Tq rfl Mv ?_))))); refine tw_on rfl rfl rfl rfl (gd_ff (by omega)) (pur_move rfl) rfl ?_; refine tw_on rfl rfl rfl rfl (gd_ff (by omega)) (pur_move rfl) rfl ?_; refine tw_on rfl rfl rfl rfl (gd_ff (by omega)) (pur_indexAddr tabOk rfl rfl rfl rfl (by omega) (by omega)) rfl ?_; refine tw_on rfl rfl rfl rfl (gd_ff (by omega)) (pur_fieldAddr tabOk rfl rfl rfl) rfl ?_; refine tw_on rfl rfl rfl rfl (gd_ff (by omega)) (pur_loads_row' [_, _, _, _] tabOk rfl rfl rfl (fun wz hz => (Row.ext d_hr hz)) rfl rfl) rfl ?_; refine tw_on rfl rfl rfl rfl (gd_ff (by omega)) (pur_move rfl) rfl ?_; refine tw_on rfl rfl rfl rfl (gd_ff (by omega)) (pur_move rfl) rfl ?_; refine tw_on rfl rfl rfl rfl (gd_ff (by omega)) (pur_indexAddr tabOk rfl rfl rfl rfl (by omega) (by omega)) rfl ?_; refine tw_on rfl rfl rfl rfl (gd_ff (by omega)) (pur_fieldAddr tabOk rfl rfl rfl) rfl ?_; refine tw_on rfl rfl rfl rfl (gd_ff (by omega)) (pur_loads_row' [_, _, _, _] tabOk rfl rfl rfl (fun wz hz => (Row.ext d_hr' hz)) rfl rfl) rfl ?_
    clear qsa3 d_hs d_hs' d_hr d_h1 d_h2 d_hr' d_h1' d_h2'; refine tw_tail rfl (Gno ?_); refine cC rfl (HE.out _ _ _ _ _ _ _ (by assumption) (by assumption)) ?_; rintro _ wa6 ⟨⟨⟩, xa5⟩; have za7 := xa5.size; replace X := X.ext xa5; replace hs := hs.ext xa5; replace hs' := FDs.ext hs' xa5; replace hr := hr.ext xa5; replace h1 := h1.ext xa5; replace h2 := Nd.sits.ext h2 xa5; replace hr' := Row.ext hr' xa5; replace h1' := FPs.ext h1' xa5; replace h2' := Nd.sits.ext h2' xa5; clear xa5; refine Gno (C1 Pt (C1 Qno (cT (cw_cond_f rfl (cw_skip (qw_then (cS (C1 Pa (cT (cw_block ?_)))))))))); rotate_left 1
   refine cw_loop (ι := Nat) (fun i => [(0, .slice (some ⟨kb, ko, none⟩) lib.length c), (1, .slice (some ⟨qb, qo, none⟩) lib.length c'), (5, .int .i64 j), (6, .int .i64 i)])
    (fun i w' => FDs (· < w.heap.size) w' lib (some ⟨kb, ko, none⟩) ∧ FDs (· < w.heap.size) w' lib (some ⟨qb, qo, none⟩) ∧ Row w' ⟨kb, ko + j * 7, none⟩ [str x.name, .slice pa x.params.length pc, .bool x.list, .int .u8 x.body.kind, .int .i64 x.body.num, str x.body.name, .slice ba x.body.kids.length bc] ∧ Row w' ⟨qb, qo + j * 7, none⟩ [str x.name, .slice pa' x.params.length pc', .bool x.list, .int .u8 x.body.kind, .int .i64 x.body.num, str x.body.name, .slice ba' x.body.kids.length bc'] ∧ FPs (· < w.heap.size) w' x.params pa ∧ FPs (· < w.heap.size) w' x.params pa' ∧ Ext w w' ∧ i ≤ x.params.length) (fun i => x.params.length - i) 0 (by (refine sub_cons rfl ?_; refine sub_cons rfl ?_; refine sub_cons rfl ?_; refine sub_cons rfl ?_; exact sub_nil)) ⟨hs, hs', hr, hr', h1, h1', X, Nat.zero_le _⟩ ?_
   clear hs hs' hr hr' h1 h1' h2 h2' X; rintro i w2 ⟨hs, hs', hr, hr', h1, h1', X, hi⟩
   by_cases hit : i < x.params.length
   · have g1 := h1
     have g2 := h1'; obtain ⟨ub, uo, rfl, huS, hu⟩ := Arr.get g1 (by omega); obtain ⟨vb, vo, rfl, hvS, hv⟩ := Arr.get g2 (by omega); have r1 : Row w2 ⟨ub, uo + i * 2, none⟩ x.params[i].cells := hu i _ (List.getElem?_eq_getElem hit); have r2 : Row w2 ⟨vb, vo + i * 2, none⟩ x.params[i].cells := hv i _ (List.getElem?_eq_getElem hit); clear hu hv g1 g2
     generalize x.params[i] = y at *
     focus
      refine cw_seq (cS (C1 Mv (C1 Mv (C1 Mv (C1 Pi (C1 Pf (C1 (Pw hr) (C1 Pz (C1 V3 (cT (Wyo ?_))))))))))); refine cw_skip (qw_then (cw_seq (cw_block (cw_seq ?_)))); (refine cw_tdraw (fun wz => Ext w2 wz) 16 (.pure 0 (.pure 1 (.pure 2 (.pure 3 (.pure 4 (.pure 5 (.pure 6 (.pure 7 (.pure 8 (.pure 9 (.pure 10 (.pure 11 (.pure 12 (.pure 13 (.pure 14 (.pure 15 .tail)))))))))))))))) mixed (by kernel_rfl) (panicOk_then (panicOk_block (panicOk_then (panicOk_then (panicOk_block (panicOk_block (panicOk_then (panicOk_then (panicOk_block (panicOk_then panicOk_body)))))))))) ?_; intro wb1 xb2 _); have qsb3 : (fun wz => Ext w2 wz) wb1 := xb2; simp only at qsb3; have d_hs := hs; have d_hs' := hs'; have d_hr := hr; have d_h1 := h1; have d_hr' := hr'; have d_h1' := h1'; have d_r1 := r1; have d_r2 := r2; have zb4 := xb2.size; replace hs := hs.ext xb2; replace hs' := FDs.ext hs' xb2; replace X := X.ext xb2; replace hr := hr.ext xb2; replace h1 := h1.ext xb2; replace hr' := Row.ext hr' xb2; replace h1' := FPs.ext h1' xb2; replace r1 := r1.ext xb2; replace r2 := r2.ext xb2; clear xb2; refine ⟨qsb3, ?_⟩; refine Tq rfl Mv (Tq rfl Mv (Tq rfl Pi (Tq rfl Pf (Tq rfl (Dr d_hr) (Tq rfl Mv (Tq rfl Pi (Tq rfl (pur_loads' tabOk rfl rfl rfl (fun wz hz => (Row.ext d_r1 hz)) rfl) (Tq rfl Mv (Tq rfl Mv (Tq rfl Pi (Tq rfl Pf ?_))))))))))); refine Tq rfl (pur_load tabOk rfl rfl rfl (fun wz hz => Row.at (Row.ext d_hr' hz) rfl)) (Tq rfl Mv (Tq rfl Pi (Tq rfl (pur_loads' tabOk rfl rfl rfl (fun wz hz => (Row.ext d_r2 hz)) rfl) ?_)))
      clear qsb3 d_hs d_hs' d_hr d_h1 d_hr' d_h1' d_r1 d_r2; refine tw_tail rfl (C1 (pur_fpneq (v := y) rfl rfl) (cT (cw_cond_f rfl (cw_skip (qw_block_norm (qw_then (cw_region (C1 Mv (C1 V7 (C1 Pa (lw_nil ?_))))))))))); rotate_left 1
     exact qw_round (i + 1) (by (refine sub_cons rfl ?_; refine sub_cons rfl ?_; refine sub_cons rfl ?_; refine sub_cons rfl ?_; exact sub_nil)) ⟨hs, hs', hr, hr', h1, h1', X, by omega⟩ (by omega)
   · focus
      refine cw_seq (cS (C1 Mv (C1 Mv (C1 Mv (C1 Pi (C1 Pf (C1 (Pw hr) (C1 Pz (C1 V3 (cT (Wno ?_))))))))))); refine cw_exit (qw_then_exit (qw_then_exit (qw_block_exit (qw_block_norm (qw_then (cw_region (C1 Mv (C1 V7 (C1 Pa (lw_nil ?_)))))))))); rotate_left 1
     exact qw_round (j + 1) (by (refine sub_cons rfl ?_; refine sub_cons rfl ?_; refine sub_cons rfl ?_; exact sub_nil)) ⟨hs, hs', X, by omega⟩ (by omega)
 · have hje : j = lib.length := by omega
   subst hje
   focus
    refine cw_seq (cS (C1 Mv (C1 Mv (C1 Pz (C1 V3 (cT (Wno (cw_exit (qw_then_exit (qw_then_exit (qw_block_exit ?_))))))))))); refine qw_then (cS (C1 Pa (cT (cw_ret (qw_ret1 rfl rfl ?_))))); rotate_left 1
   exact ⟨rfl, X⟩
end Bk
namespace Bk
open Go Go.RowKit Go.Proofs
attribute [local irreducible] Go.Calls
theorem few_libF {lib : List FD} (h : ∀ f ∈ lib, FewF f) (hl : lib.length ≤ 1000000) : LibFew lib := ⟨hl, fun f hf => by
 obtain ⟨k1, k2, k3, k4, k5⟩ := h f hf
 exact ⟨by omega, k2, fun p hp => by have := k3 p hp; omega, k4, k5⟩⟩
theorem LibFew.same {lib : List FD} (h : LibFew lib) : lib.length ≤ 1000000 ∧ ∀ f ∈ lib, f.params.length ≤ 1000000 ∧ f.body.size ≤ 1000000 := ⟨h.len, fun f hf => ⟨(h.all f hf).2.1, (h.all f hf).2.2.2.1⟩⟩
theorem parseLib_few {s : List UInt8} (hs : s.length ≤ 1000000) : LibFew (parseLib s).1 := by
 have h0 : LibFew [] := ⟨by simp, by simp⟩
 unfold parseLib
 by_cases he : (startP s).2.err ≠ 0
 · rw [if_pos he]; exact h0
 · rw [if_neg he]
   have hsl := start_len s; have hok := solid_ok s; have hm := mS_len (ts := (startP s).1) (σ := (startP s).2); have hf := libP_few (ts := (startP s).1) (n := s.length) (by omega) (fun t ht => by have := (hok t ht).len; omega) (fuelP s) [] [] (startP s).2 (Nat.zero_le _) (by unfold fuelP; omega) (by simp); dsimp only
   generalize libP (startP s).1 s.length (fuelP s) [] [] (startP s).2 = A at *
   by_cases hz : A.2.err ≠ 0
   · rw [if_pos hz]; exact h0
   · rw [if_neg hz]
     obtain ⟨f1, f2, -⟩ := hf (Decidable.not_not.1 hz); simp only [List.length_nil] at f2
     cases libErr A.1.1 with
     | none => exact few_libF f1 (by simp only; omega)
     | some q => exact h0
end Bk
namespace Bk
open Go Go.RowKit Go.Proofs
attribute [local irreducible] Go.Calls
theorem rpeek_off {ts : List Tok} {σ : PS} (h : σ.err ≠ 0 ∨ σ.at_ = ts.length) : peekP ts σ = Tok.zero := by unfold peekP; rw [if_pos h]
theorem rpeek_is {ts : List Tok} {σ : PS} (h : ¬ (σ.err ≠ 0 ∨ σ.at_ = ts.length)) (hl : σ.at_ < ts.length) : peekP ts σ = ts[σ.at_] := by unfold peekP; rw [if_neg h]; simp [hl]
structure RC where
 pb : Nat
 B : Nat
 ts : List Tok
 n : Int
 a : Option Addr
 cap : Nat
abbrev Tok.rcells (t : Tok) : List Value := [str t.text, .int .i64 t.pos]
def RTokAt (w : World) (b o : Nat) (t : Tok) : Prop := Row w ⟨b, o, none⟩ t.rcells
abbrev RC.cells (c : RC) (σ : PS) : List Value := [.slice c.a c.ts.length c.cap, .int .i64 σ.at_, .int .i64 c.n, .int .i64 σ.err, .int .i64 σ.off]
def refName (s : List UInt8) : Bool := decide (s ≠ []) && decide (s.length ≤ 16) && (s.head?.map letter).getD false && !keyword s
structure RP (c : RC) (σ : PS) (w : World) : Prop where
 blk : Blk w c.pb (c.cells σ)
 toks : Arr (fun b => b < c.B ∧ b ≠ c.pb) 2 RTokAt w c.ts c.a
 pbB : c.pb < c.B
 B : c.B ≤ w.heap.size
 at_ : σ.at_ ≤ c.ts.length
 len : c.ts.length ≤ 1000000
 tok : ∀ t ∈ c.ts, t.text.length ≤ 1000000
 nm : ∀ t ∈ c.ts, refName t.text = isName t.text
 num : ∀ t ∈ c.ts, startsDigit t.text = true → ∀ x ∈ t.text, digit x = true
theorem RP.ext {c : RC} {σ : PS} {w w' : World} (h : RP c σ w) (x : Ext w w') : RP c σ w' :=
 ⟨h.blk.ext x, h.toks.mono (fun _ h => h) (fun _ _ _ _ _ h => Row.ext h x), h.pbB, Nat.le_trans h.B x.size, h.at_, h.len, h.tok, h.nm, h.num⟩
theorem RP.fr {c : RC} {σ : PS} {S : Nat → Prop} {w w' : World} (h : RP c σ w) (x : Fr S w w') (hs : ∀ k, S k → c.B ≤ k) : RP c σ w' :=
 ⟨h.blk.fr x (fun e => by have := hs _ e; have := h.pbB; omega), h.toks.mono (fun _ h => h) (fun b _ _ _ hb h => Row.fr h x (fun e => by have h1 := hs _ e; have h2 := hb.1; have h3 : c.B ≤ b := h1; omega)), h.pbB, Nat.le_trans h.B x.size, h.at_, h.len, h.tok, h.nm, h.num⟩
theorem RP.put {c : RC} {σ σ' : PS} {w w' : World} (h : RP c σ w) (p : Put w w' c.pb (c.cells σ')) (ha : σ'.at_ ≤ c.ts.length) : RP c σ' w' :=
 ⟨p.blk, h.toks.mono (fun _ h => h) (fun b _ _ _ hb h => Row.fr h p.fr (fun e => hb.2 e)), h.pbB, Nat.le_trans h.B p.fr.size, ha, h.len, h.tok, h.nm, h.num⟩
section
variable {P : Program} {n : Nat} {ops : Array Oper} {Q : Exit → Act → World → Prop} {rest : List Oper} {l : Sl} {w : World} {tab : Tab} {ty : TypeId} {pos : String} {after : Array Edge}
theorem lw_rp {c : RC} {σ σ' : PS} {x y : Operand} {t sz o : Nat} {s : Sk} {v : Value} (T : TabOk P tab) (ht : lookT tab t = some (s, sz)) (hsz : sz = 1) (hx : ev l x = some (.pointer (some ⟨c.pb, o, none⟩))) (hy : ev l y = some v) (hv : v.cells = #[v]) (h1 : Value.one v = true) (hP : RP c σ w) (ho : Nat.ble (o + 1) 5 = true)
 (he : (c.cells σ).set o v = c.cells σ') (ha : σ'.at_ ≤ c.ts.length) (k : ∀ w1, RP c σ' w1 → Fr (· = c.pb) w w1 → LW P n ops Q rest l w1) : LW P n ops Q (⟨none, .store t x y, ty, pos, after, none⟩ :: rest) l w :=
 lw_store T ht hx hy (us := [v]) hv (by simp [hsz]) (by simp [h1]) hP.blk (by simpa using ho) (fun w1 p => by
  have e : setMany (c.cells σ) o [v] = c.cells σ' := by simp only [setMany]; exact he
  rw [e] at p
  exact k w1 (hP.put p ha) p.fr)
theorem lw_rp_at {c : RC} {σ : PS} {x y : Operand} {t sz : Nat} {s : Sk} (T : TabOk P tab) (ht : lookT tab t = some (s, sz)) (hsz : sz = 1) (hx : ev l x = some (.pointer (some ⟨c.pb, 1, none⟩))) (hy : ev l y = some (.int .i64 ((σ.at_ : Int) + 1))) (hP : RP c σ w) (ha : σ.at_ < c.ts.length)
 (k : ∀ w1, RP c (nextP σ) w1 → Fr (· = c.pb) w w1 → LW P n ops Q rest l w1) : LW P n ops Q (⟨none, .store t x y, ty, pos, after, none⟩ :: rest) l w :=
 lw_rp (σ' := nextP σ) T ht hsz hx hy rfl rfl hP rfl rfl ha k
theorem lw_rp_err {c : RC} {σ : PS} {x y : Operand} {t sz : Nat} {s : Sk} {v : Int} (T : TabOk P tab) (ht : lookT tab t = some (s, sz)) (hsz : sz = 1) (hx : ev l x = some (.pointer (some ⟨c.pb, 3, none⟩))) (hy : ev l y = some (.int .i64 v)) (hP : RP c σ w)
 (k : ∀ w1, RP c ⟨σ.at_, σ.off, v⟩ w1 → Fr (· = c.pb) w w1 → LW P n ops Q rest l w1) : LW P n ops Q (⟨none, .store t x y, ty, pos, after, none⟩ :: rest) l w :=
 lw_rp (σ' := ⟨σ.at_, σ.off, v⟩) T ht hsz hx hy rfl rfl hP rfl rfl hP.at_ k
theorem lw_rp_off {c : RC} {σ : PS} {x y : Operand} {t sz : Nat} {s : Sk} {v : Int} (T : TabOk P tab) (ht : lookT tab t = some (s, sz)) (hsz : sz = 1) (hx : ev l x = some (.pointer (some ⟨c.pb, 4, none⟩))) (hy : ev l y = some (.int .i64 v)) (hP : RP c σ w)
 (k : ∀ w1, RP c ⟨σ.at_, v, σ.err⟩ w1 → Fr (· = c.pb) w w1 → LW P n ops Q rest l w1) : LW P n ops Q (⟨none, .store t x y, ty, pos, after, none⟩ :: rest) l w :=
 lw_rp (σ' := ⟨σ.at_, v, σ.err⟩) T ht hsz hx hy rfl rfl hP rfl rfl hP.at_ k
end
end Bk
namespace Bk
open Go Go.RowKit Go.Proofs
attribute [local irreducible] Go.Calls
theorem Row.nth {w : World} {b j : Nat} {l : List (List UInt8)} (h : Row w ⟨b, 0, none⟩ (l.map str)) (hj : j < l.length) : Row w ⟨b, 0 + j * 1, none⟩ [str l[j]] := by
 have h1 := h.sub j 1
 have e : ((l.map str).drop j).take 1 = [str l[j]] := by
  rw [List.drop_eq_getElem_cons (by simpa using hj)]; simp
 rw [e] at h1
 rw [Nat.mul_one]; exact h1
set_option maxRecDepth 100000 in
set_option maxHeartbeats 1000000 in
theorem rletter_c (c : UInt8) (w : World) : Calls Tryz.prog 60 #[.int .u8 c.toNat] w fun e w' => e = .returned (.bool (letter c)) ∧ w = w' := by
 by_cases h1 : 97 ≤ c.toNat
 · by_cases h2 : c.toNat ≤ 122
   · rw [show letter c = true from by simp [letter, h1, h2]]
     have h3 : ((c.toNat : Nat) : Int) ≤ 122 := by omega
     refine calls_in Tryz.func60 Tryz.ntmps60 rfl rfl ?_
     focus
      refine cS (C1 Pa (cN (C1 Mv (C1 V6 (C1 Mv (Gyo (C1 Mv (Gyo (C1 V4 (C1 Qyo (C1 Pa ?_))))))))))); refine cT (cw_ret (qw_ret1 rfl rfl ?_)); rotate_left 1
     exact ⟨by rw [decide_eq_true h3], rfl⟩
   · rw [show letter c = false from by simp [letter, h2]]
     have h3 : ¬ ((c.toNat : Nat) : Int) ≤ 122 := by omega
     refine calls_in Tryz.func60 Tryz.ntmps60 rfl rfl ?_
     focus
      refine cS (C1 Pa (cN (C1 Mv (C1 V6 (C1 Mv (Gyo (C1 Mv (Gyo (C1 V4 (C1 Qyo (C1 Pa ?_))))))))))); refine cT (cw_ret (qw_ret1 rfl rfl ?_)); rotate_left 1
     exact ⟨by rw [decide_eq_false h3], rfl⟩
 · rw [show letter c = false from by simp [letter, h1]]
   refine calls_in Tryz.func60 Tryz.ntmps60 rfl rfl ?_
   focus
    refine cS (C1 Pa (cN (C1 Mv (C1 V6 (C1 Mv (Ono (Ono (C1 Qno (C1 Pa (cT (cw_ret ?_))))))))))); refine qw_ret1 rfl rfl ?_; rotate_left 1
   exact ⟨rfl, rfl⟩
set_option maxRecDepth 100000 in
set_option maxHeartbeats 1000000 in
theorem rdigit_c (c : UInt8) (w : World) : Calls Tryz.prog 61 #[.int .u8 c.toNat] w fun e w' => e = .returned (.bool (digit c)) ∧ w = w' := by
 by_cases h1 : 48 ≤ c.toNat
 · by_cases h2 : c.toNat ≤ 57
   · rw [show digit c = true from by simp [digit, h1, h2]]
     have h3 : ((c.toNat : Nat) : Int) ≤ 57 := by omega
     refine calls_in Tryz.func61 Tryz.ntmps61 rfl rfl ?_
     focus
      refine cS (C1 Pa (cN (C1 Mv (C1 V6 (C1 Mv (Gyo (C1 Mv (Gyo (C1 V4 (C1 Qyo (C1 Pa ?_))))))))))); refine cT (cw_ret (qw_ret1 rfl rfl ?_)); rotate_left 1
     exact ⟨by rw [decide_eq_true h3], rfl⟩
   · rw [show digit c = false from by simp [digit, h2]]
     have h3 : ¬ ((c.toNat : Nat) : Int) ≤ 57 := by omega
     refine calls_in Tryz.func61 Tryz.ntmps61 rfl rfl ?_
     focus
      refine cS (C1 Pa (cN (C1 Mv (C1 V6 (C1 Mv (Gyo (C1 Mv (Gyo (C1 V4 (C1 Qyo (C1 Pa ?_))))))))))); refine cT (cw_ret (qw_ret1 rfl rfl ?_)); rotate_left 1
     exact ⟨by rw [decide_eq_false h3], rfl⟩
 · rw [show digit c = false from by simp [digit, h1]]
   refine calls_in Tryz.func61 Tryz.ntmps61 rfl rfl ?_
   focus
    refine cS (C1 Pa (cN (C1 Mv (C1 V6 (C1 Mv (Ono (Ono (C1 Qno (C1 Pa (cT (cw_ret ?_))))))))))); refine qw_ret1 rfl rfl ?_; rotate_left 1
   exact ⟨rfl, rfl⟩
set_option maxRecDepth 100000 in
set_option maxHeartbeats 1000000 in
theorem rwords_c (w : World) : Calls Tryz.prog 92 #[] w fun e w' => ∃ b, e = .returned (.slice (some ⟨b, 0, none⟩) 23 23) ∧ Row w' ⟨b, 0, none⟩ (keywords.map str) ∧ Ext w w' := by
 have X := Ext.refl w; refine calls_in (args := []) Tryz.func92 Tryz.ntmps92 rfl rfl ?_
 focus
  refine cS (C1 Pa (cN ?_)); (refine lw_does (does_slice' [_, _, _, _, _, _, _, _, _, _, _, _, _, _, _, _, _, _, _, _, _, _, _] tabOk zOk rfl rfl rfl rfl rfl rfl rfl rfl rfl) rfl ?_ (fun _ h => h); rintro _ w2 ⟨b1, rfl, n3, t4⟩); clear t4; have h5 := n3.blk; have x6 := n3.ext; have p7 := n3.pos; have z8 := n3.size; clear n3; replace X := X.ext x6; clear x6; refine C1 Pa (cT (cw_ret (qw_ret1 rfl rfl ?_))); rotate_left 1
 exact ⟨_, rfl, Blk.row (by assumption), X⟩
theorem keyword_iff (s : List UInt8) : keyword s = true ↔ s ∈ keywords := by simp [keyword]
set_option maxRecDepth 100000 in
set_option maxHeartbeats 1000000 in
theorem rIsName_c (s : List UInt8) (w : World) (hl : s.length ≤ 1000000000) :
 Calls Tryz.prog 64 #[str s] w fun e w' => e = .returned (.bool (refName s)) ∧ Ext w w' := by
 have X := Ext.refl w
 cases s with
 | nil =>
  rw [show refName [] = false from rfl]; refine calls_in Tryz.func64 Tryz.ntmps64 rfl rfl ?_
  focus
   refine cS (C1 Pa (cT (cw_seq (cS (C1 Mv (C1 Py (C1 V1 (C1 Mv (Oyd (Oyd (Oyd ?_))))))))))); refine C1 Qyd (C1 Mv (lw_off rfl rfl rfl (rfl) rfl (lw_off rfl rfl rfl (rfl) rfl (lw_off rfl rfl rfl (rfl) rfl (lw_off rfl rfl rfl (rfl) rfl (C1 (pur_pick_t rfl rfl rfl) (cT (cw_cond_t rfl (cS (C1 Pa (cT ?_))))))))))); refine cw_ret (qw_then_ret (qw_ret1 rfl rfl ?_)); rotate_left 1
  exact ⟨rfl, X⟩
 | cons c r =>
  have hc0 : (c :: r)[(0 : Int).toNat]? = some c := rfl
  have hpos : 0 < (c :: r).length := by simp
  simp only [List.length_cons] at hl
  by_cases h16 : 16 < (c :: r).length
  · rw [show refName (c :: r) = false from by simp only [refName, decide_eq_false (show ¬ (c :: r).length ≤ 16 by omega)]; simp]
    refine calls_in Tryz.func64 Tryz.ntmps64 rfl rfl ?_
    focus
     refine cS (C1 Pa (cT (cw_seq (cS (C1 Mv (C1 Py (C1 V1 (C1 Mv (Gno (C1 Mv (Gno ?_))))))))))); refine C1 Py (Gno (C1 V5 (C1 Qno (C1 Mv (Oyo (Oyo (Oyo (Oyo (C1 Qyo (cT (cw_cond_t rfl ?_))))))))))); refine cS (C1 Pa (cT (cw_ret (qw_then_ret (qw_ret1 rfl rfl ?_))))); rotate_left 1
    exact ⟨rfl, X⟩
  · cases hlt : letter c
    · rw [show refName (c :: r) = false from by simp [refName, hlt]]
      refine calls_in Tryz.func64 Tryz.ntmps64 rfl rfl ?_
      focus
       refine cS (C1 Pa (cT (cw_seq (cS (C1 Mv (C1 Py (C1 V1 (C1 Mv (Gno (C1 Mv (Gno ?_))))))))))); refine C1 Py (Gno (C1 V5 (C1 Qno (C1 Mv (Gno (C1 Mv (Gno ?_))))))); refine C1 (pur_sindex tabOk rfl rfl rfl (by omega) (by assumption)) ?_; refine Gno (cC rfl (rletter_c _ _) ?_); rintro _ wb1 ⟨⟨⟩, rfl⟩; refine Gno (C1 Pt (C1 Qno (cT ?_))); refine cw_nt rfl (by assumption) ?_; refine cS (C1 Pa (cT (cw_ret (qw_then_ret (qw_ret1 rfl rfl ?_))))); rotate_left 1
      exact ⟨rfl, X⟩
    · have hrn : refName (c :: r) = !keyword (c :: r) := by
       simp only [List.length_cons] at h16; simp only [refName, List.head?_cons, Option.map_some, Option.getD_some, hlt, List.length_cons]
       rw [decide_eq_true (show r.length + 1 ≤ 16 by omega)]; simp
      rw [hrn]; have HK := Lib.hid (keyword_iff (c :: r))
      have h16' : (c :: r).length ≤ 16 := by omega
      refine calls_in Tryz.func64 Tryz.ntmps64 rfl rfl ?_
      focus
       refine cS (C1 Pa (cT (cw_seq (cS (C1 Mv (C1 Py (C1 V1 (C1 Mv (Gno (C1 Mv (Gno ?_))))))))))); refine C1 Py (Gno (C1 V5 (C1 Qno (C1 Mv (Gno (C1 Mv (Gno ?_))))))); refine C1 (pur_sindex tabOk rfl rfl rfl (by omega) (by assumption)) ?_; refine Gno (cC rfl (rletter_c _ _) ?_); rintro _ wc1 ⟨⟨⟩, rfl⟩; refine Gno (C1 Pt (C1 Qno (cT ?_))); refine cw_nf rfl (by assumption) ?_; refine cw_skip (qw_then (cS ?_)); refine lw_does (does_call (by kernel_rfl) rfl (rwords_c _) (fun _ _ ⟨_, h⟩ => ⟨_, h.1⟩)) rfl ?_ (fun _ h => h); rintro _ wc5 ⟨bc2, ⟨⟨⟩, ⟨hc3, xc4⟩⟩⟩; have zc6 := xc4.size; replace X := X.ext xc4; clear xc4; refine C1 Pa (cT (cw_seq (cS (C1 Pa (cT (cw_block ?_)))))); rotate_left 1
      have hkl : keywords.length = 23 := rfl; refine cw_loop (ι := Nat) (fun j => [(0, str (c :: r)), (3, .slice (some ⟨bc2, 0, none⟩) 23 23), (4, .int .i64 j)]) (fun j w' => wc5 = w' ∧ j ≤ 23 ∧ ∀ i (hi : i < keywords.length), i < j → keywords[i] ≠ c :: r) (fun j => 23 - j) 0 (by (refine sub_cons rfl ?_; refine sub_cons rfl ?_; refine sub_cons rfl ?_; exact sub_nil)) ⟨rfl, Nat.zero_le _, fun i _ h => by omega⟩ ?_; rintro j _ ⟨rfl, hj, hall⟩
      have HA := Lib.hid hall; clear hall
      by_cases hlt2 : j < 23
      · have hrj := hc3.nth (j := j) (by rw [hkl]; exact hlt2)
        have HR := Lib.hid hc3; clear hc3
        by_cases hx : keywords[j] = c :: r
        · have hk : keyword (c :: r) = true := HK.out.2 (by rw [← hx]; exact List.getElem_mem _)
          rw [hk]
          focus
           refine cw_seq (cS (C1 Mv (C1 Mv (C1 Pz (C1 V3 (cT (Wyo (cw_skip (qw_then (cw_seq (cw_block ?_))))))))))); refine cS (C1 Mv (C1 Mv (C1 Pi (C1 (Pw0 hrj) (C1 Mv (C1 V8 (cT (Wya (cS (C1 Pa (cT ?_))))))))))); refine cw_ret (qw_block_ret (qw_then_ret (qw_then_ret (qw_block_ret (qw_then_ret (qw_ret1 rfl rfl ?_)))))); rotate_left 1
          exact ⟨rfl, X⟩
        · focus
           refine cw_seq (cS (C1 Mv (C1 Mv (C1 Pz (C1 V3 (cT (Wyo (cw_skip (qw_then (cw_seq (cw_block ?_))))))))))); refine cS (C1 Mv (C1 Mv (C1 Pi (C1 (Pw0 hrj) (C1 Mv (C1 V8 (cT (Wna (cw_skip (qw_block_norm (qw_then ?_))))))))))); refine cw_region (C1 Mv (C1 V7 (C1 Pa (lw_nil ?_)))); rotate_left 1
          refine qw_round (j + 1) (by (refine sub_cons rfl ?_; refine sub_cons rfl ?_; refine sub_cons rfl ?_; exact sub_nil)) ⟨rfl, by omega, fun i hi h => ?_⟩ (by omega)
          by_cases e : i = j
          · subst e; exact hx
          · exact HA.out i hi (by omega)
      · have hk : keyword (c :: r) = false := by
         cases h : keyword (c :: r)
         · rfl
         · obtain ⟨i, hi, he⟩ := List.mem_iff_getElem.1 (HK.out.1 h)
           exact absurd he (HA.out i hi (by omega))
        rw [hk]
        focus
         refine cw_seq (cS (C1 Mv (C1 Mv (C1 Pz (C1 V3 (cT (Wno (cw_exit (qw_then_exit (qw_then_exit (qw_block_exit ?_))))))))))); refine qw_then (cS (C1 Pa (cT (cw_ret (qw_ret1 rfl rfl ?_))))); rotate_left 1
        exact ⟨rfl, X⟩
def opTexts : List (List UInt8) := [[43], [45], [42], [47], [37], [38], [124], [94], [61, 61], [33, 61], [60], [60, 61], [62], [62, 61], [38, 38], [124, 124]]
def opLevels : List Int := [7, 7, 8, 8, 8, 5, 3, 4, 6, 6, 6, 6, 6, 6, 2, 1]
theorem opT (j : Nat) (h : j < opTexts.length) : opTexts[j] = symbol (8 + (j : Int)) ∧ opLevels.getD j 0 = level (8 + (j : Int)) ∧ binOf (symbol (8 + (j : Int))) = some (8 + (j : Int)) := by
 have h' : j < 16 := h
 have : j = 0 ∨ j = 1 ∨ j = 2 ∨ j = 3 ∨ j = 4 ∨ j = 5 ∨ j = 6 ∨ j = 7 ∨ j = 8 ∨ j = 9 ∨ j = 10 ∨ j = 11 ∨ j = 12 ∨ j = 13 ∨ j = 14 ∨ j = 15 := by omega
 rcases this with rfl | rfl | rfl | rfl | rfl | rfl | rfl | rfl | rfl | rfl | rfl | rfl | rfl | rfl | rfl | rfl <;> exact ⟨rfl, rfl, rfl⟩
theorem Row.nthI {w : World} {b j : Nat} {l : List Int} (h : Row w ⟨b, 0, none⟩ (l.map (.int .i64 ·))) (hj : j < l.length) : Row w ⟨b, 0 + j * 1, none⟩ [.int .i64 (l.getD j 0)] := by
 have h1 := h.sub j 1
 have e : ((l.map (Value.int .i64 ·)).drop j).take 1 = [.int .i64 (l.getD j 0)] := by
  rw [List.drop_eq_getElem_cons (by simpa using hj)]; simp [hj]
 rw [e] at h1
 rw [Nat.mul_one]; exact h1
theorem rpeek_len {c : RC} {σ : PS} {w : World} (hP : RP c σ w) : (peekP c.ts σ).text.length ≤ 1000000 := by
 by_cases h : σ.err ≠ 0 ∨ σ.at_ = c.ts.length
 · rw [rpeek_off h]; simp [Tok.zero]
 · have hlt : σ.at_ < c.ts.length := by have : σ.at_ ≠ c.ts.length := fun e => h (Or.inr e); have := hP.at_; omega
   rw [rpeek_is h hlt]
   exact hP.tok _ (List.getElem_mem hlt)
theorem rpeek_name {c : RC} {σ : PS} {w : World} (hP : RP c σ w) : refName (peekP c.ts σ).text = isName (peekP c.ts σ).text := by
 by_cases h : σ.err ≠ 0 ∨ σ.at_ = c.ts.length
 · rw [rpeek_off h]; rfl
 · have hlt : σ.at_ < c.ts.length := by have : σ.at_ ≠ c.ts.length := fun e => h (Or.inr e); have := hP.at_; omega
   rw [rpeek_is h hlt]
   exact hP.nm _ (List.getElem_mem hlt)
theorem rpeek_num {c : RC} {σ : PS} {w : World} (hP : RP c σ w) (hd : startsDigit (peekP c.ts σ).text = true) : ∀ x ∈ (peekP c.ts σ).text, digit x = true := by
 by_cases h : σ.err ≠ 0 ∨ σ.at_ = c.ts.length
 · rw [rpeek_off h]; simp [Tok.zero]
 · have hlt : σ.at_ < c.ts.length := by have : σ.at_ ≠ c.ts.length := fun e => h (Or.inr e); have := hP.at_; omega
   rw [rpeek_is h hlt] at hd ⊢
   exact hP.num _ (List.getElem_mem hlt) hd
end Bk
namespace Bk
open Go
def pre (acc : List Tok) (r : List Tok × Option Nat) : List Tok × Option Nat := match r.2 with
 | none => (acc ++ r.1, none)
 | some p => ([], some p)
theorem pre_pre (a b : List Tok) (r : List Tok × Option Nat) : pre a (pre b r) = pre (a ++ b) r := by
 rcases r with ⟨l, _ | p⟩ <;> simp [pre]
theorem lexGo_acc (s : List UInt8) : ∀ (k p : Nat) (acc : List Tok), lexGo k s p acc = pre acc (lexGo k s p [])
 | 0, p, acc => by simp [lexGo, pre]
 | k + 1, p, acc => by
  rw [lexGo, lexGo]
  split
  · split
    · simp [pre]
    · rw [lexGo_acc s k _ (acc ++ _), lexGo_acc s k _ ([] ++ _), pre_pre]
      simp
  · simp [pre]
theorem lexGo_fuel (s : List UInt8) : ∀ (k k' p : Nat) (acc : List Tok), s.length - p < k → s.length - p < k' → lexGo k s p acc = lexGo k' s p acc
 | 0, _, _, _, h, _ => by omega
 | _, 0, _, _, _, h => by omega
 | k + 1, k' + 1, p, acc, h, h' => by
  rw [lexGo, lexGo]
  split
  · split
    · rfl
    · exact lexGo_fuel s k k' _ _ (by omega) (by omega)
  · rfl
def lexFrom (s : List UInt8) (p : Nat) : List Tok × Option Nat := lexGo (s.length + 1) s p []
def tokAt (s : List UInt8) (p : Nat) : Tok := ⟨((firstTok (s.drop p)).1 : Nat), (s.drop p).take (firstTok (s.drop p)).2, (p : Int)⟩
theorem lexFrom_end {s : List UInt8} {p : Nat} (h : s.length ≤ p) : lexFrom s p = ([], none) := by
 unfold lexFrom; rw [lexGo, if_neg (by omega)]
theorem lexFrom_err {s : List UInt8} {p : Nat} (h : p < s.length) (h0 : (firstTok (s.drop p)).2 = 0) : lexFrom s p = ([], some p) := by
 unfold lexFrom; rw [lexGo, if_pos h, if_pos h0]
theorem lexFrom_step {s : List UInt8} {p : Nat} (h : p < s.length) (h0 : (firstTok (s.drop p)).2 ≠ 0) : lexFrom s p = pre [tokAt s p] (lexFrom s (p + (firstTok (s.drop p)).2)) := by
 unfold lexFrom
 rw [lexGo, if_pos h, if_neg h0, lexGo_acc]; rw [lexGo_fuel s s.length (s.length + 1) _ _ (by omega) (by omega)]
 rfl
def solidR (r : List Tok × Option Nat) : List Tok × Option Nat := match r.2 with
 | none => (solidT r.1, none)
 | some p => ([], some p)
def solidFrom (s : List UInt8) (p : Nat) : List Tok × Option Nat := solidR (lexFrom s p)
theorem solidR_pre (t : Tok) (r : List Tok × Option Nat) : solidR (pre [t] r) = if t.kind ≠ 4 ∧ t.kind ≠ 5 then pre [t] (solidR r) else solidR r := by
 rcases r with ⟨l, _ | p⟩
 · by_cases h : t.kind ≠ 4 ∧ t.kind ≠ 5
   · simp [pre, solidR, solidT, List.filter_cons, h]
   · rw [if_neg h]
     have : (decide (t.kind ≠ 4) && decide (t.kind ≠ 5)) = false := by
      simp only [Bool.and_eq_false_iff, decide_eq_false_iff_not]; omega
     simp only [pre, solidR, solidT, List.singleton_append, List.filter_cons, this]
     simp
 · simp [pre, solidR]
theorem solidFrom_end {s : List UInt8} {p : Nat} (h : s.length ≤ p) : solidFrom s p = ([], none) := by
 unfold solidFrom; rw [lexFrom_end h]; rfl
theorem solidFrom_err {s : List UInt8} {p : Nat} (h : p < s.length) (h0 : (firstTok (s.drop p)).2 = 0) : solidFrom s p = ([], some p) := by
 unfold solidFrom; rw [lexFrom_err h h0]; rfl
theorem solidFrom_tok {s : List UInt8} {p : Nat} (h : p < s.length) (h0 : (firstTok (s.drop p)).2 ≠ 0) (h4 : (firstTok (s.drop p)).1 ≠ 4) (h5 : (firstTok (s.drop p)).1 ≠ 5) :
 solidFrom s p = pre [tokAt s p] (solidFrom s (p + (firstTok (s.drop p)).2)) := by
 unfold solidFrom; rw [lexFrom_step h h0, solidR_pre, if_pos]
 constructor <;> simp only [tokAt] <;> omega
theorem solidFrom_skip {s : List UInt8} {p : Nat} (h : p < s.length) (h0 : (firstTok (s.drop p)).2 ≠ 0) (h4 : (firstTok (s.drop p)).1 = 4 ∨ (firstTok (s.drop p)).1 = 5) :
 solidFrom s p = solidFrom s (p + (firstTok (s.drop p)).2) := by
 unfold solidFrom; rw [lexFrom_step h h0, solidR_pre, if_neg]
 simp only [tokAt]; omega
theorem drop_at {s : List UInt8} {p : Nat} (h : p < s.length) : s.drop p = s[p] :: s.drop (p + 1) := List.drop_eq_getElem_cons h
theorem blank_parts {c : UInt8} (h : blank c = true) : letter c = false ∧ digit c = false ∧ c ≠ 35 := by
 simp only [blank, Bool.or_eq_true, decide_eq_true_eq] at h; refine ⟨?_, ?_, ?_⟩
 · simp only [letter, Bool.and_eq_false_iff, decide_eq_false_iff_not]; omega
 · simp only [digit, Bool.and_eq_false_iff, decide_eq_false_iff_not]; omega
 · rintro rfl; exact absurd h (by decide)
theorem firstTok_blank {c : UInt8} {r : List UInt8} (h : blank c = true) : firstTok (c :: r) = (4, 1 + span blank r) := by
 obtain ⟨h1, h2, -⟩ := blank_parts h
 simp [firstTok, h, h1, h2, span, List.takeWhile_cons]; omega
theorem firstTok_hash {r : List UInt8} : firstTok (35 :: r) = (5, 1 + span notLf r) := by
 have h1 : letter 35 = false := by decide
 have h2 : digit 35 = false := by decide
 have h3 : blank 35 = false := by decide
 have h4 : notLf 35 = true := by decide
 simp [firstTok, h1, h2, h3, h4, span, List.takeWhile_cons]; omega
theorem span_zero {p : UInt8 → Bool} {s : List UInt8} (h : ∀ c ∈ s.head?, p c = false) : span p s = 0 := by
 cases s with
 | nil => rfl
 | cons c r => simp [span, List.takeWhile_cons, h c (by simp)]
theorem solidFrom_blank {s : List UInt8} {p : Nat} (h : p < s.length) (hb : blank s[p] = true) : solidFrom s p = solidFrom s (p + 1) := by
 have e : firstTok (s.drop p) = (4, 1 + span blank (s.drop (p + 1))) := by rw [drop_at h]; exact firstTok_blank hb
 rw [solidFrom_skip h (by rw [e]; simp) (by rw [e]; simp), e]
 by_cases h1 : p + 1 < s.length
 · by_cases h2 : blank s[p + 1] = true
   · have e2 : firstTok (s.drop (p + 1)) = (4, 1 + span blank (s.drop (p + 1 + 1))) := by rw [drop_at h1]; exact firstTok_blank h2
     rw [solidFrom_skip h1 (by rw [e2]; simp) (by rw [e2]; simp), e2]
     have : span blank (s.drop (p + 1)) = 1 + span blank (s.drop (p + 1 + 1)) := by
      rw [drop_at h1]; simp only [span, List.takeWhile_cons, h2, if_true, List.length_cons]; omega
     rw [this]
     congr 1; omega
   · rw [span_zero (s := s.drop (p + 1))]
     rw [drop_at h1]; intro c hc; simp only [List.head?_cons, Option.mem_def, Option.some.injEq] at hc; rw [← hc]; simpa using h2
 · rw [span_zero (s := s.drop (p + 1))]
   rw [List.drop_eq_nil_of_le (by omega)]; simp
theorem solidFrom_hash {s : List UInt8} {p : Nat} (h : p < s.length) (hb : s[p] = 35) : solidFrom s p = solidFrom s (p + span notLf (s.drop p)) := by
 have e : firstTok (s.drop p) = (5, 1 + span notLf (s.drop (p + 1))) := by rw [drop_at h, hb]; exact firstTok_hash
 have e2 : span notLf (s.drop p) = 1 + span notLf (s.drop (p + 1)) := by
  rw [drop_at h, hb]
  have h4 : notLf 35 = true := by decide
  simp [span, List.takeWhile_cons, h4]; omega
 rw [solidFrom_skip h (by rw [e]; simp) (by rw [e]; simp), e, e2]
def signsL : List (List UInt8) := [[60, 61, 62], [58, 61], [43, 61], [45, 61], [94, 61], [61, 61], [33, 61], [60, 61], [62, 61], [38, 38], [124, 124], [43], [45], [42], [47], [37], [38], [124], [94], [33], [61], [60], [62], [40], [41], [123], [125], [91], [93], [59], [44]]
def pickLen (L : List (List UInt8)) (s : List UInt8) : Nat := ((L.find? (·.isPrefixOf s)).map List.length).getD 0
theorem pickLen_append (A B : List (List UInt8)) (s : List UInt8) (hA : ∀ x ∈ A, x ≠ []) : pickLen (A ++ B) s = if pickLen A s = 0 then pickLen B s else pickLen A s := by
 unfold pickLen
 rw [List.find?_append]
 cases h : A.find? (·.isPrefixOf s) with
 | none => simp
 | some x =>
  have := hA x (List.mem_of_find?_eq_some h)
  simp [this]
theorem prefix_take {x s : List UInt8} : x.isPrefixOf s = true ↔ x = s.take x.length := by
 rw [List.isPrefixOf_iff_prefix, List.prefix_iff_eq_take]
theorem pickLen_same (m : Nat) (s : List UInt8) : ∀ L : List (List UInt8), (∀ x ∈ L, x.length = m) → pickLen L s = if L.contains (s.take m) then m else 0
 | [], _ => by simp [pickLen]
 | x :: r, h => by
  have hx := h x (by simp); have ih := pickLen_same m s r (fun y hy => h y (by simp [hy]))
  unfold pickLen at ih ⊢
  rw [List.find?_cons]
  by_cases e : x.isPrefixOf s = true
  · rw [e]
    have := prefix_take.1 e; rw [hx] at this
    simp [← this, hx]
  · have e' : x.isPrefixOf s = false := Bool.eq_false_iff.2 e
    rw [e']
    have : ¬ s.take m = x := fun q => e (prefix_take.2 (by rw [hx]; exact q.symm))
    rw [ih]
    simp [this]
theorem signs_split : signsL = [[60, 61, 62]] ++ (pairs ++ singles.map fun c => [c]) := by decide
theorem pickLen_signs (s : List UInt8) : pickLen signsL s = signLen s := by
 rw [signs_split, pickLen_append _ _ _ (by decide), pickLen_append _ _ _ (by decide), pickLen_same 2 s pairs (by decide), pickLen_same 1 s (singles.map fun c => [c]) (by decide)]
 unfold signLen
 have h1 : pickLen [[60, 61, 62]] s = if List.isPrefixOf [60, 61, 62] s then 3 else 0 := by
  unfold pickLen
  cases h : List.isPrefixOf [60, 61, 62] s <;> simp [List.find?_cons, h]
 have h2 : (singles.map fun c => [c]).contains (s.take 1) = (s.head?.map (singles.contains ·)).getD false := by
  cases s with
  | nil => decide
  | cons c r => simp [List.contains_eq_any_beq, Bool.eq_iff_iff]
 rw [h1, h2]
 cases List.isPrefixOf [60, 61, 62] s
 · simp only [Bool.false_eq_true, if_false, if_true]
   cases pairs.contains (s.take 2) <;> simp
 · simp
theorem pickLen_snoc (A : List (List UInt8)) (x s : List UInt8) (hA : ∀ y ∈ A, y ≠ []) : pickLen (A ++ [x]) s = if pickLen A s = 0 then (if x.isPrefixOf s then x.length else 0) else pickLen A s := by
 rw [pickLen_append _ _ _ hA]
 congr 1
 unfold pickLen
 cases h : x.isPrefixOf s <;> simp [List.find?_cons, h]
end Bk
namespace Bk
open Go Go.RowKit Go.Proofs
attribute [local irreducible] Go.Calls
set_option maxRecDepth 100000 in
set_option maxHeartbeats 1000000 in
theorem rsigns_c (w : World) : Calls Tryz.prog 62 #[] w fun e w' => ∃ b, e = .returned (.slice (some ⟨b, 0, none⟩) 31 31) ∧ Row w' ⟨b, 0, none⟩ (signsL.map str) ∧ Ext w w' := by
 have X := Ext.refl w; refine calls_in (args := []) Tryz.func62 Tryz.ntmps62 rfl rfl ?_
 focus
  refine cS (C1 Pa (cN ?_)); (refine lw_does (does_slice' [_, _, _, _, _, _, _, _, _, _, _, _, _, _, _, _, _, _, _, _, _, _, _, _, _, _, _, _, _, _, _] tabOk zOk rfl rfl rfl rfl rfl rfl rfl rfl rfl) rfl ?_ (fun _ h => h); rintro _ w2 ⟨b1, rfl, n3, t4⟩); clear t4; have h5 := n3.blk; have x6 := n3.ext; have p7 := n3.pos; have z8 := n3.size; clear n3; replace X := X.ext x6; clear x6; refine C1 Pa (cT (cw_ret (qw_ret1 rfl rfl ?_))); rotate_left 1
 exact ⟨_, rfl, Blk.row (by assumption), X⟩
def rtokShape : Shape Tok where
 sz := 2
 rep := fun _ _ v cs => cs = v.rcells
 len := fun h => by rw [h]; rfl
 one := fun h => by rw [h]; rfl
 mono := fun h _ _ => h
 lt := fun h => h
def RToks (S : Nat → Prop) (w : World) (l : List Tok) (a : Option Addr) : Prop := Arr S 2 RTokAt w l a
theorem RToks.lt2 {S : Nat → Prop} {w : World} {l : List Tok} {a : Option Addr} (h : RToks S w l a) : RToks (fun b => S b ∧ b < w.heap.size) w l a := by
 rcases h with h | ⟨b, o, h1, h2, h3⟩
 · exact Or.inl h
 · cases l with
   | nil => exact Or.inl rfl
   | cons v r => exact Or.inr ⟨b, o, h1, ⟨h2, cell_lt (Row.at0 (h3 0 v rfl) rfl)⟩, h3⟩
theorem OwnL.rtoks {w : World} {B e : Nat} {a : Option Addr} {len cap : Nat} {xs : List Tok} {S : Nat → Prop} (h : OwnL rtokShape w B e (.slice a len cap) xs) (hS : ∀ b, B ≤ b → S b) : RToks S w xs a := by
 by_cases hx : xs = []
 · exact Or.inl hx
 · obtain ⟨g, cap', hv, hg, hall⟩ := h.rows hx
   simp only [Value.slice.injEq] at hv; obtain ⟨rfl, -, -⟩ := hv; refine Or.inr ⟨g, 0, rfl, hS g hg, fun i x hi => ?_⟩; obtain ⟨cs, hr, rfl⟩ := hall i x hi
   simpa [rtokShape, RTokAt] using hr
def RTokR (w : World) (r : List Tok × Option Nat) : Ending → World → Prop := fun e w' => ∃ a k, e = .returned (.tuple #[.slice a r.1.length k, .int .i64 (r.2.getD 0), .bool r.2.isNone]) ∧ RToks (fun b => w.heap.size ≤ b ∧ b < w'.heap.size) w' r.1 a ∧ Ext w w'
theorem RTokR.ret {w : World} {r : List Tok × Option Nat} {e : Ending} {w' : World} (h : RTokR w r e w') : ∃ v, e = .returned v := by
 obtain ⟨_, _, h, -⟩ := h
 exact ⟨_, h⟩
theorem pre_solid (s : List UInt8) (p : Nat) : pre [] (solidFrom s p) = solidFrom s p := by
 unfold solidFrom
 rcases lexFrom s p with ⟨l, _ | q⟩ <;> simp [solidR, pre]
theorem span_at {f : UInt8 → Bool} {s : List UInt8} {p : Nat} (h : p < s.length) : span f (s.drop p) = if f s[p] then 1 + span f (s.drop (p + 1)) else 0 := by
 rw [drop_at h]; unfold span; rw [List.takeWhile_cons]; split <;> simp; omega
theorem span_le {f : UInt8 → Bool} {s : List UInt8} {p : Nat} : span f (s.drop p) ≤ s.length - p := by
 have := takeWhile_len f (s.drop p); rw [List.length_drop] at this
 exact this
theorem span_over {f : UInt8 → Bool} {s : List UInt8} {p : Nat} (h : s.length ≤ p) : span f (s.drop p) = 0 := by
 rw [List.drop_eq_nil_of_le h]; rfl
theorem step_tok {s : List UInt8} {p k n : Nat} {acc : List Tok} (h : p < s.length) (hf : firstTok (s.drop p) = (k, n)) (h0 : n ≠ 0) (h4 : k ≠ 4) (h5 : k ≠ 5) (he : solidFrom s 0 = pre acc (solidFrom s p)) :
 solidFrom s 0 = pre (acc ++ [⟨(k : Int), (s.drop p).take n, (p : Int)⟩]) (solidFrom s (p + n)) := by
 have e := solidFrom_tok h (by rw [hf]; exact h0) (by rw [hf]; exact h4) (by rw [hf]; exact h5); rw [he, e, pre_pre, tokAt, hf]
theorem pickLen_more {A B : List (List UInt8)} {s : List UInt8} (hA : ∀ x ∈ A, x ≠ []) (h : pickLen A s ≠ 0) : pickLen (A ++ B) s = pickLen A s := by
 rw [pickLen_append _ _ _ hA, if_neg h]
theorem signs_ne : ∀ x ∈ signsL, x ≠ [] := by decide
theorem signs_take (j : Nat) : ∀ x ∈ signsL.take j, x ≠ [] := fun x hx => signs_ne x (List.mem_of_mem_take hx)
theorem pick_next {j : Nat} {s : List UInt8} (hj : j < signsL.length) (h0 : pickLen (signsL.take j) s = 0) : pickLen (signsL.take (j + 1)) s = if (signsL[j]).isPrefixOf s then (signsL[j]).length else 0 := by
 rw [List.take_add_one, List.getElem?_eq_getElem hj]
 show pickLen (signsL.take j ++ [signsL[j]]) s = _
 rw [pickLen_snoc _ _ _ (signs_take j), if_pos h0]
theorem pick_all {j : Nat} {s : List UInt8} (h0 : pickLen (signsL.take j) s ≠ 0) : pickLen (signsL.take j) s = signLen s := by
 rw [← pickLen_signs]
 conv => rhs; rw [← List.take_append_drop j signsL]
 exact (pickLen_more (signs_take j) h0).symm
set_option maxRecDepth 100000 in
set_option maxHeartbeats 4000000 in
theorem rTokens_c (s : List UInt8) (w : World) (hs : s.length ≤ 1000000) : Calls Tryz.prog 28 #[str s] w (RTokR w (solidFrom s 0)) := by
 have X := Ext.refl w; refine calls_in Tryz.func28 Tryz.ntmps28 rfl rfl ?_
 focus
  refine cS (C1 Pa (C1 Pa (C1 Pa (cN (C1 Pa (cT (cw_seq (cS (C1 Pa (cT (cw_block ?_))))))))))); rotate_left 1
 refine cw_loop (ι := Nat × List Tok × Option Addr × Nat) (fun x => [(0, str s), (5, .slice x.2.2.1 x.2.1.length x.2.2.2), (6, .int .i64 x.1)])
  (fun x w' => OwnL rtokShape w' w.heap.size 82 (.slice x.2.2.1 x.2.1.length x.2.2.2) x.2.1 ∧ Ext w w' ∧ x.1 ≤ s.length ∧ x.2.1.length ≤ x.1 ∧ solidFrom s 0 = pre x.2.1 (solidFrom s x.1)) (fun x => s.length - x.1) (0, [], none, 0) (by (refine sub_cons rfl ?_; refine sub_cons rfl ?_; refine sub_cons rfl ?_; exact sub_nil)) ⟨OwnL.nil, X, Nat.zero_le _, Nat.le_refl _, (pre_solid s 0).symm⟩ ?_
 rintro ⟨p, acc, a, cap⟩ w1 ⟨hown, X, hp, hacc, he⟩; simp only at hown hp hacc he; refine CW.sub (m := [(0, str s), (5, .slice a acc.length cap), (6, .int .i64 p)]) ?_ (by (refine sub_cons rfl ?_; refine sub_cons rfl ?_; refine sub_cons rfl ?_; exact sub_nil))
 by_cases hlt : p < s.length
 · have hcp : s[(p : Int).toNat]? = some s[p] := List.getElem?_eq_getElem hlt
   by_cases hb : blank s[p] = true
   · rw [solidFrom_blank hlt hb] at he
     have HE := Lib.hid he; clear he
     generalize s[p] = c at hcp hb
     simp only [blank, Bool.or_eq_true, decide_eq_true_eq] at hb
     rcases hb with ((hb | hb) | hb) | hb
     · focus
        refine cw_seq (cS (C1 Mv (C1 Mv (C1 Py (C1 V3 (cT (Wyo (cw_skip (qw_then (cw_block (cS ?_))))))))))); refine C1 Mv (C1 Mv ?_); refine C1 (pur_sindex tabOk rfl rfl rfl (by omega) (by assumption)) ?_; refine C1 Pa (cT (cw_seq (cS (C1 Mv (C1 V1 (C1 Mv (Oyo (Oyo (C1 Qyo (C1 Mv (lw_off rfl rfl rfl (rfl) rfl ?_))))))))))); refine lw_off rfl rfl rfl (rfl) rfl (C1 (pur_pick_t rfl rfl rfl) (C1 Mv (lw_off rfl rfl rfl (rfl) rfl (lw_off rfl rfl rfl (rfl) rfl (C1 (pur_pick_t rfl rfl rfl) (cT (cw_cond_t rfl (cS (C1 Mv (C1 V7 (C1 Pa ?_))))))))))); refine cT (cw_exit (qw_then_exit (qw_block_exit ?_))); rotate_left 1
       exact qw_round (p + 1, acc, a, cap) (by (refine sub_cons rfl ?_; refine sub_cons rfl ?_; refine sub_cons rfl ?_; exact sub_nil)) ⟨by assumption, X, by simp only; omega, by simp only; omega, HE.out⟩ (by simp only; omega)
     · focus
        refine cw_seq (cS (C1 Mv (C1 Mv (C1 Py (C1 V3 (cT (Wyo (cw_skip (qw_then (cw_block (cS ?_))))))))))); refine C1 Mv (C1 Mv ?_); refine C1 (pur_sindex tabOk rfl rfl rfl (by omega) (by assumption)) ?_; refine C1 Pa (cT (cw_seq (cS (C1 Mv (C1 V1 (C1 Mv (Gno (C1 Mv (Gno (C1 V1 (C1 Qno ?_))))))))))); refine C1 Mv (Oyo (Oyo (C1 Qyo (C1 Mv (lw_off rfl rfl rfl (rfl) rfl (lw_off rfl rfl rfl (rfl) rfl (C1 (pur_pick_t rfl rfl rfl) (cT (cw_cond_t rfl (cS (C1 Mv ?_))))))))))); refine C1 V7 (C1 Pa (cT (cw_exit (qw_then_exit (qw_block_exit ?_))))); rotate_left 1
       exact qw_round (p + 1, acc, a, cap) (by (refine sub_cons rfl ?_; refine sub_cons rfl ?_; refine sub_cons rfl ?_; exact sub_nil)) ⟨by assumption, X, by simp only; omega, by simp only; omega, HE.out⟩ (by simp only; omega)
     · focus
        refine cw_seq (cS (C1 Mv (C1 Mv (C1 Py (C1 V3 (cT (Wyo (cw_skip (qw_then (cw_block (cS ?_))))))))))); refine C1 Mv (C1 Mv ?_); refine C1 (pur_sindex tabOk rfl rfl rfl (by omega) (by assumption)) ?_; refine C1 Pa (cT (cw_seq (cS (C1 Mv (C1 V1 (C1 Mv (Gno (C1 Mv (Gno (C1 V1 (C1 Qno ?_))))))))))); refine C1 Mv (Gno (C1 Mv (Gno (C1 V1 (C1 Qno (C1 Mv (Oyo (Oyo (C1 Qyo (cT (cw_cond_t rfl ?_))))))))))); refine cS (C1 Mv (C1 V7 (C1 Pa (cT (cw_exit (qw_then_exit (qw_block_exit ?_))))))); rotate_left 1
       exact qw_round (p + 1, acc, a, cap) (by (refine sub_cons rfl ?_; refine sub_cons rfl ?_; refine sub_cons rfl ?_; exact sub_nil)) ⟨by assumption, X, by simp only; omega, by simp only; omega, HE.out⟩ (by simp only; omega)
     · focus
        refine cw_seq (cS (C1 Mv (C1 Mv (C1 Py (C1 V3 (cT (Wyo (cw_skip (qw_then (cw_block (cS ?_))))))))))); refine C1 Mv (C1 Mv ?_); refine C1 (pur_sindex tabOk rfl rfl rfl (by omega) (by assumption)) ?_; refine C1 Pa (cT (cw_seq (cS (C1 Mv (C1 V1 (C1 Mv (Gno (C1 Mv (Gno (C1 V1 (C1 Qno ?_))))))))))); refine C1 Mv (Gno (C1 Mv (Gno (C1 V1 (C1 Qno (C1 Mv (Gno (C1 Mv (Gno (C1 V1 (C1 Qno ?_))))))))))); refine cT (Wyo (cS (C1 Mv (C1 V7 (C1 Pa (cT (cw_exit (qw_then_exit (qw_block_exit ?_))))))))); rotate_left 1
       exact qw_round (p + 1, acc, a, cap) (by (refine sub_cons rfl ?_; refine sub_cons rfl ?_; refine sub_cons rfl ?_; exact sub_nil)) ⟨by assumption, X, by simp only; omega, by simp only; omega, HE.out⟩ (by simp only; omega)
   · have hnb : s[p].toNat ≠ 32 ∧ s[p].toNat ≠ 9 ∧ s[p].toNat ≠ 13 ∧ s[p].toNat ≠ 10 := by
      simp only [blank, Bool.or_eq_true, decide_eq_true_eq] at hb; omega
     obtain ⟨n1, n2, n3, n4⟩ := hnb
     by_cases h35 : s[p] = 35
     · have h35n : s[p].toNat = 35 := by rw [h35]; rfl
       rw [solidFrom_hash hlt h35] at he
       have hsp : span notLf (s.drop p) = 1 + span notLf (s.drop (p + 1)) := by rw [span_at hlt, if_pos]; rw [h35]; decide
       have hle := span_le (f := notLf) (s := s) (p := p)
       have HE := Lib.hid he; clear he hb h35
       focus
        refine cw_seq (cS (C1 Mv (C1 Mv (C1 Py (C1 V3 (cT (Wyo (cw_skip (qw_then (cw_block (cS ?_))))))))))); refine C1 Mv (C1 Mv ?_); refine C1 (pur_sindex tabOk rfl rfl rfl (by omega) (by assumption)) ?_; refine C1 Pa (cT (cw_seq (cS (C1 Mv (C1 V1 (C1 Mv (Gno (C1 Mv (Gno (C1 V1 (C1 Qno ?_))))))))))); refine C1 Mv (Gno (C1 Mv (Gno (C1 V1 (C1 Qno (C1 Mv (Gno (C1 Mv (Gno (C1 V1 (C1 Qno ?_))))))))))); refine cT (Wno (cw_skip (qw_then (cw_seq (cS (C1 Mv (C1 V1 (cT (Wyo (cw_seq (cw_block ?_))))))))))); rotate_left 1
       refine cw_loop (ι := Nat) (fun j => [(0, str s), (5, .slice a acc.length cap), (6, .int .i64 (p + j : Nat))]) (fun j w' => w1 = w' ∧ p + j ≤ s.length ∧ span notLf (s.drop p) = j + span notLf (s.drop (p + j))) (fun j => s.length - (p + j)) 0 (by (refine sub_cons rfl ?_; refine sub_cons rfl ?_; refine sub_cons rfl ?_; exact sub_nil)) ⟨rfl, by omega, by simp⟩ ?_; rintro j _ ⟨rfl, hj, hej⟩; refine CW.sub (m := [(0, str s), (5, .slice a acc.length cap), (6, .int .i64 (p + j : Nat))]) ?_ (by (refine sub_cons rfl ?_; refine sub_cons rfl ?_; refine sub_cons rfl ?_; exact sub_nil)); clear hcp n1 n2 n3 n4 h35n
       by_cases hlj : p + j < s.length
       · have hcj : s[((p + j : Nat) : Int).toNat]? = some s[p + j] := List.getElem?_eq_getElem hlj
         have hsj := span_at (f := notLf) hlj
         by_cases hn : s[p + j].toNat = 10
         · rw [if_neg (by simp [notLf, hn])] at hsj
           focus
            refine cw_seq (cS (C1 Mv (C1 Mv (C1 Py (C1 V3 (C1 Mv (Gyo (C1 Mv (Gyo (C1 Mv (Gyo ?_))))))))))); refine C1 (pur_sindex tabOk rfl rfl rfl (by omega) (by assumption)) ?_; refine Gyo (C1 V2 (C1 Qyo (cT (Wno (cw_exit (qw_then_exit (qw_then_exit (qw_block_exit (qw_then (cw_exit (qw_then_exit ?_))))))))))); refine qw_block_exit ?_; rotate_left 1
           exact qw_round (p + j, acc, a, cap) (by (refine sub_cons rfl ?_; refine sub_cons rfl ?_; refine sub_cons rfl ?_; exact sub_nil)) ⟨by assumption, X, by simp only; omega, by simp only; omega, by rw [HE.out, hej, hsj]; rfl⟩ (by simp only; omega)
         · rw [if_pos (by simp [notLf, hn])] at hsj
           focus
            refine cw_seq (cS (C1 Mv (C1 Mv (C1 Py (C1 V3 (C1 Mv (Gyo (C1 Mv (Gyo (C1 Mv (Gyo ?_))))))))))); refine C1 (pur_sindex tabOk rfl rfl rfl (by omega) (by assumption)) ?_; refine Gyo (C1 V2 (C1 Qyo (cT (Wyo (cw_skip (qw_then (cw_block (cw_region (C1 Mv (C1 V7 (C1 Pa ?_))))))))))); refine lw_nil (qw_block_norm ?_); rotate_left 1
           exact qw_round (j + 1) (by (refine sub_cons rfl ?_; refine sub_cons rfl ?_; refine sub_cons rfl ?_; exact sub_nil)) ⟨rfl, by omega, by rw [hej, hsj]; simp only [Nat.add_assoc]⟩ (by omega)
       · have hsj := span_over (f := notLf) (s := s) (p := p + j) (by omega)
         focus
          refine cw_seq (cS (C1 Mv (C1 Mv (C1 Py (C1 V3 (C1 Mv (Ono (Ono (Ono (Ono (C1 Qno ?_))))))))))); refine cT (cw_cond_f rfl (cw_exit (qw_then_exit (qw_then_exit (qw_block_exit (qw_then (cw_exit (qw_then_exit (qw_block_exit ?_))))))))); rotate_left 1
         exact qw_round (p + j, acc, a, cap) (by (refine sub_cons rfl ?_; refine sub_cons rfl ?_; refine sub_cons rfl ?_; exact sub_nil)) ⟨by assumption, X, by simp only; omega, by simp only; omega, by rw [HE.out, hej, hsj]; rfl⟩ (by simp only; omega)
     · have n5 : s[p].toNat ≠ 35 := fun e => h35 (UInt8.toNat_inj.1 e)
       have hb0 : blank s[p] = false := by simpa using hb
       cases hl : letter s[p]
       · cases hd : digit s[p]
         · have hft : firstTok (s.drop p) = (3, signLen (s.drop p)) := by
            rw [drop_at hlt]; simp [firstTok, hl, hd, hb0, h35]
           have hle := signLen_le (s.drop p); have hdl : (s.drop p).length = s.length - p := List.length_drop; rw [hdl] at hle; have HS := Lib.hid (fun h0 => step_tok hlt hft h0 (by decide) (by decide) he); have HZ := Lib.hid (fun h0 : signLen (s.drop p) = 0 => show solidFrom s 0 = ([], some p) from by rw [he, solidFrom_err hlt (by rw [hft]; exact h0)]; rfl); clear he hb h35 hb0 hft
           focus
            refine cw_seq (cS (C1 Mv (C1 Mv (C1 Py (C1 V3 (cT (Wyo (cw_skip (qw_then (cw_block (cS ?_))))))))))); refine C1 Mv (C1 Mv ?_); refine C1 (pur_sindex tabOk rfl rfl rfl (by omega) (by assumption)) ?_; refine C1 Pa (cT (cw_seq (cS (C1 Mv (C1 V1 (C1 Mv (Gno (C1 Mv (Gno (C1 V1 (C1 Qno ?_))))))))))); refine C1 Mv (Gno (C1 Mv (Gno (C1 V1 (C1 Qno (C1 Mv (Gno (C1 Mv (Gno (C1 V1 (C1 Qno ?_))))))))))); refine cT (Wno (cw_skip (qw_then (cw_seq (cS (C1 Mv (C1 V1 (cT (Wno (cw_skip (qw_then ?_))))))))))); refine cS (C1 Mv (C1 Pa (cT (cw_seq (cS (C1 Mv (cC rfl (rletter_c _ _) ?_))))))); rintro _ wi1 ⟨⟨⟩, rfl⟩; refine cT ?_; refine cw_bf rfl (by assumption) ?_; refine cS (C1 Mv (cC rfl (rdigit_c _ _) ?_)); rintro _ wi2 ⟨⟨⟩, rfl⟩; refine cT ?_; refine cw_bf rfl (by assumption) ?_; refine cS ?_; refine lw_does (does_call (by kernel_rfl) rfl (rsigns_c _) (fun _ _ ⟨_, h⟩ => ⟨_, h.1⟩)) rfl ?_ (fun _ h => h); rintro _ wi6 ⟨bi3, ⟨⟨⟩, ⟨hi4, xi5⟩⟩⟩; have zi7 := xi5.size; replace hown := hown.ext xi5; replace X := X.ext xi5; clear xi5; refine C1 Pa (cT (cw_seq (cS (C1 Pa (cT (cw_block ?_)))))); rotate_left 1
           have hkl : signsL.length = 31 := rfl; refine cw_loop (ι := Nat × Nat) (fun x => [(0, str s), (5, .slice a acc.length cap), (6, .int .i64 p), (8, .int .i64 ((p : Int) + (x.2 : Int))), (9, .slice (some ⟨bi3, 0, none⟩) 31 31), (10, .int .i64 x.1)]) (fun x w' => Row w' ⟨bi3, 0, none⟩ (signsL.map str) ∧ OwnL rtokShape w' w.heap.size 82 (.slice a acc.length cap) acc ∧ Ext w w' ∧ x.1 ≤ 31 ∧ x.2 = pickLen (signsL.take x.1) (s.drop p)) (fun x => 31 - x.1) (0, 0) (by (refine sub_cons rfl ?_; refine sub_cons rfl ?_; refine sub_cons rfl ?_; refine sub_cons rfl ?_; refine sub_cons rfl ?_; refine sub_cons rfl ?_; exact sub_nil)) ⟨hi4, hown, X, by omega, rfl⟩ ?_; clear hi4 hown X zi7; rintro ⟨j, m⟩ wj ⟨hr, hown, X, hj, hm⟩; simp only at hj hm hr hown X; have X1 := Ext.refl wj; refine CW.sub (m := [(0, str s), (5, .slice a acc.length cap), (6, .int .i64 p), (8, .int .i64 ((p : Int) + (m : Int))), (9, .slice (some ⟨bi3, 0, none⟩) 31 31), (10, .int .i64 j)]) ?_ (by (refine sub_cons rfl ?_; refine sub_cons rfl ?_; refine sub_cons rfl ?_; refine sub_cons rfl ?_; refine sub_cons rfl ?_; refine sub_cons rfl ?_; exact sub_nil)); clear hcp n1 n2 n3 n4 n5
           by_cases hm0 : m = 0
           · by_cases hlj : j < 31
             · have hrj := hr.nth (j := j) (by rw [hkl]; exact hlj)
               have HR := Lib.hid hr; clear hr
               have hpn := pick_next (j := j) (s := s.drop p) (by rw [hkl]; exact hlj) (by omega); have hxl : (signsL[j]'(by rw [hkl]; exact hlj)).length ≤ 3 := (show ∀ x ∈ signsL, x.length ≤ 3 by decide) _ (List.getElem_mem _)
               generalize hx : signsL[j]'(by rw [hkl]; exact hlj) = x at hrj hpn hxl
               subst hm0
               by_cases hfit : p + x.length ≤ s.length
               · by_cases hq : (s.drop p).take x.length = x
                 · rw [if_pos (prefix_take.2 hq.symm)] at hpn
                   focus
                    refine cw_seq (cS (C1 Mv (C1 Mv (C1 Pz (C1 V3 (C1 Mv (Gyo (C1 Mv (Gyo (C1 Mv (Gyo ?_))))))))))); refine C1 V1 (C1 Qyo (cT (Wyo (cw_skip (qw_then (cw_seq (cw_block (cw_seq ?_)))))))); (refine cw_tdraw (fun wz => Ext wj wz) 25 (.pure 0 (.pure 1 (.pure 2 (.pure 3 (.pure 4 (.pure 5 (.pure 6 (.pure 7 (.pure 8 (.pure 9 (.pure 10 (.pure 11 (.pure 12 (.pure 13 (.pure 14 (.pure 15 (.pure 16 (.pure 17 (.pure 18 (.pure 19 (.pure 20 (.pure 21 (.pure 22 (.pure 23 (.pure 24 .tail))))))))))))))))))))))))) mixed (by kernel_rfl) (panicOk_then (panicOk_block (panicOk_then (panicOk_then (panicOk_block (panicOk_then (panicOk_then (panicOk_block (panicOk_then (panicOk_block (panicOk_then panicOk_body))))))))))) ?_; intro wj1 xj2 _); have qsj3 : (fun wz => Ext wj wz) wj1 := xj2; simp only at qsj3; have d_hown := hown; have d_hrj := hrj; have zj4 := xj2.size; replace hown := hown.ext xj2; replace X := X.ext xj2; replace X1 := X1.ext xj2; replace hrj := hrj.ext xj2; clear xj2; refine ⟨qsj3, ?_⟩; refine Tq rfl Mv (Tq rfl Mv (Tq rfl Mv (Tq rfl Pi (Tq rfl (pur_load tabOk rfl rfl rfl (fun wz hz => Row.at0 (Row.ext d_hrj hz) rfl)) (Tq rfl Py (Tq rfl V7 (Tq rfl Mv (Tq rfl Py (Tq rfl V4 (Tq rfl Mv ?_)))))))))); refine tw_on rfl rfl rfl rfl (gd_tt (by omega)) (pur_move rfl) rfl ?_; refine tw_on rfl rfl rfl rfl (gd_tt (by omega)) (pur_move rfl) rfl ?_; refine tw_on rfl rfl rfl rfl (gd_tt (by omega)) (pur_move rfl) rfl ?_; refine tw_on rfl rfl rfl rfl (gd_tt (by omega)) (pur_move rfl) rfl ?_
                    refine tw_on rfl rfl rfl rfl (gd_tt (by omega)) (pur_move rfl) rfl ?_; refine tw_on rfl rfl rfl rfl (gd_tt (by omega)) (pur_indexAddr tabOk rfl rfl rfl rfl (by omega) (by omega)) rfl ?_; refine tw_on rfl rfl rfl rfl (gd_tt (by omega)) (pur_load tabOk rfl rfl rfl (fun wz hz => Row.at0 (Row.ext d_hrj hz) rfl)) rfl ?_; refine tw_on rfl rfl rfl rfl (gd_tt (by omega)) (pur_len_s tabOk rfl rfl) rfl ?_; refine tw_on rfl rfl rfl rfl (gd_tt (by omega)) (pur_add rfl rfl (IntWalk.i64_in _ (by omega))) rfl ?_; refine tw_on rfl rfl rfl rfl (gd_tt (by omega)) (pur_spartN tabOk rfl rfl rfl rfl (by omega)) rfl ?_; refine tw_on rfl rfl rfl rfl (gd_tt (by omega)) (pur_move rfl) rfl ?_; refine tw_on rfl rfl rfl rfl (gd_tt (by omega)) (pur_move rfl) rfl ?_; refine tw_on rfl rfl rfl rfl (gd_tt (by omega)) (pur_indexAddr tabOk rfl rfl rfl rfl (by omega) (by omega)) rfl ?_; refine tw_on rfl rfl rfl rfl (gd_tt (by omega)) (pur_load tabOk rfl rfl rfl (fun wz hz => Row.at0 (Row.ext d_hrj hz) rfl)) rfl ?_; clear qsj3 d_hown d_hrj; refine tw_tail rfl (Gyo (C1 V8 (C1 Qyo (cT (Wya (cw_region (C1 Mv (C1 Mv (C1 Mv (C1 Pi (C1 (Pw0 hrj) ?_))))))))))); refine C1 Py (C1 V7 (C1 Pa (lw_nil (qw_block_norm (qw_then (cw_region (C1 Mv (C1 V7 (C1 Pa (lw_nil ?_)))))))))); rotate_left 1
                   exact qw_round (j + 1, x.length) (by (refine sub_cons rfl ?_; refine sub_cons rfl ?_; refine sub_cons rfl ?_; refine sub_cons rfl ?_; refine sub_cons rfl ?_; refine sub_cons rfl ?_; exact sub_nil)) ⟨HR.out.ext X1, by assumption, X, by simp only; omega, hpn.symm⟩ (by simp only; omega)
                 · rw [if_neg (fun e => hq (prefix_take.1 e).symm)] at hpn
                   focus
                    refine cw_seq (cS (C1 Mv (C1 Mv (C1 Pz (C1 V3 (C1 Mv (Gyo (C1 Mv (Gyo (C1 Mv (Gyo ?_))))))))))); refine C1 V1 (C1 Qyo (cT (Wyo (cw_skip (qw_then (cw_seq (cw_block (cw_seq ?_)))))))); (refine cw_tdraw (fun wz => Ext wj wz) 25 (.pure 0 (.pure 1 (.pure 2 (.pure 3 (.pure 4 (.pure 5 (.pure 6 (.pure 7 (.pure 8 (.pure 9 (.pure 10 (.pure 11 (.pure 12 (.pure 13 (.pure 14 (.pure 15 (.pure 16 (.pure 17 (.pure 18 (.pure 19 (.pure 20 (.pure 21 (.pure 22 (.pure 23 (.pure 24 .tail))))))))))))))))))))))))) mixed (by kernel_rfl) (panicOk_then (panicOk_block (panicOk_then (panicOk_then (panicOk_block (panicOk_then (panicOk_then (panicOk_block (panicOk_then (panicOk_block (panicOk_then panicOk_body))))))))))) ?_; intro wk1 xk2 _); have qsk3 : (fun wz => Ext wj wz) wk1 := xk2; simp only at qsk3; have d_hown := hown; have d_hrj := hrj; have zk4 := xk2.size; replace hown := hown.ext xk2; replace X := X.ext xk2; replace X1 := X1.ext xk2; replace hrj := hrj.ext xk2; clear xk2; refine ⟨qsk3, ?_⟩; refine Tq rfl Mv (Tq rfl Mv (Tq rfl Mv (Tq rfl Pi (Tq rfl (pur_load tabOk rfl rfl rfl (fun wz hz => Row.at0 (Row.ext d_hrj hz) rfl)) (Tq rfl Py (Tq rfl V7 (Tq rfl Mv (Tq rfl Py (Tq rfl V4 (Tq rfl Mv ?_)))))))))); refine tw_on rfl rfl rfl rfl (gd_tt (by omega)) (pur_move rfl) rfl ?_; refine tw_on rfl rfl rfl rfl (gd_tt (by omega)) (pur_move rfl) rfl ?_; refine tw_on rfl rfl rfl rfl (gd_tt (by omega)) (pur_move rfl) rfl ?_; refine tw_on rfl rfl rfl rfl (gd_tt (by omega)) (pur_move rfl) rfl ?_
                    refine tw_on rfl rfl rfl rfl (gd_tt (by omega)) (pur_move rfl) rfl ?_; refine tw_on rfl rfl rfl rfl (gd_tt (by omega)) (pur_indexAddr tabOk rfl rfl rfl rfl (by omega) (by omega)) rfl ?_; refine tw_on rfl rfl rfl rfl (gd_tt (by omega)) (pur_load tabOk rfl rfl rfl (fun wz hz => Row.at0 (Row.ext d_hrj hz) rfl)) rfl ?_; refine tw_on rfl rfl rfl rfl (gd_tt (by omega)) (pur_len_s tabOk rfl rfl) rfl ?_; refine tw_on rfl rfl rfl rfl (gd_tt (by omega)) (pur_add rfl rfl (IntWalk.i64_in _ (by omega))) rfl ?_; refine tw_on rfl rfl rfl rfl (gd_tt (by omega)) (pur_spartN tabOk rfl rfl rfl rfl (by omega)) rfl ?_; refine tw_on rfl rfl rfl rfl (gd_tt (by omega)) (pur_move rfl) rfl ?_; refine tw_on rfl rfl rfl rfl (gd_tt (by omega)) (pur_move rfl) rfl ?_; refine tw_on rfl rfl rfl rfl (gd_tt (by omega)) (pur_indexAddr tabOk rfl rfl rfl rfl (by omega) (by omega)) rfl ?_; refine tw_on rfl rfl rfl rfl (gd_tt (by omega)) (pur_load tabOk rfl rfl rfl (fun wz hz => Row.at0 (Row.ext d_hrj hz) rfl)) rfl ?_; clear qsk3 d_hown d_hrj; refine tw_tail rfl (Gyo (C1 V8 (C1 Qyo (cT (Wna (cw_skip (qw_block_norm (qw_then (cw_region (C1 Mv (C1 V7 ?_))))))))))); refine C1 Pa (lw_nil ?_); rotate_left 1
                   exact qw_round (j + 1, 0) (by (refine sub_cons rfl ?_; refine sub_cons rfl ?_; refine sub_cons rfl ?_; refine sub_cons rfl ?_; refine sub_cons rfl ?_; refine sub_cons rfl ?_; exact sub_nil)) ⟨HR.out.ext X1, by assumption, X, by simp only; omega, hpn.symm⟩ (by simp only; omega)
               · rw [if_neg (fun e => by have := (List.isPrefixOf_iff_prefix.1 e).length_le; omega)] at hpn
                 focus
                  refine cw_seq (cS (C1 Mv (C1 Mv (C1 Pz (C1 V3 (C1 Mv (Gyo (C1 Mv (Gyo (C1 Mv (Gyo ?_))))))))))); refine C1 V1 (C1 Qyo (cT (Wyo (cw_skip (qw_then (cw_seq (cw_block (cw_seq ?_)))))))); (refine cw_tdraw (fun wz => Ext wj wz) 25 (.pure 0 (.pure 1 (.pure 2 (.pure 3 (.pure 4 (.pure 5 (.pure 6 (.pure 7 (.pure 8 (.pure 9 (.pure 10 (.pure 11 (.pure 12 (.pure 13 (.pure 14 (.pure 15 (.pure 16 (.pure 17 (.pure 18 (.pure 19 (.pure 20 (.pure 21 (.pure 22 (.pure 23 (.pure 24 .tail))))))))))))))))))))))))) mixed (by kernel_rfl) (panicOk_then (panicOk_block (panicOk_then (panicOk_then (panicOk_block (panicOk_then (panicOk_then (panicOk_block (panicOk_then (panicOk_block (panicOk_then panicOk_body))))))))))) ?_; intro wl1 xl2 _); have qsl3 : (fun wz => Ext wj wz) wl1 := xl2; simp only at qsl3; have d_hown := hown; have d_hrj := hrj; have zl4 := xl2.size; replace hown := hown.ext xl2; replace X := X.ext xl2; replace X1 := X1.ext xl2; replace hrj := hrj.ext xl2; clear xl2; refine ⟨qsl3, ?_⟩; refine Tq rfl Mv (Tq rfl Mv (Tq rfl Mv (Tq rfl Pi (Tq rfl (pur_load tabOk rfl rfl rfl (fun wz hz => Row.at0 (Row.ext d_hrj hz) rfl)) (Tq rfl Py (Tq rfl V7 (Tq rfl Mv (Tq rfl Py (Tq rfl V4 (Tq rfl Mv ?_)))))))))); refine tw_off rfl rfl rfl rfl (gd_tf (by omega)) rfl ?_; refine tw_off rfl rfl rfl rfl (gd_tf (by omega)) rfl ?_; refine tw_off rfl rfl rfl rfl (gd_tf (by omega)) rfl ?_; refine tw_off rfl rfl rfl rfl (gd_tf (by omega)) rfl ?_; refine tw_off rfl rfl rfl rfl (gd_tf (by omega)) rfl ?_
                  refine tw_off rfl rfl rfl rfl (gd_tf (by omega)) rfl ?_; refine tw_off rfl rfl rfl rfl (gd_tf (by omega)) rfl ?_; refine tw_off rfl rfl rfl rfl (gd_tf (by omega)) rfl ?_; refine tw_off rfl rfl rfl rfl (gd_tf (by omega)) rfl ?_; refine tw_off rfl rfl rfl rfl (gd_tf (by omega)) rfl ?_; refine tw_off rfl rfl rfl rfl (gd_tf (by omega)) rfl ?_; refine tw_off rfl rfl rfl rfl (gd_tf (by omega)) rfl ?_; refine tw_off rfl rfl rfl rfl (gd_tf (by omega)) rfl ?_; refine tw_off rfl rfl rfl rfl (gd_tf (by omega)) rfl ?_; clear qsl3 d_hown d_hrj; refine tw_tail rfl (Ono (C1 Qno (cT (cw_cond_f rfl (cw_skip (qw_block_norm (qw_then (cw_region (C1 Mv (C1 V7 (C1 Pa ?_))))))))))); refine lw_nil ?_; rotate_left 1
                 exact qw_round (j + 1, 0) (by (refine sub_cons rfl ?_; refine sub_cons rfl ?_; refine sub_cons rfl ?_; refine sub_cons rfl ?_; refine sub_cons rfl ?_; refine sub_cons rfl ?_; exact sub_nil)) ⟨HR.out.ext X1, by assumption, X, by simp only; omega, hpn.symm⟩ (by simp only; omega)
             · have hz : signLen (s.drop p) = 0 := by
                rw [← pickLen_signs, ← hm0, hm, List.take_of_length_le (by rw [hkl]; omega)]
               rw [HZ.out hz]; subst hm0
               focus
                refine cw_seq (cS (C1 Mv (C1 Mv (C1 Pz (C1 V3 (C1 Mv (Ono (Ono (Ono (C1 Qno (cT ?_))))))))))); refine cw_cond_f rfl (cw_exit (qw_then_exit (qw_then_exit (qw_block_exit (qw_then (cS (C1 Mv (C1 Mv (C1 V1 (cT (Wyo ?_))))))))))); refine cS (C1 Mv (C1 Pa (C1 Pa (C1 Pa (cT (cw_ret (qw_then_ret (qw_block_ret (qw_then_ret (qw_block_ret (qw_then_ret ?_))))))))))); refine qw_ret3 rfl rfl rfl rfl ?_; rotate_left 1
               exact ⟨_, _, rfl, Or.inl rfl, X⟩
           · have hml : m = signLen (s.drop p) := by rw [hm]; exact pick_all (by omega)
             by_cases hlj : j < 31
             · focus
                refine cw_seq (cS (C1 Mv (C1 Mv (C1 Pz (C1 V3 (C1 Mv (Gyo (C1 Mv (Gyo (C1 Mv (Gyo ?_))))))))))); refine C1 V1 (C1 Qyo (cT (Wno (cw_exit (qw_then_exit (qw_then_exit (qw_block_exit (qw_then (cS (C1 Mv (C1 Mv ?_))))))))))); refine C1 V1 (cT (Wno (cw_skip (qw_then (cS (C1 Mv (C1 Mv (C1 Mv (C1 Mv ?_))))))))); refine C1 (pur_spartN tabOk rfl rfl rfl rfl (by omega)) ?_; refine C1 Mv (C1 (pur_build' [_, _] tabOk zOk rfl rfl rfl rfl) ?_); (refine lw_does (does_slice' [_, _] tabOk zOk rfl rfl rfl rfl rfl rfl rfl rfl rfl) rfl ?_ (fun _ h => h); rintro _ wn2 ⟨bn1, rfl, nn3, tn4⟩); clear tn4; have hn5 := nn3.blk; have xn6 := nn3.ext; have pn7 := nn3.pos; have zn8 := nn3.size; clear nn3; replace hr := hr.ext xn6; replace hown := hown.ext xn6; replace X := X.ext xn6; replace X1 := X1.ext xn6; clear xn6; refine lw_appendL (sh := rtokShape) (z := ⟨3, (s.drop p).take m, (p : Int)⟩) tabOk zOk rfl rfl rfl rfl (by kernel_rfl) rfl rfl rfl (by assumption) (Blk.row (by assumption)) rfl (by omega) (by have := Ext.size X; omega) rfl ?_; rintro gn9 cap'n10 wn11 hn12 fn13; have zn14 := fn13.size; clear hn5 hr hown; replace X := X.fr fn13 (by omega); clear fn13; refine C1 Pa (cT (cw_region (C1 Mv (C1 Pa (lw_nil (qw_block_norm ?_)))))); rotate_left 1
               refine qw_round (p + m, acc ++ [⟨3, (s.drop p).take m, (p : Int)⟩], some ⟨_, 0, none⟩, _) (by (refine sub_cons rfl ?_; refine sub_cons rfl ?_; refine sub_cons rfl ?_; exact sub_nil)) ⟨by assumption, X, by simp only; omega, by simp only [List.length_append, List.length_cons, List.length_nil]; omega, by have := HS.out (by omega); rw [show signLen (s.drop p) = m from by omega] at this; exact this⟩ (by simp only; omega)
             · focus
                refine cw_seq (cS (C1 Mv (C1 Mv (C1 Pz (C1 V3 (C1 Mv (Ono (Ono (Ono (C1 Qno (cT ?_))))))))))); refine cw_cond_f rfl (cw_exit (qw_then_exit (qw_then_exit (qw_block_exit (qw_then (cS (C1 Mv (C1 Mv (C1 V1 (cT (Wno ?_))))))))))); refine cw_skip (qw_then (cS (C1 Mv (C1 Mv (C1 Mv (C1 Mv ?_)))))); refine C1 (pur_spartN tabOk rfl rfl rfl rfl (by omega)) ?_; refine C1 Mv (C1 (pur_build' [_, _] tabOk zOk rfl rfl rfl rfl) ?_); (refine lw_does (does_slice' [_, _] tabOk zOk rfl rfl rfl rfl rfl rfl rfl rfl rfl) rfl ?_ (fun _ h => h); rintro _ wo2 ⟨bo1, rfl, no3, to4⟩); clear to4; have ho5 := no3.blk; have xo6 := no3.ext; have po7 := no3.pos; have zo8 := no3.size; clear no3; replace hr := hr.ext xo6; replace hown := hown.ext xo6; replace X := X.ext xo6; replace X1 := X1.ext xo6; clear xo6; refine lw_appendL (sh := rtokShape) (z := ⟨3, (s.drop p).take m, (p : Int)⟩) tabOk zOk rfl rfl rfl rfl (by kernel_rfl) rfl rfl rfl (by assumption) (Blk.row (by assumption)) rfl (by omega) (by have := Ext.size X; omega) rfl ?_; rintro go9 cap'o10 wo11 ho12 fo13; have zo14 := fo13.size; clear ho5 hr hown; replace X := X.fr fo13 (by omega); clear fo13; refine C1 Pa (cT (cw_region (C1 Mv (C1 Pa (lw_nil (qw_block_norm ?_)))))); rotate_left 1
               refine qw_round (p + m, acc ++ [⟨3, (s.drop p).take m, (p : Int)⟩], some ⟨_, 0, none⟩, _) (by (refine sub_cons rfl ?_; refine sub_cons rfl ?_; refine sub_cons rfl ?_; exact sub_nil)) ⟨by assumption, X, by simp only; omega, by simp only [List.length_append, List.length_cons, List.length_nil]; omega, by have := HS.out (by omega); rw [show signLen (s.drop p) = m from by omega] at this; exact this⟩ (by simp only; omega)
         · have hft : firstTok (s.drop p) = (2, span digit (s.drop p)) := by rw [drop_at hlt]; simp [firstTok, hl, hd]
           have hsp : span digit (s.drop p) = 1 + span digit (s.drop (p + 1)) := by rw [span_at hlt, if_pos hd]
           have hle := span_le (f := digit) (s := s) (p := p); clear hb h35 hb0
           have HE := Lib.hid (step_tok hlt hft (by omega) (by decide) (by decide) he); clear he
           focus
            refine cw_seq (cS (C1 Mv (C1 Mv (C1 Py (C1 V3 (cT (Wyo (cw_skip (qw_then (cw_block (cS ?_))))))))))); refine C1 Mv (C1 Mv ?_); refine C1 (pur_sindex tabOk rfl rfl rfl (by omega) (by assumption)) ?_; refine C1 Pa (cT (cw_seq (cS (C1 Mv (C1 V1 (C1 Mv (Gno (C1 Mv (Gno (C1 V1 (C1 Qno ?_))))))))))); refine C1 Mv (Gno (C1 Mv (Gno (C1 V1 (C1 Qno (C1 Mv (Gno (C1 Mv (Gno (C1 V1 (C1 Qno ?_))))))))))); refine cT (Wno (cw_skip (qw_then (cw_seq (cS (C1 Mv (C1 V1 (cT (Wno (cw_skip (qw_then ?_))))))))))); refine cS (C1 Mv (C1 Pa (cT (cw_seq (cS (C1 Mv (cC rfl (rletter_c _ _) ?_))))))); rintro _ wp1 ⟨⟨⟩, rfl⟩; refine cT ?_; refine cw_bf rfl (by assumption) ?_; refine cS (C1 Mv (cC rfl (rdigit_c _ _) ?_)); rintro _ wp2 ⟨⟨⟩, rfl⟩; refine cT ?_; refine cw_bt rfl (by assumption) ?_; refine cw_block ?_; rotate_left 1
           refine cw_loop (ι := Nat) (fun m => [(0, str s), (5, .slice a acc.length cap), (6, .int .i64 p), (8, .int .i64 ((p : Int) + (m : Int)))]) (fun m w' => w1 = w' ∧ p + m ≤ s.length ∧ span digit (s.drop p) = m + span digit (s.drop (p + m))) (fun m => s.length - (p + m)) 0 (by (refine sub_cons rfl ?_; refine sub_cons rfl ?_; refine sub_cons rfl ?_; refine sub_cons rfl ?_; exact sub_nil)) ⟨rfl, by omega, by simp⟩ ?_; rintro m _ ⟨rfl, hm, hem⟩; refine CW.sub (m := [(0, str s), (5, .slice a acc.length cap), (6, .int .i64 p), (8, .int .i64 ((p : Int) + (m : Int)))]) ?_ (by (refine sub_cons rfl ?_; refine sub_cons rfl ?_; refine sub_cons rfl ?_; refine sub_cons rfl ?_; exact sub_nil)); clear hcp n1 n2 n3 n4 n5
           by_cases hlm : p + m < s.length
           · have hcm : s[((p : Int) + (m : Int)).toNat]? = some s[p + m] := by rw [show ((p : Int) + (m : Int)).toNat = p + m from by omega]; exact List.getElem?_eq_getElem hlm
             have hsm := span_at (f := digit) hlm
             cases hdc : digit s[p + m]
             · rw [if_neg (by simp [hdc])] at hsm
               focus
                refine cw_seq (cS (C1 Mv (C1 Mv (C1 Py (C1 V3 (C1 Mv (Gyo (C1 Mv (Gyo (C1 Mv (Gyo ?_))))))))))); refine C1 (pur_sindex tabOk rfl rfl rfl (by omega) (by assumption)) ?_; refine Gyo (cC rfl (rdigit_c _ _) ?_); rintro _ wq1 ⟨⟨⟩, rfl⟩; refine C1 Qyo (cT ?_); refine cw_bf rfl (by assumption) ?_; refine cw_exit (qw_then_exit (qw_then_exit (qw_block_exit (qw_then (cS (C1 Mv (C1 Mv (C1 Mv (C1 Mv ?_))))))))); refine C1 (pur_spartN tabOk rfl rfl rfl rfl (by omega)) ?_; refine C1 Mv (C1 (pur_build' [_, _] tabOk zOk rfl rfl rfl rfl) ?_); (refine lw_does (does_slice' [_, _] tabOk zOk rfl rfl rfl rfl rfl rfl rfl rfl rfl) rfl ?_ (fun _ h => h); rintro _ wq3 ⟨bq2, rfl, nq4, tq5⟩); clear tq5; have hq6 := nq4.blk; have xq7 := nq4.ext; have pq8 := nq4.pos; have zq9 := nq4.size; clear nq4; replace hown := hown.ext xq7; replace X := X.ext xq7; clear xq7; refine lw_appendL (sh := rtokShape) (z := ⟨2, (s.drop p).take m, (p : Int)⟩) tabOk zOk rfl rfl rfl rfl (by kernel_rfl) rfl rfl rfl (by assumption) (Blk.row (by assumption)) rfl (by omega) (by have := Ext.size X; omega) rfl ?_; rintro gq10 cap'q11 wq12 hq13 fq14; have zq15 := fq14.size; clear hq6 hown; replace X := X.fr fq14 (by omega); clear fq14; refine C1 Pa (cT (cw_region (C1 Mv (C1 Pa (lw_nil (qw_block_norm ?_)))))); rotate_left 1
               refine qw_round (p + m, acc ++ [⟨2, (s.drop p).take m, (p : Int)⟩], some ⟨_, 0, none⟩, _) (by (refine sub_cons rfl ?_; refine sub_cons rfl ?_; refine sub_cons rfl ?_; exact sub_nil)) ⟨by assumption, X, by simp only; omega, by simp only [List.length_append, List.length_cons, List.length_nil]; omega, by have := HE.out; rw [show span digit (s.drop p) = m from by omega] at this; exact this⟩ (by simp only; omega)
             · rw [if_pos hdc] at hsm
               focus
                refine cw_seq (cS (C1 Mv (C1 Mv (C1 Py (C1 V3 (C1 Mv (Gyo (C1 Mv (Gyo (C1 Mv (Gyo ?_))))))))))); refine C1 (pur_sindex tabOk rfl rfl rfl (by omega) (by assumption)) ?_; refine Gyo (cC rfl (rdigit_c _ _) ?_); rintro _ wr1 ⟨⟨⟩, rfl⟩; refine C1 Qyo (cT ?_); refine cw_bt rfl (by assumption) ?_; refine cw_skip (qw_then (cw_block (cw_region (C1 Mv (C1 V7 (C1 Pa (lw_nil (qw_block_norm ?_)))))))); rotate_left 1
               exact qw_round (m + 1) (by (refine sub_cons rfl ?_; refine sub_cons rfl ?_; refine sub_cons rfl ?_; refine sub_cons rfl ?_; exact sub_nil)) ⟨rfl, by omega, by rw [hem, hsm]; simp only [Nat.add_assoc]⟩ (by omega)
           · have hsm := span_over (f := digit) (s := s) (p := p + m) (by omega)
             focus
              refine cw_seq (cS (C1 Mv (C1 Mv (C1 Py (C1 V3 (C1 Mv (Ono (Ono (Ono (Ono (C1 Qno ?_))))))))))); refine cT (cw_cond_f rfl (cw_exit (qw_then_exit (qw_then_exit (qw_block_exit (qw_then (cS (C1 Mv (C1 Mv (C1 Mv (C1 Mv ?_))))))))))); refine C1 (pur_spartN tabOk rfl rfl rfl rfl (by omega)) ?_; refine C1 Mv (C1 (pur_build' [_, _] tabOk zOk rfl rfl rfl rfl) ?_); (refine lw_does (does_slice' [_, _] tabOk zOk rfl rfl rfl rfl rfl rfl rfl rfl rfl) rfl ?_ (fun _ h => h); rintro _ ws2 ⟨bs1, rfl, ns3, ts4⟩); clear ts4; have hs5 := ns3.blk; have xs6 := ns3.ext; have ps7 := ns3.pos; have zs8 := ns3.size; clear ns3; replace hown := hown.ext xs6; replace X := X.ext xs6; clear xs6; refine lw_appendL (sh := rtokShape) (z := ⟨2, (s.drop p).take m, (p : Int)⟩) tabOk zOk rfl rfl rfl rfl (by kernel_rfl) rfl rfl rfl (by assumption) (Blk.row (by assumption)) rfl (by omega) (by have := Ext.size X; omega) rfl ?_; rintro gs9 cap's10 ws11 hs12 fs13; have zs14 := fs13.size; clear hs5 hown; replace X := X.fr fs13 (by omega); clear fs13; refine C1 Pa (cT (cw_region (C1 Mv (C1 Pa (lw_nil (qw_block_norm ?_)))))); rotate_left 1
             refine qw_round (p + m, acc ++ [⟨2, (s.drop p).take m, (p : Int)⟩], some ⟨_, 0, none⟩, _) (by (refine sub_cons rfl ?_; refine sub_cons rfl ?_; refine sub_cons rfl ?_; exact sub_nil)) ⟨by assumption, X, by simp only; omega, by simp only [List.length_append, List.length_cons, List.length_nil]; omega, by have := HE.out; rw [show span digit (s.drop p) = m from by omega] at this; exact this⟩ (by simp only; omega)
       · have hft : firstTok (s.drop p) = (1, span wordish (s.drop p)) := by rw [drop_at hlt]; simp [firstTok, hl]
         have hsp : span wordish (s.drop p) = 1 + span wordish (s.drop (p + 1)) := by rw [span_at hlt, if_pos]; simp [wordish, hl]
         have hle := span_le (f := wordish) (s := s) (p := p); clear hb h35 hb0
         have HE := Lib.hid (step_tok hlt hft (by omega) (by decide) (by decide) he); clear he
         focus
          refine cw_seq (cS (C1 Mv (C1 Mv (C1 Py (C1 V3 (cT (Wyo (cw_skip (qw_then (cw_block (cS ?_))))))))))); refine C1 Mv (C1 Mv ?_); refine C1 (pur_sindex tabOk rfl rfl rfl (by omega) (by assumption)) ?_; refine C1 Pa (cT (cw_seq (cS (C1 Mv (C1 V1 (C1 Mv (Gno (C1 Mv (Gno (C1 V1 (C1 Qno ?_))))))))))); refine C1 Mv (Gno (C1 Mv (Gno (C1 V1 (C1 Qno (C1 Mv (Gno (C1 Mv (Gno (C1 V1 (C1 Qno ?_))))))))))); refine cT (Wno (cw_skip (qw_then (cw_seq (cS (C1 Mv (C1 V1 (cT (Wno (cw_skip (qw_then ?_))))))))))); refine cS (C1 Mv (C1 Pa (cT (cw_seq (cS (C1 Mv (cC rfl (rletter_c _ _) ?_))))))); rintro _ wt1 ⟨⟨⟩, rfl⟩; refine cT ?_; refine cw_bt rfl (by assumption) ?_; refine cw_block ?_; rotate_left 1
         refine cw_loop (ι := Nat) (fun m => [(0, str s), (5, .slice a acc.length cap), (6, .int .i64 p), (8, .int .i64 ((p : Int) + (m : Int)))]) (fun m w' => w1 = w' ∧ p + m ≤ s.length ∧ span wordish (s.drop p) = m + span wordish (s.drop (p + m))) (fun m => s.length - (p + m)) 0 (by (refine sub_cons rfl ?_; refine sub_cons rfl ?_; refine sub_cons rfl ?_; refine sub_cons rfl ?_; exact sub_nil)) ⟨rfl, by omega, by simp⟩ ?_; rintro m _ ⟨rfl, hm, hem⟩; refine CW.sub (m := [(0, str s), (5, .slice a acc.length cap), (6, .int .i64 p), (8, .int .i64 ((p : Int) + (m : Int)))]) ?_ (by (refine sub_cons rfl ?_; refine sub_cons rfl ?_; refine sub_cons rfl ?_; refine sub_cons rfl ?_; exact sub_nil)); clear hcp n1 n2 n3 n4 n5
         by_cases hlm : p + m < s.length
         · have hcm : s[((p : Int) + (m : Int)).toNat]? = some s[p + m] := by rw [show ((p : Int) + (m : Int)).toNat = p + m from by omega]; exact List.getElem?_eq_getElem hlm
           have hsm := span_at (f := wordish) hlm
           cases hlc : letter s[p + m]
           · cases hdc : digit s[p + m]
             · rw [if_neg (by simp [wordish, hlc, hdc])] at hsm
               focus
                refine cw_seq (cS (C1 Mv (C1 Mv (C1 Py (C1 V3 (C1 Mv (Gyo (C1 Mv (Gyo (C1 Mv (Gyo ?_))))))))))); refine C1 (pur_sindex tabOk rfl rfl rfl (by omega) (by assumption)) ?_; refine Gyo (cC rfl (rletter_c _ _) ?_); rintro _ wu1 ⟨⟨⟩, rfl⟩; refine Gyo (C1 Mv ?_); refine lw_on rfl rfl rfl (gb_ff (by assumption)) ?_; refine C1 Mv ?_; refine lw_on rfl rfl rfl (gb_ff (by assumption)) ?_; refine C1 Mv ?_; refine lw_on rfl rfl rfl (gb_ff (by assumption)) ?_; refine C1 (pur_sindex tabOk rfl rfl rfl (by omega) (by assumption)) ?_; refine lw_on rfl rfl rfl (gb_ff (by assumption)) ?_; refine cC rfl (rdigit_c _ _) ?_; rintro _ wu2 ⟨⟨⟩, rfl⟩; refine Gyo ?_; refine C1 (pur_pick_f rfl rfl (by assumption)) ?_; refine C1 Qyo (cT ?_); refine cw_bf rfl (by assumption) ?_; refine cw_exit (qw_then_exit (qw_then_exit (qw_block_exit (qw_then (cS (C1 Mv (C1 Mv (C1 Mv (C1 Mv ?_))))))))); refine C1 (pur_spartN tabOk rfl rfl rfl rfl (by omega)) ?_; refine C1 Mv (C1 (pur_build' [_, _] tabOk zOk rfl rfl rfl rfl) ?_); (refine lw_does (does_slice' [_, _] tabOk zOk rfl rfl rfl rfl rfl rfl rfl rfl rfl) rfl ?_ (fun _ h => h); rintro _ wu4 ⟨bu3, rfl, nu5, tu6⟩); clear tu6; have hu7 := nu5.blk; have xu8 := nu5.ext; have pu9 := nu5.pos; have zu10 := nu5.size; clear nu5; replace hown := hown.ext xu8; replace X := X.ext xu8; clear xu8; refine lw_appendL (sh := rtokShape) (z := ⟨1, (s.drop p).take m, (p : Int)⟩) tabOk zOk rfl rfl rfl rfl (by kernel_rfl) rfl rfl rfl (by assumption) (Blk.row (by assumption)) rfl (by omega) (by have := Ext.size X; omega) rfl ?_
                rintro gu11 cap'u12 wu13 hu14 fu15; have zu16 := fu15.size; clear hu7 hown; replace X := X.fr fu15 (by omega); clear fu15; refine C1 Pa (cT (cw_region (C1 Mv (C1 Pa (lw_nil (qw_block_norm ?_)))))); rotate_left 1
               refine qw_round (p + m, acc ++ [⟨1, (s.drop p).take m, (p : Int)⟩], some ⟨_, 0, none⟩, _) (by (refine sub_cons rfl ?_; refine sub_cons rfl ?_; refine sub_cons rfl ?_; exact sub_nil)) ⟨by assumption, X, by simp only; omega, by simp only [List.length_append, List.length_cons, List.length_nil]; omega, by have := HE.out; rw [show span wordish (s.drop p) = m from by omega] at this; exact this⟩ (by simp only; omega)
             · rw [if_pos (by simp [wordish, hlc, hdc])] at hsm
               focus
                refine cw_seq (cS (C1 Mv (C1 Mv (C1 Py (C1 V3 (C1 Mv (Gyo (C1 Mv (Gyo (C1 Mv (Gyo ?_))))))))))); refine C1 (pur_sindex tabOk rfl rfl rfl (by omega) (by assumption)) ?_; refine Gyo (cC rfl (rletter_c _ _) ?_); rintro _ wv1 ⟨⟨⟩, rfl⟩; refine Gyo (C1 Mv ?_); refine lw_on rfl rfl rfl (gb_ff (by assumption)) ?_; refine C1 Mv ?_; refine lw_on rfl rfl rfl (gb_ff (by assumption)) ?_; refine C1 Mv ?_; refine lw_on rfl rfl rfl (gb_ff (by assumption)) ?_; refine C1 (pur_sindex tabOk rfl rfl rfl (by omega) (by assumption)) ?_; refine lw_on rfl rfl rfl (gb_ff (by assumption)) ?_; refine cC rfl (rdigit_c _ _) ?_; rintro _ wv2 ⟨⟨⟩, rfl⟩; refine Gyo ?_; refine C1 (pur_pick_f rfl rfl (by assumption)) ?_; refine C1 Qyo (cT ?_); refine cw_bt rfl (by assumption) ?_; refine cw_skip (qw_then (cw_block (cw_region (C1 Mv (C1 V7 (C1 Pa (lw_nil (qw_block_norm ?_)))))))); rotate_left 1
               exact qw_round (m + 1) (by (refine sub_cons rfl ?_; refine sub_cons rfl ?_; refine sub_cons rfl ?_; refine sub_cons rfl ?_; exact sub_nil)) ⟨rfl, by omega, by rw [hem, hsm]; simp only [Nat.add_assoc]⟩ (by omega)
           · rw [if_pos (by simp [wordish, hlc])] at hsm
             focus
              refine cw_seq (cS (C1 Mv (C1 Mv (C1 Py (C1 V3 (C1 Mv (Gyo (C1 Mv (Gyo (C1 Mv (Gyo ?_))))))))))); refine C1 (pur_sindex tabOk rfl rfl rfl (by omega) (by assumption)) ?_; refine Gyo (cC rfl (rletter_c _ _) ?_); rintro _ ww1 ⟨⟨⟩, rfl⟩; refine Gyo (C1 Mv ?_); refine lw_off rfl rfl rfl (gb_ft (by assumption)) rfl ?_; refine lw_off rfl rfl rfl (gb_ft (by assumption)) rfl ?_; refine lw_off rfl rfl rfl (gb_ft (by assumption)) rfl ?_; refine lw_off rfl rfl rfl (gb_ft (by assumption)) rfl ?_; refine Gyo ?_; refine C1 (pur_pick_t rfl rfl (by assumption)) ?_; refine C1 Qyo (cT (cw_cond_t rfl (cw_skip (qw_then (cw_block (cw_region (C1 Mv (C1 V7 (C1 Pa (lw_nil (qw_block_norm ?_))))))))))); rotate_left 1
             exact qw_round (m + 1) (by (refine sub_cons rfl ?_; refine sub_cons rfl ?_; refine sub_cons rfl ?_; refine sub_cons rfl ?_; exact sub_nil)) ⟨rfl, by omega, by rw [hem, hsm]; simp only [Nat.add_assoc]⟩ (by omega)
         · have hsm := span_over (f := wordish) (s := s) (p := p + m) (by omega)
           focus
            refine cw_seq (cS (C1 Mv (C1 Mv (C1 Py (C1 V3 (C1 Mv (Ono (Ono (Ono (Ono (Ono ?_))))))))))); refine lw_off_u rfl rfl rfl rfl (lw_off_u rfl rfl rfl rfl (lw_off_u rfl rfl rfl rfl (lw_off_u rfl rfl rfl rfl (Ono (C1 Qno (cT (cw_cond_f rfl (cw_exit (qw_then_exit (qw_then_exit (qw_block_exit ?_))))))))))); refine qw_then (cS (C1 Mv (C1 Mv (C1 Mv (C1 Mv ?_))))); refine C1 (pur_spartN tabOk rfl rfl rfl rfl (by omega)) ?_; refine C1 Mv (C1 (pur_build' [_, _] tabOk zOk rfl rfl rfl rfl) ?_); (refine lw_does (does_slice' [_, _] tabOk zOk rfl rfl rfl rfl rfl rfl rfl rfl rfl) rfl ?_ (fun _ h => h); rintro _ wx2 ⟨bx1, rfl, nx3, tx4⟩); clear tx4; have hx5 := nx3.blk; have xx6 := nx3.ext; have px7 := nx3.pos; have zx8 := nx3.size; clear nx3; replace hown := hown.ext xx6; replace X := X.ext xx6; clear xx6; refine lw_appendL (sh := rtokShape) (z := ⟨1, (s.drop p).take m, (p : Int)⟩) tabOk zOk rfl rfl rfl rfl (by kernel_rfl) rfl rfl rfl (by assumption) (Blk.row (by assumption)) rfl (by omega) (by have := Ext.size X; omega) rfl ?_; rintro gx9 cap'x10 wx11 hx12 fx13; have zx14 := fx13.size; clear hx5 hown; replace X := X.fr fx13 (by omega); clear fx13; refine C1 Pa (cT (cw_region (C1 Mv (C1 Pa (lw_nil (qw_block_norm ?_)))))); rotate_left 1
           refine qw_round (p + m, acc ++ [⟨1, (s.drop p).take m, (p : Int)⟩], some ⟨_, 0, none⟩, _) (by (refine sub_cons rfl ?_; refine sub_cons rfl ?_; refine sub_cons rfl ?_; exact sub_nil)) ⟨by assumption, X, by simp only; omega, by simp only [List.length_append, List.length_cons, List.length_nil]; omega, by have := HE.out; rw [show span wordish (s.drop p) = m from by omega] at this; exact this⟩ (by simp only; omega)
 · rw [show solidFrom s 0 = (acc, none) from by rw [he, solidFrom_end (by omega)]; simp [pre]]
   focus
    refine cw_seq (cS (C1 Mv (C1 Mv (C1 Py (C1 V3 (cT (Wno (cw_exit (qw_then_exit (qw_then_exit (qw_block_exit ?_))))))))))); refine qw_then (cS (C1 Mv (C1 Pa (C1 Pa (C1 Pa (cT (cw_ret (qw_ret3 rfl rfl rfl rfl ?_)))))))); rotate_left 1
   exact ⟨_, _, rfl, RToks.lt2 (S := (w.heap.size ≤ ·)) (OwnL.rtoks hown (fun b h => h)), X⟩
end Bk
namespace Bk
open Go Go.RowKit Go.Proofs
attribute [local irreducible] Go.Calls
theorem RToks.ext {S : Nat → Prop} {w w' : World} {l : List Tok} {a : Option Addr} (h : RToks S w l a) (x : Ext w w') : RToks S w' l a := h.mono (fun _ h => h) (fun _ _ _ _ _ h => Row.ext h x)
theorem RToks.fr {S T : Nat → Prop} {w w' : World} {l : List Tok} {a : Option Addr} (h : RToks S w l a) (x : Fr T w w') (hs : ∀ b, S b → ¬ T b) : RToks S w' l a := h.mono (fun _ h => h) (fun b _ _ _ hb h => Row.fr h x (hs b hb))
theorem RToks.wide {S S' : Nat → Prop} {w : World} {l : List Tok} {a : Option Addr} (h : RToks S w l a) (hs : ∀ b, S b → S' b) : RToks S' w l a := h.mono hs (fun _ _ _ _ _ h => h)
theorem takeWhile_twice (p : UInt8 → Bool) (l : List UInt8) : (l.takeWhile p).takeWhile p = l.takeWhile p := by
 induction l with
 | nil => rfl
 | cons x r ih =>
  rw [List.takeWhile_cons]
  split
  · rename_i h; rw [List.takeWhile_cons, if_pos h, ih]
  · rfl
theorem firstTok_name (s : List UInt8) (hs : s ≠ []) (h0 : (firstTok s).2 ≠ 0) : refName (s.take (firstTok s).2) = isName (s.take (firstTok s).2) := by
 cases s with
 | nil => exact absurd rfl hs
 | cons c r =>
  cases hl : letter c
  · obtain ⟨m, hm⟩ : ∃ m, (firstTok (c :: r)).2 = m + 1 := ⟨(firstTok (c :: r)).2 - 1, by omega⟩
    rw [hm, List.take_succ_cons]
    have h1 : ((firstTok (c :: r.take m)).1 == 1) = false := by
     simp only [firstTok, hl, Bool.false_eq_true, if_false]
     split
     · rfl
     · split
       · rfl
       · split <;> rfl
    simp [refName, isName, hl, h1]
  · have h1 : firstTok (c :: r) = (1, span wordish (c :: r)) := by simp [firstTok, hl]
    rw [h1]; simp only [span]; rw [take_takeWhile]
    have hw : wordish c = true := by simp [wordish, hl]
    have e : (c :: r).takeWhile wordish = c :: r.takeWhile wordish := by rw [List.takeWhile_cons, if_pos hw]
    have h2 : firstTok ((c :: r).takeWhile wordish) = (1, ((c :: r).takeWhile wordish).length) := by
     rw [e]; simp only [firstTok, hl, if_true, span]; rw [← e, takeWhile_twice]
    unfold refName isName
    rw [h2, e]
    simp [hl]
theorem lexGo_nm (s : List UInt8) : ∀ (k p : Nat) (acc : List Tok), (∀ t ∈ acc, refName t.text = isName t.text) → ∀ t ∈ (lexGo k s p acc).1, refName t.text = isName t.text
 | 0, p, acc, h => by rw [lexGo]; exact h
 | k + 1, p, acc, h => by
  rw [lexGo]
  split
  · rename_i hp
    split
    · simp
    · rename_i h0
      refine lexGo_nm s k _ _ ?_; intro t ht
      rcases List.mem_append.1 ht with ht | ht
      · exact h t ht
      · simp only [List.mem_singleton] at ht
        subst ht
        have hne : s.drop p ≠ [] := by
         intro e; have := congrArg List.length e
         simp at this; omega
        exact firstTok_name _ hne h0
  · exact h
theorem solid_nm (s : List UInt8) : ∀ t ∈ (startP s).1, refName t.text = isName t.text := by
 intro t ht; have ht : t ∈ (lexT s).1 := (List.mem_filter.1 ht).1
 revert ht
 unfold lexT
 split
 · simp
 · have := lexGo_nm s (s.length + 1) 0 [] (by simp)
   split
   · rename_i l h; rw [h] at this; exact this t
   · simp
theorem start_ok {s : List UInt8} (h : ¬ 65536 < s.length) (h1 : (solidFrom s 0).2 = none) : startP s = ((solidFrom s 0).1, ⟨0, 0, 0⟩) := by
 unfold solidFrom lexFrom at *
 unfold startP lexT
 rw [if_neg h]
 revert h1
 rcases lexGo (s.length + 1) s 0 [] with ⟨l, _ | q⟩ <;> simp [solidR]
theorem start_bad {s : List UInt8} {q : Nat} (h : ¬ 65536 < s.length) (h1 : (solidFrom s 0).2 = some q) : startP s = ([], ⟨0, q, 3⟩) := by
 unfold solidFrom lexFrom at *
 unfold startP lexT
 rw [if_neg h]
 revert h1
 rcases lexGo (s.length + 1) s 0 [] with ⟨l, _ | q⟩
 · simp [solidR]
 · intro h; simp only [solidR, Option.some.injEq] at h; subst h; simp [solidT]
theorem RP.none {b : Nat} {n : Int} {w : World} (h : Blk w b [.slice none 0 0, .int .i64 0, .int .i64 n, .int .i64 0, .int .i64 0]) : RP ⟨b, w.heap.size, [], n, none, 0⟩ ⟨0, 0, 0⟩ w :=
 ⟨h, Or.inl rfl, cell_lt (Row.at0 h.row rfl), Nat.le_refl _, Nat.le_refl _, by simp, by simp, by simp, by simp⟩
def RStartR (s : List UInt8) (w : World) : Ending → World → Prop := fun e w' => ∃ c : RC, e = .returned (.pointer (some ⟨c.pb, 0, none⟩)) ∧ (c.ts = (startP s).1 ∧ c.n = s.length ∧ w.heap.size ≤ c.pb) ∧ RP c (startP s).2 w' ∧ Ext w w'
theorem RStartR.ret {s : List UInt8} {w : World} {e : Ending} {w' : World} (h : RStartR s w e w') : ∃ v, e = .returned v := by
 obtain ⟨_, h, -⟩ := h
 exact ⟨_, h⟩
end Bk
namespace Bk
open Go
theorem fin_REq {p q : (List FD × List Int) × PS} (h : REq p q) : finLib p = finLib q := by
 by_cases h0 : p.2.err = 0
 · rw [h.same h0]
 · have h1 : q.2.err ≠ 0 := by rw [← h.err]; exact h0
   unfold finLib
   rw [if_pos h0, if_pos h1, h.err, h.off]
theorem lib_REq {s : List UInt8} (h : ¬ 65536 < s.length) (h1 : (solidFrom s 0).2 = none) : REq (libP (solidFrom s 0).1 s.length (fuelP s) [] [] ⟨0, 0, 0⟩) (libS (solidFrom s 0).1 s.length (13 * s.length + 30) [] [] ⟨0, 0, 0⟩) := by
 have e := start_ok h h1; have hln := start_len s; have hd := digitKinds_start s; rw [e] at hln hd; simp only at hln hd; have hm := mS_len (ts := (solidFrom s 0).1) (σ := ⟨0, 0, 0⟩)
 exact lib_eq (n := (s.length : Int)) hd (mS (solidFrom s 0).1 ⟨0, 0, 0⟩) [] [] ⟨0, 0, 0⟩ (fuelP s) (13 * s.length + 30) (Nat.zero_le _) (Nat.le_refl _) (by unfold fuelP; omega) (by omega)
theorem parseLib_ok {s : List UInt8} (h : ¬ 65536 < s.length) (h1 : (solidFrom s 0).2 = none) : parseLib s = finLib (libS (solidFrom s 0).1 s.length (13 * s.length + 30) [] [] ⟨0, 0, 0⟩) := by
 rw [← fin_REq (lib_REq h h1)]
 unfold parseLib
 rw [start_ok h h1, if_neg (by simp)]
 rfl
theorem parseLib_bad {s : List UInt8} {q : Nat} (h : ¬ 65536 < s.length) (h1 : (solidFrom s 0).2 = some q) : parseLib s = ([], (q : Int), 3) := by
 unfold parseLib
 rw [start_bad h h1, if_pos (by simp)]
theorem libS_few {s : List UInt8} (h : ¬ 65536 < s.length) (h1 : (solidFrom s 0).2 = none) :
 (libS (solidFrom s 0).1 s.length (13 * s.length + 30) [] [] ⟨0, 0, 0⟩).2.err = 0 → LibFew (libS (solidFrom s 0).1 s.length (13 * s.length + 30) [] [] ⟨0, 0, 0⟩).1.1 := fun h0 => by
 have hq := lib_REq h h1; have h2 : (libP (solidFrom s 0).1 s.length (fuelP s) [] [] ⟨0, 0, 0⟩).2.err = 0 := hq.err.trans h0; have e := start_ok h h1; have hln := start_len s; have hok := solid_ok s; rw [e] at hln hok; simp only at hln hok; have hm := mS_len (ts := (solidFrom s 0).1) (σ := ⟨0, 0, 0⟩); obtain ⟨f1, f2, -⟩ := libP_few (ts := (solidFrom s 0).1) (n := s.length) (by omega) (fun t ht => by have := (hok t ht).len; omega) (fuelP s) [] [] ⟨0, 0, 0⟩ (Nat.zero_le _) (by unfold fuelP; omega) (by simp) h2; rw [← hq.same h2]; simp only [List.length_nil] at f2; refine ⟨by omega, fun f hf => ?_⟩; obtain ⟨k1, k2, k3, k4, k5⟩ := f1 f hf
 exact ⟨by omega, k2, fun p hp => by have := k3 p hp; omega, k4, k5⟩
theorem lt_functionS (k : Nat) : LtP (fun ts n σ => functionS ts n k σ) := LtP.congr (functionS_at k) (LtP.bind lt_exp (good_exp (by decide)) (fun _ => Good.bind good_name (fun _ => Good.bind (good_exp (by decide)) (fun _ => Good.bind (good_paramsS k) (fun _ => Good.bind good_list (fun _ => Good.bind (good_S k).b (fun _ => Good.ret _)))))))
theorem functionS_of {ts : List Tok} {n : Int} {k : Nat} {σ : PS} {ps : List FP} {τ : PS} (h : (if (expectP ts n (nameP ts n (expectP ts n σ [112, 114, 111, 99])).2 [40]).err = 0 ∧ (peekP ts (expectP ts n (nameP ts n (expectP ts n σ [112, 114, 111, 99])).2 [40])).text ≠ [41] then fparamsP ts n k [] (expectP ts n (nameP ts n (expectP ts n σ [112, 114, 111, 99])).2 [40]) else ([], expectP ts n (nameP ts n (expectP ts n σ [112, 114, 111, 99])).2 [40])) = (ps, τ)) :
 functionS ts n k σ = (⟨(nameP ts n (expectP ts n σ [112, 114, 111, 99])).1, ps, (listP ts n (expectP ts n τ [41])).1, (braceS ts n k (listP ts n (expectP ts n τ [41])).2).1⟩, (braceS ts n k (listP ts n (expectP ts n τ [41])).2).2) := by
 unfold functionS
 dsimp only; rw [h]
end Bk
namespace Bk
open Go Go.RowKit Go.Proofs
attribute [local irreducible] Go.Calls
set_option maxRecDepth 100000 in
set_option maxHeartbeats 1000000 in
theorem gpeek_c (c : RC) (σ : PS) (w : World) (hP : RP c σ w) :
 Calls Tryz.prog 31 #[.pointer (some ⟨c.pb, 0, none⟩)] w fun e w' => e = .returned (str (peekP c.ts σ).text) ∧ Ext w w' := by
 have hat := hP.at_; have X := Ext.refl w
 by_cases h : σ.err ≠ 0 ∨ σ.at_ = c.ts.length
 · rw [rpeek_off h]
   by_cases he : σ.err = 0
   · have ha : σ.at_ = c.ts.length := h.resolve_left (fun e => e he)
     refine calls_in Tryz.func31 Tryz.ntmps31 rfl rfl ?_
     focus
      refine cS (C1 Pa (cT (cw_seq (cw_seq ?_)))); (refine cw_tdraw (fun wz => Ext w wz) 15 (.pure 0 (.pure 1 (.pure 2 (.pure 3 (.pure 4 (.pure 5 (.pure 6 (.pure 7 (.pure 8 (.pure 9 (.pure 10 (.pure 11 (.pure 12 (.pure 13 (.pure 14 .tail))))))))))))))) mixed (by kernel_rfl) (panicOk_then (panicOk_then panicOk_body)) ?_; intro w1 x2 _); have qs3 : (fun wz => Ext w wz) w1 := x2; simp only at qs3; have d_hP := hP; have z4 := x2.size; replace hP := hP.ext x2; replace X := X.ext x2; clear x2; refine ⟨qs3, ?_⟩; refine Tq rfl Mv (Tq rfl Pn (Tq rfl Pf (Tq rfl (pur_load tabOk rfl rfl rfl (fun wz hz => Blk.cell (Blk.ext (RP.blk d_hP) hz) rfl)) (Tq rfl V2 (Tq rfl Mv ?_))))); refine tw_on rfl rfl rfl rfl (gd_ff (by omega)) (pur_move rfl) rfl ?_; refine tw_on rfl rfl rfl rfl (gd_ff (by omega)) (pur_nilCheck rfl) rfl ?_; refine tw_on rfl rfl rfl rfl (gd_ff (by omega)) (pur_fieldAddr tabOk rfl rfl rfl) rfl ?_; refine tw_on rfl rfl rfl rfl (gd_ff (by omega)) (pur_load tabOk rfl rfl rfl (fun wz hz => Blk.cell (Blk.ext (RP.blk d_hP) hz) rfl)) rfl ?_; refine tw_on rfl rfl rfl rfl (gd_ff (by omega)) (pur_move rfl) rfl ?_; refine tw_on rfl rfl rfl rfl (gd_ff (by omega)) (pur_nilCheck rfl) rfl ?_; refine tw_on rfl rfl rfl rfl (gd_ff (by omega)) (pur_fieldAddr0 tabOk rfl rfl rfl) rfl ?_; refine tw_on rfl rfl rfl rfl (gd_ff (by omega)) (pur_load tabOk rfl rfl rfl (fun wz hz => Blk.cell (Blk.ext (RP.blk d_hP) hz) rfl)) rfl ?_; refine tw_on rfl rfl rfl rfl (gd_ff (by omega)) (pur_len_slice tabOk rfl rfl) rfl ?_
      clear qs3 d_hP; refine tw_tail rfl (Gno (C1 V6 (C1 Qno (cT (Wyo (cS (C1 Pa (cT (cw_ret (qw_then_ret (qw_ret1 rfl rfl ?_))))))))))); rotate_left 1
     exact ⟨rfl, X⟩
   · refine calls_in Tryz.func31 Tryz.ntmps31 rfl rfl ?_
     focus
      refine cS (C1 Pa (cT (cw_seq (cw_seq ?_)))); (refine cw_tdraw (fun wz => Ext w wz) 15 (.pure 0 (.pure 1 (.pure 2 (.pure 3 (.pure 4 (.pure 5 (.pure 6 (.pure 7 (.pure 8 (.pure 9 (.pure 10 (.pure 11 (.pure 12 (.pure 13 (.pure 14 .tail))))))))))))))) mixed (by kernel_rfl) (panicOk_then (panicOk_then panicOk_body)) ?_; intro wa1 xa2 _); have qsa3 : (fun wz => Ext w wz) wa1 := xa2; simp only at qsa3; have d_hP := hP; have za4 := xa2.size; replace hP := hP.ext xa2; replace X := X.ext xa2; clear xa2; refine ⟨qsa3, ?_⟩; refine Tq rfl Mv (Tq rfl Pn (Tq rfl Pf (Tq rfl (pur_load tabOk rfl rfl rfl (fun wz hz => Blk.cell (Blk.ext (RP.blk d_hP) hz) rfl)) (Tq rfl V2 (Tq rfl Mv ?_))))); refine tw_off rfl rfl rfl rfl (gd_ft (by assumption)) rfl ?_; refine tw_off rfl rfl rfl rfl (gd_ft (by assumption)) rfl ?_; refine tw_off rfl rfl rfl rfl (gd_ft (by assumption)) rfl ?_; refine tw_off rfl rfl rfl rfl (gd_ft (by assumption)) rfl ?_; refine tw_off rfl rfl rfl rfl (gd_ft (by assumption)) rfl ?_; refine tw_off rfl rfl rfl rfl (gd_ft (by assumption)) rfl ?_; refine tw_off rfl rfl rfl rfl (gd_ft (by assumption)) rfl ?_; refine tw_off rfl rfl rfl rfl (gd_ft (by assumption)) rfl ?_; refine tw_off rfl rfl rfl rfl (gd_ft (by assumption)) rfl ?_; clear qsa3 d_hP; refine tw_tail rfl (Oya (C1 Qya (cT (cw_cond_t rfl (cS (C1 Pa (cT (cw_ret (qw_then_ret (qw_ret1 rfl rfl ?_)))))))))); rotate_left 1
     exact ⟨rfl, X⟩
 · have he : σ.err = 0 := Decidable.byContradiction fun e => h (Or.inl e)
   have hlt : σ.at_ < c.ts.length := by have : σ.at_ ≠ c.ts.length := fun e => h (Or.inr e); omega
   rw [rpeek_is h hlt]; obtain ⟨tb, to, hta, -, hrow⟩ := hP.toks.get (by omega); have hr : Row w ⟨tb, to + σ.at_ * 2, none⟩ c.ts[σ.at_].rcells := hrow σ.at_ _ (List.getElem?_eq_getElem hlt); clear hrow; refine calls_in Tryz.func31 Tryz.ntmps31 rfl rfl ?_
   focus
    refine cS (C1 Pa (cT (cw_seq (cw_seq ?_)))); (refine cw_tdraw (fun wz => Ext w wz) 15 (.pure 0 (.pure 1 (.pure 2 (.pure 3 (.pure 4 (.pure 5 (.pure 6 (.pure 7 (.pure 8 (.pure 9 (.pure 10 (.pure 11 (.pure 12 (.pure 13 (.pure 14 .tail))))))))))))))) mixed (by kernel_rfl) (panicOk_then (panicOk_then panicOk_body)) ?_; intro wb1 xb2 _); have qsb3 : (fun wz => Ext w wz) wb1 := xb2; simp only at qsb3; have d_hP := hP; have d_hr := hr; have zb4 := xb2.size; replace hP := hP.ext xb2; replace X := X.ext xb2; replace hr := hr.ext xb2; clear xb2; refine ⟨qsb3, ?_⟩; refine Tq rfl Mv (Tq rfl Pn (Tq rfl Pf (Tq rfl (pur_load tabOk rfl rfl rfl (fun wz hz => Blk.cell (Blk.ext (RP.blk d_hP) hz) rfl)) (Tq rfl V2 (Tq rfl Mv ?_))))); refine tw_on rfl rfl rfl rfl (gd_ff (by omega)) (pur_move rfl) rfl ?_; refine tw_on rfl rfl rfl rfl (gd_ff (by omega)) (pur_nilCheck rfl) rfl ?_; refine tw_on rfl rfl rfl rfl (gd_ff (by omega)) (pur_fieldAddr tabOk rfl rfl rfl) rfl ?_; refine tw_on rfl rfl rfl rfl (gd_ff (by omega)) (pur_load tabOk rfl rfl rfl (fun wz hz => Blk.cell (Blk.ext (RP.blk d_hP) hz) rfl)) rfl ?_; refine tw_on rfl rfl rfl rfl (gd_ff (by omega)) (pur_move rfl) rfl ?_; refine tw_on rfl rfl rfl rfl (gd_ff (by omega)) (pur_nilCheck rfl) rfl ?_; refine tw_on rfl rfl rfl rfl (gd_ff (by omega)) (pur_fieldAddr0 tabOk rfl rfl rfl) rfl ?_; refine tw_on rfl rfl rfl rfl (gd_ff (by omega)) (pur_load tabOk rfl rfl rfl (fun wz hz => Blk.cell (Blk.ext (RP.blk d_hP) hz) rfl)) rfl ?_; refine tw_on rfl rfl rfl rfl (gd_ff (by omega)) (pur_len_slice tabOk rfl rfl) rfl ?_
    clear qsb3 d_hP d_hr; refine tw_tail rfl (Gno (C1 V6 (C1 Qno (cT (Wno (cw_skip (qw_then (cw_seq ?_)))))))); (refine cw_tdraw (fun wz => Ext wb1 wz) 8 (.pure 0 (.pure 1 (.pure 2 (.pure 3 (.pure 4 (.pure 5 (.pure 6 (.pure 7 .tail)))))))) mixed (by kernel_rfl) (panicOk_then panicOk_body) ?_; intro wb5 xb6 _); have qsb7 : (fun wz => Ext wb1 wz) wb5 := xb6; simp only at qsb7; have d_hP := hP; have d_hr := hr; have zb8 := xb6.size; replace hP := hP.ext xb6; replace X := X.ext xb6; replace hr := hr.ext xb6; clear xb6; refine ⟨qsb7, ?_⟩; refine Tq rfl Mv (Tq rfl Pn (Tq rfl Pg (Tq rfl (pur_load tabOk rfl rfl rfl (fun wz hz => Blk.cell (Blk.ext (RP.blk d_hP) hz) rfl)) (Tq rfl Mv (Tq rfl Pn (Tq rfl Pf (Tq rfl (pur_load tabOk rfl rfl rfl (fun wz hz => Blk.cell (Blk.ext (RP.blk d_hP) hz) rfl)) ?_))))))); clear qsb7 d_hP d_hr; refine tw_tail rfl ?_; refine C1 (pur_indexAddr_eq tabOk rfl rfl rfl (by assumption) rfl (by omega) (by omega)) ?_; refine C1 Pg (C1 (Pw0 hr) (C1 Pa (cT (cw_ret (qw_ret1 rfl rfl ?_))))); rotate_left 1
   exact ⟨rfl, X⟩
set_option maxRecDepth 100000 in
set_option maxHeartbeats 1000000 in
theorem gfail_c (c : RC) (σ : PS) (e off : Int) (w : World) (hP : RP c σ w) :
 Calls Tryz.prog 91 #[.pointer (some ⟨c.pb, 0, none⟩), .int .i64 e, .int .i64 off] w fun r w' => r = .returned (.tuple #[]) ∧ RP c (failP σ off e) w' ∧ Fr (· = c.pb) w w' := by
 have X := Fr.refl (· = c.pb) w
 by_cases he : σ.err = 0
 · rw [show failP σ off e = ⟨σ.at_, off, e⟩ from by simp [failP, he]]
   refine calls_in Tryz.func91 Tryz.ntmps91 rfl rfl ?_
   focus
    refine cS (C1 Mv (C1 Pn (C1 Pf (lw_load_b tabOk rfl rfl rfl (RP.blk hP) rfl rfl (C1 V1 (cT (Wya (cS (C1 Mv (C1 Mv (C1 Pn ?_))))))))))); refine C1 Pf (lw_rp_err tabOk rfl rfl rfl rfl hP ?_); rintro w1 h2 f3; have z4 := f3.size; clear hP; replace X := X.fr f3 (by omega); clear f3; refine cT (cw_region (C1 Mv (C1 Mv (C1 Pn (C1 Pf ?_))))); refine lw_rp_off tabOk rfl rfl rfl rfl (by assumption) ?_; rintro w5 h6 f7; have z8 := f7.size; clear h2; replace X := X.fr f7 (by omega); clear f7; refine lw_nil (qw_end0 rfl ?_); rotate_left 1
   exact ⟨rfl, by assumption, X⟩
 · rw [show failP σ off e = σ from by simp [failP, he]]
   refine calls_in Tryz.func91 Tryz.ntmps91 rfl rfl ?_
   focus
    refine cS (C1 Mv (C1 Pn (C1 Pf (lw_load_b tabOk rfl rfl rfl (RP.blk hP) rfl rfl (C1 V1 (cT (Wna (cw_skip (qw_end0 rfl ?_))))))))); rotate_left 1
   exact ⟨rfl, hP, X⟩
set_option maxRecDepth 100000 in
set_option maxHeartbeats 1000000 in
theorem gwrong_c (c : RC) (σ : PS) (w : World) (hP : RP c σ w) :
 Calls Tryz.prog 63 #[.pointer (some ⟨c.pb, 0, none⟩)] w fun r w' => r = .returned (.tuple #[]) ∧ RP c (unexpP c.ts c.n σ) w' ∧ Fr (· = c.pb) w w' := by
 have X := Fr.refl (· = c.pb) w
 by_cases hlt : σ.at_ < c.ts.length
 · rw [show unexpP c.ts c.n σ = failP σ (c.ts[σ.at_]).pos 3 from by simp [unexpP, hlt]]
   obtain ⟨tb, to, hta, -, hrow⟩ := hP.toks.get (by omega); have hr : Row w ⟨tb, to + σ.at_ * 2, none⟩ c.ts[σ.at_].rcells := hrow σ.at_ _ (List.getElem?_eq_getElem hlt); clear hrow; refine calls_in Tryz.func63 Tryz.ntmps63 rfl rfl ?_
   focus
    refine cw_seq ?_; (refine cw_tdraw (fun wz => Ext w wz) 9 (.pure 0 (.pure 1 (.pure 2 (.pure 3 (.pure 4 (.pure 5 (.pure 6 (.pure 7 (.pure 8 .tail))))))))) mixed (by kernel_rfl) (panicOk_then panicOk_body) ?_; intro w1 x2 _); have qs3 : (fun wz => Ext w wz) w1 := x2; simp only at qs3; have d_hP := hP; have d_hr := hr; have z4 := x2.size; replace hP := hP.ext x2; replace X := X.ext x2; replace hr := hr.ext x2; clear x2; refine ⟨qs3, ?_⟩; refine Tq rfl Mv (Tq rfl Pn (Tq rfl Pf (Tq rfl (pur_load tabOk rfl rfl rfl (fun wz hz => Blk.cell (Blk.ext (RP.blk d_hP) hz) rfl)) (Tq rfl Mv (Tq rfl Pn (Tq rfl Pg (Tq rfl (pur_load tabOk rfl rfl rfl (fun wz hz => Blk.cell (Blk.ext (RP.blk d_hP) hz) rfl)) (Tq rfl Pz ?_)))))))); clear qs3 d_hP d_hr; refine tw_tail rfl (C1 V6 (cT (Wno ?_))); (refine cw_tdraw (fun wz => Ext w1 wz) 12 (.pure 0 (.pure 1 (.pure 2 (.pure 3 (.pure 4 (.pure 5 (.pure 6 (.pure 7 (.pure 8 (.pure 9 (.pure 10 (.pure 11 .tail)))))))))))) mixed (by kernel_rfl) panicOk_body ?_; intro w5 x6 _); have qs7 : (fun wz => Ext w1 wz) w5 := x6; simp only at qs7; have d_hP := hP; have d_hr := hr; have z8 := x6.size; replace hP := hP.ext x6; replace X := X.ext x6; replace hr := hr.ext x6; clear x6; refine ⟨qs7, ?_⟩; refine Tq rfl Mv (Tq rfl Mv (Tq rfl Pn (Tq rfl Pg (Tq rfl (pur_load tabOk rfl rfl rfl (fun wz hz => Blk.cell (Blk.ext (RP.blk d_hP) hz) rfl)) (Tq rfl Mv (Tq rfl Pn (Tq rfl Pf (Tq rfl (pur_load tabOk rfl rfl rfl (fun wz hz => Blk.cell (Blk.ext (RP.blk d_hP) hz) rfl)) ?_))))))))
    refine Tq rfl (pur_indexAddr_eq tabOk rfl rfl rfl (by assumption) rfl (by omega) (by omega)) ?_; refine Tq rfl Pf (Tq rfl (Dr d_hr) ?_); clear qs7 d_hP d_hr; refine tw_tail rfl ?_; refine cC rfl (gfail_c _ _ _ _ _ (by assumption)) ?_; rintro _ w11 ⟨⟨⟩, ⟨h9, f10⟩⟩; have z12 := f10.size; clear hP; replace X := X.fr f10 (by omega); clear hr f10; refine lw_nil (qw_end0 rfl ?_); rotate_left 1
   exact ⟨rfl, by assumption, X⟩
 · rw [show unexpP c.ts c.n σ = failP σ c.n 4 from by simp [unexpP, hlt]]
   refine calls_in Tryz.func63 Tryz.ntmps63 rfl rfl ?_
   focus
    refine cw_seq ?_; (refine cw_tdraw (fun wz => Ext w wz) 9 (.pure 0 (.pure 1 (.pure 2 (.pure 3 (.pure 4 (.pure 5 (.pure 6 (.pure 7 (.pure 8 .tail))))))))) mixed (by kernel_rfl) (panicOk_then panicOk_body) ?_; intro wa1 xa2 _); have qsa3 : (fun wz => Ext w wz) wa1 := xa2; simp only at qsa3; have d_hP := hP; have za4 := xa2.size; replace hP := hP.ext xa2; replace X := X.ext xa2; clear xa2; refine ⟨qsa3, ?_⟩; refine Tq rfl Mv (Tq rfl Pn (Tq rfl Pf (Tq rfl (pur_load tabOk rfl rfl rfl (fun wz hz => Blk.cell (Blk.ext (RP.blk d_hP) hz) rfl)) (Tq rfl Mv (Tq rfl Pn (Tq rfl Pg (Tq rfl (pur_load tabOk rfl rfl rfl (fun wz hz => Blk.cell (Blk.ext (RP.blk d_hP) hz) rfl)) (Tq rfl Pz ?_)))))))); clear qsa3 d_hP; refine tw_tail rfl (C1 V6 (cT (Wyo (cw_region (C1 Mv (C1 Mv (C1 Pn (C1 Pf (lw_load_b tabOk rfl rfl rfl (RP.blk hP) rfl rfl ?_))))))))); refine cC rfl (gfail_c _ _ _ _ _ (by assumption)) ?_; rintro _ wa7 ⟨⟨⟩, ⟨ha5, fa6⟩⟩; have za8 := fa6.size; clear hP; replace X := X.fr fa6 (by omega); clear fa6; refine lw_nil (qw_end0 rfl ?_); rotate_left 1
   exact ⟨rfl, by assumption, X⟩
set_option maxRecDepth 100000 in
set_option maxHeartbeats 1000000 in
theorem ghas_c (c : RC) (σ : PS) (t : List UInt8) (w : World) (hP : RP c σ w) (ht : t ≠ []) :
 Calls Tryz.prog 32 #[.pointer (some ⟨c.pb, 0, none⟩), str t] w fun r w' => r = .returned (.bool (hasP c.ts σ t)) ∧ RP c (acceptP c.ts σ t) w' ∧ Fr (· = c.pb) w w' := by
 have X := Fr.refl (· = c.pb) w; have hl := hP.len
 by_cases h : (peekP c.ts σ).text = t
 · have h1 : hasP c.ts σ t = true := by simp [hasP, h]
   rw [show acceptP c.ts σ t = nextP σ from by simp [acceptP, h1], h1]; obtain ⟨h2, h3⟩ := has_in hP.at_ h1 ht; refine calls_in Tryz.func32 Tryz.ntmps32 rfl rfl ?_
   focus
    refine cS (C1 Pa (cT (cw_seq (cS (C1 Mv (C1 Pn (C1 Pf (lw_load_b tabOk rfl rfl rfl (RP.blk hP) rfl rfl (C1 V2 (C1 Mv (Gno ?_))))))))))); refine C1 Mv (Gno ?_); refine cC rfl (gpeek_c _ _ _ (by assumption)) ?_; rintro _ w2 ⟨⟨⟩, x1⟩; have z3 := x1.size; replace hP := hP.ext x1; replace X := X.ext x1; clear x1; refine Gno (C1 Mv (Gno (C1 V9 (C1 Qno (cT ?_))))); refine cw_no rfl (not_not_intro (by assumption)) ?_; refine cw_skip (qw_then (cS (C1 Mv (C1 Mv (C1 Pn (C1 Pf (lw_load_b tabOk rfl rfl rfl (RP.blk hP) rfl rfl (C1 V7 (C1 Pn (C1 Pf ?_)))))))))); refine lw_rp_at tabOk rfl rfl rfl rfl (by assumption) h3 ?_; rintro w4 h5 f6; have z7 := f6.size; clear hP; replace X := X.fr f6 (by omega); clear f6; refine cN (C1 Pa (cT (cw_ret (qw_ret1 rfl rfl ?_)))); rotate_left 1
   exact ⟨rfl, by assumption, X⟩
 · have h1 : hasP c.ts σ t = false := by simp [hasP, h]
   rw [show acceptP c.ts σ t = σ from by simp [acceptP, h1], h1]
   by_cases h0 : σ.err = 0
   · refine calls_in Tryz.func32 Tryz.ntmps32 rfl rfl ?_
     focus
      refine cS (C1 Pa (cT (cw_seq (cS (C1 Mv (C1 Pn (C1 Pf (lw_load_b tabOk rfl rfl rfl (RP.blk hP) rfl rfl (C1 V2 (C1 Mv (Gno ?_))))))))))); refine C1 Mv (Gno ?_); refine cC rfl (gpeek_c _ _ _ (by assumption)) ?_; rintro _ wa2 ⟨⟨⟩, xa1⟩; have za3 := xa1.size; replace hP := hP.ext xa1; replace X := X.ext xa1; clear xa1; refine Gno (C1 Mv (Gno (C1 V9 (C1 Qno (cT (Wya (cS (C1 Pa (cT (cw_ret (qw_then_ret ?_))))))))))); refine qw_ret1 rfl rfl ?_; rotate_left 1
     exact ⟨rfl, by assumption, X⟩
   · refine calls_in Tryz.func32 Tryz.ntmps32 rfl rfl ?_
     focus
      refine cS (C1 Pa (cT (cw_seq (cS (C1 Mv (C1 Pn (C1 Pf (lw_load_b tabOk rfl rfl rfl (RP.blk hP) rfl rfl (C1 V2 (C1 Mv (Oya ?_))))))))))); refine Oya (Oya (Oya (C1 Qya (cT (cw_cond_t rfl (cS (C1 Pa (cT (cw_ret (qw_then_ret (qw_ret1 rfl rfl ?_))))))))))); rotate_left 1
     exact ⟨rfl, by assumption, X⟩
theorem ghas_t (c : RC) (σ : PS) (t : List UInt8) (w : World) (hP : RP c σ w) (ht : t ≠ []) (h : hasP c.ts σ t = true) :
 Calls Tryz.prog 32 #[.pointer (some ⟨c.pb, 0, none⟩), str t] w fun r w' => r = .returned (.bool true) ∧ RP c (nextP σ) w' ∧ Fr (· = c.pb) w w' := by
 have := ghas_c c σ t w hP ht; rw [show acceptP c.ts σ t = nextP σ from by simp [acceptP, h], h] at this
 exact this
theorem ghas_f (c : RC) (σ : PS) (t : List UInt8) (w : World) (hP : RP c σ w) (ht : t ≠ []) (h : hasP c.ts σ t = false) :
 Calls Tryz.prog 32 #[.pointer (some ⟨c.pb, 0, none⟩), str t] w fun r w' => r = .returned (.bool false) ∧ RP c σ w' ∧ Fr (· = c.pb) w w' := by
 have := ghas_c c σ t w hP ht; rw [show acceptP c.ts σ t = σ from by simp [acceptP, h], h] at this
 exact this
set_option maxRecDepth 100000 in
set_option maxHeartbeats 1000000 in
theorem gtake_c (c : RC) (σ : PS) (t : List UInt8) (w : World) (hP : RP c σ w) (ht : t ≠ []) :
 Calls Tryz.prog 29 #[.pointer (some ⟨c.pb, 0, none⟩), str t] w fun r w' => r = .returned (.tuple #[]) ∧ RP c (expectP c.ts c.n σ t) w' ∧ Fr (· = c.pb) w w' := by
 have X := Fr.refl (· = c.pb) w; have hl := hP.len
 cases h1 : hasP c.ts σ t
 · rw [show expectP c.ts c.n σ t = unexpP c.ts c.n σ from by simp [expectP, h1]]
   have HF := Lib.hid (fun w h => ghas_f c σ t w h ht h1); refine calls_in Tryz.func29 Tryz.ntmps29 rfl rfl ?_
   focus
    refine cS (C1 Mv (C1 Mv ?_)); refine cC rfl (HF.out _ (by assumption)) ?_; rintro _ w3 ⟨⟨⟩, ⟨h1, f2⟩⟩; have z4 := f2.size; clear hP; replace X := X.fr f2 (by omega); clear f2; refine C1 Pt (cT (cw_cond_t rfl (cw_region (C1 Mv ?_)))); refine cC rfl (gwrong_c _ _ _ (by assumption)) ?_; rintro _ w7 ⟨⟨⟩, ⟨h5, f6⟩⟩; have z8 := f6.size; clear h1; replace X := X.fr f6 (by omega); clear f6; refine lw_nil (qw_end0 rfl ?_); rotate_left 1
   exact ⟨rfl, by assumption, X⟩
 · rw [show expectP c.ts c.n σ t = nextP σ from by simp [expectP, h1]]
   have HF := Lib.hid (fun w h => ghas_t c σ t w h ht h1); refine calls_in Tryz.func29 Tryz.ntmps29 rfl rfl ?_
   focus
    refine cS (C1 Mv (C1 Mv ?_)); refine cC rfl (HF.out _ (by assumption)) ?_; rintro _ wa3 ⟨⟨⟩, ⟨ha1, fa2⟩⟩; have za4 := fa2.size; clear hP; replace X := X.fr fa2 (by omega); clear fa2; refine C1 Pt (cT (cw_cond_f rfl (cw_skip (qw_end0 rfl ?_)))); rotate_left 1
   exact ⟨rfl, by assumption, X⟩
set_option maxRecDepth 100000 in
set_option maxHeartbeats 1000000 in
theorem gname_c (c : RC) (σ : PS) (w : World) (hP : RP c σ w) :
 Calls Tryz.prog 30 #[.pointer (some ⟨c.pb, 0, none⟩)] w fun r w' => r = .returned (str (nameP c.ts c.n σ).1) ∧ RP c (nameP c.ts c.n σ).2 w' ∧ Fr (· = c.pb) w w' := by
 have X := Fr.refl (· = c.pb) w; have hl := hP.len; have hpl := rpeek_len hP; have hpb := hP.pbB; have hB := hP.B; have hrn := rpeek_name hP
 cases h : isName (peekP c.ts σ).text
 · rw [h] at hrn
   rw [show nameP c.ts c.n σ = ([], unexpP c.ts c.n σ) from by simp [nameP, h]]; refine calls_in Tryz.func30 Tryz.ntmps30 rfl rfl ?_
   focus
    refine cS (C1 Pa (cN (C1 Mv ?_))); refine cC rfl (gpeek_c _ _ _ (by assumption)) ?_; rintro _ w2 ⟨⟨⟩, x1⟩; have z3 := x1.size; replace hP := hP.ext x1; replace X := X.ext x1; clear x1; refine C1 Pa (cT (cw_seq (cS (C1 Mv ?_)))); refine cC rfl (rIsName_c _ _ (by omega)) ?_; rintro _ w5 ⟨⟨⟩, x4⟩; have z6 := x4.size; replace hP := hP.ext x4; replace X := X.ext x4; clear x4; refine C1 Pt (cT ?_); refine cw_nt rfl (by assumption) ?_; refine cS (C1 Mv ?_); refine cC rfl (gwrong_c _ _ _ (by assumption)) ?_; rintro _ w9 ⟨⟨⟩, ⟨h7, f8⟩⟩; have z10 := f8.size; clear hP; replace X := X.fr f8 (by omega); clear f8; refine cN (C1 Pa (cT (cw_ret (qw_then_ret (qw_ret1 rfl rfl ?_))))); rotate_left 1
   exact ⟨rfl, by assumption, X⟩
 · rw [h] at hrn
   rw [show nameP c.ts c.n σ = ((peekP c.ts σ).text, nextP σ) from by simp [nameP, h]]; obtain ⟨h2, h3⟩ := peek_in hP.at_ (Or.inl (isName_ne h)); refine calls_in Tryz.func30 Tryz.ntmps30 rfl rfl ?_
   focus
    refine cS (C1 Pa (cN (C1 Mv ?_))); refine cC rfl (gpeek_c _ _ _ (by assumption)) ?_; rintro _ wa2 ⟨⟨⟩, xa1⟩; have za3 := xa1.size; replace hP := hP.ext xa1; replace X := X.ext xa1; clear xa1; refine C1 Pa (cT (cw_seq (cS (C1 Mv ?_)))); refine cC rfl (rIsName_c _ _ (by omega)) ?_; rintro _ wa5 ⟨⟨⟩, xa4⟩; have za6 := xa4.size; replace hP := hP.ext xa4; replace X := X.ext xa4; clear xa4; refine C1 Pt (cT ?_); refine cw_nf rfl (by assumption) ?_; refine cw_skip (qw_then (cS (C1 Mv (C1 Mv (C1 Pn (C1 Pf (lw_load_b tabOk rfl rfl rfl (RP.blk hP) rfl rfl (C1 V7 (C1 Pn (C1 Pf ?_)))))))))); refine lw_rp_at tabOk rfl rfl rfl rfl (by assumption) h3 ?_; rintro wa7 ha8 fa9; have za10 := fa9.size; clear hP; replace X := X.fr fa9 (by omega); clear fa9; refine cN (C1 Mv (C1 Pa (cT (cw_ret (qw_ret1 rfl rfl ?_))))); rotate_left 1
   exact ⟨rfl, by assumption, X⟩
set_option maxRecDepth 100000 in
set_option maxHeartbeats 1000000 in
theorem gkind_c (c : RC) (σ : PS) (w : World) (hP : RP c σ w) :
 Calls Tryz.prog 33 #[.pointer (some ⟨c.pb, 0, none⟩)] w fun r w' => r = .returned (.bool (listP c.ts c.n σ).1) ∧ RP c (listP c.ts c.n σ).2 w' ∧ Fr (· = c.pb) w w' := by
 have X := Fr.refl (· = c.pb) w
 cases h : hasP c.ts σ [115, 116, 97, 99, 107]
 · rw [show listP c.ts c.n σ = (false, expectP c.ts c.n σ [105, 110, 116]) from by simp [listP, h]]
   refine calls_in Tryz.func33 Tryz.ntmps33 rfl rfl ?_
   focus
    refine cS (C1 Pa (cT (cw_seq (cS (C1 Mv ?_))))); refine cC rfl (ghas_f _ _ _ _ (by assumption) (by decide) (by assumption)) ?_; rintro _ w3 ⟨⟨⟩, ⟨h1, f2⟩⟩; have z4 := f2.size; clear hP; replace X := X.fr f2 (by omega); clear f2; refine cT (cw_cond_f rfl (cw_skip (qw_then (cS (C1 Mv ?_))))); refine cC rfl (gtake_c _ _ _ _ (by assumption) (by decide)) ?_; rintro _ w7 ⟨⟨⟩, ⟨h5, f6⟩⟩; have z8 := f6.size; clear h1; replace X := X.fr f6 (by omega); clear f6; refine cN (C1 Pa (cT (cw_ret (qw_ret1 rfl rfl ?_)))); rotate_left 1
   exact ⟨rfl, by assumption, X⟩
 · rw [show listP c.ts c.n σ = (true, nextP σ) from by simp [listP, h]]
   refine calls_in Tryz.func33 Tryz.ntmps33 rfl rfl ?_
   focus
    refine cS (C1 Pa (cT (cw_seq (cS (C1 Mv ?_))))); refine cC rfl (ghas_t _ _ _ _ (by assumption) (by decide) (by assumption)) ?_; rintro _ wa3 ⟨⟨⟩, ⟨ha1, fa2⟩⟩; have za4 := fa2.size; clear hP; replace X := X.fr fa2 (by omega); clear fa2; refine cT (cw_cond_t rfl (cS (C1 Pa (cT (cw_ret (qw_then_ret (qw_ret1 rfl rfl ?_))))))); rotate_left 1
   exact ⟨rfl, by assumption, X⟩
end Bk
namespace Bk
open Go Go.RowKit Go.Proofs
attribute [local irreducible] Go.Calls
def NodeR (w : World) (S : Nat → Prop) (t : Nd) : Ending → World → Prop := fun e w' => ∃ a k, e = .returned (t.val a k) ∧ t.sits (fun b => S b ∨ (w.heap.size ≤ b ∧ b < w'.heap.size)) w' a ∧ Ext w w'
theorem NodeR.ret {w : World} {S : Nat → Prop} {t : Nd} {e : Ending} {w' : World} (h : NodeR w S t e w') : ∃ v, e = .returned v := by
 obtain ⟨_, _, h, -⟩ := h
 exact ⟨_, h⟩
theorem startsDigit_cons {s : List UInt8} (h : startsDigit s = true) : ∃ c r, s = c :: r ∧ digit c = true := by
 cases s with
 | nil => simp [startsDigit] at h
 | cons c r => exact ⟨c, r, rfl, h⟩
end Bk
namespace Bk
open Go Go.RowKit Go.Proofs
attribute [local irreducible] Go.Calls
set_option maxRecDepth 100000 in
set_option maxHeartbeats 2000000 in
theorem gnumber_c (c : RC) (σ : PS) (w : World) (hP : RP c σ w) (hs : startsDigit (peekP c.ts σ).text = true) :
 Calls Tryz.prog 107 #[.pointer (some ⟨c.pb, 0, none⟩)] w fun r w' => r = .returned (.int .i64 (fnumS c.ts σ).1.num) ∧ RP c (fnumS c.ts σ).2 w' ∧ Fr (· = c.pb) w w' := by
 have X := Fr.refl (· = c.pb) w; have hl := hP.len; have hpl := rpeek_len hP; have hpb := hP.pbB; have hB := hP.B; have hnum := rpeek_num hP hs; obtain ⟨x0, r0, hx0, hd0⟩ := startsDigit_cons hs; obtain ⟨h0, h3⟩ := peek_in hP.at_ (Or.inl (startsDigit_ne hs)); have hpe : peekP c.ts σ = c.ts[σ.at_] := rpeek_is (fun h => by rcases h with h | h; exact h h0; omega) h3; obtain ⟨tb, to, hta, -, hrow⟩ := hP.toks.get (by omega); have hr : Row w ⟨tb, to + σ.at_ * 2, none⟩ c.ts[σ.at_].rcells := hrow σ.at_ _ (List.getElem?_eq_getElem h3); rw [← hpe] at hr; clear hrow hpe hx0
 have hE : ∀ v, digitsVal (peekP c.ts σ).text = v → fnumS c.ts σ = if (v : Int) ≤ 9223372036854775807 then (.mk 80 (v : Int) [] [], nextP σ) else (.mk 80 0 [] [], failP σ (peekP c.ts σ).pos 2) := fun v hv => by
  simp [fnumS, hv]
 have HE := Lib.hid hE; clear hE
 refine calls_in Tryz.func107 Tryz.ntmps107 rfl rfl ?_
 focus
  refine cS (C1 Pa (cN (C1 Mv ?_))); refine cC rfl (gpeek_c _ _ _ (by assumption)) ?_; rintro _ w2 ⟨⟨⟩, x1⟩; have z3 := x1.size; replace hP := hP.ext x1; replace X := X.ext x1; replace hr := hr.ext x1; clear x1; refine C1 Pa (cN (C1 Pa (cT (cw_seq (cS (C1 Pa (cT (cw_block ?_)))))))); rotate_left 1
 clear hs
 generalize hpk : peekP c.ts σ = tk at *
 generalize hTT : tk.text = T at *
 refine cw_loop (ι := Nat) (fun j => [(0, .pointer (some ⟨c.pb, 0, none⟩)), (3, str T), (4, .int .u64 (digitsFrom 0 (T.take j))), (5, .int .i64 j)]) (fun j w' => w2 = w' ∧ j ≤ T.length ∧ (digitsFrom 0 (T.take j) : Int) ≤ 9223372036854775807) (fun j => T.length - j) 0 (by (refine sub_cons rfl ?_; refine sub_cons rfl ?_; refine sub_cons rfl ?_; refine sub_cons rfl ?_; exact sub_nil)) ⟨rfl, Nat.zero_le _, by simp [digitsFrom]⟩ ?_; rintro j _ ⟨rfl, hj, hle⟩
 by_cases hlt : j < T.length
 · have hxj : T[((j : Nat) : Int).toNat]? = some T[j] := List.getElem?_eq_getElem hlt
   have hdj := hnum T[j] (List.getElem_mem hlt)
   have htk : T.take (j + 1) = T.take j ++ [T[j]] := by rw [List.take_add_one, List.getElem?_eq_getElem hlt]; rfl
   have hsn := digitsFrom_snoc 0 (T.take j) T[j]; rw [← htk] at hsn
   have hall : digitsFrom 0 (T.take (j + 1)) ≤ digitsVal T := by
    have h1 : digitsVal T = digitsFrom (digitsFrom 0 (T.take (j + 1))) (T.drop (j + 1)) := by
     rw [← digitsFrom_append, List.take_append_drop]; rfl
    rw [h1]; exact digitsFrom_le _ _
   generalize T[j] = x at *
   simp only [digit, Bool.and_eq_true, decide_eq_true_eq] at hdj; obtain ⟨hx0, hx1⟩ := hdj
   by_cases hov : (9223372036854775807 : Int) < digitsFrom 0 (T.take (j + 1))
   · rw [HE.out _ rfl, if_neg (by omega)]
     focus
      refine cw_seq (cS (C1 Mv (C1 Mv (C1 Py (C1 V3 (cT (Wyo (cw_skip (qw_then (cw_seq (cw_block ?_))))))))))); refine cS (C1 Mv (C1 Mv ?_)); refine C1 (pur_sindex tabOk rfl rfl rfl (by omega) (by assumption)) ?_; refine C1 (pur_sub rfl rfl (u8_wrap _ (by omega) (by omega))) ?_; refine C1 (pur_conv tabOk rfl rfl rfl (u64_wrap _ (by omega) (by omega))) ?_; refine C1 Pa (cT (cw_seq (cS (C1 Mv (C1 Mv ?_))))); refine C1 (pur_sub rfl rfl (u64_wrap _ (by omega) (by omega))) ?_; refine C1 (pur_quo rfl rfl (by omega) (quo_u64 (by omega) (by omega) (by omega))) ?_; refine C1 V5 (cT (Wyo (cw_seq ?_))); (refine cw_tdraw (fun wz => Ext w2 wz) 12 (.pure 0 (.pure 1 (.pure 2 (.pure 3 (.pure 4 (.pure 5 (.pure 6 (.pure 7 (.pure 8 (.pure 9 (.pure 10 (.pure 11 .tail)))))))))))) mixed (by kernel_rfl) (panicOk_then (panicOk_then (panicOk_block (panicOk_then (panicOk_then (panicOk_block (panicOk_then panicOk_body))))))) ?_; intro wa1 xa2 _); have qsa3 : (fun wz => Ext w2 wz) wa1 := xa2; simp only at qsa3; have d_hP := hP; have d_hr := hr; have za4 := xa2.size; replace hP := hP.ext xa2; replace X := X.ext xa2; replace hr := hr.ext xa2; clear xa2; refine ⟨qsa3, ?_⟩; refine Tq rfl Mv (Tq rfl Mv (Tq rfl Pn (Tq rfl Pg (Tq rfl (pur_load tabOk rfl rfl rfl (fun wz hz => Blk.cell (Blk.ext (RP.blk d_hP) hz) rfl)) (Tq rfl Mv (Tq rfl Pn (Tq rfl Pf (Tq rfl (pur_load tabOk rfl rfl rfl (fun wz hz => Blk.cell (Blk.ext (RP.blk d_hP) hz) rfl)) ?_)))))))); refine Tq rfl (pur_indexAddr_eq tabOk rfl rfl rfl (by assumption) rfl (by omega) (by omega)) ?_
      refine Tq rfl Pf (Tq rfl (Dr d_hr) ?_); clear qsa3 d_hP d_hr; refine tw_tail rfl ?_; refine cC rfl (gfail_c _ _ _ _ _ (by assumption)) ?_; rintro _ wa7 ⟨⟨⟩, ⟨ha5, fa6⟩⟩; have za8 := fa6.size; clear hP; replace X := X.fr fa6 (by omega); clear hr fa6; refine cN (C1 Pa (cT (cw_ret (qw_then_ret (qw_block_ret (qw_then_ret (qw_then_ret (qw_block_ret (qw_then_ret (qw_ret1 rfl rfl ?_)))))))))); rotate_left 1
     exact ⟨rfl, by assumption, X⟩
   · focus
      refine cw_seq (cS (C1 Mv (C1 Mv (C1 Py (C1 V3 (cT (Wyo (cw_skip (qw_then (cw_seq (cw_block ?_))))))))))); refine cS (C1 Mv (C1 Mv ?_)); refine C1 (pur_sindex tabOk rfl rfl rfl (by omega) (by assumption)) ?_; refine C1 (pur_sub rfl rfl (u8_wrap _ (by omega) (by omega))) ?_; refine C1 (pur_conv tabOk rfl rfl rfl (u64_wrap _ (by omega) (by omega))) ?_; refine C1 Pa (cT (cw_seq (cS (C1 Mv (C1 Mv ?_))))); refine C1 (pur_sub rfl rfl (u64_wrap _ (by omega) (by omega))) ?_; refine C1 (pur_quo rfl rfl (by omega) (quo_u64 (by omega) (by omega) (by omega))) ?_; refine C1 V5 (cT (Wno (cw_skip (qw_then (cw_region (C1 Mv ?_)))))); refine C1 (pur_mul rfl rfl (u64_wrap _ (by omega) (by omega))) ?_; refine C1 Mv ?_; refine C1 (pur_add rfl rfl (u64_wrap _ (by omega) (by omega))) ?_; refine C1 Pa (lw_nil (qw_block_norm (qw_then (cw_region (C1 Mv (C1 V7 (C1 Pa (lw_nil ?_)))))))); rotate_left 1
     refine qw_round (j + 1) ?_ ⟨rfl, by omega, by omega⟩ (by omega); refine sub_cons rfl (sub_cons rfl (sub_cons' rfl ?_ (sub_cons rfl sub_nil)))
     simp only [Value.int.injEq, true_and]; omega
 · have hjl : j = T.length := by omega
   subst hjl; rw [List.take_length] at hle ⊢; have hv : digitsVal T = digitsFrom 0 T := rfl; rw [HE.out _ hv, if_pos hle]
   focus
    refine cw_seq (cS (C1 Mv (C1 Mv (C1 Py (C1 V3 (cT (Wno (cw_exit (qw_then_exit (qw_then_exit (qw_block_exit ?_))))))))))); refine qw_then (cS (C1 Mv (C1 Mv (C1 Pn (C1 Pf (lw_load_b tabOk rfl rfl rfl (RP.blk hP) rfl rfl (C1 V7 (C1 Pn (C1 Pf ?_))))))))); refine lw_rp_at tabOk rfl rfl rfl rfl (by assumption) h3 ?_; rintro wc1 hc2 fc3; have zc4 := fc3.size; clear hP; replace X := X.fr fc3 (by omega); clear hr fc3; refine cN (C1 Mv ?_); refine C1 (pur_conv tabOk rfl rfl rfl (IntWalk.i64_in _ (by omega))) ?_; refine C1 Pa (cT (cw_ret (qw_ret1 rfl rfl ?_))); rotate_left 1
   exact ⟨rfl, by assumption, X⟩
end Bk
namespace Bk
open Go Go.RowKit Go.Proofs
attribute [local irreducible] Go.Calls
set_option maxRecDepth 100000 in
set_option maxHeartbeats 1000000 in
theorem gSymbols_c (w : World) : Calls Tryz.prog 52 #[] w fun e w' => ∃ b, e = .returned (.slice (some ⟨b, 0, none⟩) 16 16) ∧ Row w' ⟨b, 0, none⟩ (opTexts.map str) ∧ Ext w w' := by
 have X := Ext.refl w; refine calls_in (args := []) Tryz.func52 Tryz.ntmps52 rfl rfl ?_
 focus
  refine cS (C1 Pa (cN ?_)); (refine lw_does (does_slice' [_, _, _, _, _, _, _, _, _, _, _, _, _, _, _, _] tabOk zOk rfl rfl rfl rfl rfl rfl rfl rfl rfl) rfl ?_ (fun _ h => h); rintro _ w2 ⟨b1, rfl, n3, t4⟩); clear t4; have h5 := n3.blk; have x6 := n3.ext; have p7 := n3.pos; have z8 := n3.size; clear n3; replace X := X.ext x6; clear x6; refine C1 Pa (cT (cw_ret (qw_ret1 rfl rfl ?_))); rotate_left 1
 exact ⟨_, rfl, Blk.row (by assumption), X⟩
set_option maxRecDepth 100000 in
set_option maxHeartbeats 1000000 in
theorem gLevels_c (w : World) : Calls Tryz.prog 79 #[] w fun e w' => ∃ b, e = .returned (.slice (some ⟨b, 0, none⟩) 16 16) ∧ Row w' ⟨b, 0, none⟩ (opLevels.map (.int .i64 ·)) ∧ Ext w w' := by
 have X := Ext.refl w; refine calls_in (args := []) Tryz.func79 Tryz.ntmps79 rfl rfl ?_
 focus
  refine cS (C1 Pa (cN ?_)); (refine lw_does (does_slice' [_, _, _, _, _, _, _, _, _, _, _, _, _, _, _, _] tabOk zOk rfl rfl rfl rfl rfl rfl rfl rfl rfl) rfl ?_ (fun _ h => h); rintro _ w2 ⟨b1, rfl, n3, t4⟩); clear t4; have h5 := n3.blk; have x6 := n3.ext; have p7 := n3.pos; have z8 := n3.size; clear n3; replace X := X.ext x6; clear x6; refine C1 Pa (cT (cw_ret (qw_ret1 rfl rfl ?_))); rotate_left 1
 exact ⟨_, rfl, Blk.row (by assumption), X⟩
theorem Row.nthH {w : World} {b j : Nat} {l : List (List UInt8)} (h : Row w ⟨b, 0, none⟩ (l.map str)) (hj : j < l.length) : Row w ⟨b, 0 + j * 1, none⟩ [str l[j]] := by
 have h1 := h.sub j 1
 have e : ((l.map str).drop j).take 1 = [str l[j]] := by
  rw [List.drop_eq_getElem_cons (by simpa using hj)]; simp
 rw [e] at h1
 rw [Nat.mul_one]; exact h1
theorem gSymbols_j {j : Nat} (hj : j < 16) (w : World) : Calls Tryz.prog 52 #[] w fun e w' => ∃ b, e = .returned (.slice (some ⟨b, 0, none⟩) 16 16) ∧ Row w' ⟨b, 0 + j * 1, none⟩ [str (symbol (8 + (j : Int)))] ∧ Ext w w' :=
 Calls.mono (gSymbols_c w) fun e w' ⟨b, h1, h2, h3⟩ => ⟨b, h1, by have := h2.nthH (j := j) hj; rw [(opT j hj).1] at this; exact this, h3⟩
theorem gLevels_j {j : Nat} (hj : j < 16) (w : World) : Calls Tryz.prog 79 #[] w fun e w' => ∃ b, e = .returned (.slice (some ⟨b, 0, none⟩) 16 16) ∧ Row w' ⟨b, 0 + j * 1, none⟩ [.int .i64 (level (8 + (j : Int)))] ∧ Ext w w' :=
 Calls.mono (gLevels_c w) fun e w' ⟨b, h1, h2, h3⟩ => ⟨b, h1, by have := h2.nthI (j := j) hj; rw [(opT j hj).2.1] at this; exact this, h3⟩
end Bk
namespace Bk
open Go Go.RowKit Go.Proofs
attribute [local irreducible] Go.Calls
def RTreeR (c : RC) (w : World) (r : Nd × PS) : Ending → World → Prop := fun e w' => ∃ a k, e = .returned (r.1.val a k) ∧ r.1.sits (fun b => w.heap.size ≤ b ∧ b < w'.heap.size) w' a ∧ RP c r.2 w' ∧ Fr (· = c.pb) w w'
theorem rtree_ret {c : RC} {w w' : World} {r : Nd × PS} {a : Option Addr} {k : Nat} (hs : r.1.sits (w.heap.size ≤ ·) w' a) (hP : RP c r.2 w') (X : Fr (· = c.pb) w w') : RTreeR c w r (.returned (r.1.val a k)) w' :=
 ⟨a, k, rfl, sits_lt2 _ _ hs, hP, X⟩
theorem RTreeR.ret {c : RC} {w : World} {r : Nd × PS} {e : Ending} {w' : World} (h : RTreeR c w r e w') : ∃ v, e = .returned v := by
 obtain ⟨_, _, h, -⟩ := h
 exact ⟨_, h⟩
end Bk
namespace Bk
open Go Go.RowKit Go.Proofs
attribute [local irreducible] Go.Calls
def ListG (c : RC) (w : World) (r : List Nd × PS) : Ending → World → Prop := fun e w' => ∃ a k, e = .returned (.slice a r.1.length k) ∧ rowSits (fun b => w.heap.size ≤ b ∧ b < w'.heap.size) w' r.1 a ∧ RP c r.2 w' ∧ Fr (· = c.pb) w w'
theorem ListG.ret {c : RC} {w : World} {r : List Nd × PS} {e : Ending} {w' : World} (h : ListG c w r e w') : ∃ v, e = .returned v := by
 obtain ⟨_, _, h, -⟩ := h
 exact ⟨_, h⟩
theorem listG_ret {c : RC} {w w' : World} {r : List Nd × PS} {a : Option Addr} {m k : Nat} (hm : r.1.length = m) (hs : rowSits (w.heap.size ≤ ·) w' r.1 a) (hP : RP c r.2 w') (X : Fr (· = c.pb) w w') : ListG c w r (.returned (.slice a m k)) w' := by
 subst hm; refine ⟨a, k, rfl, ?_, hP, X⟩; have := sits_lt2 (.mk 0 0 [] r.1) a (S := (w.heap.size ≤ ·)) hs
 exact this
structure ExprsG (c : RC) (k : Nat) : Prop where
 e : ∀ (lv : Int) (σ : PS) (w : World), RP c σ w → 1 ≤ lv → lv ≤ 9 → (12 * mS c.ts σ : Int) + 12 ≤ k + lv → Calls Tryz.prog 65 #[.pointer (some ⟨c.pb, 0, none⟩), .int .i64 lv] w (RTreeR c w (exprS c.ts c.n k lv σ))
 p : ∀ (σ : PS) (w : World), RP c σ w → 12 * mS c.ts σ + 2 ≤ k → Calls Tryz.prog 93 #[.pointer (some ⟨c.pb, 0, none⟩)] w (RTreeR c w (primS c.ts c.n k σ))
 a : ∀ (least : Nat) (σ : PS) (w : World), RP c σ w → least ≤ 2 → 12 * mS c.ts σ + 13 ≤ k → Calls Tryz.prog 108 #[.pointer (some ⟨c.pb, 0, none⟩), .int .i64 least] w (ListG c w (argsS c.ts c.n k least σ))
 b : ∀ (σ : PS) (w : World), RP c σ w → 12 * mS c.ts σ + 12 ≤ k → Calls Tryz.prog 34 #[.pointer (some ⟨c.pb, 0, none⟩)] w (RTreeR c w (braceS c.ts c.n k σ))
theorem exprS_le {ts : List Tok} {n : Int} {k : Nat} {lv : Int} {σ : PS} (h : σ.at_ ≤ ts.length) : Le ts σ (exprS ts n k lv σ).2 := ((good_S k).e lv).le ts n σ h
set_option maxRecDepth 100000 in
set_option maxHeartbeats 1000000 in
theorem braces_gw (c : RC) (k : Nat) (IH : ∀ j, j ≤ k → ExprsG c j) (σ : PS) (w : World) (hP : RP c σ w) (hk : 12 * mS c.ts σ + 12 ≤ k + 1) : Calls Tryz.prog 34 #[.pointer (some ⟨c.pb, 0, none⟩)] w (RTreeR c w (braceS c.ts c.n (k + 1) σ)) := by
 have X := Fr.refl (· = c.pb) w; have hpb := hP.pbB; have hB := hP.B; have m1 := mS_exp (n := c.n) (t := [123]) hP.at_ (by decide); rw [show braceS c.ts c.n (k + 1) σ = ((exprS c.ts c.n k 1 (expectP c.ts c.n σ [123])).1, expectP c.ts c.n (exprS c.ts c.n k 1 (expectP c.ts c.n σ [123])).2 [125]) from by rw [braceS]]; refine calls_in Tryz.func34 Tryz.ntmps34 rfl rfl ?_
 focus
  refine cS ?_; (refine lw_alloc' [_, _, _, _] zOk rfl rfl ?_; intro b1 w2 n3); have h5 := n3.blk; have x6 := n3.ext; have p7 := n3.pos; have z8 := n3.size; clear n3; replace hP := hP.ext x6; replace X := X.ext x6; clear x6; refine cN (C1 Mv ?_); refine cC rfl (gtake_c _ _ _ _ (by assumption) (by decide)) ?_; rintro _ w11 ⟨⟨⟩, ⟨h9, f10⟩⟩; have z12 := f10.size; replace h5 := h5.fr f10 (by omega); clear hP; replace X := X.fr f10 (by omega); clear f10; refine cN (C1 Mv ?_); refine cR (by kernel_rfl) rfl ((IH k (Nat.le_refl _)).e _ _ _ (by assumption) (by decide) (by decide) (by omega)) (fun _ _ h => h.ret) rfl ?_; rintro _ w18 ⟨a13, ⟨k14, ⟨⟨⟩, ⟨h15, ⟨h16, f17⟩⟩⟩⟩⟩; have z19 := f17.size; clear h9; replace h5 := h5.fr f17 (by omega); replace X := X.fr f17 (by omega); clear f17; (refine lw_alloc' [_, _, _, _] zOk rfl rfl ?_; intro b20 w21 n22); (refine lw_init' [_, _, _, _] tabOk rfl rfl rfl rfl rfl rfl n22 rfl ?_; clear n22; clear w21; intro w23 n22); have h24 := n22.blk; have x25 := n22.ext; have p26 := n22.pos; have z27 := n22.size; clear n22; replace h15 := Nd.sits.ext h15 x25; replace h16 := h16.ext x25; replace h5 := h5.ext x25; replace X := X.ext x25; clear x25; refine cN (C1 Mv ?_); refine cC rfl (gtake_c _ _ _ _ (by assumption) (by decide)) ?_; rintro _ w30 ⟨⟨⟩, ⟨h28, f29⟩⟩; have z31 := f29.size; replace h24 := h24.fr f29 (by omega); replace h15 := Nd.sits.fr h15 f29 (by omega); clear h16; replace h5 := h5.fr f29 (by omega); replace X := X.fr f29 (by omega); clear f29; refine cN (lw_loads_b' [_, _, _, _] tabOk rfl rfl rfl h24 rfl rfl rfl ?_)
  (refine lw_store' [_, _, _, _] [_, _, _, _] tabOk rfl rfl rfl rfl rfl rfl h5 rfl rfl ?_; intro w32 n33); have h36 := n33.blk; have f34 := n33.fr; have z35 := n33.size; clear n33 h5; replace h28 := h28.fr f34 (by omega); replace h24 := h24.fr f34 (by omega); replace h15 := Nd.sits.fr h15 f34 (by omega); replace X := X.fr f34 (by omega); clear f34; refine cT (cw_ret (qw_retc rfl tabOk rfl rfl rfl h36 rfl ?_)); rotate_left 1
 exact rtree_ret (Nd.sits.wide (by assumption) (fun b h => by omega)) (by assumption) X
set_option maxRecDepth 100000 in
set_option maxHeartbeats 8000000 in
theorem args_gw (c : RC) (k : Nat) (IH : ∀ j, j ≤ k → ExprsG c j) (least : Nat) (σ : PS) (w : World) (hP : RP c σ w) (hl2 : least ≤ 2) (hk : 12 * mS c.ts σ + 13 ≤ k + 1) : Calls Tryz.prog 108 #[.pointer (some ⟨c.pb, 0, none⟩), .int .i64 least] w (ListG c w (argsS c.ts c.n (k + 1) least σ)) := by
 have X := Fr.refl (· = c.pb) w; have hpb := hP.pbB; have hB := hP.B; have hlen := hP.len; have m0 := mS_len (ts := c.ts) (σ := σ); have m1 := mS_exp (n := c.n) (t := [40]) hP.at_ (by decide)
 by_cases h0 : least = 0 ∧ hasP c.ts (expectP c.ts c.n σ [40]) [41] = true
 · rw [show argsS c.ts c.n (k + 1) least σ = ([], nextP (expectP c.ts c.n σ [40])) from by rw [argsS]; dsimp only; rw [if_pos h0]]
   obtain ⟨rfl, hh⟩ := h0; refine calls_in Tryz.func108 Tryz.ntmps108 rfl rfl ?_
   focus
    refine cS (C1 Pa (cN (C1 Pa (cN (C1 Mv ?_))))); refine cC rfl (gtake_c _ _ _ _ (by assumption) (by decide)) ?_; rintro _ w3 ⟨⟨⟩, ⟨h1, f2⟩⟩; have z4 := f2.size; clear hP; replace X := X.fr f2 (by omega); clear f2; refine cT (cw_seq (cS (C1 Mv (C1 V1 (C1 Mv (Gyd (C1 Mv (Gyd ?_)))))))); refine cC rfl (ghas_t _ _ _ _ (by assumption) (by decide) (by assumption)) ?_; rintro _ w7 ⟨⟨⟩, ⟨h5, f6⟩⟩; have z8 := f6.size; clear h1; replace X := X.fr f6 (by omega); clear f6; refine C1 Qyd (cT (cw_cond_t rfl (cS (C1 Pa (cT (cw_ret (qw_then_ret (qw_ret1 rfl rfl ?_)))))))); rotate_left 1
   exact listG_ret rfl (show rowSits _ _ [] _ from trivial) (by assumption) X
 rw [show argsS c.ts c.n (k + 1) least σ = ((listS c.ts c.n k least [] (expectP c.ts c.n σ [40])).1, expectP c.ts c.n (if (listS c.ts c.n k least [] (expectP c.ts c.n σ [40])).1.length < least then unexpP c.ts c.n (listS c.ts c.n k least [] (expectP c.ts c.n σ [40])).2 else (listS c.ts c.n k least [] (expectP c.ts c.n σ [40])).2) [41]) from by rw [argsS]; dsimp only; rw [if_neg h0]]
 by_cases hl : least = 0
 · subst hl
   have hh : hasP c.ts (expectP c.ts c.n σ [40]) [41] = false := by
    cases h : hasP c.ts (expectP c.ts c.n σ [40]) [41]
    · rfl
    · exact absurd ⟨rfl, h⟩ h0
   clear h0; refine calls_in Tryz.func108 Tryz.ntmps108 rfl rfl ?_
   focus
    refine cS (C1 Pa (cN (C1 Pa (cN (C1 Mv ?_))))); refine cC rfl (gtake_c _ _ _ _ (by assumption) (by decide)) ?_; rintro _ wa3 ⟨⟨⟩, ⟨ha1, fa2⟩⟩; have za4 := fa2.size; clear hP; replace X := X.fr fa2 (by omega); clear fa2; refine cT (cw_seq (cS (C1 Mv (C1 V1 (C1 Mv (Gyd (C1 Mv (Gyd ?_)))))))); refine cC rfl (ghas_f _ _ _ _ (by assumption) (by decide) (by assumption)) ?_; rintro _ wa7 ⟨⟨⟩, ⟨ha5, fa6⟩⟩; have za8 := fa6.size; clear ha1; replace X := X.fr fa6 (by omega); clear fa6; refine C1 Qyd (cT (cw_cond_f rfl (cw_skip (qw_then (cw_seq (cw_block ?_)))))); rotate_left 1
   generalize expectP c.ts c.n σ [40] = σ1 at *
   refine cw_loop (ι := Nat × List Nd × Option Addr × Nat × PS) (fun x => [(0, .pointer (some ⟨c.pb, 0, none⟩)), (1, .int .i64 0), (5, .slice x.2.2.1 x.2.1.length x.2.2.2.1)])
    (fun x w' => RP c x.2.2.2.2 w' ∧ OwnQ ndShape w' (w.heap.size ≤ ·) w.heap.size 40 (.slice x.2.2.1 x.2.1.length x.2.2.2.1) x.2.1 ∧ Fr (· = c.pb) w w' ∧ w.heap.size ≤ w'.heap.size ∧
     listS c.ts c.n k 0 [] σ1 = listS c.ts c.n x.1 0 x.2.1 x.2.2.2.2 ∧ (x.2.2.2.2.err = 0 → 12 * mS c.ts x.2.2.2.2 + 12 ≤ x.1) ∧ 1 ≤ x.1 ∧ x.1 ≤ k ∧ x.2.1.length + mS c.ts x.2.2.2.2 ≤ 1000001) (fun x => x.1) (k, [], none, 0, σ1) (by (refine sub_cons rfl ?_; refine sub_cons rfl ?_; refine sub_cons rfl ?_; exact sub_nil))
    ⟨by assumption, OwnQ.nil, X, by omega, rfl, fun h => by simp only at h ⊢; omega, by omega, Nat.le_refl _, by simp only [List.length_nil]; omega⟩ ?_
   clear X; rintro ⟨j, acc, a, cap, σ'⟩ w1 ⟨hP, hown, X, hz, he, hfj, hj1, hjk, hacc⟩; simp only at hP hown he hfj hj1 hjk hacc; rw [he]; clear he m1 hk; obtain ⟨j, rfl⟩ : ∃ i, j = i + 1 := ⟨j - 1, by omega⟩
   have hob : ∀ g, (Value.slice a acc.length cap).ownBlock = some g → w.heap.size ≤ g ∧ g < w1.heap.size := fun g h => ⟨hown.ge h, hown.lt h⟩
   refine CW.sub (m := [(0, .pointer (some ⟨c.pb, 0, none⟩)), (1, .int .i64 0), (5, .slice a acc.length cap)]) ?_ (by (refine sub_cons rfl ?_; refine sub_cons rfl ?_; refine sub_cons rfl ?_; exact sub_nil))
   by_cases e0 : σ'.err = 0
   case neg =>
    have hst : (Nd.mk 0 0 [] acc).sits (w.heap.size ≤ ·) w1 a := sits_mk (hown.rowsits (fun b h => h) (fun b h => h)); rw [show listS c.ts c.n (j + 1) 0 acc σ' = (acc, σ') from by rw [listS]; simp [e0]]; clear hown
    by_cases hlt : acc.length < 0
    · exact absurd hlt (Nat.not_lt_zero _)
    · rw [if_neg hlt]
      focus
       refine cw_seq (cS (C1 Mv (C1 Pn (C1 Pf (lw_load_b tabOk rfl rfl rfl (RP.blk hP) rfl rfl (C1 V1 (cT (Wna (cw_exit (qw_then_exit (qw_then_exit ?_))))))))))); refine qw_block_exit (qw_then (cw_seq (cS (C1 Mv (C1 V5 (C1 Mv (Ond (Ond (Ond (Ond (C1 Qnd ?_))))))))))); refine cT (cw_cond_f rfl (cw_skip (qw_then (cS (C1 Mv ?_))))); refine cC rfl (gtake_c _ _ _ _ (by assumption) (by decide)) ?_; rintro _ wb3 ⟨⟨⟩, ⟨hb1, fb2⟩⟩; have zb4 := fb2.size; clear hP; replace X := X.fr fb2 (by omega); replace hst := Nd.sits.fr hst fb2 (by omega); clear fb2; refine cN (C1 Mv (C1 Pa (cT (cw_ret (qw_ret1 rfl rfl ?_))))); rotate_left 1
      exact listG_ret rfl (kidsSitsF (by assumption)) (by assumption) X
   have hf0 := hfj e0; have l1 := exprS_le (n := c.n) (k := j) (lv := 1) hP.at_; have m1 := mS_le l1
   have hal : (acc ++ [(exprS c.ts c.n j 1 σ').1]).length = acc.length + 1 := by simp
   have hwf := l1.wf; clear l1
   by_cases hq : 0 < 0 ∧ acc.length + 1 = 0
   · exact absurd hq.1 (Nat.lt_irrefl 0)
   cases hc : hasP c.ts (exprS c.ts c.n j 1 σ').2 [44]
   · rw [show listS c.ts c.n (j + 1) 0 acc σ' = (acc ++ [(exprS c.ts c.n j 1 σ').1], (exprS c.ts c.n j 1 σ').2) from by rw [listS]; simp only [e0]; rw [if_neg (by decide), if_neg hq, hc]; rfl]
     by_cases hlt : (acc ++ [(exprS c.ts c.n j 1 σ').1]).length < 0
     · exact absurd hlt (Nat.not_lt_zero _)
     · rw [if_neg hlt]
       focus
        refine cw_seq (cS (C1 Mv (C1 Pn (C1 Pf (lw_load_b tabOk rfl rfl rfl (RP.blk hP) rfl rfl (C1 V1 (cT (Wya (cw_skip (qw_then (cw_block ?_))))))))))); refine cS (C1 Mv (C1 Mv ?_)); refine cR (by kernel_rfl) rfl ((IH j (by omega)).e _ _ _ (by assumption) (by decide) (by decide) (by omega)) (fun _ _ h => h.ret) rfl ?_; rintro _ wc6 ⟨ac1, ⟨kc2, ⟨⟨⟩, ⟨hc3, ⟨hc4, fc5⟩⟩⟩⟩⟩; have zc7 := fc5.size; clear hP; replace hown := OwnQ.fr hown fc5 (fun k hk => ⟨fun h => by (try dsimp only at hk h); omega, fun e => by have := OwnQ.ge (by assumption) e; (try dsimp only at hk); omega⟩); replace X := X.fr fc5 (by omega); clear fc5; (refine lw_does (does_slice' [_, _, _, _] tabOk zOk rfl rfl rfl rfl rfl rfl rfl rfl rfl) rfl ?_ (fun _ h => h); rintro _ wc9 ⟨bc8, rfl, nc10, tc11⟩); clear tc11; have hc12 := nc10.blk; have xc13 := nc10.ext; have pc14 := nc10.pos; have zc15 := nc10.size; clear nc10; replace hc3 := Nd.sits.ext hc3 xc13; replace hc4 := hc4.ext xc13; replace hown := hown.ext xc13; replace X := X.ext xc13; clear xc13; refine lw_does (does_appendQ (R := fun b => w.heap.size ≤ b) (sh := ndShape) (z := (exprS c.ts c.n j 1 σ').1) tabOk zOk rfl rfl rfl rfl (by kernel_rfl) rfl rfl rfl (by assumption) (fun _ h => by exact h) (Blk.row (by assumption)) ⟨_, _, rfl, Nd.sits.wide (by assumption) (fun b h => ⟨by omega, fun e => by have := hob _ e; omega⟩)⟩ (by omega) (by omega)) rfl ?_ (fun _ h => h); rintro _ wc22 ⟨gc16, ⟨capc17, ⟨rfl, ⟨hc18, ⟨hc19, ⟨hc20, fc21⟩⟩⟩⟩⟩⟩; have zc23 := fc21.size; replace hc12 := Blk.fr hc12 fc21 (fun e => by have := hob _ e; omega)
        clear hc3; replace hc4 := RP.fr hc4 fc21 (fun k hk => by have := hob _ hk; omega); clear hown; replace X := Fr.fr X fc21 (fun k hk => by have := hob _ hk; omega); clear fc21; refine C1 Pa (cN (C1 Mv (C1 V5 (C1 Mv (Ond (Ond (Ond (Ond (C1 Qnd (C1 Mv (lw_on rfl rfl rfl (rfl) ?_))))))))))); refine C1 Mv (lw_on rfl rfl rfl (rfl) ?_); refine cC rfl (ghas_f _ _ _ _ (by assumption) (by decide) (by assumption)) ?_; rintro _ wc26 ⟨⟨⟩, ⟨hc24, fc25⟩⟩; have zc27 := fc25.size; replace hc18 := OwnQ.fr hc18 fc25 (fun k hk => ⟨fun h => by (try dsimp only at hk h); omega, fun e => by have := OwnQ.ge (by assumption) e; (try dsimp only at hk); omega⟩); replace hc12 := hc12.fr fc25 (by omega); clear hc4; replace X := X.fr fc25 (by omega); clear fc25; refine lw_on rfl rfl rfl (rfl) (C1 Pt (C1 (pur_pick_f rfl rfl rfl) (cT (cw_cond_t rfl (cw_exit (qw_block_pass rfl (qw_then_exit (qw_block_exit (qw_then (cw_seq (cS ?_))))))))))); refine C1 Mv (C1 V5 (C1 Mv (Ond (Ond (Ond (Ond (C1 Qnd (cT (cw_cond_f rfl (cw_skip (qw_then ?_))))))))))); refine cS (C1 Mv ?_); refine cC rfl (gtake_c _ _ _ _ (by assumption) (by decide)) ?_; rintro _ wc30 ⟨⟨⟩, ⟨hc28, fc29⟩⟩; have zc31 := fc29.size; clear hc24; replace hc18 := OwnQ.fr hc18 fc29 (fun k hk => ⟨fun h => by (try dsimp only at hk h); omega, fun e => by have := OwnQ.ge (by assumption) e; (try dsimp only at hk); omega⟩); replace hc12 := hc12.fr fc29 (by omega); replace X := X.fr fc29 (by omega); clear fc29; refine cN (C1 Mv (C1 Pa (cT (cw_ret (qw_ret1 rfl rfl ?_)))))
        rotate_left 1
       exact listG_ret rfl (OwnQ.rowsits (by assumption) (fun b h => h) (fun b h => h)) (by assumption) X
   · rw [show listS c.ts c.n (j + 1) 0 acc σ' = listS c.ts c.n j 0 (acc ++ [(exprS c.ts c.n j 1 σ').1]) (nextP (exprS c.ts c.n j 1 σ').2) from by rw [listS]; simp only [e0]; rw [if_neg (by decide), if_neg hq, hc]; rfl]
     have i1 := has_in hwf hc (by decide); have m2 := mS_next i1
     focus
      refine cw_seq (cS (C1 Mv (C1 Pn (C1 Pf (lw_load_b tabOk rfl rfl rfl (RP.blk hP) rfl rfl (C1 V1 (cT (Wya (cw_skip (qw_then (cw_block ?_))))))))))); refine cS (C1 Mv (C1 Mv ?_)); refine cR (by kernel_rfl) rfl ((IH j (by omega)).e _ _ _ (by assumption) (by decide) (by decide) (by omega)) (fun _ _ h => h.ret) rfl ?_; rintro _ wd6 ⟨ad1, ⟨kd2, ⟨⟨⟩, ⟨hd3, ⟨hd4, fd5⟩⟩⟩⟩⟩; have zd7 := fd5.size; clear hP; replace hown := OwnQ.fr hown fd5 (fun k hk => ⟨fun h => by (try dsimp only at hk h); omega, fun e => by have := OwnQ.ge (by assumption) e; (try dsimp only at hk); omega⟩); replace X := X.fr fd5 (by omega); clear fd5; (refine lw_does (does_slice' [_, _, _, _] tabOk zOk rfl rfl rfl rfl rfl rfl rfl rfl rfl) rfl ?_ (fun _ h => h); rintro _ wd9 ⟨bd8, rfl, nd10, td11⟩); clear td11; have hd12 := nd10.blk; have xd13 := nd10.ext; have pd14 := nd10.pos; have zd15 := nd10.size; clear nd10; replace hd3 := Nd.sits.ext hd3 xd13; replace hd4 := hd4.ext xd13; replace hown := hown.ext xd13; replace X := X.ext xd13; clear xd13; refine lw_does (does_appendQ (R := fun b => w.heap.size ≤ b) (sh := ndShape) (z := (exprS c.ts c.n j 1 σ').1) tabOk zOk rfl rfl rfl rfl (by kernel_rfl) rfl rfl rfl (by assumption) (fun _ h => by exact h) (Blk.row (by assumption)) ⟨_, _, rfl, Nd.sits.wide (by assumption) (fun b h => ⟨by omega, fun e => by have := hob _ e; omega⟩)⟩ (by omega) (by omega)) rfl ?_ (fun _ h => h); rintro _ wd22 ⟨gd16, ⟨capd17, ⟨rfl, ⟨hd18, ⟨hd19, ⟨hd20, fd21⟩⟩⟩⟩⟩⟩; have zd23 := fd21.size; replace hd12 := Blk.fr hd12 fd21 (fun e => by have := hob _ e; omega)
      clear hd3; replace hd4 := RP.fr hd4 fd21 (fun k hk => by have := hob _ hk; omega); clear hown; replace X := Fr.fr X fd21 (fun k hk => by have := hob _ hk; omega); clear fd21; refine C1 Pa (cN (C1 Mv (C1 V5 (C1 Mv (Ond (Ond (Ond (Ond (C1 Qnd (C1 Mv (lw_on rfl rfl rfl (rfl) ?_))))))))))); refine C1 Mv (lw_on rfl rfl rfl (rfl) ?_); refine cC rfl (ghas_t _ _ _ _ (by assumption) (by decide) (by assumption)) ?_; rintro _ wd26 ⟨⟨⟩, ⟨hd24, fd25⟩⟩; have zd27 := fd25.size; replace hd18 := OwnQ.fr hd18 fd25 (fun k hk => ⟨fun h => by (try dsimp only at hk h); omega, fun e => by have := OwnQ.ge (by assumption) e; (try dsimp only at hk); omega⟩); replace hd12 := hd12.fr fd25 (by omega); clear hd4; replace X := X.fr fd25 (by omega); clear fd25; refine lw_on rfl rfl rfl (rfl) (C1 Pt (C1 (pur_pick_f rfl rfl rfl) (cT (cw_cond_f rfl (cw_skip (qw_block_norm ?_)))))); rotate_left 1
     exact qw_round (j, acc ++ [(exprS c.ts c.n j 1 σ').1], some ⟨_, 0, none⟩, _, nextP (exprS c.ts c.n j 1 σ').2) (by (refine sub_cons rfl ?_; refine sub_cons rfl ?_; refine sub_cons rfl ?_; exact sub_nil)) ⟨by assumption, by assumption, X, by omega, rfl, fun _ => by simp only; omega, by simp only; omega, by simp only; omega, by simp only [hal]; omega⟩ (by simp)
 · clear h0
   refine calls_in Tryz.func108 Tryz.ntmps108 rfl rfl ?_
   focus
    refine cS (C1 Pa (cN (C1 Pa (cN (C1 Mv ?_))))); refine cC rfl (gtake_c _ _ _ _ (by assumption) (by decide)) ?_; rintro _ we3 ⟨⟨⟩, ⟨he1, fe2⟩⟩; have ze4 := fe2.size; clear hP; replace X := X.fr fe2 (by omega); clear fe2; refine cT (cw_seq (cS (C1 Mv (C1 V1 (C1 Mv (Ono (Ono (C1 Qno (cT (cw_cond_f rfl (cw_skip ?_))))))))))); refine qw_then (cw_seq (cw_block ?_)); rotate_left 1
   generalize expectP c.ts c.n σ [40] = σ1 at *
   refine cw_loop (ι := Nat × List Nd × Option Addr × Nat × PS) (fun x => [(0, .pointer (some ⟨c.pb, 0, none⟩)), (1, .int .i64 least), (5, .slice x.2.2.1 x.2.1.length x.2.2.2.1)])
    (fun x w' => RP c x.2.2.2.2 w' ∧ OwnQ ndShape w' (w.heap.size ≤ ·) w.heap.size 40 (.slice x.2.2.1 x.2.1.length x.2.2.2.1) x.2.1 ∧ Fr (· = c.pb) w w' ∧ w.heap.size ≤ w'.heap.size ∧
     listS c.ts c.n k least [] σ1 = listS c.ts c.n x.1 least x.2.1 x.2.2.2.2 ∧ (x.2.2.2.2.err = 0 → 12 * mS c.ts x.2.2.2.2 + 12 ≤ x.1) ∧ 1 ≤ x.1 ∧ x.1 ≤ k ∧ x.2.1.length + mS c.ts x.2.2.2.2 ≤ 1000001) (fun x => x.1) (k, [], none, 0, σ1) (by (refine sub_cons rfl ?_; refine sub_cons rfl ?_; refine sub_cons rfl ?_; exact sub_nil))
    ⟨by assumption, OwnQ.nil, X, by omega, rfl, fun h => by simp only at h ⊢; omega, by omega, Nat.le_refl _, by simp only [List.length_nil]; omega⟩ ?_
   clear X; rintro ⟨j, acc, a, cap, σ'⟩ w1 ⟨hP, hown, X, hz, he, hfj, hj1, hjk, hacc⟩; simp only at hP hown he hfj hj1 hjk hacc; rw [he]; clear he m1 hk; obtain ⟨j, rfl⟩ : ∃ i, j = i + 1 := ⟨j - 1, by omega⟩
   have hob : ∀ g, (Value.slice a acc.length cap).ownBlock = some g → w.heap.size ≤ g ∧ g < w1.heap.size := fun g h => ⟨hown.ge h, hown.lt h⟩
   refine CW.sub (m := [(0, .pointer (some ⟨c.pb, 0, none⟩)), (1, .int .i64 least), (5, .slice a acc.length cap)]) ?_ (by (refine sub_cons rfl ?_; refine sub_cons rfl ?_; refine sub_cons rfl ?_; exact sub_nil))
   by_cases e0 : σ'.err = 0
   case neg =>
    have hst : (Nd.mk 0 0 [] acc).sits (w.heap.size ≤ ·) w1 a := sits_mk (hown.rowsits (fun b h => h) (fun b h => h)); rw [show listS c.ts c.n (j + 1) least acc σ' = (acc, σ') from by rw [listS]; simp [e0]]; clear hown
    by_cases hlt : acc.length < least
    · rw [if_pos hlt]
      focus
       refine cw_seq (cS (C1 Mv (C1 Pn (C1 Pf (lw_load_b tabOk rfl rfl rfl (RP.blk hP) rfl rfl (C1 V1 (cT (Wna (cw_exit (qw_then_exit (qw_then_exit ?_))))))))))); refine qw_block_exit (qw_then (cw_seq (cS (C1 Mv (C1 V5 (C1 Mv (Gyo (C1 Mv (Gyo (C1 Pz (Gyo ?_))))))))))); refine C1 Mv (Gyo (C1 V3 (C1 Qyo (cT (Wyo (cw_region (C1 Mv ?_))))))); refine cC rfl (gwrong_c _ _ _ (by assumption)) ?_; rintro _ wf3 ⟨⟨⟩, ⟨hf1, ff2⟩⟩; have zf4 := ff2.size; clear hP; replace X := X.fr ff2 (by omega); replace hst := Nd.sits.fr hst ff2 (by omega); clear ff2; refine cN (C1 Mv ?_); refine cC rfl (gtake_c _ _ _ _ (by assumption) (by decide)) ?_; rintro _ wf7 ⟨⟨⟩, ⟨hf5, ff6⟩⟩; have zf8 := ff6.size; clear hf1; replace X := X.fr ff6 (by omega); replace hst := Nd.sits.fr hst ff6 (by omega); clear ff6; refine cN (C1 Mv (C1 Pa (cT (cw_ret (qw_ret1 rfl rfl ?_))))); rotate_left 1
      exact listG_ret rfl (kidsSitsF (by assumption)) (by assumption) X
    · rw [if_neg hlt]
      focus
       refine cw_seq (cS (C1 Mv (C1 Pn (C1 Pf (lw_load_b tabOk rfl rfl rfl (RP.blk hP) rfl rfl (C1 V1 (cT (Wna (cw_exit (qw_then_exit (qw_then_exit ?_))))))))))); refine qw_block_exit (qw_then (cw_seq (cS (C1 Mv (C1 V5 (C1 Mv (Gyo (C1 Mv (Gyo (C1 Pz (Gyo ?_))))))))))); refine C1 Mv (Gyo (C1 V3 (C1 Qyo (cT (Wno (cw_skip (qw_then (cS (C1 Mv ?_))))))))); refine cC rfl (gtake_c _ _ _ _ (by assumption) (by decide)) ?_; rintro _ wg3 ⟨⟨⟩, ⟨hg1, fg2⟩⟩; have zg4 := fg2.size; clear hP; replace X := X.fr fg2 (by omega); replace hst := Nd.sits.fr hst fg2 (by omega); clear fg2; refine cN (C1 Mv (C1 Pa (cT (cw_ret (qw_ret1 rfl rfl ?_))))); rotate_left 1
      exact listG_ret rfl (kidsSitsF (by assumption)) (by assumption) X
   have hf0 := hfj e0; have l1 := exprS_le (n := c.n) (k := j) (lv := 1) hP.at_; have m1 := mS_le l1
   have hal : (acc ++ [(exprS c.ts c.n j 1 σ').1]).length = acc.length + 1 := by simp
   have hwf := l1.wf; clear l1
   by_cases hq : 0 < least ∧ acc.length + 1 = least
   · rw [show listS c.ts c.n (j + 1) least acc σ' = (acc ++ [(exprS c.ts c.n j 1 σ').1], (exprS c.ts c.n j 1 σ').2) from by rw [listS]; simp only [e0]; rw [if_neg (by decide), if_pos hq]]
     rw [if_neg (by simp only [hal]; omega)]
     focus
      refine cw_seq (cS (C1 Mv (C1 Pn (C1 Pf (lw_load_b tabOk rfl rfl rfl (RP.blk hP) rfl rfl (C1 V1 (cT (Wya (cw_skip (qw_then (cw_block ?_))))))))))); refine cS (C1 Mv (C1 Mv ?_)); refine cR (by kernel_rfl) rfl ((IH j (by omega)).e _ _ _ (by assumption) (by decide) (by decide) (by omega)) (fun _ _ h => h.ret) rfl ?_; rintro _ wh6 ⟨ah1, ⟨kh2, ⟨⟨⟩, ⟨hh3, ⟨hh4, fh5⟩⟩⟩⟩⟩; have zh7 := fh5.size; clear hP; replace hown := OwnQ.fr hown fh5 (fun k hk => ⟨fun h => by (try dsimp only at hk h); omega, fun e => by have := OwnQ.ge (by assumption) e; (try dsimp only at hk); omega⟩); replace X := X.fr fh5 (by omega); clear fh5; (refine lw_does (does_slice' [_, _, _, _] tabOk zOk rfl rfl rfl rfl rfl rfl rfl rfl rfl) rfl ?_ (fun _ h => h); rintro _ wh9 ⟨bh8, rfl, nh10, th11⟩); clear th11; have hh12 := nh10.blk; have xh13 := nh10.ext; have ph14 := nh10.pos; have zh15 := nh10.size; clear nh10; replace hh3 := Nd.sits.ext hh3 xh13; replace hh4 := hh4.ext xh13; replace hown := hown.ext xh13; replace X := X.ext xh13; clear xh13; refine lw_does (does_appendQ (R := fun b => w.heap.size ≤ b) (sh := ndShape) (z := (exprS c.ts c.n j 1 σ').1) tabOk zOk rfl rfl rfl rfl (by kernel_rfl) rfl rfl rfl (by assumption) (fun _ h => by exact h) (Blk.row (by assumption)) ⟨_, _, rfl, Nd.sits.wide (by assumption) (fun b h => ⟨by omega, fun e => by have := hob _ e; omega⟩)⟩ (by omega) (by omega)) rfl ?_ (fun _ h => h); rintro _ wh22 ⟨gh16, ⟨caph17, ⟨rfl, ⟨hh18, ⟨hh19, ⟨hh20, fh21⟩⟩⟩⟩⟩⟩; have zh23 := fh21.size; replace hh12 := Blk.fr hh12 fh21 (fun e => by have := hob _ e; omega)
      clear hh3; replace hh4 := RP.fr hh4 fh21 (fun k hk => by have := hob _ hk; omega); clear hown; replace X := Fr.fr X fh21 (fun k hk => by have := hob _ hk; omega); clear fh21; refine C1 Pa (cN (C1 Mv (C1 V5 (C1 Mv (Gyo (C1 Mv (Gyo (C1 Pz (Gyo (C1 Mv (Gyo ?_))))))))))); refine C1 V1 (C1 Qyo (C1 Mv (Oyo (Oyo (Oyo (C1 Qyo (cT (cw_cond_t rfl (cw_exit (qw_block_pass rfl (qw_then_exit ?_))))))))))); refine qw_block_exit (qw_then (cw_seq (cS (C1 Mv (C1 V5 (C1 Mv (Gyo (C1 Mv (Gyo (C1 Pz (Gyo ?_))))))))))); refine C1 Mv (Gyo (C1 V3 (C1 Qyo (cT (Wno (cw_skip (qw_then (cS (C1 Mv ?_))))))))); refine cC rfl (gtake_c _ _ _ _ (by assumption) (by decide)) ?_; rintro _ wh26 ⟨⟨⟩, ⟨hh24, fh25⟩⟩; have zh27 := fh25.size; replace hh18 := OwnQ.fr hh18 fh25 (fun k hk => ⟨fun h => by (try dsimp only at hk h); omega, fun e => by have := OwnQ.ge (by assumption) e; (try dsimp only at hk); omega⟩); replace hh12 := hh12.fr fh25 (by omega); clear hh4; replace X := X.fr fh25 (by omega); clear fh25; refine cN (C1 Mv (C1 Pa (cT (cw_ret (qw_ret1 rfl rfl ?_))))); rotate_left 1
     exact listG_ret rfl (OwnQ.rowsits (by assumption) (fun b h => h) (fun b h => h)) (by assumption) X
   cases hc : hasP c.ts (exprS c.ts c.n j 1 σ').2 [44]
   · rw [show listS c.ts c.n (j + 1) least acc σ' = (acc ++ [(exprS c.ts c.n j 1 σ').1], (exprS c.ts c.n j 1 σ').2) from by rw [listS]; simp only [e0]; rw [if_neg (by decide), if_neg hq, hc]; rfl]
     by_cases hlt : (acc ++ [(exprS c.ts c.n j 1 σ').1]).length < least
     · rw [if_pos hlt]
       focus
        refine cw_seq (cS (C1 Mv (C1 Pn (C1 Pf (lw_load_b tabOk rfl rfl rfl (RP.blk hP) rfl rfl (C1 V1 (cT (Wya (cw_skip (qw_then (cw_block ?_))))))))))); refine cS (C1 Mv (C1 Mv ?_)); refine cR (by kernel_rfl) rfl ((IH j (by omega)).e _ _ _ (by assumption) (by decide) (by decide) (by omega)) (fun _ _ h => h.ret) rfl ?_; rintro _ wi6 ⟨ai1, ⟨ki2, ⟨⟨⟩, ⟨hi3, ⟨hi4, fi5⟩⟩⟩⟩⟩; have zi7 := fi5.size; clear hP; replace hown := OwnQ.fr hown fi5 (fun k hk => ⟨fun h => by (try dsimp only at hk h); omega, fun e => by have := OwnQ.ge (by assumption) e; (try dsimp only at hk); omega⟩); replace X := X.fr fi5 (by omega); clear fi5; (refine lw_does (does_slice' [_, _, _, _] tabOk zOk rfl rfl rfl rfl rfl rfl rfl rfl rfl) rfl ?_ (fun _ h => h); rintro _ wi9 ⟨bi8, rfl, ni10, ti11⟩); clear ti11; have hi12 := ni10.blk; have xi13 := ni10.ext; have pi14 := ni10.pos; have zi15 := ni10.size; clear ni10; replace hi3 := Nd.sits.ext hi3 xi13; replace hi4 := hi4.ext xi13; replace hown := hown.ext xi13; replace X := X.ext xi13; clear xi13; refine lw_does (does_appendQ (R := fun b => w.heap.size ≤ b) (sh := ndShape) (z := (exprS c.ts c.n j 1 σ').1) tabOk zOk rfl rfl rfl rfl (by kernel_rfl) rfl rfl rfl (by assumption) (fun _ h => by exact h) (Blk.row (by assumption)) ⟨_, _, rfl, Nd.sits.wide (by assumption) (fun b h => ⟨by omega, fun e => by have := hob _ e; omega⟩)⟩ (by omega) (by omega)) rfl ?_ (fun _ h => h); rintro _ wi22 ⟨gi16, ⟨capi17, ⟨rfl, ⟨hi18, ⟨hi19, ⟨hi20, fi21⟩⟩⟩⟩⟩⟩; have zi23 := fi21.size; replace hi12 := Blk.fr hi12 fi21 (fun e => by have := hob _ e; omega)
        clear hi3; replace hi4 := RP.fr hi4 fi21 (fun k hk => by have := hob _ hk; omega); clear hown; replace X := Fr.fr X fi21 (fun k hk => by have := hob _ hk; omega); clear fi21; refine C1 Pa (cN (C1 Mv (C1 V5 (C1 Mv (Gyo (C1 Mv (Gyo (C1 Pz (Gyo (C1 Mv (Gyo ?_))))))))))); refine C1 V1 (C1 Qyo (C1 Mv (Gno (C1 Mv (Gno ?_))))); refine cC rfl (ghas_f _ _ _ _ (by assumption) (by decide) (by assumption)) ?_; rintro _ wi26 ⟨⟨⟩, ⟨hi24, fi25⟩⟩; have zi27 := fi25.size; replace hi18 := OwnQ.fr hi18 fi25 (fun k hk => ⟨fun h => by (try dsimp only at hk h); omega, fun e => by have := OwnQ.ge (by assumption) e; (try dsimp only at hk); omega⟩); replace hi12 := hi12.fr fi25 (by omega); clear hi4; replace X := X.fr fi25 (by omega); clear fi25; refine Gno (C1 Pt (C1 Qno (cT (cw_cond_t rfl (cw_exit (qw_block_pass rfl (qw_then_exit (qw_block_exit (qw_then (cw_seq (cS ?_))))))))))); refine C1 Mv (C1 V5 (C1 Mv (Gyo (C1 Mv (Gyo (C1 Pz (Gyo (C1 Mv (Gyo (C1 V3 (C1 Qyo ?_))))))))))); refine cT (Wyo (cw_region (C1 Mv ?_))); refine cC rfl (gwrong_c _ _ _ (by assumption)) ?_; rintro _ wi30 ⟨⟨⟩, ⟨hi28, fi29⟩⟩; have zi31 := fi29.size; clear hi24; replace hi18 := OwnQ.fr hi18 fi29 (fun k hk => ⟨fun h => by (try dsimp only at hk h); omega, fun e => by have := OwnQ.ge (by assumption) e; (try dsimp only at hk); omega⟩); replace hi12 := hi12.fr fi29 (by omega); replace X := X.fr fi29 (by omega); clear fi29; refine cN (C1 Mv ?_); refine cC rfl (gtake_c _ _ _ _ (by assumption) (by decide)) ?_; rintro _ wi34 ⟨⟨⟩, ⟨hi32, fi33⟩⟩
        have zi35 := fi33.size; clear hi28; replace hi18 := OwnQ.fr hi18 fi33 (fun k hk => ⟨fun h => by (try dsimp only at hk h); omega, fun e => by have := OwnQ.ge (by assumption) e; (try dsimp only at hk); omega⟩); replace hi12 := hi12.fr fi33 (by omega); replace X := X.fr fi33 (by omega); clear fi33; refine cN (C1 Mv (C1 Pa (cT (cw_ret (qw_ret1 rfl rfl ?_))))); rotate_left 1
       exact listG_ret rfl (OwnQ.rowsits (by assumption) (fun b h => h) (fun b h => h)) (by assumption) X
     · rw [if_neg hlt]
       focus
        refine cw_seq (cS (C1 Mv (C1 Pn (C1 Pf (lw_load_b tabOk rfl rfl rfl (RP.blk hP) rfl rfl (C1 V1 (cT (Wya (cw_skip (qw_then (cw_block ?_))))))))))); refine cS (C1 Mv (C1 Mv ?_)); refine cR (by kernel_rfl) rfl ((IH j (by omega)).e _ _ _ (by assumption) (by decide) (by decide) (by omega)) (fun _ _ h => h.ret) rfl ?_; rintro _ wj6 ⟨aj1, ⟨kj2, ⟨⟨⟩, ⟨hj3, ⟨hj4, fj5⟩⟩⟩⟩⟩; have zj7 := fj5.size; clear hP; replace hown := OwnQ.fr hown fj5 (fun k hk => ⟨fun h => by (try dsimp only at hk h); omega, fun e => by have := OwnQ.ge (by assumption) e; (try dsimp only at hk); omega⟩); replace X := X.fr fj5 (by omega); clear fj5; (refine lw_does (does_slice' [_, _, _, _] tabOk zOk rfl rfl rfl rfl rfl rfl rfl rfl rfl) rfl ?_ (fun _ h => h); rintro _ wj9 ⟨bj8, rfl, nj10, tj11⟩); clear tj11; have hj12 := nj10.blk; have xj13 := nj10.ext; have pj14 := nj10.pos; have zj15 := nj10.size; clear nj10; replace hj3 := Nd.sits.ext hj3 xj13; replace hj4 := hj4.ext xj13; replace hown := hown.ext xj13; replace X := X.ext xj13; clear xj13; refine lw_does (does_appendQ (R := fun b => w.heap.size ≤ b) (sh := ndShape) (z := (exprS c.ts c.n j 1 σ').1) tabOk zOk rfl rfl rfl rfl (by kernel_rfl) rfl rfl rfl (by assumption) (fun _ h => by exact h) (Blk.row (by assumption)) ⟨_, _, rfl, Nd.sits.wide (by assumption) (fun b h => ⟨by omega, fun e => by have := hob _ e; omega⟩)⟩ (by omega) (by omega)) rfl ?_ (fun _ h => h); rintro _ wj22 ⟨gj16, ⟨capj17, ⟨rfl, ⟨hj18, ⟨hj19, ⟨hj20, fj21⟩⟩⟩⟩⟩⟩; have zj23 := fj21.size; replace hj12 := Blk.fr hj12 fj21 (fun e => by have := hob _ e; omega)
        clear hj3; replace hj4 := RP.fr hj4 fj21 (fun k hk => by have := hob _ hk; omega); clear hown; replace X := Fr.fr X fj21 (fun k hk => by have := hob _ hk; omega); clear fj21; refine C1 Pa (cN (C1 Mv (C1 V5 (C1 Mv (Gyo (C1 Mv (Gyo (C1 Pz (Gyo (C1 Mv (Gyo ?_))))))))))); refine C1 V1 (C1 Qyo (C1 Mv (Gno (C1 Mv (Gno ?_))))); refine cC rfl (ghas_f _ _ _ _ (by assumption) (by decide) (by assumption)) ?_; rintro _ wj26 ⟨⟨⟩, ⟨hj24, fj25⟩⟩; have zj27 := fj25.size; replace hj18 := OwnQ.fr hj18 fj25 (fun k hk => ⟨fun h => by (try dsimp only at hk h); omega, fun e => by have := OwnQ.ge (by assumption) e; (try dsimp only at hk); omega⟩); replace hj12 := hj12.fr fj25 (by omega); clear hj4; replace X := X.fr fj25 (by omega); clear fj25; refine Gno (C1 Pt (C1 Qno (cT (cw_cond_t rfl (cw_exit (qw_block_pass rfl (qw_then_exit (qw_block_exit (qw_then (cw_seq (cS ?_))))))))))); refine C1 Mv (C1 V5 (C1 Mv (Gyo (C1 Mv (Gyo (C1 Pz (Gyo (C1 Mv (Gyo (C1 V3 (C1 Qyo ?_))))))))))); refine cT (Wno (cw_skip (qw_then (cS (C1 Mv ?_))))); refine cC rfl (gtake_c _ _ _ _ (by assumption) (by decide)) ?_; rintro _ wj30 ⟨⟨⟩, ⟨hj28, fj29⟩⟩; have zj31 := fj29.size; clear hj24; replace hj18 := OwnQ.fr hj18 fj29 (fun k hk => ⟨fun h => by (try dsimp only at hk h); omega, fun e => by have := OwnQ.ge (by assumption) e; (try dsimp only at hk); omega⟩); replace hj12 := hj12.fr fj29 (by omega); replace X := X.fr fj29 (by omega); clear fj29; refine cN (C1 Mv (C1 Pa (cT (cw_ret (qw_ret1 rfl rfl ?_))))); rotate_left 1
       exact listG_ret rfl (OwnQ.rowsits (by assumption) (fun b h => h) (fun b h => h)) (by assumption) X
   · rw [show listS c.ts c.n (j + 1) least acc σ' = listS c.ts c.n j least (acc ++ [(exprS c.ts c.n j 1 σ').1]) (nextP (exprS c.ts c.n j 1 σ').2) from by rw [listS]; simp only [e0]; rw [if_neg (by decide), if_neg hq, hc]; rfl]
     have i1 := has_in hwf hc (by decide); have m2 := mS_next i1
     focus
      refine cw_seq (cS (C1 Mv (C1 Pn (C1 Pf (lw_load_b tabOk rfl rfl rfl (RP.blk hP) rfl rfl (C1 V1 (cT (Wya (cw_skip (qw_then (cw_block ?_))))))))))); refine cS (C1 Mv (C1 Mv ?_)); refine cR (by kernel_rfl) rfl ((IH j (by omega)).e _ _ _ (by assumption) (by decide) (by decide) (by omega)) (fun _ _ h => h.ret) rfl ?_; rintro _ wk6 ⟨ak1, ⟨kk2, ⟨⟨⟩, ⟨hk3, ⟨hk4, fk5⟩⟩⟩⟩⟩; have zk7 := fk5.size; clear hP; replace hown := OwnQ.fr hown fk5 (fun k hk => ⟨fun h => by (try dsimp only at hk h); omega, fun e => by have := OwnQ.ge (by assumption) e; (try dsimp only at hk); omega⟩); replace X := X.fr fk5 (by omega); clear fk5; (refine lw_does (does_slice' [_, _, _, _] tabOk zOk rfl rfl rfl rfl rfl rfl rfl rfl rfl) rfl ?_ (fun _ h => h); rintro _ wk9 ⟨bk8, rfl, nk10, tk11⟩); clear tk11; have hk12 := nk10.blk; have xk13 := nk10.ext; have pk14 := nk10.pos; have zk15 := nk10.size; clear nk10; replace hk3 := Nd.sits.ext hk3 xk13; replace hk4 := hk4.ext xk13; replace hown := hown.ext xk13; replace X := X.ext xk13; clear xk13; refine lw_does (does_appendQ (R := fun b => w.heap.size ≤ b) (sh := ndShape) (z := (exprS c.ts c.n j 1 σ').1) tabOk zOk rfl rfl rfl rfl (by kernel_rfl) rfl rfl rfl (by assumption) (fun _ h => by exact h) (Blk.row (by assumption)) ⟨_, _, rfl, Nd.sits.wide (by assumption) (fun b h => ⟨by omega, fun e => by have := hob _ e; omega⟩)⟩ (by omega) (by omega)) rfl ?_ (fun _ h => h); rintro _ wk22 ⟨gk16, ⟨capk17, ⟨rfl, ⟨hk18, ⟨hk19, ⟨hk20, fk21⟩⟩⟩⟩⟩⟩; have zk23 := fk21.size; replace hk12 := Blk.fr hk12 fk21 (fun e => by have := hob _ e; omega)
      clear hk3; replace hk4 := RP.fr hk4 fk21 (fun k hk => by have := hob _ hk; omega); clear hown; replace X := Fr.fr X fk21 (fun k hk => by have := hob _ hk; omega); clear fk21; refine C1 Pa (cN (C1 Mv (C1 V5 (C1 Mv (Gyo (C1 Mv (Gyo (C1 Pz (Gyo (C1 Mv (Gyo ?_))))))))))); refine C1 V1 (C1 Qyo (C1 Mv (Gno (C1 Mv (Gno ?_))))); refine cC rfl (ghas_t _ _ _ _ (by assumption) (by decide) (by assumption)) ?_; rintro _ wk26 ⟨⟨⟩, ⟨hk24, fk25⟩⟩; have zk27 := fk25.size; replace hk18 := OwnQ.fr hk18 fk25 (fun k hk => ⟨fun h => by (try dsimp only at hk h); omega, fun e => by have := OwnQ.ge (by assumption) e; (try dsimp only at hk); omega⟩); replace hk12 := hk12.fr fk25 (by omega); clear hk4; replace X := X.fr fk25 (by omega); clear fk25; refine Gno (C1 Pt (C1 Qno (cT (cw_cond_f rfl (cw_skip (qw_block_norm ?_)))))); rotate_left 1
     exact qw_round (j, acc ++ [(exprS c.ts c.n j 1 σ').1], some ⟨_, 0, none⟩, _, nextP (exprS c.ts c.n j 1 σ').2) (by (refine sub_cons rfl ?_; refine sub_cons rfl ?_; refine sub_cons rfl ?_; exact sub_nil)) ⟨by assumption, by assumption, X, by omega, rfl, fun _ => by simp only; omega, by simp only; omega, by simp only; omega, by simp only [hal]; omega⟩ (by simp)
end Bk
namespace Bk
open Go Go.RowKit Go.Proofs
attribute [local irreducible] Go.Calls
set_option maxRecDepth 100000 in
set_option maxHeartbeats 8000000 in
theorem primary_gw (c : RC) (k : Nat) (IH : ∀ j, j ≤ k → ExprsG c j) (σ : PS) (w : World) (hP : RP c σ w) (hk : 12 * mS c.ts σ + 2 ≤ k + 1) : Calls Tryz.prog 93 #[.pointer (some ⟨c.pb, 0, none⟩)] w (RTreeR c w (primS c.ts c.n (k + 1) σ)) := by
 have X := Fr.refl (· = c.pb) w; have hpb := hP.pbB; have hB := hP.B; have hlen := hP.len; have hpl := rpeek_len hP; rw [primS]
 cases hd : startsDigit (peekP c.ts σ).text
 case true =>
  simp only [if_true]; obtain ⟨x0, r0, hx0, hd0⟩ := startsDigit_cons hd
  have hlen0 : 0 < (peekP c.ts σ).text.length := by rw [hx0]; simp
  have hx : (peekP c.ts σ).text[(0 : Int).toNat]? = some x0 := by rw [hx0]; rfl
  simp only [digit, Bool.and_eq_true, decide_eq_true_eq] at hd0; obtain ⟨hd1, hd2⟩ := hd0
  have hsh : fnumS c.ts σ = (.mk 80 (fnumS c.ts σ).1.num [] [], (fnumS c.ts σ).2) := by
   unfold fnumS; split <;> rfl
  rw [hsh]; clear hx0 hsh; refine calls_in Tryz.func93 Tryz.ntmps93 rfl rfl ?_
  focus
   refine cS ?_; (refine lw_alloc' [_, _, _, _] zOk rfl rfl ?_; intro b1 w2 n3); have h5 := n3.blk; have x6 := n3.ext; have p7 := n3.pos; have z8 := n3.size; clear n3; replace hP := hP.ext x6; replace X := X.ext x6; clear x6; refine cN (C1 Mv ?_); refine cC rfl (gpeek_c _ _ _ (by assumption)) ?_; rintro _ w10 ⟨⟨⟩, x9⟩; have z11 := x9.size; replace h5 := h5.ext x9; replace hP := hP.ext x9; replace X := X.ext x9; clear x9; refine C1 Pa (cT (cw_seq (cw_block (cS (C1 Mv (C1 Py (C1 V5 (C1 Mv (Gyo (C1 Mv (Gyo ?_))))))))))); refine C1 (pur_sindex tabOk rfl rfl rfl (by omega) (by assumption)) ?_; refine Gyo (C1 V6 (C1 Qyo (C1 Mv (Gyo (C1 Mv (Gyo ?_)))))); refine C1 (pur_sindex tabOk rfl rfl rfl (by omega) (by assumption)) ?_; refine Gyo (C1 V4 (C1 Qyo (C1 Pa (cT (Wyo (cS (C1 Mv ?_))))))); refine cC rfl (gnumber_c _ _ _ (by assumption) (by assumption)) ?_; rintro _ w14 ⟨⟨⟩, ⟨h12, f13⟩⟩; have z15 := f13.size; replace h5 := h5.fr f13 (by omega); clear hP; replace X := X.fr f13 (by omega); clear f13; refine C1 (pur_build' [_, _, _, _] tabOk zOk rfl rfl rfl rfl) ?_; (refine lw_store' [_, _, _, _] [_, _, _, _] tabOk rfl rfl rfl rfl rfl rfl h5 rfl rfl ?_; intro w16 n17); have h20 := n17.blk; have f18 := n17.fr; have z19 := n17.size; clear n17 h5; replace h12 := h12.fr f18 (by omega); replace X := X.fr f18 (by omega); clear f18; refine cT (cw_ret (qw_block_ret (qw_then_ret (qw_retc rfl tabOk rfl rfl rfl h20 rfl ?_)))); rotate_left 1
  exact rtree_ret sits_nil (by assumption) X
 simp only [Bool.false_eq_true, if_false]
 cases h0 : hasP c.ts σ [91]
 case true =>
  simp only [if_true]; have i1 := has_in hP.at_ h0 (by decide); have hin := i1.2; have m1 := mS_next i1; have e0 : (peekP c.ts σ).text = [91] := of_decide_eq_true h0
  have hlen0 : 0 < (peekP c.ts σ).text.length := by rw [e0]; decide
  have hx : (peekP c.ts σ).text[(0 : Int).toNat]? = some 91 := by rw [e0]; rfl
  clear e0 hd; refine calls_in Tryz.func93 Tryz.ntmps93 rfl rfl ?_
  focus
   refine cS ?_; (refine lw_alloc' [_, _, _, _] zOk rfl rfl ?_; intro ba1 wa2 na3); have ha5 := na3.blk; have xa6 := na3.ext; have pa7 := na3.pos; have za8 := na3.size; clear na3; replace hP := hP.ext xa6; replace X := X.ext xa6; clear xa6; refine cN (C1 Mv ?_); refine cC rfl (gpeek_c _ _ _ (by assumption)) ?_; rintro _ wa10 ⟨⟨⟩, xa9⟩; have za11 := xa9.size; replace ha5 := ha5.ext xa9; replace hP := hP.ext xa9; replace X := X.ext xa9; clear xa9; refine C1 Pa (cT (cw_seq (cw_block (cS (C1 Mv (C1 Py (C1 V5 (C1 Mv (Gyo (C1 Mv (Gyo ?_))))))))))); refine C1 (pur_sindex tabOk rfl rfl rfl (by omega) (by assumption)) ?_; refine Gyo (C1 V6 (C1 Qyo (C1 Mv (Gyd (C1 Mv (Gyd ?_)))))); refine C1 (pur_sindex tabOk rfl rfl rfl (by omega) (by assumption)) ?_; refine Gyd (C1 V4 (C1 Qyd (C1 Pa (cT (Wnd (cS (C1 Mv ?_))))))); refine cC rfl (ghas_t _ _ _ _ (by assumption) (by decide) (by assumption)) ?_; rintro _ wa14 ⟨⟨⟩, ⟨ha12, fa13⟩⟩; have za15 := fa13.size; replace ha5 := ha5.fr fa13 (by omega); clear hP; replace X := X.fr fa13 (by omega); clear fa13; refine C1 Pa (cT (cw_cond_t rfl (cS (C1 Mv ?_)))); refine cC rfl (gtake_c _ _ _ _ (by assumption) (by decide)) ?_; rintro _ wa18 ⟨⟨⟩, ⟨ha16, fa17⟩⟩; have za19 := fa17.size; clear ha12; replace ha5 := ha5.fr fa17 (by omega); replace X := X.fr fa17 (by omega); clear fa17; refine cN (C1 (pur_build' [_, _, _, _] tabOk zOk rfl rfl rfl rfl) ?_); (refine lw_store' [_, _, _, _] [_, _, _, _] tabOk rfl rfl rfl rfl rfl rfl ha5 rfl rfl ?_; intro wa20 na21); have ha24 := na21.blk
   have fa22 := na21.fr; have za23 := na21.size; clear na21 ha5; replace ha16 := ha16.fr fa22 (by omega); replace X := X.fr fa22 (by omega); clear fa22; refine cT (cw_ret (qw_block_ret (qw_then_ret (qw_retc rfl tabOk rfl rfl rfl ha24 rfl ?_)))); rotate_left 1
  exact rtree_ret sits_nil (by assumption) X
 simp only [Bool.false_eq_true, if_false]
 cases h1 : hasP c.ts σ [112, 117, 115, 104]
 case true =>
  simp only [if_true]; have i1 := has_in hP.at_ h1 (by decide); have hin := i1.2; have m1 := mS_next i1; have e1 : (peekP c.ts σ).text = [112, 117, 115, 104] := of_decide_eq_true h1
  have hlen0 : 0 < (peekP c.ts σ).text.length := by rw [e1]; decide
  have hx : (peekP c.ts σ).text[(0 : Int).toNat]? = some 112 := by rw [e1]; rfl
  clear e1 hd; refine calls_in Tryz.func93 Tryz.ntmps93 rfl rfl ?_
  focus
   refine cS ?_; (refine lw_alloc' [_, _, _, _] zOk rfl rfl ?_; intro bb1 wb2 nb3); have hb5 := nb3.blk; have xb6 := nb3.ext; have pb7 := nb3.pos; have zb8 := nb3.size; clear nb3; replace hP := hP.ext xb6; replace X := X.ext xb6; clear xb6; refine cN (C1 Mv ?_); refine cC rfl (gpeek_c _ _ _ (by assumption)) ?_; rintro _ wb10 ⟨⟨⟩, xb9⟩; have zb11 := xb9.size; replace hb5 := hb5.ext xb9; replace hP := hP.ext xb9; replace X := X.ext xb9; clear xb9; refine C1 Pa (cT (cw_seq (cw_block (cS (C1 Mv (C1 Py (C1 V5 (C1 Mv (Gyo (C1 Mv (Gyo ?_))))))))))); refine C1 (pur_sindex tabOk rfl rfl rfl (by omega) (by assumption)) ?_; refine Gyo (C1 V6 (C1 Qyo (C1 Mv (Gyd (C1 Mv (Gyd ?_)))))); refine C1 (pur_sindex tabOk rfl rfl rfl (by omega) (by assumption)) ?_; refine Gyd (C1 V4 (C1 Qyd (C1 Pa (cT (Wnd (cS (C1 Mv ?_))))))); refine cC rfl (ghas_f _ _ _ _ (by assumption) (by decide) (by assumption)) ?_; rintro _ wb14 ⟨⟨⟩, ⟨hb12, fb13⟩⟩; have zb15 := fb13.size; replace hb5 := hb5.fr fb13 (by omega); clear hP; replace X := X.fr fb13 (by omega); clear fb13; refine C1 Pa (cT (cw_cond_f rfl (cS (C1 Mv ?_)))); refine cC rfl (ghas_t _ _ _ _ (by assumption) (by decide) (by assumption)) ?_; rintro _ wb18 ⟨⟨⟩, ⟨hb16, fb17⟩⟩; have zb19 := fb17.size; clear hb12; replace hb5 := hb5.fr fb17 (by omega); replace X := X.fr fb17 (by omega); clear fb17; refine C1 Pa (cT (cw_cond_t rfl (cS (C1 Mv ?_)))); refine cR (by kernel_rfl) rfl ((IH k (Nat.le_refl _)).a 2 _ _ (by assumption) (by decide) (by omega)) (fun _ _ h => h.ret) rfl ?_
   rintro _ wb25 ⟨ab20, ⟨kb21, ⟨⟨⟩, ⟨hb22, ⟨hb23, fb24⟩⟩⟩⟩⟩; have zb26 := fb24.size; clear hb16; replace hb5 := hb5.fr fb24 (by omega); replace X := X.fr fb24 (by omega); clear fb24; refine C1 (pur_build' [_, _, _, _] tabOk zOk rfl rfl rfl rfl) ?_; (refine lw_store' [_, _, _, _] [_, _, _, _] tabOk rfl rfl rfl rfl rfl rfl hb5 rfl rfl ?_; intro wb27 nb28); have hb31 := nb28.blk; have fb29 := nb28.fr; have zb30 := nb28.size; clear nb28 hb5; replace hb22 := Bk.rowSits.fr hb22 fb29 (by omega); replace hb23 := hb23.fr fb29 (by omega); replace X := X.fr fb29 (by omega); clear fb29; refine cT (cw_ret (qw_block_ret (qw_then_ret (qw_retc rfl tabOk rfl rfl rfl hb31 rfl ?_)))); rotate_left 1
  exact rtree_ret (r := (Nd.mk 87 0 [] (argsS c.ts c.n k 2 (nextP σ)).1, _)) (sits_mk (rowWideF (by assumption) (fun b h => by omega))) (by assumption) X
 simp only [Bool.false_eq_true, if_false]
 cases h2 : hasP c.ts σ [112, 111, 112]
 case true =>
  simp only [if_true]; have i1 := has_in hP.at_ h2 (by decide); have hin := i1.2; have m1 := mS_next i1; have e2 : (peekP c.ts σ).text = [112, 111, 112] := of_decide_eq_true h2
  have hlen0 : 0 < (peekP c.ts σ).text.length := by rw [e2]; decide
  have hx : (peekP c.ts σ).text[(0 : Int).toNat]? = some 112 := by rw [e2]; rfl
  clear e2 hd; refine calls_in Tryz.func93 Tryz.ntmps93 rfl rfl ?_
  focus
   refine cS ?_; (refine lw_alloc' [_, _, _, _] zOk rfl rfl ?_; intro bc1 wc2 nc3); have hc5 := nc3.blk; have xc6 := nc3.ext; have pc7 := nc3.pos; have zc8 := nc3.size; clear nc3; replace hP := hP.ext xc6; replace X := X.ext xc6; clear xc6; refine cN (C1 Mv ?_); refine cC rfl (gpeek_c _ _ _ (by assumption)) ?_; rintro _ wc10 ⟨⟨⟩, xc9⟩; have zc11 := xc9.size; replace hc5 := hc5.ext xc9; replace hP := hP.ext xc9; replace X := X.ext xc9; clear xc9; refine C1 Pa (cT (cw_seq (cw_block (cS (C1 Mv (C1 Py (C1 V5 (C1 Mv (Gyo (C1 Mv (Gyo ?_))))))))))); refine C1 (pur_sindex tabOk rfl rfl rfl (by omega) (by assumption)) ?_; refine Gyo (C1 V6 (C1 Qyo (C1 Mv (Gyd (C1 Mv (Gyd ?_)))))); refine C1 (pur_sindex tabOk rfl rfl rfl (by omega) (by assumption)) ?_; refine Gyd (C1 V4 (C1 Qyd (C1 Pa (cT (Wnd (cS (C1 Mv ?_))))))); refine cC rfl (ghas_f _ _ _ _ (by assumption) (by decide) (by assumption)) ?_; rintro _ wc14 ⟨⟨⟩, ⟨hc12, fc13⟩⟩; have zc15 := fc13.size; replace hc5 := hc5.fr fc13 (by omega); clear hP; replace X := X.fr fc13 (by omega); clear fc13; refine C1 Pa (cT (cw_cond_f rfl (cS (C1 Mv ?_)))); refine cC rfl (ghas_f _ _ _ _ (by assumption) (by decide) (by assumption)) ?_; rintro _ wc18 ⟨⟨⟩, ⟨hc16, fc17⟩⟩; have zc19 := fc17.size; clear hc12; replace hc5 := hc5.fr fc17 (by omega); replace X := X.fr fc17 (by omega); clear fc17; refine C1 Pa (cT (cw_cond_f rfl (cS (C1 Mv ?_)))); refine cC rfl (ghas_t _ _ _ _ (by assumption) (by decide) (by assumption)) ?_; rintro _ wc22 ⟨⟨⟩, ⟨hc20, fc21⟩⟩; have zc23 := fc21.size
   clear hc16; replace hc5 := hc5.fr fc21 (by omega); replace X := X.fr fc21 (by omega); clear fc21; refine C1 Pa (cT (cw_cond_t rfl (cS (C1 Mv ?_)))); refine cR (by kernel_rfl) rfl ((IH k (Nat.le_refl _)).a 1 _ _ (by assumption) (by decide) (by omega)) (fun _ _ h => h.ret) rfl ?_; rintro _ wc29 ⟨ac24, ⟨kc25, ⟨⟨⟩, ⟨hc26, ⟨hc27, fc28⟩⟩⟩⟩⟩; have zc30 := fc28.size; clear hc20; replace hc5 := hc5.fr fc28 (by omega); replace X := X.fr fc28 (by omega); clear fc28; refine C1 (pur_build' [_, _, _, _] tabOk zOk rfl rfl rfl rfl) ?_; (refine lw_store' [_, _, _, _] [_, _, _, _] tabOk rfl rfl rfl rfl rfl rfl hc5 rfl rfl ?_; intro wc31 nc32); have hc35 := nc32.blk; have fc33 := nc32.fr; have zc34 := nc32.size; clear nc32 hc5; replace hc26 := Bk.rowSits.fr hc26 fc33 (by omega); replace hc27 := hc27.fr fc33 (by omega); replace X := X.fr fc33 (by omega); clear fc33; refine cT (cw_ret (qw_block_ret (qw_then_ret (qw_retc rfl tabOk rfl rfl rfl hc35 rfl ?_)))); rotate_left 1
  exact rtree_ret (r := (Nd.mk 89 0 [] (argsS c.ts c.n k 1 (nextP σ)).1, _)) (sits_mk (rowWideF (by assumption) (fun b h => by omega))) (by assumption) X
 simp only [Bool.false_eq_true, if_false]
 cases h3 : hasP c.ts σ [116, 111, 112]
 case true =>
  simp only [if_true]; have i1 := has_in hP.at_ h3 (by decide); have hin := i1.2; have m1 := mS_next i1; have e3 : (peekP c.ts σ).text = [116, 111, 112] := of_decide_eq_true h3
  have hlen0 : 0 < (peekP c.ts σ).text.length := by rw [e3]; decide
  have hx : (peekP c.ts σ).text[(0 : Int).toNat]? = some 116 := by rw [e3]; rfl
  clear e3 hd; refine calls_in Tryz.func93 Tryz.ntmps93 rfl rfl ?_
  focus
   refine cS ?_; (refine lw_alloc' [_, _, _, _] zOk rfl rfl ?_; intro bd1 wd2 nd3); have hd5 := nd3.blk; have xd6 := nd3.ext; have pd7 := nd3.pos; have zd8 := nd3.size; clear nd3; replace hP := hP.ext xd6; replace X := X.ext xd6; clear xd6; refine cN (C1 Mv ?_); refine cC rfl (gpeek_c _ _ _ (by assumption)) ?_; rintro _ wd10 ⟨⟨⟩, xd9⟩; have zd11 := xd9.size; replace hd5 := hd5.ext xd9; replace hP := hP.ext xd9; replace X := X.ext xd9; clear xd9; refine C1 Pa (cT (cw_seq (cw_block (cS (C1 Mv (C1 Py (C1 V5 (C1 Mv (Gyo (C1 Mv (Gyo ?_))))))))))); refine C1 (pur_sindex tabOk rfl rfl rfl (by omega) (by assumption)) ?_; refine Gyo (C1 V6 (C1 Qyo (C1 Mv (Gyd (C1 Mv (Gyd ?_)))))); refine C1 (pur_sindex tabOk rfl rfl rfl (by omega) (by assumption)) ?_; refine Gyd (C1 V4 (C1 Qyd (C1 Pa (cT (Wnd (cS (C1 Mv ?_))))))); refine cC rfl (ghas_f _ _ _ _ (by assumption) (by decide) (by assumption)) ?_; rintro _ wd14 ⟨⟨⟩, ⟨hd12, fd13⟩⟩; have zd15 := fd13.size; replace hd5 := hd5.fr fd13 (by omega); clear hP; replace X := X.fr fd13 (by omega); clear fd13; refine C1 Pa (cT (cw_cond_f rfl (cS (C1 Mv ?_)))); refine cC rfl (ghas_f _ _ _ _ (by assumption) (by decide) (by assumption)) ?_; rintro _ wd18 ⟨⟨⟩, ⟨hd16, fd17⟩⟩; have zd19 := fd17.size; clear hd12; replace hd5 := hd5.fr fd17 (by omega); replace X := X.fr fd17 (by omega); clear fd17; refine C1 Pa (cT (cw_cond_f rfl (cS (C1 Mv ?_)))); refine cC rfl (ghas_f _ _ _ _ (by assumption) (by decide) (by assumption)) ?_; rintro _ wd22 ⟨⟨⟩, ⟨hd20, fd21⟩⟩; have zd23 := fd21.size
   clear hd16; replace hd5 := hd5.fr fd21 (by omega); replace X := X.fr fd21 (by omega); clear fd21; refine C1 Pa (cT (cw_cond_f rfl (cS (C1 Mv ?_)))); refine cC rfl (ghas_t _ _ _ _ (by assumption) (by decide) (by assumption)) ?_; rintro _ wd26 ⟨⟨⟩, ⟨hd24, fd25⟩⟩; have zd27 := fd25.size; clear hd20; replace hd5 := hd5.fr fd25 (by omega); replace X := X.fr fd25 (by omega); clear fd25; refine C1 Pa (cT (cw_cond_t rfl (cS (C1 Mv ?_)))); refine cR (by kernel_rfl) rfl ((IH k (Nat.le_refl _)).a 1 _ _ (by assumption) (by decide) (by omega)) (fun _ _ h => h.ret) rfl ?_; rintro _ wd33 ⟨ad28, ⟨kd29, ⟨⟨⟩, ⟨hd30, ⟨hd31, fd32⟩⟩⟩⟩⟩; have zd34 := fd32.size; clear hd24; replace hd5 := hd5.fr fd32 (by omega); replace X := X.fr fd32 (by omega); clear fd32; refine C1 (pur_build' [_, _, _, _] tabOk zOk rfl rfl rfl rfl) ?_; (refine lw_store' [_, _, _, _] [_, _, _, _] tabOk rfl rfl rfl rfl rfl rfl hd5 rfl rfl ?_; intro wd35 nd36); have hd39 := nd36.blk; have fd37 := nd36.fr; have zd38 := nd36.size; clear nd36 hd5; replace hd30 := Bk.rowSits.fr hd30 fd37 (by omega); replace hd31 := hd31.fr fd37 (by omega); replace X := X.fr fd37 (by omega); clear fd37; refine cT (cw_ret (qw_block_ret (qw_then_ret (qw_retc rfl tabOk rfl rfl rfl hd39 rfl ?_)))); rotate_left 1
  exact rtree_ret (r := (Nd.mk 88 0 [] (argsS c.ts c.n k 1 (nextP σ)).1, _)) (sits_mk (rowWideF (by assumption) (fun b h => by omega))) (by assumption) X
 simp only [Bool.false_eq_true, if_false]
 cases h4 : hasP c.ts σ [33]
 case true =>
  simp only [if_true]; have i1 := has_in hP.at_ h4 (by decide); have hin := i1.2; have m1 := mS_next i1; have e4 : (peekP c.ts σ).text = [33] := of_decide_eq_true h4
  have hlen0 : 0 < (peekP c.ts σ).text.length := by rw [e4]; decide
  have hx : (peekP c.ts σ).text[(0 : Int).toNat]? = some 33 := by rw [e4]; rfl
  clear e4 hd; refine calls_in Tryz.func93 Tryz.ntmps93 rfl rfl ?_
  focus
   refine cS ?_; (refine lw_alloc' [_, _, _, _] zOk rfl rfl ?_; intro be1 we2 ne3); have he5 := ne3.blk; have xe6 := ne3.ext; have pe7 := ne3.pos; have ze8 := ne3.size; clear ne3; replace hP := hP.ext xe6; replace X := X.ext xe6; clear xe6; refine cN (C1 Mv ?_); refine cC rfl (gpeek_c _ _ _ (by assumption)) ?_; rintro _ we10 ⟨⟨⟩, xe9⟩; have ze11 := xe9.size; replace he5 := he5.ext xe9; replace hP := hP.ext xe9; replace X := X.ext xe9; clear xe9; refine C1 Pa (cT (cw_seq (cw_block (cS (C1 Mv (C1 Py (C1 V5 (C1 Mv (Gyo (C1 Mv (Gyo ?_))))))))))); refine C1 (pur_sindex tabOk rfl rfl rfl (by omega) (by assumption)) ?_; refine Gyo (C1 V6 (C1 Qyo (C1 Mv (Ond (Ond (Ond (C1 Qnd (C1 Pa (cT (cw_cond_f rfl (cS ?_))))))))))); refine C1 Mv ?_; refine cC rfl (ghas_f _ _ _ _ (by assumption) (by decide) (by assumption)) ?_; rintro _ we14 ⟨⟨⟩, ⟨he12, fe13⟩⟩; have ze15 := fe13.size; replace he5 := he5.fr fe13 (by omega); clear hP; replace X := X.fr fe13 (by omega); clear fe13; refine C1 Pa (cT (cw_cond_f rfl (cS (C1 Mv ?_)))); refine cC rfl (ghas_f _ _ _ _ (by assumption) (by decide) (by assumption)) ?_; rintro _ we18 ⟨⟨⟩, ⟨he16, fe17⟩⟩; have ze19 := fe17.size; clear he12; replace he5 := he5.fr fe17 (by omega); replace X := X.fr fe17 (by omega); clear fe17; refine C1 Pa (cT (cw_cond_f rfl (cS (C1 Mv ?_)))); refine cC rfl (ghas_f _ _ _ _ (by assumption) (by decide) (by assumption)) ?_; rintro _ we22 ⟨⟨⟩, ⟨he20, fe21⟩⟩; have ze23 := fe21.size; clear he16; replace he5 := he5.fr fe21 (by omega); replace X := X.fr fe21 (by omega)
   clear fe21; refine C1 Pa (cT (cw_cond_f rfl (cS (C1 Mv ?_)))); refine cC rfl (ghas_f _ _ _ _ (by assumption) (by decide) (by assumption)) ?_; rintro _ we26 ⟨⟨⟩, ⟨he24, fe25⟩⟩; have ze27 := fe25.size; clear he20; replace he5 := he5.fr fe25 (by omega); replace X := X.fr fe25 (by omega); clear fe25; refine C1 Pa (cT (cw_cond_f rfl (cS (C1 Mv ?_)))); refine cC rfl (ghas_t _ _ _ _ (by assumption) (by decide) (by assumption)) ?_; rintro _ we30 ⟨⟨⟩, ⟨he28, fe29⟩⟩; have ze31 := fe29.size; clear he24; replace he5 := he5.fr fe29 (by omega); replace X := X.fr fe29 (by omega); clear fe29; refine C1 Pa (cT (cw_cond_t rfl (cS (C1 Mv ?_)))); refine cR (by kernel_rfl) rfl ((IH k (Nat.le_refl _)).p _ _ (by assumption) (by omega)) (fun _ _ h => h.ret) rfl ?_; rintro _ we37 ⟨ae32, ⟨ke33, ⟨⟨⟩, ⟨he34, ⟨he35, fe36⟩⟩⟩⟩⟩; have ze38 := fe36.size; clear he28; replace he5 := he5.fr fe36 (by omega); replace X := X.fr fe36 (by omega); clear fe36; (refine lw_does (does_slice' [_, _, _, _] tabOk zOk rfl rfl rfl rfl rfl rfl rfl rfl rfl) rfl ?_ (fun _ h => h); rintro _ we40 ⟨be39, rfl, ne41, te42⟩); clear te42; have he43 := ne41.blk; have xe44 := ne41.ext; have pe45 := ne41.pos; have ze46 := ne41.size; clear ne41; replace he34 := Nd.sits.ext he34 xe44; replace he35 := he35.ext xe44; replace he5 := he5.ext xe44; replace X := X.ext xe44; clear xe44; refine C1 (pur_build' [_, _, _, _] tabOk zOk rfl rfl rfl rfl) ?_; (refine lw_store' [_, _, _, _] [_, _, _, _] tabOk rfl rfl rfl rfl rfl rfl he5 rfl rfl ?_; intro we47 ne48)
   have he51 := ne48.blk; have fe49 := ne48.fr; have ze50 := ne48.size; clear ne48 he5; replace he43 := he43.fr fe49 (by omega); replace he34 := Nd.sits.fr he34 fe49 (by omega); replace he35 := he35.fr fe49 (by omega); replace X := X.fr fe49 (by omega); clear fe49; refine cT (cw_ret (qw_block_ret (qw_then_ret (qw_retc rfl tabOk rfl rfl rfl he51 rfl ?_)))); rotate_left 1
  exact rtree_ret (sits_1 (by assumption) (by omega) (by assumption) (fun b h => by omega)) (by assumption) X
 simp only [Bool.false_eq_true, if_false]
 cases h5 : hasP c.ts σ [105, 102]
 case true =>
  simp only [if_true]; have i1 := has_in hP.at_ h5 (by decide); have hin := i1.2; have m1 := mS_next i1; have e5 : (peekP c.ts σ).text = [105, 102] := of_decide_eq_true h5
  have hlen0 : 0 < (peekP c.ts σ).text.length := by rw [e5]; decide
  have hx : (peekP c.ts σ).text[(0 : Int).toNat]? = some 105 := by rw [e5]; rfl
  clear e5 hd; have l1 := next_le i1; have l2 := exprS_le (n := c.n) (k := k) (lv := 1) l1.wf; have m2 := mS_le l2; have l3 := (good_S k).b.le c.ts c.n _ l2.wf; have m3 := mS_le l3; have l4 := expect_le (n := c.n) (t := [101, 108, 115, 101]) l3.wf (by decide); have m4 := mS_le l4; clear l1 l2 l3 l4 i1; refine calls_in Tryz.func93 Tryz.ntmps93 rfl rfl ?_
  focus
   refine cS ?_; (refine lw_alloc' [_, _, _, _] zOk rfl rfl ?_; intro bf1 wf2 nf3); have hf5 := nf3.blk; have xf6 := nf3.ext; have pf7 := nf3.pos; have zf8 := nf3.size; clear nf3; replace hP := hP.ext xf6; replace X := X.ext xf6; clear xf6; refine cN (C1 Mv ?_); refine cC rfl (gpeek_c _ _ _ (by assumption)) ?_; rintro _ wf10 ⟨⟨⟩, xf9⟩; have zf11 := xf9.size; replace hf5 := hf5.ext xf9; replace hP := hP.ext xf9; replace X := X.ext xf9; clear xf9; refine C1 Pa (cT (cw_seq (cw_block (cS (C1 Mv (C1 Py (C1 V5 (C1 Mv (Gyo (C1 Mv (Gyo ?_))))))))))); refine C1 (pur_sindex tabOk rfl rfl rfl (by omega) (by assumption)) ?_; refine Gyo (C1 V6 (C1 Qyo (C1 Mv (Gyd (C1 Mv (Gyd ?_)))))); refine C1 (pur_sindex tabOk rfl rfl rfl (by omega) (by assumption)) ?_; refine Gyd (C1 V4 (C1 Qyd (C1 Pa (cT (Wnd (cS (C1 Mv ?_))))))); refine cC rfl (ghas_f _ _ _ _ (by assumption) (by decide) (by assumption)) ?_; rintro _ wf14 ⟨⟨⟩, ⟨hf12, ff13⟩⟩; have zf15 := ff13.size; replace hf5 := hf5.fr ff13 (by omega); clear hP; replace X := X.fr ff13 (by omega); clear ff13; refine C1 Pa (cT (cw_cond_f rfl (cS (C1 Mv ?_)))); refine cC rfl (ghas_f _ _ _ _ (by assumption) (by decide) (by assumption)) ?_; rintro _ wf18 ⟨⟨⟩, ⟨hf16, ff17⟩⟩; have zf19 := ff17.size; clear hf12; replace hf5 := hf5.fr ff17 (by omega); replace X := X.fr ff17 (by omega); clear ff17; refine C1 Pa (cT (cw_cond_f rfl (cS (C1 Mv ?_)))); refine cC rfl (ghas_f _ _ _ _ (by assumption) (by decide) (by assumption)) ?_; rintro _ wf22 ⟨⟨⟩, ⟨hf20, ff21⟩⟩; have zf23 := ff21.size
   clear hf16; replace hf5 := hf5.fr ff21 (by omega); replace X := X.fr ff21 (by omega); clear ff21; refine C1 Pa (cT (cw_cond_f rfl (cS (C1 Mv ?_)))); refine cC rfl (ghas_f _ _ _ _ (by assumption) (by decide) (by assumption)) ?_; rintro _ wf26 ⟨⟨⟩, ⟨hf24, ff25⟩⟩; have zf27 := ff25.size; clear hf20; replace hf5 := hf5.fr ff25 (by omega); replace X := X.fr ff25 (by omega); clear ff25; refine C1 Pa (cT (cw_cond_f rfl (cS (C1 Mv ?_)))); refine cC rfl (ghas_f _ _ _ _ (by assumption) (by decide) (by assumption)) ?_; rintro _ wf30 ⟨⟨⟩, ⟨hf28, ff29⟩⟩; have zf31 := ff29.size; clear hf24; replace hf5 := hf5.fr ff29 (by omega); replace X := X.fr ff29 (by omega); clear ff29; refine C1 Pa (cT (cw_cond_f rfl (cS (C1 Mv ?_)))); refine cC rfl (ghas_t _ _ _ _ (by assumption) (by decide) (by assumption)) ?_; rintro _ wf34 ⟨⟨⟩, ⟨hf32, ff33⟩⟩; have zf35 := ff33.size; clear hf28; replace hf5 := hf5.fr ff33 (by omega); replace X := X.fr ff33 (by omega); clear ff33; refine C1 Pa (cT (cw_cond_t rfl (cS (C1 Mv ?_)))); refine cR (by kernel_rfl) rfl ((IH k (Nat.le_refl _)).e _ _ _ (by assumption) (by decide) (by decide) (by omega)) (fun _ _ h => h.ret) rfl ?_; rintro _ wf41 ⟨af36, ⟨kf37, ⟨⟨⟩, ⟨hf38, ⟨hf39, ff40⟩⟩⟩⟩⟩; have zf42 := ff40.size; clear hf32; replace hf5 := hf5.fr ff40 (by omega); replace X := X.fr ff40 (by omega); clear ff40; (refine lw_alloc' [_, _, _, _] zOk rfl rfl ?_; intro bf43 wf44 nf45); (refine lw_init' [_, _, _, _] tabOk rfl rfl rfl rfl rfl rfl nf45 rfl ?_; clear nf45; clear wf44; intro wf46 nf45)
   have hf47 := nf45.blk; have xf48 := nf45.ext; have pf49 := nf45.pos; have zf50 := nf45.size; clear nf45; replace hf38 := Nd.sits.ext hf38 xf48; replace hf39 := hf39.ext xf48; replace hf5 := hf5.ext xf48; replace X := X.ext xf48; clear xf48; refine cN (C1 Mv ?_); refine cR (by kernel_rfl) rfl ((IH k (Nat.le_refl _)).b _ _ (by assumption) (by omega)) (fun _ _ h => h.ret) rfl ?_; rintro _ wf56 ⟨af51, ⟨kf52, ⟨⟨⟩, ⟨hf53, ⟨hf54, ff55⟩⟩⟩⟩⟩; have zf57 := ff55.size; replace hf47 := hf47.fr ff55 (by omega); replace hf38 := Nd.sits.fr hf38 ff55 (by omega); clear hf39; replace hf5 := hf5.fr ff55 (by omega); replace X := X.fr ff55 (by omega); clear ff55; (refine lw_alloc' [_, _, _, _] zOk rfl rfl ?_; intro bf58 wf59 nf60); (refine lw_init' [_, _, _, _] tabOk rfl rfl rfl rfl rfl rfl nf60 rfl ?_; clear nf60; clear wf59; intro wf61 nf60); have hf62 := nf60.blk; have xf63 := nf60.ext; have pf64 := nf60.pos; have zf65 := nf60.size; clear nf60; replace hf53 := Nd.sits.ext hf53 xf63; replace hf54 := hf54.ext xf63; replace hf47 := hf47.ext xf63; replace hf38 := Nd.sits.ext hf38 xf63; replace hf5 := hf5.ext xf63; replace X := X.ext xf63; clear xf63; refine cN (C1 Mv ?_); refine cC rfl (gtake_c _ _ _ _ (by assumption) (by decide)) ?_; rintro _ wf68 ⟨⟨⟩, ⟨hf66, ff67⟩⟩; have zf69 := ff67.size; replace hf62 := hf62.fr ff67 (by omega); replace hf53 := Nd.sits.fr hf53 ff67 (by omega); clear hf54; replace hf47 := hf47.fr ff67 (by omega); replace hf38 := Nd.sits.fr hf38 ff67 (by omega); replace hf5 := hf5.fr ff67 (by omega)
   replace X := X.fr ff67 (by omega); clear ff67; refine cT (cw_seq ?_); (refine cw_tdraw (fun wz => Fr (· = c.pb) wf68 wz) 4 (.pure 0 (.pure 1 (.pure 2 (.fork 3 .tail .none)))) mixed (by kernel_rfl) (panicOk_then (panicOk_block (panicOk_then panicOk_body))) ?_; intro wf70 xf71 _); have qsf72 : (fun wz => Fr (· = c.pb) wf68 wz) wf70 := Fr.of_ext xf71; simp only at qsf72; have d_hf66 := hf66; have d_hf62 := hf62; have d_hf53 := hf53; have d_hf47 := hf47; have d_hf38 := hf38; have d_hf5 := hf5; have zf73 := xf71.size; replace hf66 := hf66.ext xf71; replace hf62 := hf62.ext xf71; replace hf53 := Nd.sits.ext hf53 xf71; replace hf47 := hf47.ext xf71; replace hf38 := Nd.sits.ext hf38 xf71; replace hf5 := hf5.ext xf71; replace X := X.ext xf71; clear xf71; refine ⟨qsf72, ?_⟩; refine Tq rfl (pur_loads_blk' [_, _, _, _] tabOk rfl rfl rfl (fun wz hz => (Blk.fr d_hf47 hz (by first | omega | (dsimp only; omega)))) rfl rfl) ?_; refine Tq rfl (pur_loads_blk' [_, _, _, _] tabOk rfl rfl rfl (fun wz hz => (Blk.fr d_hf62 hz (by first | omega | (dsimp only; omega)))) rfl rfl) ?_; refine Tq rfl Mv ?_; refine tw_does rfl (does_call (by kernel_rfl) rfl ((IH k (Nat.le_refl _)).b _ _ (by assumption) (by omega)) (fun _ _ h => h.ret)) rfl ?_ (fun _ h => h) tw_none; rintro _ wf80 ⟨af75, ⟨kf76, ⟨⟨⟩, ⟨hf77, ⟨hf78, ff79⟩⟩⟩⟩⟩; have zf81 := ff79.size; replace qsf72 := qsf72.fr ff79 (by omega); clear hf66; replace hf62 := hf62.fr ff79 (by omega); replace hf53 := Nd.sits.fr hf53 ff79 (by omega); replace hf47 := hf47.fr ff79 (by omega)
   replace hf38 := Nd.sits.fr hf38 ff79 (by omega); replace hf5 := hf5.fr ff79 (by omega); replace X := X.fr ff79 (by omega); clear ff79; refine ⟨qsf72, ?_⟩; clear d_hf66 d_hf62 d_hf53 d_hf47 d_hf38 d_hf5 qsf72; refine tw_tail rfl ?_; (refine lw_does (does_slice' [_, _, _, _, _, _, _, _, _, _, _, _] tabOk zOk rfl rfl rfl rfl rfl rfl rfl rfl rfl) rfl ?_ (fun _ h => h); rintro _ wf83 ⟨bf82, rfl, nf84, tf85⟩); clear tf85; have hf86 := nf84.blk; have xf87 := nf84.ext; have pf88 := nf84.pos; have zf89 := nf84.size; clear nf84; replace hf77 := Nd.sits.ext hf77 xf87; replace hf78 := hf78.ext xf87; replace hf62 := hf62.ext xf87; replace hf53 := Nd.sits.ext hf53 xf87; replace hf47 := hf47.ext xf87; replace hf38 := Nd.sits.ext hf38 xf87; replace hf5 := hf5.ext xf87; replace X := X.ext xf87; clear xf87; refine C1 (pur_build' [_, _, _, _] tabOk zOk rfl rfl rfl rfl) ?_; (refine lw_store' [_, _, _, _] [_, _, _, _] tabOk rfl rfl rfl rfl rfl rfl hf5 rfl rfl ?_; intro wf90 nf91); have hf94 := nf91.blk; have ff92 := nf91.fr; have zf93 := nf91.size; clear nf91 hf5; replace hf86 := hf86.fr ff92 (by omega); replace hf77 := Nd.sits.fr hf77 ff92 (by omega); replace hf78 := hf78.fr ff92 (by omega); replace hf62 := hf62.fr ff92 (by omega); replace hf53 := Nd.sits.fr hf53 ff92 (by omega); replace hf47 := hf47.fr ff92 (by omega); replace hf38 := Nd.sits.fr hf38 ff92 (by omega); replace X := X.fr ff92 (by omega); clear ff92; refine cT (cw_ret (qw_block_ret (qw_then_ret (qw_retc rfl tabOk rfl rfl rfl hf94 rfl ?_))))
   rotate_left 1
  exact rtree_ret (sits_3 (by assumption) (by omega) (by assumption) (fun b h => by omega) (by assumption) (fun b h => by omega) (by assumption) (fun b h => by omega)) (by assumption) X
 simp only [Bool.false_eq_true, if_false]
 cases h6 : hasP c.ts σ [108, 111, 99, 97, 108]
 case true =>
  simp only [if_true]; have i1 := has_in hP.at_ h6 (by decide); have hin := i1.2; have m1 := mS_next i1; have e6 : (peekP c.ts σ).text = [108, 111, 99, 97, 108] := of_decide_eq_true h6
  have hlen0 : 0 < (peekP c.ts σ).text.length := by rw [e6]; decide
  have hx : (peekP c.ts σ).text[(0 : Int).toNat]? = some 108 := by rw [e6]; rfl
  clear e6 hd; have l1 := next_le i1; have l2 := name_le (n := c.n) l1.wf; have m2 := mS_le l2; have l3 := expect_le (n := c.n) (t := [61]) l2.wf (by decide); have m3 := mS_le l3; have l4 := exprS_le (n := c.n) (k := k) (lv := 1) l3.wf; have m4 := mS_le l4; clear l1 l2 l3 l4 i1; refine calls_in Tryz.func93 Tryz.ntmps93 rfl rfl ?_
  focus
   refine cS ?_; (refine lw_alloc' [_, _, _, _] zOk rfl rfl ?_; intro bg1 wg2 ng3); have hg5 := ng3.blk; have xg6 := ng3.ext; have pg7 := ng3.pos; have zg8 := ng3.size; clear ng3; replace hP := hP.ext xg6; replace X := X.ext xg6; clear xg6; refine cN (C1 Mv ?_); refine cC rfl (gpeek_c _ _ _ (by assumption)) ?_; rintro _ wg10 ⟨⟨⟩, xg9⟩; have zg11 := xg9.size; replace hg5 := hg5.ext xg9; replace hP := hP.ext xg9; replace X := X.ext xg9; clear xg9; refine C1 Pa (cT (cw_seq (cw_block (cS (C1 Mv (C1 Py (C1 V5 (C1 Mv (Gyo (C1 Mv (Gyo ?_))))))))))); refine C1 (pur_sindex tabOk rfl rfl rfl (by omega) (by assumption)) ?_; refine Gyo (C1 V6 (C1 Qyo (C1 Mv (Gyd (C1 Mv (Gyd ?_)))))); refine C1 (pur_sindex tabOk rfl rfl rfl (by omega) (by assumption)) ?_; refine Gyd (C1 V4 (C1 Qyd (C1 Pa (cT (Wnd (cS (C1 Mv ?_))))))); refine cC rfl (ghas_f _ _ _ _ (by assumption) (by decide) (by assumption)) ?_; rintro _ wg14 ⟨⟨⟩, ⟨hg12, fg13⟩⟩; have zg15 := fg13.size; replace hg5 := hg5.fr fg13 (by omega); clear hP; replace X := X.fr fg13 (by omega); clear fg13; refine C1 Pa (cT (cw_cond_f rfl (cS (C1 Mv ?_)))); refine cC rfl (ghas_f _ _ _ _ (by assumption) (by decide) (by assumption)) ?_; rintro _ wg18 ⟨⟨⟩, ⟨hg16, fg17⟩⟩; have zg19 := fg17.size; clear hg12; replace hg5 := hg5.fr fg17 (by omega); replace X := X.fr fg17 (by omega); clear fg17; refine C1 Pa (cT (cw_cond_f rfl (cS (C1 Mv ?_)))); refine cC rfl (ghas_f _ _ _ _ (by assumption) (by decide) (by assumption)) ?_; rintro _ wg22 ⟨⟨⟩, ⟨hg20, fg21⟩⟩; have zg23 := fg21.size
   clear hg16; replace hg5 := hg5.fr fg21 (by omega); replace X := X.fr fg21 (by omega); clear fg21; refine C1 Pa (cT (cw_cond_f rfl (cS (C1 Mv ?_)))); refine cC rfl (ghas_f _ _ _ _ (by assumption) (by decide) (by assumption)) ?_; rintro _ wg26 ⟨⟨⟩, ⟨hg24, fg25⟩⟩; have zg27 := fg25.size; clear hg20; replace hg5 := hg5.fr fg25 (by omega); replace X := X.fr fg25 (by omega); clear fg25; refine C1 Pa (cT (cw_cond_f rfl (cS (C1 Mv ?_)))); refine cC rfl (ghas_f _ _ _ _ (by assumption) (by decide) (by assumption)) ?_; rintro _ wg30 ⟨⟨⟩, ⟨hg28, fg29⟩⟩; have zg31 := fg29.size; clear hg24; replace hg5 := hg5.fr fg29 (by omega); replace X := X.fr fg29 (by omega); clear fg29; refine C1 Pa (cT (cw_cond_f rfl (cS (C1 Mv ?_)))); refine cC rfl (ghas_f _ _ _ _ (by assumption) (by decide) (by assumption)) ?_; rintro _ wg34 ⟨⟨⟩, ⟨hg32, fg33⟩⟩; have zg35 := fg33.size; clear hg28; replace hg5 := hg5.fr fg33 (by omega); replace X := X.fr fg33 (by omega); clear fg33; refine C1 Pa (cT (cw_cond_f rfl (cS (C1 Mv ?_)))); refine cC rfl (ghas_t _ _ _ _ (by assumption) (by decide) (by assumption)) ?_; rintro _ wg38 ⟨⟨⟩, ⟨hg36, fg37⟩⟩; have zg39 := fg37.size; clear hg32; replace hg5 := hg5.fr fg37 (by omega); replace X := X.fr fg37 (by omega); clear fg37; refine C1 Pa (cT (cw_cond_t rfl (cS (C1 Mv ?_)))); refine cC rfl (gname_c _ _ _ (by assumption)) ?_; rintro _ wg42 ⟨⟨⟩, ⟨hg40, fg41⟩⟩; have zg43 := fg41.size; clear hg36; replace hg5 := hg5.fr fg41 (by omega); replace X := X.fr fg41 (by omega); clear fg41
   refine C1 Pa (cN (C1 Mv ?_)); refine cC rfl (gtake_c _ _ _ _ (by assumption) (by decide)) ?_; rintro _ wg46 ⟨⟨⟩, ⟨hg44, fg45⟩⟩; have zg47 := fg45.size; clear hg40; replace hg5 := hg5.fr fg45 (by omega); replace X := X.fr fg45 (by omega); clear fg45; refine cN (C1 Mv ?_); refine cR (by kernel_rfl) rfl ((IH k (Nat.le_refl _)).e _ _ _ (by assumption) (by decide) (by decide) (by omega)) (fun _ _ h => h.ret) rfl ?_; rintro _ wg53 ⟨ag48, ⟨kg49, ⟨⟨⟩, ⟨hg50, ⟨hg51, fg52⟩⟩⟩⟩⟩; have zg54 := fg52.size; clear hg44; replace hg5 := hg5.fr fg52 (by omega); replace X := X.fr fg52 (by omega); clear fg52; (refine lw_alloc' [_, _, _, _] zOk rfl rfl ?_; intro bg55 wg56 ng57); (refine lw_init' [_, _, _, _] tabOk rfl rfl rfl rfl rfl rfl ng57 rfl ?_; clear ng57; clear wg56; intro wg58 ng57); have hg59 := ng57.blk; have xg60 := ng57.ext; have pg61 := ng57.pos; have zg62 := ng57.size; clear ng57; replace hg50 := Nd.sits.ext hg50 xg60; replace hg51 := hg51.ext xg60; replace hg5 := hg5.ext xg60; replace X := X.ext xg60; clear xg60; refine cT (cw_seq ?_); (refine cw_tdraw (fun wz => Fr (· = c.pb) wg58 wz) 5 (.pure 0 (.pure 1 (.pure 2 (.fork 3 (.fork 4 .tail .none) .none)))) mixed (by kernel_rfl) (panicOk_then (panicOk_block (panicOk_then panicOk_body))) ?_; intro wg63 xg64 _); have qsg65 : (fun wz => Fr (· = c.pb) wg58 wz) wg63 := Fr.of_ext xg64; simp only at qsg65; have d_hg59 := hg59; have d_hg50 := hg50; have d_hg51 := hg51; have d_hg5 := hg5; have zg66 := xg64.size; replace hg59 := hg59.ext xg64; replace hg50 := Nd.sits.ext hg50 xg64
   replace hg51 := hg51.ext xg64; replace hg5 := hg5.ext xg64; replace X := X.ext xg64; clear xg64; refine ⟨qsg65, ?_⟩; refine Tq rfl Mv ?_; refine Tq rfl (pur_loads_blk' [_, _, _, _] tabOk rfl rfl rfl (fun wz hz => (Blk.fr d_hg59 hz (by first | omega | (dsimp only; omega)))) rfl rfl) ?_; refine Tq rfl Mv ?_; refine tw_does rfl (does_call (by kernel_rfl) rfl ((IH k (Nat.le_refl _)).b _ _ (by assumption) (by omega)) (fun _ _ h => h.ret)) rfl ?_ (fun _ h => h) tw_none; rintro _ wg73 ⟨ag68, ⟨kg69, ⟨⟨⟩, ⟨hg70, ⟨hg71, fg72⟩⟩⟩⟩⟩; have zg74 := fg72.size; replace qsg65 := qsg65.fr fg72 (by omega); replace hg59 := hg59.fr fg72 (by omega); replace hg50 := Nd.sits.fr hg50 fg72 (by omega); clear hg51; replace hg5 := hg5.fr fg72 (by omega); replace X := X.fr fg72 (by omega); clear fg72; refine ⟨qsg65, ?_⟩; (refine tw_does rfl (does_slice' [_, _, _, _, _, _, _, _] tabOk zOk rfl rfl rfl rfl rfl rfl rfl rfl rfl) rfl ?_ (fun _ h => h) tw_none; rintro _ wg77 ⟨bg76, rfl, ng78, tg79⟩); clear tg79; have hg80 := ng78.blk; have xg81 := ng78.ext; have pg82 := ng78.pos; have zg83 := ng78.size; clear ng78; replace hg70 := Nd.sits.ext hg70 xg81; replace hg71 := hg71.ext xg81; replace qsg65 := qsg65.ext xg81; replace hg59 := hg59.ext xg81; replace hg50 := Nd.sits.ext hg50 xg81; replace hg5 := hg5.ext xg81; replace X := X.ext xg81; clear xg81; refine ⟨qsg65, ?_⟩; clear d_hg59 d_hg50 d_hg51 d_hg5 qsg65; refine tw_tail rfl (C1 (pur_build' [_, _, _, _] tabOk zOk rfl rfl rfl rfl) ?_); (refine lw_store' [_, _, _, _] [_, _, _, _] tabOk rfl rfl rfl rfl rfl rfl hg5 rfl rfl ?_; intro wg84 ng85)
   have hg88 := ng85.blk; have fg86 := ng85.fr; have zg87 := ng85.size; clear ng85 hg5; replace hg80 := hg80.fr fg86 (by omega); replace hg70 := Nd.sits.fr hg70 fg86 (by omega); replace hg71 := hg71.fr fg86 (by omega); replace hg59 := hg59.fr fg86 (by omega); replace hg50 := Nd.sits.fr hg50 fg86 (by omega); replace X := X.fr fg86 (by omega); clear fg86; refine cT (cw_ret (qw_block_ret (qw_then_ret (qw_retc rfl tabOk rfl rfl rfl hg88 rfl ?_)))); rotate_left 1
  exact rtree_ret (sits_2 (by assumption) (by omega) (by assumption) (fun b h => by omega) (by assumption) (fun b h => by omega)) (by assumption) X
 simp only [Bool.false_eq_true, if_false]
 cases h7 : hasP c.ts σ [40]
 case true =>
  simp only [if_true]; have i1 := has_in hP.at_ h7 (by decide); have hin := i1.2; have m1 := mS_next i1; have e7 : (peekP c.ts σ).text = [40] := of_decide_eq_true h7
  have hlen0 : 0 < (peekP c.ts σ).text.length := by rw [e7]; decide
  have hx : (peekP c.ts σ).text[(0 : Int).toNat]? = some 40 := by rw [e7]; rfl
  clear e7 hd; refine calls_in Tryz.func93 Tryz.ntmps93 rfl rfl ?_
  focus
   refine cS ?_; (refine lw_alloc' [_, _, _, _] zOk rfl rfl ?_; intro bh1 wh2 nh3); have hh5 := nh3.blk; have xh6 := nh3.ext; have ph7 := nh3.pos; have zh8 := nh3.size; clear nh3; replace hP := hP.ext xh6; replace X := X.ext xh6; clear xh6; refine cN (C1 Mv ?_); refine cC rfl (gpeek_c _ _ _ (by assumption)) ?_; rintro _ wh10 ⟨⟨⟩, xh9⟩; have zh11 := xh9.size; replace hh5 := hh5.ext xh9; replace hP := hP.ext xh9; replace X := X.ext xh9; clear xh9; refine C1 Pa (cT (cw_seq (cw_block (cS (C1 Mv (C1 Py (C1 V5 (C1 Mv (Gyo (C1 Mv (Gyo ?_))))))))))); refine C1 (pur_sindex tabOk rfl rfl rfl (by omega) (by assumption)) ?_; refine Gyo (C1 V6 (C1 Qyo (C1 Mv (Ond (Ond (Ond (C1 Qnd (C1 Pa (cT (cw_cond_f rfl (cS ?_))))))))))); refine C1 Mv ?_; refine cC rfl (ghas_f _ _ _ _ (by assumption) (by decide) (by assumption)) ?_; rintro _ wh14 ⟨⟨⟩, ⟨hh12, fh13⟩⟩; have zh15 := fh13.size; replace hh5 := hh5.fr fh13 (by omega); clear hP; replace X := X.fr fh13 (by omega); clear fh13; refine C1 Pa (cT (cw_cond_f rfl (cS (C1 Mv ?_)))); refine cC rfl (ghas_f _ _ _ _ (by assumption) (by decide) (by assumption)) ?_; rintro _ wh18 ⟨⟨⟩, ⟨hh16, fh17⟩⟩; have zh19 := fh17.size; clear hh12; replace hh5 := hh5.fr fh17 (by omega); replace X := X.fr fh17 (by omega); clear fh17; refine C1 Pa (cT (cw_cond_f rfl (cS (C1 Mv ?_)))); refine cC rfl (ghas_f _ _ _ _ (by assumption) (by decide) (by assumption)) ?_; rintro _ wh22 ⟨⟨⟩, ⟨hh20, fh21⟩⟩; have zh23 := fh21.size; clear hh16; replace hh5 := hh5.fr fh21 (by omega); replace X := X.fr fh21 (by omega)
   clear fh21; refine C1 Pa (cT (cw_cond_f rfl (cS (C1 Mv ?_)))); refine cC rfl (ghas_f _ _ _ _ (by assumption) (by decide) (by assumption)) ?_; rintro _ wh26 ⟨⟨⟩, ⟨hh24, fh25⟩⟩; have zh27 := fh25.size; clear hh20; replace hh5 := hh5.fr fh25 (by omega); replace X := X.fr fh25 (by omega); clear fh25; refine C1 Pa (cT (cw_cond_f rfl (cS (C1 Mv ?_)))); refine cC rfl (ghas_f _ _ _ _ (by assumption) (by decide) (by assumption)) ?_; rintro _ wh30 ⟨⟨⟩, ⟨hh28, fh29⟩⟩; have zh31 := fh29.size; clear hh24; replace hh5 := hh5.fr fh29 (by omega); replace X := X.fr fh29 (by omega); clear fh29; refine C1 Pa (cT (cw_cond_f rfl (cS (C1 Mv ?_)))); refine cC rfl (ghas_f _ _ _ _ (by assumption) (by decide) (by assumption)) ?_; rintro _ wh34 ⟨⟨⟩, ⟨hh32, fh33⟩⟩; have zh35 := fh33.size; clear hh28; replace hh5 := hh5.fr fh33 (by omega); replace X := X.fr fh33 (by omega); clear fh33; refine C1 Pa (cT (cw_cond_f rfl (cS (C1 Mv ?_)))); refine cC rfl (ghas_f _ _ _ _ (by assumption) (by decide) (by assumption)) ?_; rintro _ wh38 ⟨⟨⟩, ⟨hh36, fh37⟩⟩; have zh39 := fh37.size; clear hh32; replace hh5 := hh5.fr fh37 (by omega); replace X := X.fr fh37 (by omega); clear fh37; refine C1 Pa (cT (cw_cond_f rfl (cS (C1 Mv ?_)))); refine cC rfl (ghas_t _ _ _ _ (by assumption) (by decide) (by assumption)) ?_; rintro _ wh42 ⟨⟨⟩, ⟨hh40, fh41⟩⟩; have zh43 := fh41.size; clear hh36; replace hh5 := hh5.fr fh41 (by omega); replace X := X.fr fh41 (by omega); clear fh41; refine C1 Pa (cT (cw_cond_t rfl (cS (C1 Mv ?_)))); refine cR (by kernel_rfl) rfl ((IH k (Nat.le_refl _)).e _ _ _ (by assumption) (by decide) (by decide) (by omega)) (fun _ _ h => h.ret) rfl ?_
   rintro _ wh49 ⟨ah44, ⟨kh45, ⟨⟨⟩, ⟨hh46, ⟨hh47, fh48⟩⟩⟩⟩⟩; have zh50 := fh48.size; clear hh40; replace hh5 := hh5.fr fh48 (by omega); replace X := X.fr fh48 (by omega); clear fh48; (refine lw_alloc' [_, _, _, _] zOk rfl rfl ?_; intro bh51 wh52 nh53); (refine lw_init' [_, _, _, _] tabOk rfl rfl rfl rfl rfl rfl nh53 rfl ?_; clear nh53; clear wh52; intro wh54 nh53); have hh55 := nh53.blk; have xh56 := nh53.ext; have ph57 := nh53.pos; have zh58 := nh53.size; clear nh53; replace hh46 := Nd.sits.ext hh46 xh56; replace hh47 := hh47.ext xh56; replace hh5 := hh5.ext xh56; replace X := X.ext xh56; clear xh56; refine cN (C1 Mv ?_); refine cC rfl (gtake_c _ _ _ _ (by assumption) (by decide)) ?_; rintro _ wh61 ⟨⟨⟩, ⟨hh59, fh60⟩⟩; have zh62 := fh60.size; replace hh55 := hh55.fr fh60 (by omega); replace hh46 := Nd.sits.fr hh46 fh60 (by omega); clear hh47; replace hh5 := hh5.fr fh60 (by omega); replace X := X.fr fh60 (by omega); clear fh60; refine cN (lw_loads_b' [_, _, _, _] tabOk rfl rfl rfl hh55 rfl rfl rfl ?_); (refine lw_store' [_, _, _, _] [_, _, _, _] tabOk rfl rfl rfl rfl rfl rfl hh5 rfl rfl ?_; intro wh63 nh64); have hh67 := nh64.blk; have fh65 := nh64.fr; have zh66 := nh64.size; clear nh64 hh5; replace hh59 := hh59.fr fh65 (by omega); replace hh55 := hh55.fr fh65 (by omega); replace hh46 := Nd.sits.fr hh46 fh65 (by omega); replace X := X.fr fh65 (by omega); clear fh65; refine cT (cw_ret (qw_block_ret (qw_then_ret (qw_retc rfl tabOk rfl rfl rfl hh67 rfl ?_)))); rotate_left 1
  exact rtree_ret (Nd.sits.wide (by assumption) (fun b h => by omega)) (by assumption) X
 simp only [Bool.false_eq_true, if_false]; have mn := mS_nam (n := c.n) hP.at_
 by_cases hp : (peekP c.ts (nameP c.ts c.n σ).2).text = [40]
 · simp only [hp, if_true]
   have ln := name_le (n := c.n) hP.at_; have hne := peek_in ln.wf (Or.inl (by rw [hp]; decide)); have mn2 := mS_next hne; clear ln hne
   cases ht : (peekP c.ts σ).text with
   | nil =>
    have hlen0 : (peekP c.ts σ).text.length = 0 := by rw [ht]; rfl
    clear ht hd; refine calls_in Tryz.func93 Tryz.ntmps93 rfl rfl ?_
    focus
     refine cS ?_; (refine lw_alloc' [_, _, _, _] zOk rfl rfl ?_; intro bi1 wi2 ni3); have hi5 := ni3.blk; have xi6 := ni3.ext; have pi7 := ni3.pos; have zi8 := ni3.size; clear ni3; replace hP := hP.ext xi6; replace X := X.ext xi6; clear xi6; refine cN (C1 Mv ?_); refine cC rfl (gpeek_c _ _ _ (by assumption)) ?_; rintro _ wi10 ⟨⟨⟩, xi9⟩; have zi11 := xi9.size; replace hi5 := hi5.ext xi9; replace hP := hP.ext xi9; replace X := X.ext xi9; clear xi9; refine C1 Pa (cT (cw_seq (cw_block (cS (C1 Mv (C1 Py (C1 V5 (C1 Mv (Ono (Ono (Ono ?_))))))))))); refine C1 Qno (C1 Mv (lw_off rfl rfl rfl (rfl) rfl (lw_off rfl rfl rfl (rfl) rfl (lw_off rfl rfl rfl (rfl) rfl (C1 (pur_pick_f rfl rfl rfl) (C1 Pa (cT (cw_cond_f rfl (cS (C1 Mv ?_)))))))))); refine cC rfl (ghas_f _ _ _ _ (by assumption) (by decide) (by assumption)) ?_; rintro _ wi14 ⟨⟨⟩, ⟨hi12, fi13⟩⟩; have zi15 := fi13.size; replace hi5 := hi5.fr fi13 (by omega); clear hP; replace X := X.fr fi13 (by omega); clear fi13; refine C1 Pa (cT (cw_cond_f rfl (cS (C1 Mv ?_)))); refine cC rfl (ghas_f _ _ _ _ (by assumption) (by decide) (by assumption)) ?_; rintro _ wi18 ⟨⟨⟩, ⟨hi16, fi17⟩⟩; have zi19 := fi17.size; clear hi12; replace hi5 := hi5.fr fi17 (by omega); replace X := X.fr fi17 (by omega); clear fi17; refine C1 Pa (cT (cw_cond_f rfl (cS (C1 Mv ?_)))); refine cC rfl (ghas_f _ _ _ _ (by assumption) (by decide) (by assumption)) ?_; rintro _ wi22 ⟨⟨⟩, ⟨hi20, fi21⟩⟩; have zi23 := fi21.size; clear hi16; replace hi5 := hi5.fr fi21 (by omega); replace X := X.fr fi21 (by omega)
     clear fi21; refine C1 Pa (cT (cw_cond_f rfl (cS (C1 Mv ?_)))); refine cC rfl (ghas_f _ _ _ _ (by assumption) (by decide) (by assumption)) ?_; rintro _ wi26 ⟨⟨⟩, ⟨hi24, fi25⟩⟩; have zi27 := fi25.size; clear hi20; replace hi5 := hi5.fr fi25 (by omega); replace X := X.fr fi25 (by omega); clear fi25; refine C1 Pa (cT (cw_cond_f rfl (cS (C1 Mv ?_)))); refine cC rfl (ghas_f _ _ _ _ (by assumption) (by decide) (by assumption)) ?_; rintro _ wi30 ⟨⟨⟩, ⟨hi28, fi29⟩⟩; have zi31 := fi29.size; clear hi24; replace hi5 := hi5.fr fi29 (by omega); replace X := X.fr fi29 (by omega); clear fi29; refine C1 Pa (cT (cw_cond_f rfl (cS (C1 Mv ?_)))); refine cC rfl (ghas_f _ _ _ _ (by assumption) (by decide) (by assumption)) ?_; rintro _ wi34 ⟨⟨⟩, ⟨hi32, fi33⟩⟩; have zi35 := fi33.size; clear hi28; replace hi5 := hi5.fr fi33 (by omega); replace X := X.fr fi33 (by omega); clear fi33; refine C1 Pa (cT (cw_cond_f rfl (cS (C1 Mv ?_)))); refine cC rfl (ghas_f _ _ _ _ (by assumption) (by decide) (by assumption)) ?_; rintro _ wi38 ⟨⟨⟩, ⟨hi36, fi37⟩⟩; have zi39 := fi37.size; clear hi32; replace hi5 := hi5.fr fi37 (by omega); replace X := X.fr fi37 (by omega); clear fi37; refine C1 Pa (cT (cw_cond_f rfl (cS (C1 Mv ?_)))); refine cC rfl (ghas_f _ _ _ _ (by assumption) (by decide) (by assumption)) ?_; rintro _ wi42 ⟨⟨⟩, ⟨hi40, fi41⟩⟩; have zi43 := fi41.size; clear hi36; replace hi5 := hi5.fr fi41 (by omega); replace X := X.fr fi41 (by omega); clear fi41; refine C1 Pa (cT (cw_cond_f rfl (cw_skip (qw_block_norm (qw_then (cS (C1 Mv ?_)))))))
     refine cC rfl (gname_c _ _ _ (by assumption)) ?_; rintro _ wi46 ⟨⟨⟩, ⟨hi44, fi45⟩⟩; have zi47 := fi45.size; clear hi40; replace hi5 := hi5.fr fi45 (by omega); replace X := X.fr fi45 (by omega); clear fi45; refine C1 Pa (cT (cw_seq (cS (C1 Mv ?_)))); refine cC rfl (gpeek_c _ _ _ (by assumption)) ?_; rintro _ wi49 ⟨⟨⟩, xi48⟩; have zi50 := xi48.size; replace hi44 := hi44.ext xi48; replace hi5 := hi5.ext xi48; replace X := X.ext xi48; clear xi48; refine C1 V8 (cT (Wya (cS (C1 Mv (C1 Mv ?_))))); refine cR (by kernel_rfl) rfl ((IH k (Nat.le_refl _)).a 0 _ _ (by assumption) (by decide) (by omega)) (fun _ _ h => h.ret) rfl ?_; rintro _ wi56 ⟨ai51, ⟨ki52, ⟨⟨⟩, ⟨hi53, ⟨hi54, fi55⟩⟩⟩⟩⟩; have zi57 := fi55.size; clear hi44; replace hi5 := hi5.fr fi55 (by omega); replace X := X.fr fi55 (by omega); clear fi55; refine C1 (pur_build' [_, _, _, _] tabOk zOk rfl rfl rfl rfl) ?_; (refine lw_store' [_, _, _, _] [_, _, _, _] tabOk rfl rfl rfl rfl rfl rfl hi5 rfl rfl ?_; intro wi58 ni59); have hi62 := ni59.blk; have fi60 := ni59.fr; have zi61 := ni59.size; clear ni59 hi5; replace hi53 := Bk.rowSits.fr hi53 fi60 (by omega); replace hi54 := hi54.fr fi60 (by omega); replace X := X.fr fi60 (by omega); clear fi60; refine cT (cw_ret (qw_then_ret (qw_retc rfl tabOk rfl rfl rfl hi62 rfl ?_))); rotate_left 1
    exact rtree_ret (r := (Nd.mk 85 0 (nameP c.ts c.n σ).1 (argsS c.ts c.n k 0 (nameP c.ts c.n σ).2).1, _)) (sits_mk (rowWideF (by assumption) (fun b h => by omega))) (by assumption) X
   | cons x r =>
    have hlen0 : 0 < (peekP c.ts σ).text.length := by rw [ht]; simp
    have hx : (peekP c.ts σ).text[(0 : Int).toNat]? = some x := by rw [ht]; rfl
    have hdx : digit x = false := by rw [ht] at hd; exact hd
    clear ht hd
    by_cases hlo : 48 ≤ x.toNat
    · have hhi : 57 < x.toNat := by
       rcases Nat.lt_or_ge 57 x.toNat with h | h
       · exact h
       · simp [digit, hlo, h] at hdx
      clear hdx; refine calls_in Tryz.func93 Tryz.ntmps93 rfl rfl ?_
      focus
       refine cS ?_; (refine lw_alloc' [_, _, _, _] zOk rfl rfl ?_; intro bj1 wj2 nj3); have hj5 := nj3.blk; have xj6 := nj3.ext; have pj7 := nj3.pos; have zj8 := nj3.size; clear nj3; replace hP := hP.ext xj6; replace X := X.ext xj6; clear xj6; refine cN (C1 Mv ?_); refine cC rfl (gpeek_c _ _ _ (by assumption)) ?_; rintro _ wj10 ⟨⟨⟩, xj9⟩; have zj11 := xj9.size; replace hj5 := hj5.ext xj9; replace hP := hP.ext xj9; replace X := X.ext xj9; clear xj9; refine C1 Pa (cT (cw_seq (cw_block (cS (C1 Mv (C1 Py (C1 V5 (C1 Mv (Gyo (C1 Mv (Gyo ?_))))))))))); refine C1 (pur_sindex tabOk rfl rfl rfl (by omega) (by assumption)) ?_; refine Gyo (C1 V6 (C1 Qyo (C1 Mv (Gyo (C1 Mv (Gyo ?_)))))); refine C1 (pur_sindex tabOk rfl rfl rfl (by omega) (by assumption)) ?_; refine Gyo (C1 V4 (C1 Qyo (C1 Pa (cT (Wno (cS (C1 Mv ?_))))))); refine cC rfl (ghas_f _ _ _ _ (by assumption) (by decide) (by assumption)) ?_; rintro _ wj14 ⟨⟨⟩, ⟨hj12, fj13⟩⟩; have zj15 := fj13.size; replace hj5 := hj5.fr fj13 (by omega); clear hP; replace X := X.fr fj13 (by omega); clear fj13; refine C1 Pa (cT (cw_cond_f rfl (cS (C1 Mv ?_)))); refine cC rfl (ghas_f _ _ _ _ (by assumption) (by decide) (by assumption)) ?_; rintro _ wj18 ⟨⟨⟩, ⟨hj16, fj17⟩⟩; have zj19 := fj17.size; clear hj12; replace hj5 := hj5.fr fj17 (by omega); replace X := X.fr fj17 (by omega); clear fj17; refine C1 Pa (cT (cw_cond_f rfl (cS (C1 Mv ?_)))); refine cC rfl (ghas_f _ _ _ _ (by assumption) (by decide) (by assumption)) ?_; rintro _ wj22 ⟨⟨⟩, ⟨hj20, fj21⟩⟩
       have zj23 := fj21.size; clear hj16; replace hj5 := hj5.fr fj21 (by omega); replace X := X.fr fj21 (by omega); clear fj21; refine C1 Pa (cT (cw_cond_f rfl (cS (C1 Mv ?_)))); refine cC rfl (ghas_f _ _ _ _ (by assumption) (by decide) (by assumption)) ?_; rintro _ wj26 ⟨⟨⟩, ⟨hj24, fj25⟩⟩; have zj27 := fj25.size; clear hj20; replace hj5 := hj5.fr fj25 (by omega); replace X := X.fr fj25 (by omega); clear fj25; refine C1 Pa (cT (cw_cond_f rfl (cS (C1 Mv ?_)))); refine cC rfl (ghas_f _ _ _ _ (by assumption) (by decide) (by assumption)) ?_; rintro _ wj30 ⟨⟨⟩, ⟨hj28, fj29⟩⟩; have zj31 := fj29.size; clear hj24; replace hj5 := hj5.fr fj29 (by omega); replace X := X.fr fj29 (by omega); clear fj29; refine C1 Pa (cT (cw_cond_f rfl (cS (C1 Mv ?_)))); refine cC rfl (ghas_f _ _ _ _ (by assumption) (by decide) (by assumption)) ?_; rintro _ wj34 ⟨⟨⟩, ⟨hj32, fj33⟩⟩; have zj35 := fj33.size; clear hj28; replace hj5 := hj5.fr fj33 (by omega); replace X := X.fr fj33 (by omega); clear fj33; refine C1 Pa (cT (cw_cond_f rfl (cS (C1 Mv ?_)))); refine cC rfl (ghas_f _ _ _ _ (by assumption) (by decide) (by assumption)) ?_; rintro _ wj38 ⟨⟨⟩, ⟨hj36, fj37⟩⟩; have zj39 := fj37.size; clear hj32; replace hj5 := hj5.fr fj37 (by omega); replace X := X.fr fj37 (by omega); clear fj37; refine C1 Pa (cT (cw_cond_f rfl (cS (C1 Mv ?_)))); refine cC rfl (ghas_f _ _ _ _ (by assumption) (by decide) (by assumption)) ?_; rintro _ wj42 ⟨⟨⟩, ⟨hj40, fj41⟩⟩; have zj43 := fj41.size; clear hj36; replace hj5 := hj5.fr fj41 (by omega)
       replace X := X.fr fj41 (by omega); clear fj41; refine C1 Pa (cT (cw_cond_f rfl (cw_skip (qw_block_norm (qw_then (cS (C1 Mv ?_))))))); refine cC rfl (gname_c _ _ _ (by assumption)) ?_; rintro _ wj46 ⟨⟨⟩, ⟨hj44, fj45⟩⟩; have zj47 := fj45.size; clear hj40; replace hj5 := hj5.fr fj45 (by omega); replace X := X.fr fj45 (by omega); clear fj45; refine C1 Pa (cT (cw_seq (cS (C1 Mv ?_)))); refine cC rfl (gpeek_c _ _ _ (by assumption)) ?_; rintro _ wj49 ⟨⟨⟩, xj48⟩; have zj50 := xj48.size; replace hj44 := hj44.ext xj48; replace hj5 := hj5.ext xj48; replace X := X.ext xj48; clear xj48; refine C1 V8 (cT (Wya (cS (C1 Mv (C1 Mv ?_))))); refine cR (by kernel_rfl) rfl ((IH k (Nat.le_refl _)).a 0 _ _ (by assumption) (by decide) (by omega)) (fun _ _ h => h.ret) rfl ?_; rintro _ wj56 ⟨aj51, ⟨kj52, ⟨⟨⟩, ⟨hj53, ⟨hj54, fj55⟩⟩⟩⟩⟩; have zj57 := fj55.size; clear hj44; replace hj5 := hj5.fr fj55 (by omega); replace X := X.fr fj55 (by omega); clear fj55; refine C1 (pur_build' [_, _, _, _] tabOk zOk rfl rfl rfl rfl) ?_; (refine lw_store' [_, _, _, _] [_, _, _, _] tabOk rfl rfl rfl rfl rfl rfl hj5 rfl rfl ?_; intro wj58 nj59); have hj62 := nj59.blk; have fj60 := nj59.fr; have zj61 := nj59.size; clear nj59 hj5; replace hj53 := Bk.rowSits.fr hj53 fj60 (by omega); replace hj54 := hj54.fr fj60 (by omega); replace X := X.fr fj60 (by omega); clear fj60; refine cT (cw_ret (qw_then_ret (qw_retc rfl tabOk rfl rfl rfl hj62 rfl ?_))); rotate_left 1
      exact rtree_ret (r := (Nd.mk 85 0 (nameP c.ts c.n σ).1 (argsS c.ts c.n k 0 (nameP c.ts c.n σ).2).1, _)) (sits_mk (rowWideF (by assumption) (fun b h => by omega))) (by assumption) X
    · clear hdx
      refine calls_in Tryz.func93 Tryz.ntmps93 rfl rfl ?_
      focus
       refine cS ?_; (refine lw_alloc' [_, _, _, _] zOk rfl rfl ?_; intro bk1 wk2 nk3); have hk5 := nk3.blk; have xk6 := nk3.ext; have pk7 := nk3.pos; have zk8 := nk3.size; clear nk3; replace hP := hP.ext xk6; replace X := X.ext xk6; clear xk6; refine cN (C1 Mv ?_); refine cC rfl (gpeek_c _ _ _ (by assumption)) ?_; rintro _ wk10 ⟨⟨⟩, xk9⟩; have zk11 := xk9.size; replace hk5 := hk5.ext xk9; replace hP := hP.ext xk9; replace X := X.ext xk9; clear xk9; refine C1 Pa (cT (cw_seq (cw_block (cS (C1 Mv (C1 Py (C1 V5 (C1 Mv (Gyo (C1 Mv (Gyo ?_))))))))))); refine C1 (pur_sindex tabOk rfl rfl rfl (by omega) (by assumption)) ?_; refine Gyo (C1 V6 (C1 Qyo (C1 Mv (Ono (Ono (Ono (C1 Qno (C1 Pa (cT (cw_cond_f rfl (cS ?_))))))))))); refine C1 Mv ?_; refine cC rfl (ghas_f _ _ _ _ (by assumption) (by decide) (by assumption)) ?_; rintro _ wk14 ⟨⟨⟩, ⟨hk12, fk13⟩⟩; have zk15 := fk13.size; replace hk5 := hk5.fr fk13 (by omega); clear hP; replace X := X.fr fk13 (by omega); clear fk13; refine C1 Pa (cT (cw_cond_f rfl (cS (C1 Mv ?_)))); refine cC rfl (ghas_f _ _ _ _ (by assumption) (by decide) (by assumption)) ?_; rintro _ wk18 ⟨⟨⟩, ⟨hk16, fk17⟩⟩; have zk19 := fk17.size; clear hk12; replace hk5 := hk5.fr fk17 (by omega); replace X := X.fr fk17 (by omega); clear fk17; refine C1 Pa (cT (cw_cond_f rfl (cS (C1 Mv ?_)))); refine cC rfl (ghas_f _ _ _ _ (by assumption) (by decide) (by assumption)) ?_; rintro _ wk22 ⟨⟨⟩, ⟨hk20, fk21⟩⟩; have zk23 := fk21.size; clear hk16; replace hk5 := hk5.fr fk21 (by omega); replace X := X.fr fk21 (by omega)
       clear fk21; refine C1 Pa (cT (cw_cond_f rfl (cS (C1 Mv ?_)))); refine cC rfl (ghas_f _ _ _ _ (by assumption) (by decide) (by assumption)) ?_; rintro _ wk26 ⟨⟨⟩, ⟨hk24, fk25⟩⟩; have zk27 := fk25.size; clear hk20; replace hk5 := hk5.fr fk25 (by omega); replace X := X.fr fk25 (by omega); clear fk25; refine C1 Pa (cT (cw_cond_f rfl (cS (C1 Mv ?_)))); refine cC rfl (ghas_f _ _ _ _ (by assumption) (by decide) (by assumption)) ?_; rintro _ wk30 ⟨⟨⟩, ⟨hk28, fk29⟩⟩; have zk31 := fk29.size; clear hk24; replace hk5 := hk5.fr fk29 (by omega); replace X := X.fr fk29 (by omega); clear fk29; refine C1 Pa (cT (cw_cond_f rfl (cS (C1 Mv ?_)))); refine cC rfl (ghas_f _ _ _ _ (by assumption) (by decide) (by assumption)) ?_; rintro _ wk34 ⟨⟨⟩, ⟨hk32, fk33⟩⟩; have zk35 := fk33.size; clear hk28; replace hk5 := hk5.fr fk33 (by omega); replace X := X.fr fk33 (by omega); clear fk33; refine C1 Pa (cT (cw_cond_f rfl (cS (C1 Mv ?_)))); refine cC rfl (ghas_f _ _ _ _ (by assumption) (by decide) (by assumption)) ?_; rintro _ wk38 ⟨⟨⟩, ⟨hk36, fk37⟩⟩; have zk39 := fk37.size; clear hk32; replace hk5 := hk5.fr fk37 (by omega); replace X := X.fr fk37 (by omega); clear fk37; refine C1 Pa (cT (cw_cond_f rfl (cS (C1 Mv ?_)))); refine cC rfl (ghas_f _ _ _ _ (by assumption) (by decide) (by assumption)) ?_; rintro _ wk42 ⟨⟨⟩, ⟨hk40, fk41⟩⟩; have zk43 := fk41.size; clear hk36; replace hk5 := hk5.fr fk41 (by omega); replace X := X.fr fk41 (by omega); clear fk41; refine C1 Pa (cT (cw_cond_f rfl (cw_skip (qw_block_norm (qw_then (cS (C1 Mv ?_)))))))
       refine cC rfl (gname_c _ _ _ (by assumption)) ?_; rintro _ wk46 ⟨⟨⟩, ⟨hk44, fk45⟩⟩; have zk47 := fk45.size; clear hk40; replace hk5 := hk5.fr fk45 (by omega); replace X := X.fr fk45 (by omega); clear fk45; refine C1 Pa (cT (cw_seq (cS (C1 Mv ?_)))); refine cC rfl (gpeek_c _ _ _ (by assumption)) ?_; rintro _ wk49 ⟨⟨⟩, xk48⟩; have zk50 := xk48.size; replace hk44 := hk44.ext xk48; replace hk5 := hk5.ext xk48; replace X := X.ext xk48; clear xk48; refine C1 V8 (cT (Wya (cS (C1 Mv (C1 Mv ?_))))); refine cR (by kernel_rfl) rfl ((IH k (Nat.le_refl _)).a 0 _ _ (by assumption) (by decide) (by omega)) (fun _ _ h => h.ret) rfl ?_; rintro _ wk56 ⟨ak51, ⟨kk52, ⟨⟨⟩, ⟨hk53, ⟨hk54, fk55⟩⟩⟩⟩⟩; have zk57 := fk55.size; clear hk44; replace hk5 := hk5.fr fk55 (by omega); replace X := X.fr fk55 (by omega); clear fk55; refine C1 (pur_build' [_, _, _, _] tabOk zOk rfl rfl rfl rfl) ?_; (refine lw_store' [_, _, _, _] [_, _, _, _] tabOk rfl rfl rfl rfl rfl rfl hk5 rfl rfl ?_; intro wk58 nk59); have hk62 := nk59.blk; have fk60 := nk59.fr; have zk61 := nk59.size; clear nk59 hk5; replace hk53 := Bk.rowSits.fr hk53 fk60 (by omega); replace hk54 := hk54.fr fk60 (by omega); replace X := X.fr fk60 (by omega); clear fk60; refine cT (cw_ret (qw_then_ret (qw_retc rfl tabOk rfl rfl rfl hk62 rfl ?_))); rotate_left 1
      exact rtree_ret (r := (Nd.mk 85 0 (nameP c.ts c.n σ).1 (argsS c.ts c.n k 0 (nameP c.ts c.n σ).2).1, _)) (sits_mk (rowWideF (by assumption) (fun b h => by omega))) (by assumption) X
 · simp only [hp, if_false]
   cases ht : (peekP c.ts σ).text with
   | nil =>
    have hlen0 : (peekP c.ts σ).text.length = 0 := by rw [ht]; rfl
    clear ht hd; refine calls_in Tryz.func93 Tryz.ntmps93 rfl rfl ?_
    focus
     refine cS ?_; (refine lw_alloc' [_, _, _, _] zOk rfl rfl ?_; intro bl1 wl2 nl3); have hl5 := nl3.blk; have xl6 := nl3.ext; have pl7 := nl3.pos; have zl8 := nl3.size; clear nl3; replace hP := hP.ext xl6; replace X := X.ext xl6; clear xl6; refine cN (C1 Mv ?_); refine cC rfl (gpeek_c _ _ _ (by assumption)) ?_; rintro _ wl10 ⟨⟨⟩, xl9⟩; have zl11 := xl9.size; replace hl5 := hl5.ext xl9; replace hP := hP.ext xl9; replace X := X.ext xl9; clear xl9; refine C1 Pa (cT (cw_seq (cw_block (cS (C1 Mv (C1 Py (C1 V5 (C1 Mv (Ono (Ono (Ono ?_))))))))))); refine C1 Qno (C1 Mv (lw_off rfl rfl rfl (rfl) rfl (lw_off rfl rfl rfl (rfl) rfl (lw_off rfl rfl rfl (rfl) rfl (C1 (pur_pick_f rfl rfl rfl) (C1 Pa (cT (cw_cond_f rfl (cS (C1 Mv ?_)))))))))); refine cC rfl (ghas_f _ _ _ _ (by assumption) (by decide) (by assumption)) ?_; rintro _ wl14 ⟨⟨⟩, ⟨hl12, fl13⟩⟩; have zl15 := fl13.size; replace hl5 := hl5.fr fl13 (by omega); clear hP; replace X := X.fr fl13 (by omega); clear fl13; refine C1 Pa (cT (cw_cond_f rfl (cS (C1 Mv ?_)))); refine cC rfl (ghas_f _ _ _ _ (by assumption) (by decide) (by assumption)) ?_; rintro _ wl18 ⟨⟨⟩, ⟨hl16, fl17⟩⟩; have zl19 := fl17.size; clear hl12; replace hl5 := hl5.fr fl17 (by omega); replace X := X.fr fl17 (by omega); clear fl17; refine C1 Pa (cT (cw_cond_f rfl (cS (C1 Mv ?_)))); refine cC rfl (ghas_f _ _ _ _ (by assumption) (by decide) (by assumption)) ?_; rintro _ wl22 ⟨⟨⟩, ⟨hl20, fl21⟩⟩; have zl23 := fl21.size; clear hl16; replace hl5 := hl5.fr fl21 (by omega); replace X := X.fr fl21 (by omega)
     clear fl21; refine C1 Pa (cT (cw_cond_f rfl (cS (C1 Mv ?_)))); refine cC rfl (ghas_f _ _ _ _ (by assumption) (by decide) (by assumption)) ?_; rintro _ wl26 ⟨⟨⟩, ⟨hl24, fl25⟩⟩; have zl27 := fl25.size; clear hl20; replace hl5 := hl5.fr fl25 (by omega); replace X := X.fr fl25 (by omega); clear fl25; refine C1 Pa (cT (cw_cond_f rfl (cS (C1 Mv ?_)))); refine cC rfl (ghas_f _ _ _ _ (by assumption) (by decide) (by assumption)) ?_; rintro _ wl30 ⟨⟨⟩, ⟨hl28, fl29⟩⟩; have zl31 := fl29.size; clear hl24; replace hl5 := hl5.fr fl29 (by omega); replace X := X.fr fl29 (by omega); clear fl29; refine C1 Pa (cT (cw_cond_f rfl (cS (C1 Mv ?_)))); refine cC rfl (ghas_f _ _ _ _ (by assumption) (by decide) (by assumption)) ?_; rintro _ wl34 ⟨⟨⟩, ⟨hl32, fl33⟩⟩; have zl35 := fl33.size; clear hl28; replace hl5 := hl5.fr fl33 (by omega); replace X := X.fr fl33 (by omega); clear fl33; refine C1 Pa (cT (cw_cond_f rfl (cS (C1 Mv ?_)))); refine cC rfl (ghas_f _ _ _ _ (by assumption) (by decide) (by assumption)) ?_; rintro _ wl38 ⟨⟨⟩, ⟨hl36, fl37⟩⟩; have zl39 := fl37.size; clear hl32; replace hl5 := hl5.fr fl37 (by omega); replace X := X.fr fl37 (by omega); clear fl37; refine C1 Pa (cT (cw_cond_f rfl (cS (C1 Mv ?_)))); refine cC rfl (ghas_f _ _ _ _ (by assumption) (by decide) (by assumption)) ?_; rintro _ wl42 ⟨⟨⟩, ⟨hl40, fl41⟩⟩; have zl43 := fl41.size; clear hl36; replace hl5 := hl5.fr fl41 (by omega); replace X := X.fr fl41 (by omega); clear fl41; refine C1 Pa (cT (cw_cond_f rfl (cw_skip (qw_block_norm (qw_then (cS (C1 Mv ?_)))))))
     refine cC rfl (gname_c _ _ _ (by assumption)) ?_; rintro _ wl46 ⟨⟨⟩, ⟨hl44, fl45⟩⟩; have zl47 := fl45.size; clear hl40; replace hl5 := hl5.fr fl45 (by omega); replace X := X.fr fl45 (by omega); clear fl45; refine C1 Pa (cT (cw_seq (cS (C1 Mv ?_)))); refine cC rfl (gpeek_c _ _ _ (by assumption)) ?_; rintro _ wl49 ⟨⟨⟩, xl48⟩; have zl50 := xl48.size; replace hl44 := hl44.ext xl48; replace hl5 := hl5.ext xl48; replace X := X.ext xl48; clear xl48; refine C1 V8 (cT (Wna (cw_skip (qw_then (cS (C1 Mv (C1 (pur_build' [_, _, _, _] tabOk zOk rfl rfl rfl rfl) ?_))))))); (refine lw_store' [_, _, _, _] [_, _, _, _] tabOk rfl rfl rfl rfl rfl rfl hl5 rfl rfl ?_; intro wl51 nl52); have hl55 := nl52.blk; have fl53 := nl52.fr; have zl54 := nl52.size; clear nl52 hl5; replace hl44 := hl44.fr fl53 (by omega); replace X := X.fr fl53 (by omega); clear fl53; refine cT (cw_ret (qw_retc rfl tabOk rfl rfl rfl hl55 rfl ?_)); rotate_left 1
    exact rtree_ret sits_nil (by assumption) X
   | cons x r =>
    have hlen0 : 0 < (peekP c.ts σ).text.length := by rw [ht]; simp
    have hx : (peekP c.ts σ).text[(0 : Int).toNat]? = some x := by rw [ht]; rfl
    have hdx : digit x = false := by rw [ht] at hd; exact hd
    clear ht hd
    by_cases hlo : 48 ≤ x.toNat
    · have hhi : 57 < x.toNat := by
       rcases Nat.lt_or_ge 57 x.toNat with h | h
       · exact h
       · simp [digit, hlo, h] at hdx
      clear hdx; refine calls_in Tryz.func93 Tryz.ntmps93 rfl rfl ?_
      focus
       refine cS ?_; (refine lw_alloc' [_, _, _, _] zOk rfl rfl ?_; intro bm1 wm2 nm3); have hm5 := nm3.blk; have xm6 := nm3.ext; have pm7 := nm3.pos; have zm8 := nm3.size; clear nm3; replace hP := hP.ext xm6; replace X := X.ext xm6; clear xm6; refine cN (C1 Mv ?_); refine cC rfl (gpeek_c _ _ _ (by assumption)) ?_; rintro _ wm10 ⟨⟨⟩, xm9⟩; have zm11 := xm9.size; replace hm5 := hm5.ext xm9; replace hP := hP.ext xm9; replace X := X.ext xm9; clear xm9; refine C1 Pa (cT (cw_seq (cw_block (cS (C1 Mv (C1 Py (C1 V5 (C1 Mv (Gyo (C1 Mv (Gyo ?_))))))))))); refine C1 (pur_sindex tabOk rfl rfl rfl (by omega) (by assumption)) ?_; refine Gyo (C1 V6 (C1 Qyo (C1 Mv (Gyo (C1 Mv (Gyo ?_)))))); refine C1 (pur_sindex tabOk rfl rfl rfl (by omega) (by assumption)) ?_; refine Gyo (C1 V4 (C1 Qyo (C1 Pa (cT (Wno (cS (C1 Mv ?_))))))); refine cC rfl (ghas_f _ _ _ _ (by assumption) (by decide) (by assumption)) ?_; rintro _ wm14 ⟨⟨⟩, ⟨hm12, fm13⟩⟩; have zm15 := fm13.size; replace hm5 := hm5.fr fm13 (by omega); clear hP; replace X := X.fr fm13 (by omega); clear fm13; refine C1 Pa (cT (cw_cond_f rfl (cS (C1 Mv ?_)))); refine cC rfl (ghas_f _ _ _ _ (by assumption) (by decide) (by assumption)) ?_; rintro _ wm18 ⟨⟨⟩, ⟨hm16, fm17⟩⟩; have zm19 := fm17.size; clear hm12; replace hm5 := hm5.fr fm17 (by omega); replace X := X.fr fm17 (by omega); clear fm17; refine C1 Pa (cT (cw_cond_f rfl (cS (C1 Mv ?_)))); refine cC rfl (ghas_f _ _ _ _ (by assumption) (by decide) (by assumption)) ?_; rintro _ wm22 ⟨⟨⟩, ⟨hm20, fm21⟩⟩
       have zm23 := fm21.size; clear hm16; replace hm5 := hm5.fr fm21 (by omega); replace X := X.fr fm21 (by omega); clear fm21; refine C1 Pa (cT (cw_cond_f rfl (cS (C1 Mv ?_)))); refine cC rfl (ghas_f _ _ _ _ (by assumption) (by decide) (by assumption)) ?_; rintro _ wm26 ⟨⟨⟩, ⟨hm24, fm25⟩⟩; have zm27 := fm25.size; clear hm20; replace hm5 := hm5.fr fm25 (by omega); replace X := X.fr fm25 (by omega); clear fm25; refine C1 Pa (cT (cw_cond_f rfl (cS (C1 Mv ?_)))); refine cC rfl (ghas_f _ _ _ _ (by assumption) (by decide) (by assumption)) ?_; rintro _ wm30 ⟨⟨⟩, ⟨hm28, fm29⟩⟩; have zm31 := fm29.size; clear hm24; replace hm5 := hm5.fr fm29 (by omega); replace X := X.fr fm29 (by omega); clear fm29; refine C1 Pa (cT (cw_cond_f rfl (cS (C1 Mv ?_)))); refine cC rfl (ghas_f _ _ _ _ (by assumption) (by decide) (by assumption)) ?_; rintro _ wm34 ⟨⟨⟩, ⟨hm32, fm33⟩⟩; have zm35 := fm33.size; clear hm28; replace hm5 := hm5.fr fm33 (by omega); replace X := X.fr fm33 (by omega); clear fm33; refine C1 Pa (cT (cw_cond_f rfl (cS (C1 Mv ?_)))); refine cC rfl (ghas_f _ _ _ _ (by assumption) (by decide) (by assumption)) ?_; rintro _ wm38 ⟨⟨⟩, ⟨hm36, fm37⟩⟩; have zm39 := fm37.size; clear hm32; replace hm5 := hm5.fr fm37 (by omega); replace X := X.fr fm37 (by omega); clear fm37; refine C1 Pa (cT (cw_cond_f rfl (cS (C1 Mv ?_)))); refine cC rfl (ghas_f _ _ _ _ (by assumption) (by decide) (by assumption)) ?_; rintro _ wm42 ⟨⟨⟩, ⟨hm40, fm41⟩⟩; have zm43 := fm41.size; clear hm36; replace hm5 := hm5.fr fm41 (by omega)
       replace X := X.fr fm41 (by omega); clear fm41; refine C1 Pa (cT (cw_cond_f rfl (cw_skip (qw_block_norm (qw_then (cS (C1 Mv ?_))))))); refine cC rfl (gname_c _ _ _ (by assumption)) ?_; rintro _ wm46 ⟨⟨⟩, ⟨hm44, fm45⟩⟩; have zm47 := fm45.size; clear hm40; replace hm5 := hm5.fr fm45 (by omega); replace X := X.fr fm45 (by omega); clear fm45; refine C1 Pa (cT (cw_seq (cS (C1 Mv ?_)))); refine cC rfl (gpeek_c _ _ _ (by assumption)) ?_; rintro _ wm49 ⟨⟨⟩, xm48⟩; have zm50 := xm48.size; replace hm44 := hm44.ext xm48; replace hm5 := hm5.ext xm48; replace X := X.ext xm48; clear xm48; refine C1 V8 (cT (Wna (cw_skip (qw_then (cS (C1 Mv (C1 (pur_build' [_, _, _, _] tabOk zOk rfl rfl rfl rfl) ?_))))))); (refine lw_store' [_, _, _, _] [_, _, _, _] tabOk rfl rfl rfl rfl rfl rfl hm5 rfl rfl ?_; intro wm51 nm52); have hm55 := nm52.blk; have fm53 := nm52.fr; have zm54 := nm52.size; clear nm52 hm5; replace hm44 := hm44.fr fm53 (by omega); replace X := X.fr fm53 (by omega); clear fm53; refine cT (cw_ret (qw_retc rfl tabOk rfl rfl rfl hm55 rfl ?_)); rotate_left 1
      exact rtree_ret sits_nil (by assumption) X
    · clear hdx
      refine calls_in Tryz.func93 Tryz.ntmps93 rfl rfl ?_
      focus
       refine cS ?_; (refine lw_alloc' [_, _, _, _] zOk rfl rfl ?_; intro bn1 wn2 nn3); have hn5 := nn3.blk; have xn6 := nn3.ext; have pn7 := nn3.pos; have zn8 := nn3.size; clear nn3; replace hP := hP.ext xn6; replace X := X.ext xn6; clear xn6; refine cN (C1 Mv ?_); refine cC rfl (gpeek_c _ _ _ (by assumption)) ?_; rintro _ wn10 ⟨⟨⟩, xn9⟩; have zn11 := xn9.size; replace hn5 := hn5.ext xn9; replace hP := hP.ext xn9; replace X := X.ext xn9; clear xn9; refine C1 Pa (cT (cw_seq (cw_block (cS (C1 Mv (C1 Py (C1 V5 (C1 Mv (Gyo (C1 Mv (Gyo ?_))))))))))); refine C1 (pur_sindex tabOk rfl rfl rfl (by omega) (by assumption)) ?_; refine Gyo (C1 V6 (C1 Qyo (C1 Mv (Ono (Ono (Ono (C1 Qno (C1 Pa (cT (cw_cond_f rfl (cS ?_))))))))))); refine C1 Mv ?_; refine cC rfl (ghas_f _ _ _ _ (by assumption) (by decide) (by assumption)) ?_; rintro _ wn14 ⟨⟨⟩, ⟨hn12, fn13⟩⟩; have zn15 := fn13.size; replace hn5 := hn5.fr fn13 (by omega); clear hP; replace X := X.fr fn13 (by omega); clear fn13; refine C1 Pa (cT (cw_cond_f rfl (cS (C1 Mv ?_)))); refine cC rfl (ghas_f _ _ _ _ (by assumption) (by decide) (by assumption)) ?_; rintro _ wn18 ⟨⟨⟩, ⟨hn16, fn17⟩⟩; have zn19 := fn17.size; clear hn12; replace hn5 := hn5.fr fn17 (by omega); replace X := X.fr fn17 (by omega); clear fn17; refine C1 Pa (cT (cw_cond_f rfl (cS (C1 Mv ?_)))); refine cC rfl (ghas_f _ _ _ _ (by assumption) (by decide) (by assumption)) ?_; rintro _ wn22 ⟨⟨⟩, ⟨hn20, fn21⟩⟩; have zn23 := fn21.size; clear hn16; replace hn5 := hn5.fr fn21 (by omega); replace X := X.fr fn21 (by omega)
       clear fn21; refine C1 Pa (cT (cw_cond_f rfl (cS (C1 Mv ?_)))); refine cC rfl (ghas_f _ _ _ _ (by assumption) (by decide) (by assumption)) ?_; rintro _ wn26 ⟨⟨⟩, ⟨hn24, fn25⟩⟩; have zn27 := fn25.size; clear hn20; replace hn5 := hn5.fr fn25 (by omega); replace X := X.fr fn25 (by omega); clear fn25; refine C1 Pa (cT (cw_cond_f rfl (cS (C1 Mv ?_)))); refine cC rfl (ghas_f _ _ _ _ (by assumption) (by decide) (by assumption)) ?_; rintro _ wn30 ⟨⟨⟩, ⟨hn28, fn29⟩⟩; have zn31 := fn29.size; clear hn24; replace hn5 := hn5.fr fn29 (by omega); replace X := X.fr fn29 (by omega); clear fn29; refine C1 Pa (cT (cw_cond_f rfl (cS (C1 Mv ?_)))); refine cC rfl (ghas_f _ _ _ _ (by assumption) (by decide) (by assumption)) ?_; rintro _ wn34 ⟨⟨⟩, ⟨hn32, fn33⟩⟩; have zn35 := fn33.size; clear hn28; replace hn5 := hn5.fr fn33 (by omega); replace X := X.fr fn33 (by omega); clear fn33; refine C1 Pa (cT (cw_cond_f rfl (cS (C1 Mv ?_)))); refine cC rfl (ghas_f _ _ _ _ (by assumption) (by decide) (by assumption)) ?_; rintro _ wn38 ⟨⟨⟩, ⟨hn36, fn37⟩⟩; have zn39 := fn37.size; clear hn32; replace hn5 := hn5.fr fn37 (by omega); replace X := X.fr fn37 (by omega); clear fn37; refine C1 Pa (cT (cw_cond_f rfl (cS (C1 Mv ?_)))); refine cC rfl (ghas_f _ _ _ _ (by assumption) (by decide) (by assumption)) ?_; rintro _ wn42 ⟨⟨⟩, ⟨hn40, fn41⟩⟩; have zn43 := fn41.size; clear hn36; replace hn5 := hn5.fr fn41 (by omega); replace X := X.fr fn41 (by omega); clear fn41; refine C1 Pa (cT (cw_cond_f rfl (cw_skip (qw_block_norm (qw_then (cS (C1 Mv ?_)))))))
       refine cC rfl (gname_c _ _ _ (by assumption)) ?_; rintro _ wn46 ⟨⟨⟩, ⟨hn44, fn45⟩⟩; have zn47 := fn45.size; clear hn40; replace hn5 := hn5.fr fn45 (by omega); replace X := X.fr fn45 (by omega); clear fn45; refine C1 Pa (cT (cw_seq (cS (C1 Mv ?_)))); refine cC rfl (gpeek_c _ _ _ (by assumption)) ?_; rintro _ wn49 ⟨⟨⟩, xn48⟩; have zn50 := xn48.size; replace hn44 := hn44.ext xn48; replace hn5 := hn5.ext xn48; replace X := X.ext xn48; clear xn48; refine C1 V8 (cT (Wna (cw_skip (qw_then (cS (C1 Mv (C1 (pur_build' [_, _, _, _] tabOk zOk rfl rfl rfl rfl) ?_))))))); (refine lw_store' [_, _, _, _] [_, _, _, _] tabOk rfl rfl rfl rfl rfl rfl hn5 rfl rfl ?_; intro wn51 nn52); have hn55 := nn52.blk; have fn53 := nn52.fr; have zn54 := nn52.size; clear nn52 hn5; replace hn44 := hn44.fr fn53 (by omega); replace X := X.fr fn53 (by omega); clear fn53; refine cT (cw_ret (qw_retc rfl tabOk rfl rfl rfl hn55 rfl ?_)); rotate_left 1
      exact rtree_ret sits_nil (by assumption) X
def foundI (t : List UInt8) (lv : Int) (j : Nat) : Int := match binOf t with
 | none => -1
 | some op => if level op = lv ∧ op < 8 + (j : Int) then op - 8 else -1
theorem symbol_bin {t : List UInt8} {op : Int} (h : binOf t = some op) : symbol op = t := by
 unfold binOf at h
 simpa using List.find?_some h
theorem found_yes {t : List UInt8} {lv : Int} {j : Nat} (hj : j < 16) (h : symbol (8 + (j : Int)) = t) (hl : level (8 + (j : Int)) = lv) : foundI t lv (j + 1) = j := by
 unfold foundI
 rw [← h, (opT j hj).2.2]; simp only [hl]
 rw [if_pos ⟨trivial, by omega⟩]; omega
theorem found_lev {t : List UInt8} {lv : Int} {j : Nat} (hj : j < 16) (h : symbol (8 + (j : Int)) = t) (hl : ¬ level (8 + (j : Int)) = lv) : foundI t lv (j + 1) = foundI t lv j := by
 unfold foundI
 rw [← h, (opT j hj).2.2]; simp only; rw [if_neg (fun e => hl e.1), if_neg (fun e => hl e.1)]
theorem found_sym {t : List UInt8} {lv : Int} {j : Nat} (hj : j < 16) (h : ¬ symbol (8 + (j : Int)) = t) : foundI t lv (j + 1) = foundI t lv j := by
 unfold foundI
 cases hb : binOf t with
 | none => rfl
 | some op =>
  simp only; have hs := symbol_bin hb
  have : op ≠ 8 + (j : Int) := fun e => h (by rw [← e]; exact hs)
  by_cases hc : level op = lv ∧ op < 8 + (j : Int)
  · rw [if_pos hc, if_pos ⟨hc.1, by omega⟩]
  · rw [if_neg hc, if_neg (fun e => hc ⟨e.1, by omega⟩)]
theorem found_zero {t : List UInt8} {lv : Int} : foundI t lv 0 = -1 := by
 unfold foundI
 cases hb : binOf t with
 | none => rfl
 | some op =>
  simp only; obtain ⟨-, o1, -⟩ := binOf_ne hb; rw [if_neg (fun e => by omega)]
theorem found_none {t : List UInt8} {lv : Int} (h : binOf t = none) : foundI t lv 16 = -1 := by unfold foundI; rw [h]
theorem found_off {t : List UInt8} {lv op : Int} (h : binOf t = some op) (hl : ¬ level op = lv) : foundI t lv 16 = -1 := by
 unfold foundI; rw [h]; simp only; rw [if_neg (fun e => hl e.1)]
theorem found_on {t : List UInt8} {lv op : Int} (h : binOf t = some op) (hl : level op = lv) : foundI t lv 16 = op - 8 := by
 obtain ⟨-, o1, o2, -⟩ := binOf_ne h
 unfold foundI; rw [h]; simp only; rw [if_pos ⟨hl, by omega⟩]
end Bk
