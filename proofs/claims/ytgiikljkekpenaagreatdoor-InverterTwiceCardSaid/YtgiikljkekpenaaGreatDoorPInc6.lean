/- Texts that the proofs of InverterPrograms, InverterTwice need. No condition. (Part 6 of 7.) -/
import Derived.Test.YtgiikljkekpenaaGreatDoorPInc5
set_option linter.unusedSimpArgs false
set_option linter.unusedVariables false
namespace Bk
open Go Go.RowKit Go.Proofs
theorem vd_fields : (Tryz.prog.fieldsOf 46).toList.map (fun f => (f.name == "_", f.type, f.offset)) = [(false, 9, 0), (false, 5, 1), (false, 3, 2)] := by kernel_rfl
theorem vd_under : Tryz.prog.underlying 46 = some (.struct (Tryz.prog.fieldsOf 46)) := by kernel_rfl
theorem vd_stood : Tryz.prog.stoodInHeld 46 = false := by kernel_rfl
theorem vd_guard : Tryz.prog.eqGuardType Tryz.prog.depth 46 = false := by kernel_rfl
theorem eqFields_same {P : Program} {d : Nat} {xs : Array Value} {w : World} : ∀ (fs : List Field), (∀ f ∈ fs, ∃ v, (part f.type xs f.offset).run P w = .ok v w ∧ (Op.equalIn d f.type v v).run P w = .ok true w) → (Op.eqFields d xs xs fs).run P w = .ok true w
 | [], _ => by simp [Op.eqFields]
 | f :: fs, h => by
  obtain ⟨v, h1, h2⟩ := h f List.mem_cons_self; have ih := eqFields_same (P := P) (d := d) (xs := xs) (w := w) fs (fun g hg => h g (List.mem_cons_of_mem _ hg))
  unfold Op.eqFields
  split
  · simp only [Sem.run_bind, h1, h2, Result.andThen_ok, Bool.not_true, Bool.false_eq_true, if_false, ih]
  · exact ih
theorem run_part {P : Program} {tab : Tab} {t sz off : Nat} {s : Sk} {cs : List Value} {v : Value} (T : TabOk P tab) (ht : lookT tab t = some (s, sz)) (hs : s.agg = false) (hv : cs[off]? = some v) (w : World) : (part t cs.toArray off).run P w = .ok v w := by
 simp [part, Sem.run_bind, run_isAgg (T _ _ _ ht), hs, Result.andThen, hv]
theorem run_vd_same (v : VD) (w : World) : (Op.equalIn 10000 46 v.val v.val).run Tryz.prog w = .ok true w := by
 rw [show (10000 : Nat) = 9999 + 1 from rfl, run_equalIn_agg w 9999 _ _ _ vd_under vd_stood]; refine eqFields_same _ (fun f hf => ?_); have hm : (f.name == "_", f.type, f.offset) ∈ (Tryz.prog.fieldsOf 46).toList.map (fun f => (f.name == "_", f.type, f.offset)) := List.mem_map.2 ⟨f, hf, rfl⟩; rw [vd_fields] at hm; simp only [List.mem_cons, List.not_mem_nil, or_false, Prod.mk.injEq] at hm
 rcases hm with ⟨-, h1, h2⟩ | ⟨-, h1, h2⟩ | ⟨-, h1, h2⟩
 · rw [h1, h2]
   refine ⟨str v.name, run_part (cs := v.cells) tabOk rfl rfl rfl w, ?_⟩
   rw [run_equalIn_string w 9998 _ _ _ (show Tryz.prog.underlying 9 = some .string from (tabOk 9 .str 1 rfl).under)]; simp
 · rw [h1, h2]
   refine ⟨.int .u8 v.kind, run_part (cs := v.cells) tabOk rfl rfl rfl w, ?_⟩
   rw [run_equalIn_int w 9998 _ _ .u8 _ _ (show Tryz.prog.underlying 5 = some (.int .u8) from (tabOk 5 (.int .u8) 1 rfl).under)]; simp
 · rw [h1, h2]
   refine ⟨.int .i64 v.len, run_part (cs := v.cells) tabOk rfl rfl rfl w, ?_⟩
   rw [run_equalIn_int w 9998 _ _ .i64 _ _ (show Tryz.prog.underlying 3 = some (.int .i64) from (tabOk 3 (.int .i64) 1 rfl).under)]; simp
theorem pur_vdneq {n : Nat} {l : Sl} {S : World → Prop} {ty t' : TypeId} {x y : Operand} {v : VD} (hx : ev l x = some v.val) (hy : ev l y = some v.val) : Pur Tryz.prog n l S (.binOp .neq 46 x y t') ty (.bool false) := by
 unfold Pur
 intro a w dst pos after g ha _; have e1 := run_eqGuard_agg (P := Tryz.prog) w .neq 46 x y v.cells.toArray v.cells.toArray vd_guard
 have e2 : (binOp .neq 46 v.val v.val).run Tryz.prog w = .ok (.bool false) w := by
  rw [run_neq_struct, run_vd_same]; rfl
 simp only [execOp, ha.ev hx, ha.ev hy, Sem.run_bind, e1, e2, Result.andThen_ok, Sem.run_pure]
end Bk
namespace Bk
open Go Go.RowKit Go.Proofs
attribute [local irreducible] Go.Calls
theorem eqb_same (t : Nd) : t.eqb t = true := (eqb_iff t t).2 rfl
set_option maxRecDepth 100000 in
set_option maxHeartbeats 4000000 in
theorem vdsEqual_t (l : List VD) (S S' : Nat → Prop) (a a' : Option Addr) (c c' : Nat) (w : World) (hl : l.length ≤ 1000000000) (hs : VDs S w l a) (hs' : VDs S' w l a') :
 Calls Tryz.prog 39 #[.slice a l.length c, .slice a' l.length c'] w fun e w' => e = .returned (.bool true) ∧ Ext w w' := by
 have X := Ext.refl w; refine calls_in Tryz.func39 Tryz.ntmps39 rfl rfl ?_
 focus
  refine cS (cA rfl rfl (cT (cw_seq (cS (cM rfl rfl (lw_pure (pur_len_slice tabOk rfl rfl) rfl (cM rfl rfl (lw_pure (pur_len_slice tabOk rfl rfl) rfl (lw_pure (pur_neq rfl rfl) rfl (cT ?_)))))))))); refine cw_no rfl (by omega) ?_; refine cw_skip (qw_then (cw_seq (cS (cM rfl rfl (lw_pure (pur_len_slice tabOk rfl rfl) rfl (cM rfl rfl (cT (cw_block ?_)))))))); rotate_left 1
 refine cw_loop (ι := Nat) (fun j => [(0, .slice a l.length c), (1, .slice a' l.length c'), (12, .int .i64 l.length), (13, .int .i64 j)]) (fun j w' => VDs S w' l a ∧ VDs S' w' l a' ∧ Ext w w' ∧ j ≤ l.length) (fun j => l.length - j) 0 (by (refine sub_cons rfl ?_; refine sub_cons rfl ?_; refine sub_cons rfl ?_; refine sub_cons rfl ?_; exact sub_nil)) ⟨hs, hs', X, Nat.zero_le _⟩ ?_; rintro j w1 ⟨hs, hs', X, hj⟩
 by_cases hlt : j < l.length
 · obtain ⟨kb, ko, rfl, -, hk⟩ := hs.get (by omega)
   obtain ⟨kb', ko', rfl, -, hk'⟩ := hs'.get (by omega); have r1 : Row w1 ⟨kb, ko + j * 3, none⟩ l[j].cells := hk j _ (List.getElem?_eq_getElem hlt); have r2 : Row w1 ⟨kb', ko' + j * 3, none⟩ l[j].cells := hk' j _ (List.getElem?_eq_getElem hlt); clear hk hk'
   generalize l[j] = x at *
   focus
    refine cS (lw_pure (pur_lss rfl rfl) rfl (cT (cw_seq ?_))); refine cw_yes rfl (by omega) ?_; refine cw_skip (qw_then (cw_seq (cw_block (cS (cM rfl rfl (cA rfl rfl (cT (cw_seq ?_)))))))); (refine cw_tdraw (fun wz => Ext w1 wz) 8 (.pure 0 (.pure 1 (.pure 2 (.pure 3 (.pure 4 (.pure 5 (.pure 6 (.pure 7 .tail)))))))) mixed (by kernel_rfl) (panicOk_then (panicOk_block (panicOk_then (panicOk_then (panicOk_block (panicOk_then panicOk_body)))))) ?_; intro wa1 xa2 _); have qsa3 : (fun wz => Ext w1 wz) wa1 := xa2; simp only at qsa3; have d_hs := hs; have d_hs' := hs'; have d_r1 := r1; have d_r2 := r2; have za4 := xa2.size; replace X := X.ext xa2; replace hs := hs.ext xa2; replace hs' := VDs.ext hs' xa2; replace r1 := r1.ext xa2; replace r2 := r2.ext xa2; clear xa2; refine ⟨qsa3, ?_⟩; refine tw_pure rfl (pur_move rfl) rfl (tw_pure rfl (pur_move rfl) rfl ?_); refine tw_pure rfl (pur_indexAddr tabOk rfl rfl rfl rfl (by omega) (by omega)) rfl ?_; refine tw_pure rfl (pur_loads' tabOk rfl rfl rfl (fun wz hz => (Row.ext d_r1 hz)) rfl) rfl (tw_pure rfl (pur_move rfl) rfl (tw_pure rfl (pur_move rfl) rfl ?_)); refine tw_pure rfl (pur_indexAddr tabOk rfl rfl rfl rfl (by omega) (by omega)) rfl ?_; refine tw_pure rfl (pur_loads' tabOk rfl rfl rfl (fun wz hz => (Row.ext d_r2 hz)) rfl) rfl ?_; clear qsa3 d_hs d_hs' d_r1 d_r2; refine tw_tail rfl (lw_pure (pur_vdneq (v := x) rfl rfl) rfl (cT (cw_cond_f rfl (cw_skip (qw_block_norm (qw_then (cw_region ?_))))))); refine lw_pure (pur_add rfl rfl (IntWalk.i64_in _ (by omega))) rfl ?_
    refine cM rfl rfl (lw_nil ?_); rotate_left 1
   exact qw_round (j + 1) (by (refine sub_cons rfl ?_; refine sub_cons rfl ?_; refine sub_cons rfl ?_; refine sub_cons rfl ?_; exact sub_nil)) ⟨hs, hs', X, by omega⟩ (by omega)
 · focus
    refine cS (lw_pure (pur_lss rfl rfl) rfl (cT (cw_seq ?_))); refine cw_no rfl (by omega) ?_; refine cw_exit (qw_then_exit (qw_then_exit (qw_block_exit (qw_then (cS (cA rfl rfl (cT (cw_ret (qw_ret1 rfl rfl ?_))))))))); rotate_left 1
   exact ⟨rfl, X⟩
theorem equalA_t (t : Nd) (hz : t.size ≤ 1000000) (S S' : Nat → Prop) (a a' : Option Addr) (c c' : Nat) (w : World) (hs : t.sits S w a) (hs' : t.sits S' w a') : Calls Tryz.prog 12 #[t.val a c, t.val a' c'] w fun e w' => e = .returned (.bool true) ∧ Ext w w' := by
 have := Equal_b (t.size + 1) t t S S' a a' c c' w (by omega) (by omega) hs hs'
 rw [eqb_same] at this; exact this
set_option maxRecDepth 100000 in
set_option maxHeartbeats 4000000 in
theorem sameProc_t (p : PD) (S S' : Nat → Prop) (pa pa' ba ba' : Option Addr) (pc pc' bc bc' : Nat) (w : World) (hp : p.params.length ≤ 1000000) (hb : p.body.size ≤ 1000000) (k1 : VDs S w p.params pa) (k2 : VDs S' w p.params pa') (k3 : p.body.sits S w ba) (k4 : p.body.sits S' w ba') :
 Calls Tryz.prog 41 #[.agg (p.cells pa pc ba bc).toArray, .agg (p.cells pa' pc' ba' bc').toArray] w fun e w' => e = .returned (.bool true) ∧ Ext w w' := by
 have X := Ext.refl w; have HV := Lib.hid (vdsEqual_t p.params S S' pa pa' pc pc'); have HE := Lib.hid (equalA_t p.body hb S S' ba ba' bc bc'); refine calls_in Tryz.func41 Tryz.ntmps41 rfl rfl ?_
 focus
  refine cS ?_; (refine lw_box' [_, _, _, _, _, _] rfl rfl rfl ?_; intro b1 w2 n3); have h4 := n3.blk; have x5 := n3.ext; have p6 := n3.pos; have z7 := n3.size; clear n3; replace k1 := k1.ext x5; replace k2 := k2.ext x5; replace k3 := Nd.sits.ext k3 x5; replace k4 := Nd.sits.ext k4 x5; replace X := X.ext x5; clear x5; (refine lw_box' [_, _, _, _, _, _] rfl rfl rfl ?_; intro b8 w9 n10); have h11 := n10.blk; have x12 := n10.ext; have p13 := n10.pos; have z14 := n10.size; clear n10; replace h4 := h4.ext x12; replace k1 := k1.ext x12; replace k2 := k2.ext x12; replace k3 := Nd.sits.ext k3 x12; replace k4 := Nd.sits.ext k4 x12; replace X := X.ext x12; clear x12; refine cA rfl rfl (cN (lw_pure (pur_fieldAddr0 tabOk rfl rfl rfl) rfl (lw_load_b tabOk rfl rfl rfl h4 rfl rfl (lw_pure (pur_fieldAddr0 tabOk rfl rfl rfl) rfl (lw_load_b tabOk rfl rfl rfl h11 rfl rfl (lw_pure (pur_seql rfl rfl) rfl (cM rfl rfl (lw_on rfl rfl rfl (gd_tt (rfl)) (lw_pure (pur_fieldAddr tabOk rfl rfl rfl) rfl (lw_on rfl rfl rfl (gd_tt (rfl)) (lw_load_b tabOk rfl rfl rfl h4 rfl rfl ?_))))))))))); refine lw_on rfl rfl rfl (gd_tt (rfl)) (lw_pure (pur_fieldAddr tabOk rfl rfl rfl) rfl (lw_on rfl rfl rfl (gd_tt (rfl)) (lw_load_b tabOk rfl rfl rfl h11 rfl rfl (lw_on rfl rfl rfl (gd_tt (rfl)) ?_)))); refine cC (by kernel_rfl) rfl (HV.out _ (by omega) (by assumption) (by assumption)) rfl ?_; rintro _ w16 ⟨⟨⟩, x15⟩; have z17 := x15.size; replace h11 := h11.ext x15; replace h4 := h4.ext x15; replace k1 := k1.ext x15; replace k2 := k2.ext x15
  replace k3 := Nd.sits.ext k3 x15; replace k4 := Nd.sits.ext k4 x15; replace X := X.ext x15; clear x15; refine lw_pure (pur_pick_yes rfl rfl (rfl)) rfl (cM rfl rfl (lw_on rfl rfl rfl (rfl) (lw_pure (pur_fieldAddr tabOk rfl rfl rfl) rfl (lw_on rfl rfl rfl (rfl) (lw_loads_b' [_, _, _, _] tabOk rfl rfl rfl h4 rfl rfl rfl (lw_on rfl rfl rfl (rfl) (lw_pure (pur_fieldAddr tabOk rfl rfl rfl) rfl (lw_on rfl rfl rfl (rfl) (lw_loads_b' [_, _, _, _] tabOk rfl rfl rfl h11 rfl rfl rfl (lw_on rfl rfl rfl (rfl) ?_)))))))))); refine cC (by kernel_rfl) rfl (HE.out _ (by assumption) (by assumption)) rfl ?_; rintro _ w19 ⟨⟨⟩, x18⟩; have z20 := x18.size; replace h11 := h11.ext x18; replace h4 := h4.ext x18; replace k1 := k1.ext x18; replace k2 := k2.ext x18; replace k3 := Nd.sits.ext k3 x18; replace k4 := Nd.sits.ext k4 x18; replace X := X.ext x18; clear x18; refine lw_pure (pur_pick_t rfl rfl rfl) rfl (cA rfl rfl (cT (cw_ret (qw_ret1 rfl rfl ?_)))); rotate_left 1
 exact ⟨rfl, X⟩
theorem PDs.ltA {S : Nat → Prop} {w : World} {l : List PD} {a : Option Addr} (h : PDs S w l a) : PDs (· < w.heap.size) w l a := by
 rcases h with h | ⟨b, o, h1, h2, h3⟩
 · exact Or.inl h
 · cases l with
   | nil => exact Or.inl rfl
   | cons v r =>
    obtain ⟨_, _, _, _, hr, -, -⟩ := h3 0 v rfl; refine Or.inr ⟨b, o, h1, cell_lt (Row.at0 hr rfl), fun i x hi => ?_⟩; obtain ⟨pa, pc, ba, bc, hr, hv, hs⟩ := h3 i x hi
    exact ⟨pa, pc, ba, bc, hr, hv.lt2.wide (fun _ h => h.2), sits_ltA _ _ hs⟩
structure PG.few (g : PG) : Prop where
 nv : g.vars.length ≤ 1000000
 np : g.procs.length ≤ 1000000
 main : g.main.size ≤ 1000000
 procs : ∀ p ∈ g.procs, p.params.length ≤ 1000000 ∧ p.body.size ≤ 1000000
set_option maxRecDepth 100000 in
set_option maxHeartbeats 4000000 in
theorem pdsEqual_t (l : List PD) (S S' : Nat → Prop) (a a' : Option Addr) (c c' : Nat) (w : World) (hl : l.length ≤ 1000000) (hf : ∀ p ∈ l, p.params.length ≤ 1000000 ∧ p.body.size ≤ 1000000) (hs : PDs S w l a) (hs' : PDs S' w l a') :
 Calls Tryz.prog 40 #[.slice a l.length c, .slice a' l.length c', .func (.func 41) #[] #[]] w fun e w' => e = .returned (.bool true) ∧ Ext w w' := by
 have X := Ext.refl w; refine calls_in Tryz.func40 Tryz.ntmps40 rfl rfl ?_
 focus
  refine cS (cA rfl rfl (cT (cw_seq (cS (cM rfl rfl (lw_pure (pur_len_slice tabOk rfl rfl) rfl (cM rfl rfl (lw_pure (pur_len_slice tabOk rfl rfl) rfl (lw_pure (pur_neq rfl rfl) rfl (cT ?_)))))))))); refine cw_no rfl (by omega) ?_; refine cw_skip (qw_then (cw_seq (cS (cM rfl rfl (lw_pure (pur_len_slice tabOk rfl rfl) rfl (cM rfl rfl (cT (cw_block ?_)))))))); rotate_left 1
 replace hs := hs.ltA; replace hs' := hs'.ltA; refine cw_loop (ι := Nat) (fun j => [(1, .slice a' l.length c'), (2, .func (.func 41) #[] #[]), (15, .slice a l.length c), (16, .int .i64 l.length), (17, .int .i64 j)])
  (fun j w' => j ≤ l.length ∧ PDs (· < w.heap.size) w' l a ∧ PDs (· < w.heap.size) w' l a' ∧ Ext w w') (fun j => l.length - j) 0 (by (refine sub_cons rfl ?_; refine sub_cons rfl ?_; refine sub_cons rfl ?_; refine sub_cons rfl ?_; refine sub_cons rfl ?_; exact sub_nil)) ⟨Nat.zero_le _, hs, hs', X⟩ ?_
 clear hs hs' X; rintro j w1 ⟨hj, hs, hs', X⟩
 by_cases hlt : j < l.length
 · have hsz := X.size
   obtain ⟨kb, ko, rfl, kS, hk⟩ := hs.get (by omega); obtain ⟨kb', ko', rfl, kS', hk'⟩ := hs'.get (by omega); obtain ⟨xa, xc, ya, yc, r1, v1, s1⟩ := hk j _ (List.getElem?_eq_getElem hlt); obtain ⟨xa', xc', ya', yc', r2, v2, s2⟩ := hk' j _ (List.getElem?_eq_getElem hlt); obtain ⟨p1, p2⟩ := hf _ (List.getElem_mem hlt); clear hk hk'
   generalize l[j] = x at *
   have HP := Lib.hid (sameProc_t x (· < w.heap.size) (· < w.heap.size) xa xa' ya ya' xc xc' yc yc' · p1 p2)
   focus
    refine cS (lw_pure (pur_lss rfl rfl) rfl (cT (cw_seq ?_))); refine cw_yes rfl (by omega) ?_; refine cw_skip (qw_then (cw_seq (cw_block (cS (cM rfl rfl ?_))))); refine lw_pure (pur_indexAddr tabOk rfl rfl rfl rfl (by omega) (by omega)) rfl ?_; refine lw_loads_r0 tabOk rfl rfl rfl r1 rfl rfl ?_; (refine lw_alloc' [_, _, _, _, _, _] zOk rfl rfl ?_; intro ba1 wa2 na3); have ha5 := na3.blk; have xa6 := na3.ext; have pa7 := na3.pos; have za8 := na3.size; clear na3; replace X := X.ext xa6; replace hs := hs.ext xa6; replace hs' := PDs.ext hs' xa6; replace r1 := r1.ext xa6; replace v1 := v1.ext xa6; replace s1 := Nd.sits.ext s1 xa6; replace r2 := r2.ext xa6; replace v2 := v2.ext xa6; replace s2 := Nd.sits.ext s2 xa6; clear xa6; refine cA rfl rfl ?_; (refine lw_store' [_, _, _, _, _, _] [_, _, _, _, _, _] tabOk rfl rfl rfl rfl rfl rfl ha5 rfl rfl ?_; intro wa9 na10); have ha13 := na10.blk; have fa11 := na10.fr; have za12 := na10.size; clear na10 ha5; replace X := X.fr fa11 (by omega); replace hs := hs.fr fa11 (by omega); replace hs' := PDs.fr hs' fa11 (by omega); replace r1 := Row.fr r1 fa11 (by simp only; omega); replace v1 := v1.fr fa11 (by omega); replace s1 := Nd.sits.fr s1 fa11 (by omega); replace r2 := Row.fr r2 fa11 (by simp only; omega); replace v2 := v2.fr fa11 (by omega); replace s2 := Nd.sits.fr s2 fa11 (by omega); clear fa11; refine cN (cM rfl rfl (cM rfl rfl ?_)); refine lw_pure (pur_indexAddr tabOk rfl rfl rfl rfl (by omega) (by omega)) rfl ?_; refine lw_loads_r0 tabOk rfl rfl rfl r2 rfl rfl ?_
    (refine lw_alloc' [_, _, _, _, _, _] zOk rfl rfl ?_; intro ba14 wa15 na16); (refine lw_init' [_, _, _, _, _, _] tabOk rfl rfl rfl rfl rfl rfl na16 rfl ?_; clear na16; clear wa15; intro wa17 na16); have ha18 := na16.blk; have xa19 := na16.ext; have pa20 := na16.pos; have za21 := na16.size; clear na16; replace ha13 := ha13.ext xa19; replace X := X.ext xa19; replace hs := hs.ext xa19; replace hs' := PDs.ext hs' xa19; replace r1 := r1.ext xa19; replace v1 := v1.ext xa19; replace s1 := Nd.sits.ext s1 xa19; replace r2 := r2.ext xa19; replace v2 := v2.ext xa19; replace s2 := Nd.sits.ext s2 xa19; clear xa19; refine cN (cM rfl rfl (lw_loads_b' [_, _, _, _, _, _] tabOk rfl rfl rfl ha13 rfl rfl rfl (lw_loads_b' [_, _, _, _, _, _] tabOk rfl rfl rfl ha18 rfl rfl rfl ?_))); refine lw_does (does_callv (fi := []) (ca := []) (by kernel_rfl) rfl rfl (HP.out _ (by assumption) (by assumption) (by assumption) (by assumption)) (fun _ _ h => ⟨_, h.1⟩)) rfl ?_ (fun _ h => h); rintro va22 wa23 ⟨⟨⟩, xa24⟩; have za25 := xa24.size; replace ha18 := ha18.ext xa24; replace ha13 := ha13.ext xa24; replace X := X.ext xa24; replace hs := hs.ext xa24; replace hs' := PDs.ext hs' xa24; replace r1 := r1.ext xa24; replace v1 := v1.ext xa24; replace s1 := Nd.sits.ext s1 xa24; replace r2 := r2.ext xa24; replace v2 := v2.ext xa24; replace s2 := Nd.sits.ext s2 xa24; clear xa24; refine lw_pure (pur_not rfl) rfl (cT (cw_cond_f rfl (cw_skip (qw_block_norm (qw_then (cw_region ?_)))))); refine lw_pure (pur_add rfl rfl (IntWalk.i64_in _ (by omega))) rfl ?_
    refine cM rfl rfl (lw_nil ?_); rotate_left 1
   exact qw_round (j + 1) (by (refine sub_cons rfl ?_; refine sub_cons rfl ?_; refine sub_cons rfl ?_; refine sub_cons rfl ?_; refine sub_cons rfl ?_; exact sub_nil)) ⟨by omega, hs, hs', X⟩ (by omega)
 · focus
    refine cS (lw_pure (pur_lss rfl rfl) rfl (cT (cw_seq ?_))); refine cw_no rfl (by omega) ?_; refine cw_exit (qw_then_exit (qw_then_exit (qw_block_exit (qw_then (cS (cA rfl rfl (cT (cw_ret (qw_ret1 rfl rfl ?_))))))))); rotate_left 1
   exact ⟨rfl, X⟩
set_option maxRecDepth 100000 in
set_option maxHeartbeats 4000000 in
theorem SameA_t (g : PG) (S S' : Nat → Prop) (va pa ma va' pa' ma' : Option Addr) (vc pc mc vc' pc' mc' : Nat) (w : World) (hg : g.few) (hs : g.sits S w va pa ma) (hs' : g.sits S' w va' pa' ma') :
 Calls Tryz.prog 19 #[.agg (g.cells va vc pa pc ma mc).toArray, .agg (g.cells va' vc' pa' pc' ma' mc').toArray] w fun e w' => e = .returned (.bool true) ∧ Ext w w' := by
 have X := Ext.refl w; obtain ⟨nv, np, hm, hp⟩ := hg; obtain ⟨hv, hq, hmm⟩ := hs; obtain ⟨hv', hq', hmm'⟩ := hs'; have HV := Lib.hid (vdsEqual_t g.vars S S' va va' vc vc'); have HP := Lib.hid (pdsEqual_t g.procs S S' pa pa' pc pc' · np hp); have HE := Lib.hid (equalA_t g.main hm S S' ma ma' mc mc'); clear hp; refine calls_in Tryz.func19 Tryz.ntmps19 rfl rfl ?_
 focus
  refine cS ?_; (refine lw_box' [_, _, _, _, _, _] rfl rfl rfl ?_; intro b1 w2 n3); have h4 := n3.blk; have x5 := n3.ext; have p6 := n3.pos; have z7 := n3.size; clear n3; replace X := X.ext x5; replace hv := hv.ext x5; replace hq := hq.ext x5; replace hmm := Nd.sits.ext hmm x5; replace hv' := VDs.ext hv' x5; replace hq' := PDs.ext hq' x5; replace hmm' := Nd.sits.ext hmm' x5; clear x5; (refine lw_box' [_, _, _, _, _, _] rfl rfl rfl ?_; intro b8 w9 n10); have h11 := n10.blk; have x12 := n10.ext; have p13 := n10.pos; have z14 := n10.size; clear n10; replace h4 := h4.ext x12; replace X := X.ext x12; replace hv := hv.ext x12; replace hq := hq.ext x12; replace hmm := Nd.sits.ext hmm x12; replace hv' := VDs.ext hv' x12; replace hq' := PDs.ext hq' x12; replace hmm' := Nd.sits.ext hmm' x12; clear x12; refine cA rfl rfl (cN (lw_pure (pur_fieldAddr0 tabOk rfl rfl rfl) rfl (lw_load_b tabOk rfl rfl rfl h4 rfl rfl (lw_pure (pur_fieldAddr0 tabOk rfl rfl rfl) rfl (lw_load_b tabOk rfl rfl rfl h11 rfl rfl ?_))))); refine cC (by kernel_rfl) rfl (HV.out _ (by omega) (by assumption) (by assumption)) rfl ?_; rintro _ w16 ⟨⟨⟩, x15⟩; have z17 := x15.size; replace h11 := h11.ext x15; replace h4 := h4.ext x15; replace X := X.ext x15; replace hv := hv.ext x15; replace hq := hq.ext x15; replace hmm := Nd.sits.ext hmm x15; replace hv' := VDs.ext hv' x15; replace hq' := PDs.ext hq' x15; replace hmm' := Nd.sits.ext hmm' x15; clear x15; refine cM rfl rfl (lw_on rfl rfl rfl (rfl) (lw_pure (pur_fieldAddr tabOk rfl rfl rfl) rfl (lw_on rfl rfl rfl (rfl) (lw_load_b tabOk rfl rfl rfl h4 rfl rfl (lw_on rfl rfl rfl (rfl) (lw_pure (pur_fieldAddr tabOk rfl rfl rfl) rfl (lw_on rfl rfl rfl (rfl) (lw_load_b tabOk rfl rfl rfl h11 rfl rfl (lw_on rfl rfl rfl (rfl) ?_)))))))))
  refine cC (by kernel_rfl) rfl (HP.out _ (by assumption) (by assumption)) rfl ?_; rintro _ w19 ⟨⟨⟩, x18⟩; have z20 := x18.size; replace h11 := h11.ext x18; replace h4 := h4.ext x18; replace X := X.ext x18; replace hv := hv.ext x18; replace hq := hq.ext x18; replace hmm := Nd.sits.ext hmm x18; replace hv' := VDs.ext hv' x18; replace hq' := PDs.ext hq' x18; replace hmm' := Nd.sits.ext hmm' x18; clear x18; refine lw_pure (pur_pick_t rfl rfl rfl) rfl (cM rfl rfl (lw_on rfl rfl rfl (rfl) (lw_pure (pur_fieldAddr tabOk rfl rfl rfl) rfl (lw_on rfl rfl rfl (rfl) (lw_loads_b' [_, _, _, _] tabOk rfl rfl rfl h4 rfl rfl rfl (lw_on rfl rfl rfl (rfl) (lw_pure (pur_fieldAddr tabOk rfl rfl rfl) rfl (lw_on rfl rfl rfl (rfl) (lw_loads_b' [_, _, _, _] tabOk rfl rfl rfl h11 rfl rfl rfl (lw_on rfl rfl rfl (rfl) ?_)))))))))); refine cC (by kernel_rfl) rfl (HE.out _ (by assumption) (by assumption)) rfl ?_; rintro _ w22 ⟨⟨⟩, x21⟩; have z23 := x21.size; replace h11 := h11.ext x21; replace h4 := h4.ext x21; replace X := X.ext x21; replace hv := hv.ext x21; replace hq := hq.ext x21; replace hmm := Nd.sits.ext hmm x21; replace hv' := VDs.ext hv' x21; replace hq' := PDs.ext hq' x21; replace hmm' := Nd.sits.ext hmm' x21; clear x21; refine lw_pure (pur_pick_t rfl rfl rfl) rfl (cA rfl rfl (cT (cw_ret (qw_ret1 rfl rfl ?_)))); rotate_left 1
 exact ⟨rfl, X⟩
end Bk
namespace Bk
open Go
def VD.ok (v : VD) : Bool := isName v.name && if v.kind = 1 ∨ v.kind = 3 then v.len == 0 else if v.kind = 2 then decide (1 ≤ v.len) && decide (v.len ≤ 16) else false
def allOk (l : List VD) : Bool := l.all VD.ok
mutual
def Nd.lim : Nd → Int → Int → Bool × Int
 | .mk _ _ _ l, d, m => if d = 0 ∨ m = 0 then (false, m) else rowLim l (d - 1) (m - 1)
def rowLim : List Nd → Int → Int → Bool × Int
 | [], _, m => (true, m)
 | t :: r, d, m => if (t.lim d m).1 then rowLim r d (t.lim d m).2 else (false, (t.lim d m).2)
end
def bodyOk (t : Nd) : Bool := (t.lim 80 2000).1 && t.isBlock
def PD.ok (p : PD) : Bool := isName p.name && decide (p.params.length ≤ 8) && allOk p.params && bodyOk p.body
def PG.ok (g : PG) : Bool := decide (g.vars.length ≤ 32) && decide (g.procs.length ≤ 64) && allOk g.vars && g.procs.all PD.ok && bodyOk g.main
end Bk
namespace Bk
open Go Go.RowKit Go.Proofs
structure VD.wf (v : VD) : Prop where
 name : v.name.length ≤ 9223372036854775807
 k0 : 0 ≤ v.kind
 k1 : v.kind ≤ 255
 l0 : -9223372036854775808 ≤ v.len
 l1 : v.len ≤ 9223372036854775807
theorem allOk_false {l : List VD} {j : Nat} (h : j < l.length) (hk : l[j].ok = false) : allOk l = false := by
 unfold allOk
 rw [List.all_eq_false]
 exact ⟨l[j], List.getElem_mem h, by simp [hk]⟩
theorem allOk_true {l : List VD} (h : ∀ j (hj : j < l.length), l[j].ok = true) : allOk l = true := by
 unfold allOk
 rw [List.all_eq_true]; intro x hx; obtain ⟨i, hi, rfl⟩ := List.mem_iff_getElem.1 hx
 exact h i hi
set_option maxRecDepth 100000 in
set_option maxHeartbeats 1000000 in
theorem declared_c (l : List VD) (S : Nat → Prop) (a : Option Addr) (c : Nat) (w : World) (hl : l.length ≤ 9223372036854775807) (hwf : ∀ v ∈ l, v.wf) (hs : VDs S w l a) :
 Calls Tryz.prog 36 #[.slice a l.length c] w fun e w' => e = .returned (.bool (allOk l)) ∧ Ext w w' := by
 refine calls_in Tryz.func36 Tryz.ntmps36 rfl rfl ?_; (refine cw_seq ?_; refine cw_region ?_; (refine lw_is ?_; refine lw_pure (by exact pur_assign rfl) rfl ?_); refine lw_nil ?_; refine qw_then ?_; refine cw_seq ?_; refine cw_seq ?_; refine cw_region ?_; (refine lw_is ?_; refine lw_pure (by exact pur_move rfl) rfl ?_); (refine lw_is ?_; refine lw_pure (by exact pur_len_slice tabOk rfl rfl) rfl ?_); (refine lw_is ?_; refine lw_pure (by exact pur_move rfl) rfl ?_); refine lw_nil ?_; refine qw_then ?_; refine cw_block ?_); refine cw_loop (ι := Nat) (fun j => [(7, .int .i64 j), (6, .int .i64 l.length), (5, .slice a l.length c)]) (fun j w' => Ext w w' ∧ j ≤ l.length ∧ ∀ i (hi : i < l.length), i < j → l[i].ok = true) (fun j => l.length - j) 0 (by (refine sub_cons rfl ?_; refine sub_cons rfl ?_; refine sub_cons rfl ?_; exact sub_nil)) ⟨Ext.refl _, by omega, by omega⟩ ?_; rintro j w1 ⟨x1, hj, hall⟩
 have HA := Lib.hid hall; clear hall
 by_cases hlt : j < l.length
 · obtain ⟨kb, ko, rfl, -, hkid⟩ := (hs.ext x1).get (by omega)
   have rx : Row w1 ⟨kb, ko + j * 3, none⟩ l[j].cells := hkid j l[j] (List.getElem?_eq_getElem hlt); have wf := hwf l[j] (List.getElem_mem hlt); have wf1 := wf.name; have HF : l[j].ok = false → allOk l = false := allOk_false hlt; have HN := Lib.hid HF; clear HF hkid
   generalize hv : l[j] = v at *
   have HE := Lib.hid hv; clear hv
   (refine cw_seq ?_; refine cw_region ?_; (refine lw_is ?_; refine lw_pure (by exact pur_lss rfl rfl) rfl ?_); refine lw_nil ?_; refine qw_then ?_; refine cw_seq ?_; (refine cw_is ?_; refine cw_yes rfl (by omega) ?_); refine cw_skip ?_; refine qw_then ?_; refine cw_seq ?_; refine cw_block ?_; refine cw_seq ?_; refine cw_region ?_; (refine lw_is ?_; refine lw_pure (by exact pur_indexAddr tabOk rfl rfl rfl rfl (by omega) (by omega)) rfl ?_); (refine lw_is ?_; refine lw_pure (by exact pur_loads' tabOk rfl rfl rfl (by exact fun wz hz => by (try subst hz); exact (by assumption)) (by rfl)) rfl ?_)); refine lw_alloc zOk rfl rfl ?_; intro b2 w2 hn2; refine lw_init tabOk rfl rfl rfl rfl rfl rfl (hn2) rfl ?_; clear hn2 w2; intro w2 hn2; have h2 := hn2.blk; have x2 := hn2.ext; (refine lw_nil ?_; refine qw_then ?_; refine cw_seq ?_; refine cw_seq ?_; refine cw_region ?_; (refine lw_is ?_; refine lw_pure (by exact pur_fieldAddr0 tabOk rfl rfl rfl) rfl ?_); (refine lw_is ?_; refine lw_pure (by exact pur_load tabOk rfl rfl rfl (by exact fun wz hz => by (try subst hz); exact (Blk.cell (by assumption) (by rfl)))) rfl ?_)); refine cC (by kernel_rfl) rfl (Name_c v.name _ wf1) rfl ?_; rintro _ w3 ⟨⟨⟩, x3⟩; have xx3 : Ext w w3 := (by refine Ext.trans ?_ (by assumption); refine Ext.trans ?_ (by assumption); assumption); have h3 := h2.ext x3
   cases hnm : isName v.name
   · try rw [hnm]
     ((refine lw_is ?_; refine lw_pure (by exact pur_not rfl) rfl ?_); refine lw_nil ?_; refine qw_then ?_; (refine cw_is ?_; refine cw_bt rfl (by rfl) ?_); refine cw_seq ?_; refine cw_region ?_; (refine lw_is ?_; refine lw_pure (by exact pur_assign rfl) rfl ?_); refine lw_nil ?_; refine qw_then ?_; refine cw_ret ?_; refine qw_then_ret ?_; refine qw_block_ret ?_; refine qw_then_ret ?_; refine qw_then_ret ?_; refine qw_block_ret ?_; refine qw_then_ret ?_)
     refine qw_ret1 Tryz.results36 rfl ?_
     exact ⟨ret_bool (HN.out (by simp [VD.ok, hnm])).symm, xx3⟩
   try rw [hnm]
   by_cases hk : v.kind = 1 ∨ v.kind = 3
   · by_cases h0 : v.len = 0
     · have hok : v.ok = true := by simp [VD.ok, hnm, hk, h0]
       rcases hk with hk | hk
       · ((refine lw_is ?_; refine lw_pure (by exact pur_not rfl) rfl ?_); refine lw_nil ?_; refine qw_then ?_; (refine cw_is ?_; refine cw_bf rfl (by rfl) ?_); refine cw_skip ?_; refine qw_then ?_; refine cw_seq ?_; refine cw_region ?_; (refine lw_is ?_; refine lw_pure (by exact pur_fieldAddr tabOk rfl rfl rfl) rfl ?_); (refine lw_is ?_; refine lw_pure (by exact pur_load tabOk rfl rfl rfl (by exact fun wz hz => by (try subst hz); exact (Blk.cell (by assumption) (by rfl)))) rfl ?_); refine lw_nil ?_; refine qw_then ?_; refine cw_block ?_; refine cw_seq ?_; refine cw_seq ?_; refine cw_region ?_; (refine lw_is ?_; refine lw_pure (by exact pur_eql rfl rfl) rfl ?_); (refine lw_is ?_; refine lw_pure (by exact pur_assign rfl) rfl ?_); refine lw_nil ?_; refine qw_then ?_; (refine cw_is ?_; refine cw_yes rfl (by assumption) ?_); refine cw_skip ?_; refine qw_then ?_; (refine cw_is ?_; refine cw_yes rfl (by assumption) ?_); refine cw_seq ?_; refine cw_region ?_; (refine lw_is ?_; refine lw_pure (by exact pur_fieldAddr tabOk rfl rfl rfl) rfl ?_); (refine lw_is ?_; refine lw_pure (by exact pur_load tabOk rfl rfl rfl (by exact fun wz hz => by (try subst hz); exact (Blk.cell (by assumption) (by rfl)))) rfl ?_); (refine lw_is ?_; refine lw_pure (by exact pur_neq rfl rfl) rfl ?_); refine lw_nil ?_; refine qw_then ?_; (refine cw_is ?_; refine cw_no rfl (by omega) ?_); refine cw_skip ?_; refine qw_block_norm ?_; refine qw_block_norm ?_; refine qw_then ?_; refine cw_region ?_; (refine lw_is ?_; refine lw_pure (by exact pur_add rfl rfl (IntWalk.i64_in _ (by omega))) rfl ?_); (refine lw_is ?_; refine lw_pure (by exact pur_move rfl) rfl ?_); refine lw_nil ?_)
         refine qw_round (j + 1) (by (refine sub_cons rfl ?_; refine sub_cons rfl ?_; refine sub_cons rfl ?_; exact sub_nil)) ⟨xx3, by omega, fun i hi hij => ?_⟩ (by omega)
         by_cases e : i = j
         · subst e; exact HE.out ▸ hok
         · exact HA.out i hi (by omega)
       · ((refine lw_is ?_; refine lw_pure (by exact pur_not rfl) rfl ?_); refine lw_nil ?_; refine qw_then ?_; (refine cw_is ?_; refine cw_bf rfl (by rfl) ?_); refine cw_skip ?_; refine qw_then ?_; refine cw_seq ?_; refine cw_region ?_; (refine lw_is ?_; refine lw_pure (by exact pur_fieldAddr tabOk rfl rfl rfl) rfl ?_); (refine lw_is ?_; refine lw_pure (by exact pur_load tabOk rfl rfl rfl (by exact fun wz hz => by (try subst hz); exact (Blk.cell (by assumption) (by rfl)))) rfl ?_); refine lw_nil ?_; refine qw_then ?_; refine cw_block ?_; refine cw_seq ?_; refine cw_seq ?_; refine cw_region ?_; (refine lw_is ?_; refine lw_pure (by exact pur_eql rfl rfl) rfl ?_); (refine lw_is ?_; refine lw_pure (by exact pur_assign rfl) rfl ?_); refine lw_nil ?_; refine qw_then ?_; (refine cw_is ?_; refine cw_no rfl (by omega) ?_); refine cw_region ?_; (refine lw_is ?_; refine lw_pure (by exact pur_eql rfl rfl) rfl ?_); (refine lw_is ?_; refine lw_pure (by exact pur_assign rfl) rfl ?_); refine lw_nil ?_; refine qw_then ?_; (refine cw_is ?_; refine cw_yes rfl (by assumption) ?_); refine cw_seq ?_; refine cw_region ?_; (refine lw_is ?_; refine lw_pure (by exact pur_fieldAddr tabOk rfl rfl rfl) rfl ?_); (refine lw_is ?_; refine lw_pure (by exact pur_load tabOk rfl rfl rfl (by exact fun wz hz => by (try subst hz); exact (Blk.cell (by assumption) (by rfl)))) rfl ?_); (refine lw_is ?_; refine lw_pure (by exact pur_neq rfl rfl) rfl ?_); refine lw_nil ?_; refine qw_then ?_; (refine cw_is ?_; refine cw_no rfl (by omega) ?_); refine cw_skip ?_; refine qw_block_norm ?_; refine qw_block_norm ?_; refine qw_then ?_; refine cw_region ?_; (refine lw_is ?_; refine lw_pure (by exact pur_add rfl rfl (IntWalk.i64_in _ (by omega))) rfl ?_); (refine lw_is ?_; refine lw_pure (by exact pur_move rfl) rfl ?_); refine lw_nil ?_)
         refine qw_round (j + 1) (by (refine sub_cons rfl ?_; refine sub_cons rfl ?_; refine sub_cons rfl ?_; exact sub_nil)) ⟨xx3, by omega, fun i hi hij => ?_⟩ (by omega)
         by_cases e : i = j
         · subst e; exact HE.out ▸ hok
         · exact HA.out i hi (by omega)
     · have hok : v.ok = false := by simp [VD.ok, hnm, hk, h0]
       rcases hk with hk | hk
       · ((refine lw_is ?_; refine lw_pure (by exact pur_not rfl) rfl ?_); refine lw_nil ?_; refine qw_then ?_; (refine cw_is ?_; refine cw_bf rfl (by rfl) ?_); refine cw_skip ?_; refine qw_then ?_; refine cw_seq ?_; refine cw_region ?_; (refine lw_is ?_; refine lw_pure (by exact pur_fieldAddr tabOk rfl rfl rfl) rfl ?_); (refine lw_is ?_; refine lw_pure (by exact pur_load tabOk rfl rfl rfl (by exact fun wz hz => by (try subst hz); exact (Blk.cell (by assumption) (by rfl)))) rfl ?_); refine lw_nil ?_; refine qw_then ?_; refine cw_block ?_; refine cw_seq ?_; refine cw_seq ?_; refine cw_region ?_; (refine lw_is ?_; refine lw_pure (by exact pur_eql rfl rfl) rfl ?_); (refine lw_is ?_; refine lw_pure (by exact pur_assign rfl) rfl ?_); refine lw_nil ?_; refine qw_then ?_; (refine cw_is ?_; refine cw_yes rfl (by assumption) ?_); refine cw_skip ?_; refine qw_then ?_; (refine cw_is ?_; refine cw_yes rfl (by assumption) ?_); refine cw_seq ?_; refine cw_region ?_; (refine lw_is ?_; refine lw_pure (by exact pur_fieldAddr tabOk rfl rfl rfl) rfl ?_); (refine lw_is ?_; refine lw_pure (by exact pur_load tabOk rfl rfl rfl (by exact fun wz hz => by (try subst hz); exact (Blk.cell (by assumption) (by rfl)))) rfl ?_); (refine lw_is ?_; refine lw_pure (by exact pur_neq rfl rfl) rfl ?_); refine lw_nil ?_; refine qw_then ?_; (refine cw_is ?_; refine cw_yes rfl (by assumption) ?_); refine cw_seq ?_; refine cw_region ?_; (refine lw_is ?_; refine lw_pure (by exact pur_assign rfl) rfl ?_); refine lw_nil ?_; refine qw_then ?_; refine cw_ret ?_; refine qw_block_ret ?_; refine qw_block_ret ?_; refine qw_then_ret ?_; refine qw_then_ret ?_; refine qw_block_ret ?_; refine qw_then_ret ?_)
         refine qw_ret1 Tryz.results36 rfl ?_
         exact ⟨ret_bool (HN.out hok).symm, xx3⟩
       · ((refine lw_is ?_; refine lw_pure (by exact pur_not rfl) rfl ?_); refine lw_nil ?_; refine qw_then ?_; (refine cw_is ?_; refine cw_bf rfl (by rfl) ?_); refine cw_skip ?_; refine qw_then ?_; refine cw_seq ?_; refine cw_region ?_; (refine lw_is ?_; refine lw_pure (by exact pur_fieldAddr tabOk rfl rfl rfl) rfl ?_); (refine lw_is ?_; refine lw_pure (by exact pur_load tabOk rfl rfl rfl (by exact fun wz hz => by (try subst hz); exact (Blk.cell (by assumption) (by rfl)))) rfl ?_); refine lw_nil ?_; refine qw_then ?_; refine cw_block ?_; refine cw_seq ?_; refine cw_seq ?_; refine cw_region ?_; (refine lw_is ?_; refine lw_pure (by exact pur_eql rfl rfl) rfl ?_); (refine lw_is ?_; refine lw_pure (by exact pur_assign rfl) rfl ?_); refine lw_nil ?_; refine qw_then ?_; (refine cw_is ?_; refine cw_no rfl (by omega) ?_); refine cw_region ?_; (refine lw_is ?_; refine lw_pure (by exact pur_eql rfl rfl) rfl ?_); (refine lw_is ?_; refine lw_pure (by exact pur_assign rfl) rfl ?_); refine lw_nil ?_; refine qw_then ?_; (refine cw_is ?_; refine cw_yes rfl (by assumption) ?_); refine cw_seq ?_; refine cw_region ?_; (refine lw_is ?_; refine lw_pure (by exact pur_fieldAddr tabOk rfl rfl rfl) rfl ?_); (refine lw_is ?_; refine lw_pure (by exact pur_load tabOk rfl rfl rfl (by exact fun wz hz => by (try subst hz); exact (Blk.cell (by assumption) (by rfl)))) rfl ?_); (refine lw_is ?_; refine lw_pure (by exact pur_neq rfl rfl) rfl ?_); refine lw_nil ?_; refine qw_then ?_; (refine cw_is ?_; refine cw_yes rfl (by assumption) ?_); refine cw_seq ?_; refine cw_region ?_; (refine lw_is ?_; refine lw_pure (by exact pur_assign rfl) rfl ?_); refine lw_nil ?_; refine qw_then ?_; refine cw_ret ?_; refine qw_block_ret ?_; refine qw_block_ret ?_; refine qw_then_ret ?_; refine qw_then_ret ?_; refine qw_block_ret ?_; refine qw_then_ret ?_)
         refine qw_ret1 Tryz.results36 rfl ?_
         exact ⟨ret_bool (HN.out hok).symm, xx3⟩
   · have hk1 : v.kind ≠ 1 := fun e => hk (Or.inl e)
     have hk3 : v.kind ≠ 3 := fun e => hk (Or.inr e)
     by_cases hk2 : v.kind = 2
     · by_cases hlo : v.len < 1
       · have hok : v.ok = false := by simp [VD.ok, hnm, hk2]; omega
         ((refine lw_is ?_; refine lw_pure (by exact pur_not rfl) rfl ?_); refine lw_nil ?_; refine qw_then ?_; (refine cw_is ?_; refine cw_bf rfl (by rfl) ?_); refine cw_skip ?_; refine qw_then ?_; refine cw_seq ?_; refine cw_region ?_; (refine lw_is ?_; refine lw_pure (by exact pur_fieldAddr tabOk rfl rfl rfl) rfl ?_); (refine lw_is ?_; refine lw_pure (by exact pur_load tabOk rfl rfl rfl (by exact fun wz hz => by (try subst hz); exact (Blk.cell (by assumption) (by rfl)))) rfl ?_); refine lw_nil ?_; refine qw_then ?_; refine cw_block ?_; refine cw_seq ?_; refine cw_seq ?_; refine cw_region ?_; (refine lw_is ?_; refine lw_pure (by exact pur_eql rfl rfl) rfl ?_); (refine lw_is ?_; refine lw_pure (by exact pur_assign rfl) rfl ?_); refine lw_nil ?_; refine qw_then ?_; (refine cw_is ?_; refine cw_no rfl (by assumption) ?_); refine cw_region ?_; (refine lw_is ?_; refine lw_pure (by exact pur_eql rfl rfl) rfl ?_); (refine lw_is ?_; refine lw_pure (by exact pur_assign rfl) rfl ?_); refine lw_nil ?_; refine qw_then ?_; (refine cw_is ?_; refine cw_no rfl (by assumption) ?_); refine cw_seq ?_; refine cw_region ?_; (refine lw_is ?_; refine lw_pure (by exact pur_eql rfl rfl) rfl ?_); (refine lw_is ?_; refine lw_pure (by exact pur_assign rfl) rfl ?_); refine lw_nil ?_; refine qw_then ?_; (refine cw_is ?_; refine cw_yes rfl (by assumption) ?_); refine cw_seq ?_; refine cw_region ?_; (refine lw_is ?_; refine lw_pure (by exact pur_fieldAddr tabOk rfl rfl rfl) rfl ?_); (refine lw_is ?_; refine lw_pure (by exact pur_load tabOk rfl rfl rfl (by exact fun wz hz => by (try subst hz); exact (Blk.cell (by assumption) (by rfl)))) rfl ?_); (refine lw_is ?_; refine lw_pure (by exact pur_lss rfl rfl) rfl ?_); (refine lw_is ?_; refine lw_pure (by exact pur_move rfl) rfl ?_); (refine lw_isg ?_; refine lw_off_yes rfl rfl rfl (by assumption) rfl ?_); (refine lw_isg ?_; refine lw_off_yes rfl rfl rfl (by assumption) rfl ?_); (refine lw_isg ?_; refine lw_off_yes rfl rfl rfl (by assumption) rfl ?_); (refine lw_is ?_; refine lw_pure (by exact pur_pick_yes rfl rfl (by assumption)) rfl ?_); refine lw_nil ?_; refine qw_then ?_; (refine cw_is ?_; refine cw_bt rfl (by rfl) ?_); refine cw_seq ?_; refine cw_region ?_; (refine lw_is ?_; refine lw_pure (by exact pur_assign rfl) rfl ?_); refine lw_nil ?_; refine qw_then ?_; refine cw_ret ?_; refine qw_block_ret ?_; refine qw_block_ret ?_; refine qw_then_ret ?_; refine qw_then_ret ?_; refine qw_block_ret ?_; refine qw_then_ret ?_)
         refine qw_ret1 Tryz.results36 rfl ?_
         exact ⟨ret_bool (HN.out hok).symm, xx3⟩
       · by_cases hhi : 16 < v.len
         · have hok : v.ok = false := by simp [VD.ok, hnm, hk2]; omega
           ((refine lw_is ?_; refine lw_pure (by exact pur_not rfl) rfl ?_); refine lw_nil ?_; refine qw_then ?_; (refine cw_is ?_; refine cw_bf rfl (by rfl) ?_); refine cw_skip ?_; refine qw_then ?_; refine cw_seq ?_; refine cw_region ?_; (refine lw_is ?_; refine lw_pure (by exact pur_fieldAddr tabOk rfl rfl rfl) rfl ?_); (refine lw_is ?_; refine lw_pure (by exact pur_load tabOk rfl rfl rfl (by exact fun wz hz => by (try subst hz); exact (Blk.cell (by assumption) (by rfl)))) rfl ?_); refine lw_nil ?_; refine qw_then ?_; refine cw_block ?_; refine cw_seq ?_; refine cw_seq ?_; refine cw_region ?_; (refine lw_is ?_; refine lw_pure (by exact pur_eql rfl rfl) rfl ?_); (refine lw_is ?_; refine lw_pure (by exact pur_assign rfl) rfl ?_); refine lw_nil ?_; refine qw_then ?_; (refine cw_is ?_; refine cw_no rfl (by assumption) ?_); refine cw_region ?_; (refine lw_is ?_; refine lw_pure (by exact pur_eql rfl rfl) rfl ?_); (refine lw_is ?_; refine lw_pure (by exact pur_assign rfl) rfl ?_); refine lw_nil ?_; refine qw_then ?_; (refine cw_is ?_; refine cw_no rfl (by assumption) ?_); refine cw_seq ?_; refine cw_region ?_; (refine lw_is ?_; refine lw_pure (by exact pur_eql rfl rfl) rfl ?_); (refine lw_is ?_; refine lw_pure (by exact pur_assign rfl) rfl ?_); refine lw_nil ?_; refine qw_then ?_; (refine cw_is ?_; refine cw_yes rfl (by assumption) ?_); refine cw_seq ?_; refine cw_region ?_; (refine lw_is ?_; refine lw_pure (by exact pur_fieldAddr tabOk rfl rfl rfl) rfl ?_); (refine lw_is ?_; refine lw_pure (by exact pur_load tabOk rfl rfl rfl (by exact fun wz hz => by (try subst hz); exact (Blk.cell (by assumption) (by rfl)))) rfl ?_); (refine lw_is ?_; refine lw_pure (by exact pur_lss rfl rfl) rfl ?_); (refine lw_is ?_; refine lw_pure (by exact pur_move rfl) rfl ?_); (refine lw_isg ?_; refine lw_on_no rfl rfl rfl (by assumption) ?_); (refine lw_is ?_; refine lw_pure (by exact pur_fieldAddr tabOk rfl rfl rfl) rfl ?_); (refine lw_isg ?_; refine lw_on_no rfl rfl rfl (by assumption) ?_); (refine lw_is ?_; refine lw_pure (by exact pur_load tabOk rfl rfl rfl (by exact fun wz hz => by (try subst hz); exact (Blk.cell (by assumption) (by rfl)))) rfl ?_); (refine lw_isg ?_; refine lw_on_no rfl rfl rfl (by assumption) ?_); (refine lw_is ?_; refine lw_pure (by exact pur_gtr rfl rfl) rfl ?_); (refine lw_is ?_; refine lw_pure (by exact pur_pick_no rfl rfl (by assumption)) rfl ?_); refine lw_nil ?_; refine qw_then ?_; (refine cw_is ?_; refine cw_yes rfl (by assumption) ?_); refine cw_seq ?_; refine cw_region ?_; (refine lw_is ?_; refine lw_pure (by exact pur_assign rfl) rfl ?_); refine lw_nil ?_; refine qw_then ?_; refine cw_ret ?_; refine qw_block_ret ?_; refine qw_block_ret ?_; refine qw_then_ret ?_; refine qw_then_ret ?_; refine qw_block_ret ?_; refine qw_then_ret ?_)
           refine qw_ret1 Tryz.results36 rfl ?_
           exact ⟨ret_bool (HN.out hok).symm, xx3⟩
         · have hok : v.ok = true := by simp [VD.ok, hnm, hk2]; omega
           ((refine lw_is ?_; refine lw_pure (by exact pur_not rfl) rfl ?_); refine lw_nil ?_; refine qw_then ?_; (refine cw_is ?_; refine cw_bf rfl (by rfl) ?_); refine cw_skip ?_; refine qw_then ?_; refine cw_seq ?_; refine cw_region ?_; (refine lw_is ?_; refine lw_pure (by exact pur_fieldAddr tabOk rfl rfl rfl) rfl ?_); (refine lw_is ?_; refine lw_pure (by exact pur_load tabOk rfl rfl rfl (by exact fun wz hz => by (try subst hz); exact (Blk.cell (by assumption) (by rfl)))) rfl ?_); refine lw_nil ?_; refine qw_then ?_; refine cw_block ?_; refine cw_seq ?_; refine cw_seq ?_; refine cw_region ?_; (refine lw_is ?_; refine lw_pure (by exact pur_eql rfl rfl) rfl ?_); (refine lw_is ?_; refine lw_pure (by exact pur_assign rfl) rfl ?_); refine lw_nil ?_; refine qw_then ?_; (refine cw_is ?_; refine cw_no rfl (by assumption) ?_); refine cw_region ?_; (refine lw_is ?_; refine lw_pure (by exact pur_eql rfl rfl) rfl ?_); (refine lw_is ?_; refine lw_pure (by exact pur_assign rfl) rfl ?_); refine lw_nil ?_; refine qw_then ?_; (refine cw_is ?_; refine cw_no rfl (by assumption) ?_); refine cw_seq ?_; refine cw_region ?_; (refine lw_is ?_; refine lw_pure (by exact pur_eql rfl rfl) rfl ?_); (refine lw_is ?_; refine lw_pure (by exact pur_assign rfl) rfl ?_); refine lw_nil ?_; refine qw_then ?_; (refine cw_is ?_; refine cw_yes rfl (by assumption) ?_); refine cw_seq ?_; refine cw_region ?_; (refine lw_is ?_; refine lw_pure (by exact pur_fieldAddr tabOk rfl rfl rfl) rfl ?_); (refine lw_is ?_; refine lw_pure (by exact pur_load tabOk rfl rfl rfl (by exact fun wz hz => by (try subst hz); exact (Blk.cell (by assumption) (by rfl)))) rfl ?_); (refine lw_is ?_; refine lw_pure (by exact pur_lss rfl rfl) rfl ?_); (refine lw_is ?_; refine lw_pure (by exact pur_move rfl) rfl ?_); (refine lw_isg ?_; refine lw_on_no rfl rfl rfl (by assumption) ?_); (refine lw_is ?_; refine lw_pure (by exact pur_fieldAddr tabOk rfl rfl rfl) rfl ?_); (refine lw_isg ?_; refine lw_on_no rfl rfl rfl (by assumption) ?_); (refine lw_is ?_; refine lw_pure (by exact pur_load tabOk rfl rfl rfl (by exact fun wz hz => by (try subst hz); exact (Blk.cell (by assumption) (by rfl)))) rfl ?_); (refine lw_isg ?_; refine lw_on_no rfl rfl rfl (by assumption) ?_); (refine lw_is ?_; refine lw_pure (by exact pur_gtr rfl rfl) rfl ?_); (refine lw_is ?_; refine lw_pure (by exact pur_pick_no rfl rfl (by assumption)) rfl ?_); refine lw_nil ?_; refine qw_then ?_; (refine cw_is ?_; refine cw_no rfl (by assumption) ?_); refine cw_skip ?_; refine qw_block_norm ?_; refine qw_block_norm ?_; refine qw_then ?_; refine cw_region ?_; (refine lw_is ?_; refine lw_pure (by exact pur_add rfl rfl (IntWalk.i64_in _ (by omega))) rfl ?_); (refine lw_is ?_; refine lw_pure (by exact pur_move rfl) rfl ?_); refine lw_nil ?_)
           refine qw_round (j + 1) (by (refine sub_cons rfl ?_; refine sub_cons rfl ?_; refine sub_cons rfl ?_; exact sub_nil)) ⟨xx3, by omega, fun i hi hij => ?_⟩ (by omega)
           by_cases e : i = j
           · subst e; exact HE.out ▸ hok
           · exact HA.out i hi (by omega)
     · have hok : v.ok = false := by simp [VD.ok, hnm, hk1, hk2, hk3]
       ((refine lw_is ?_; refine lw_pure (by exact pur_not rfl) rfl ?_); refine lw_nil ?_; refine qw_then ?_; (refine cw_is ?_; refine cw_bf rfl (by rfl) ?_); refine cw_skip ?_; refine qw_then ?_; refine cw_seq ?_; refine cw_region ?_; (refine lw_is ?_; refine lw_pure (by exact pur_fieldAddr tabOk rfl rfl rfl) rfl ?_); (refine lw_is ?_; refine lw_pure (by exact pur_load tabOk rfl rfl rfl (by exact fun wz hz => by (try subst hz); exact (Blk.cell (by assumption) (by rfl)))) rfl ?_); refine lw_nil ?_; refine qw_then ?_; refine cw_block ?_; refine cw_seq ?_; refine cw_seq ?_; refine cw_region ?_; (refine lw_is ?_; refine lw_pure (by exact pur_eql rfl rfl) rfl ?_); (refine lw_is ?_; refine lw_pure (by exact pur_assign rfl) rfl ?_); refine lw_nil ?_; refine qw_then ?_; (refine cw_is ?_; refine cw_no rfl (by assumption) ?_); refine cw_region ?_; (refine lw_is ?_; refine lw_pure (by exact pur_eql rfl rfl) rfl ?_); (refine lw_is ?_; refine lw_pure (by exact pur_assign rfl) rfl ?_); refine lw_nil ?_; refine qw_then ?_; (refine cw_is ?_; refine cw_no rfl (by assumption) ?_); refine cw_seq ?_; refine cw_region ?_; (refine lw_is ?_; refine lw_pure (by exact pur_eql rfl rfl) rfl ?_); (refine lw_is ?_; refine lw_pure (by exact pur_assign rfl) rfl ?_); refine lw_nil ?_; refine qw_then ?_; (refine cw_is ?_; refine cw_no rfl (by assumption) ?_); refine cw_seq ?_; refine cw_region ?_; (refine lw_is ?_; refine lw_pure (by exact pur_assign rfl) rfl ?_); refine lw_nil ?_; refine qw_then ?_; refine cw_ret ?_; refine qw_block_ret ?_; refine qw_block_ret ?_; refine qw_then_ret ?_; refine qw_then_ret ?_; refine qw_block_ret ?_; refine qw_then_ret ?_)
       refine qw_ret1 Tryz.results36 rfl ?_
       exact ⟨ret_bool (HN.out hok).symm, xx3⟩
 · (refine cw_seq ?_; refine cw_region ?_; (refine lw_is ?_; refine lw_pure (by exact pur_lss rfl rfl) rfl ?_); refine lw_nil ?_; refine qw_then ?_; refine cw_seq ?_; (refine cw_is ?_; refine cw_no rfl (by omega) ?_); refine cw_exit ?_; refine qw_then_exit ?_; refine qw_then_exit ?_; refine qw_block_exit ?_; refine qw_then ?_; refine cw_seq ?_; refine cw_region ?_; (refine lw_is ?_; refine lw_pure (by exact pur_assign rfl) rfl ?_); refine lw_nil ?_; refine qw_then ?_; refine cw_ret ?_)
   refine qw_ret1 Tryz.results36 rfl ?_
   exact ⟨ret_bool (allOk_true (fun i hi => HA.out i hi (by omega))).symm, x1⟩
end Bk
namespace Bk
open Go Go.RowKit Go.Proofs
mutual
theorem lim_le : ∀ (t : Nd) (d m : Int), 0 ≤ m → 0 ≤ (t.lim d m).2 ∧ (t.lim d m).2 ≤ m
 | .mk _ _ s l, d, m, hm => by
  simp only [Nd.lim]
  split
  · exact ⟨hm, Int.le_refl _⟩
  · have := rowLim_le l (d - 1) (m - 1) (by omega)
    omega
theorem rowLim_le : ∀ (l : List Nd) (d m : Int), 0 ≤ m → 0 ≤ (rowLim l d m).2 ∧ (rowLim l d m).2 ≤ m
 | [], d, m, hm => by simp only [rowLim]; omega
 | t :: r, d, m, hm => by
  have h1 := lim_le t d m hm; simp only [rowLim]
  split
  · have := rowLim_le r d (t.lim d m).2 h1.1
    omega
  · omega
end
theorem rowLim_drop (l : List Nd) (j : Nat) (h : j < l.length) (d m : Int) : rowLim (l.drop j) d m = if (l[j].lim d m).1 then rowLim (l.drop (j + 1)) d (l[j].lim d m).2 else (false, (l[j].lim d m).2) := by
 rw [List.drop_eq_getElem_cons h, rowLim]
set_option maxRecDepth 100000 in
set_option maxHeartbeats 1000000 in
theorem limited_c (N : Nat) : ∀ (t : Nd) (S : Nat → Prop) (a : Option Addr) (c : Nat) (d m : Int) (lb : Nat) (w : World), t.size < N → t.wf → 0 ≤ d → d ≤ 1000000 → 0 ≤ m → m ≤ 1000000 → t.sits S w a → ¬ S lb → Blk w lb [.int .i64 m] →
 Calls Tryz.prog 53 #[t.val a c, .int .i64 d, .pointer (some ⟨lb, 0, none⟩)] w fun e w' => e = .returned (.bool (t.lim d m).1) ∧ Blk w' lb [.int .i64 (t.lim d m).2] ∧ Fr (· = lb) w w' := by
 induction N with
 | zero => intro t S a c d m lb w h; omega
 | succ N ih =>
  intro t S a c d m lb w hN hwf hd0 hd1 hm0 hm1 hs hS hb
  have IH := Lib.hid ih; clear ih
  obtain ⟨k, n, s, l⟩ := t; simp only [Nd.wf, Nd.size] at hwf hN; simp only [Nd.val, Nd.kind, Nd.num, Nd.name, Nd.kids, Nd.lim]; simp only [Nd.sits] at hs; obtain ⟨-, -, -, -, -, hll, hrw⟩ := hwf; have hlbw := hb.lt
  by_cases hq : d = 0 ∨ m = 0
  · rw [if_pos hq]
    refine calls_in Tryz.func53 Tryz.ntmps53 rfl rfl ?_; (refine cw_seq ?_; refine cw_region ?_); refine lw_box rfl rfl rfl ?_; intro b1 w1 hn1; have h1 := hn1.blk; have x1 := hn1.ext; have hb1 := hb.ext x1
    by_cases hd : d = 0
    · ((refine lw_is ?_; refine lw_pure (by exact pur_assign rfl) rfl ?_); refine lw_nil ?_; refine qw_then ?_; refine cw_seq ?_; refine cw_seq ?_; refine cw_region ?_; (refine lw_is ?_; refine lw_pure (by exact pur_move rfl) rfl ?_); (refine lw_is ?_; refine lw_pure (by exact pur_eql rfl rfl) rfl ?_); (refine lw_is ?_; refine lw_pure (by exact pur_move rfl) rfl ?_); (refine lw_isg ?_; refine lw_off_yes rfl rfl rfl (by assumption) rfl ?_); (refine lw_isg ?_; refine lw_off_yes rfl rfl rfl (by assumption) rfl ?_); (refine lw_isg ?_; refine lw_off_yes rfl rfl rfl (by assumption) rfl ?_); (refine lw_isg ?_; refine lw_off_yes rfl rfl rfl (by assumption) rfl ?_); (refine lw_is ?_; refine lw_pure (by exact pur_pick_yes rfl rfl (by assumption)) rfl ?_); refine lw_nil ?_; refine qw_then ?_; (refine cw_is ?_; refine cw_bt rfl (by rfl) ?_); refine cw_seq ?_; refine cw_region ?_; (refine lw_is ?_; refine lw_pure (by exact pur_assign rfl) rfl ?_); refine lw_nil ?_; refine qw_then ?_; refine cw_ret ?_; refine qw_then_ret ?_)
      refine qw_ret1 Tryz.results53 rfl ?_
      exact ⟨rfl, hb1, .of_ext x1⟩
    · have hm : m = 0 := by omega
      ((refine lw_is ?_; refine lw_pure (by exact pur_assign rfl) rfl ?_); refine lw_nil ?_; refine qw_then ?_; refine cw_seq ?_; refine cw_seq ?_; refine cw_region ?_; (refine lw_is ?_; refine lw_pure (by exact pur_move rfl) rfl ?_); (refine lw_is ?_; refine lw_pure (by exact pur_eql rfl rfl) rfl ?_); (refine lw_is ?_; refine lw_pure (by exact pur_move rfl) rfl ?_); (refine lw_isg ?_; refine lw_on_no rfl rfl rfl (by assumption) ?_); (refine lw_is ?_; refine lw_pure (by exact pur_move rfl) rfl ?_); (refine lw_isg ?_; refine lw_on_no rfl rfl rfl (by assumption) ?_); (refine lw_is ?_; refine lw_pure (by exact pur_nilCheck rfl) rfl ?_); (refine lw_isg ?_; refine lw_on_no rfl rfl rfl (by assumption) ?_); (refine lw_is ?_; refine lw_pure (by exact pur_load tabOk rfl rfl rfl (by exact fun wz hz => by (try subst hz); exact (Blk.cell (by assumption) (by rfl)))) rfl ?_); (refine lw_isg ?_; refine lw_on_no rfl rfl rfl (by assumption) ?_); (refine lw_is ?_; refine lw_pure (by exact pur_eql rfl rfl) rfl ?_); (refine lw_is ?_; refine lw_pure (by exact pur_pick_no rfl rfl (by assumption)) rfl ?_); refine lw_nil ?_; refine qw_then ?_; (refine cw_is ?_; refine cw_yes rfl (by assumption) ?_); refine cw_seq ?_; refine cw_region ?_; (refine lw_is ?_; refine lw_pure (by exact pur_assign rfl) rfl ?_); refine lw_nil ?_; refine qw_then ?_; refine cw_ret ?_; refine qw_then_ret ?_)
      refine qw_ret1 Tryz.results53 rfl ?_
      exact ⟨rfl, hb1, .of_ext x1⟩
  · rw [if_neg hq]
    have hd : d ≠ 0 := fun e => hq (Or.inl e)
    have hm : m ≠ 0 := fun e => hq (Or.inr e)
    clear hq; refine calls_in Tryz.func53 Tryz.ntmps53 rfl rfl ?_; (refine cw_seq ?_; refine cw_region ?_); refine lw_box rfl rfl rfl ?_; intro b1 w1 hn1; have h1 := hn1.blk; have x1 := hn1.ext; have p1 := hn1.pos; have hb1 := hb.ext x1; have hs1 := hs.ext x1
    ((refine lw_is ?_; refine lw_pure (by exact pur_assign rfl) rfl ?_); refine lw_nil ?_; refine qw_then ?_; refine cw_seq ?_; refine cw_seq ?_; refine cw_region ?_; (refine lw_is ?_; refine lw_pure (by exact pur_move rfl) rfl ?_); (refine lw_is ?_; refine lw_pure (by exact pur_eql rfl rfl) rfl ?_); (refine lw_is ?_; refine lw_pure (by exact pur_move rfl) rfl ?_); (refine lw_isg ?_; refine lw_on_no rfl rfl rfl (by assumption) ?_); (refine lw_is ?_; refine lw_pure (by exact pur_move rfl) rfl ?_); (refine lw_isg ?_; refine lw_on_no rfl rfl rfl (by assumption) ?_); (refine lw_is ?_; refine lw_pure (by exact pur_nilCheck rfl) rfl ?_); (refine lw_isg ?_; refine lw_on_no rfl rfl rfl (by assumption) ?_); (refine lw_is ?_; refine lw_pure (by exact pur_load tabOk rfl rfl rfl (by exact fun wz hz => by (try subst hz); exact (Blk.cell (by assumption) (by rfl)))) rfl ?_); (refine lw_isg ?_; refine lw_on_no rfl rfl rfl (by assumption) ?_); (refine lw_is ?_; refine lw_pure (by exact pur_eql rfl rfl) rfl ?_); (refine lw_is ?_; refine lw_pure (by exact pur_pick_no rfl rfl (by assumption)) rfl ?_); refine lw_nil ?_; refine qw_then ?_; (refine cw_is ?_; refine cw_no rfl (by assumption) ?_); refine cw_skip ?_; refine qw_then ?_; refine cw_seq ?_; refine cw_region ?_; (refine lw_is ?_; refine lw_pure (by exact pur_move rfl) rfl ?_); (refine lw_is ?_; refine lw_pure (by exact pur_nilCheck rfl) rfl ?_); (refine lw_is ?_; refine lw_pure (by exact pur_load tabOk rfl rfl rfl (by exact fun wz hz => by (try subst hz); exact (Blk.cell (by assumption) (by rfl)))) rfl ?_); (refine lw_is ?_; refine lw_pure (by exact pur_sub rfl rfl (IntWalk.i64_in _ (by omega))) rfl ?_); (refine lw_is ?_; refine lw_pure (by exact pur_nilCheck rfl) rfl ?_))
    refine lw_store tabOk rfl rfl rfl rfl rfl rfl (hb1) rfl ?_; intro w2 hp2; have hb2 : Blk w2 lb [.int .i64 (m - 1)] := hp2.blk; have h2 := h1.put hp2 (by omega); have hs2 : rowSits S w2 l a := hs1.fr hp2.fr (fun b hb e => hS (e ▸ hb)); have f2 : Fr (· = lb) w w2 := (Fr.of_ext x1).trans hp2.fr
    have hz2 : w2.heap.size = b1 + 1 := by rw [hp2.size, hn1.size]
    clear hp2 hn1
    have HS2 := Lib.hid hs2; clear hs2
    (refine lw_nil ?_; refine qw_then ?_; refine cw_seq ?_; refine cw_seq ?_; refine cw_region ?_; (refine lw_is ?_; refine lw_pure (by exact pur_fieldAddr tabOk rfl rfl rfl) rfl ?_); (refine lw_is ?_; refine lw_pure (by exact pur_load tabOk rfl rfl rfl (by exact fun wz hz => by (try subst hz); exact (Blk.cell (by assumption) (by rfl)))) rfl ?_); (refine lw_is ?_; refine lw_pure (by exact pur_len_slice tabOk rfl rfl) rfl ?_); (refine lw_is ?_; refine lw_pure (by exact pur_move rfl) rfl ?_); refine lw_nil ?_; refine qw_then ?_; refine cw_block ?_); refine cw_loop (ι := Nat) (fun x => [(25, .int .i64 x), (24, .int .i64 l.length), (23, .slice a l.length c), (2, .pointer (some ⟨lb, 0, none⟩)), (1, .int .i64 d)]) (fun x w' => Fr (· = lb) w2 w' ∧ x ≤ l.length ∧ ∃ mj, Blk w' lb [.int .i64 mj] ∧ 0 ≤ mj ∧ mj ≤ 1000000 ∧ rowLim l (d - 1) (m - 1) = rowLim (l.drop x) (d - 1) mj) (fun x => l.length - x) 0 (by (refine sub_cons rfl ?_; refine sub_cons rfl ?_; refine sub_cons rfl ?_; refine sub_cons rfl ?_; refine sub_cons rfl ?_; exact sub_nil)) ⟨Fr.refl _ _, Nat.zero_le _, m - 1, hb2, by omega, by omega, rfl⟩ ?_; rintro j w3 ⟨f3, hj, mj, hb3, hmj0, hmj1, hrl⟩
    have HR := Lib.hid hrl; clear hrl
    by_cases hlt : j < l.length
    · have hs3 : rowSits S w3 l a := HS2.out.fr f3 (fun b hb e => hS (e ▸ hb))
      obtain ⟨kb, ko, rfl, hkS, hkid⟩ := kidRows hs3 (by intro e; subst e; simp at hlt); obtain ⟨xa, xc, rx, sx⟩ := hkid j l[j] (List.getElem?_eq_getElem hlt); have hxw := rowWf_get hrw l[j] (List.getElem_mem hlt); have hxs := size_mem (List.getElem_mem hlt); have HD := Lib.hid (rowLim_drop l j hlt (d - 1) mj); clear hkid
      generalize l[j] = x at *
      have hml := lim_le x (d - 1) mj hmj0; (refine cw_seq ?_; refine cw_region ?_; (refine lw_is ?_; refine lw_pure (by exact pur_lss rfl rfl) rfl ?_); refine lw_nil ?_; refine qw_then ?_; refine cw_seq ?_; (refine cw_is ?_; refine cw_yes rfl (by omega) ?_); refine cw_skip ?_; refine qw_then ?_; refine cw_seq ?_; refine cw_block ?_; refine cw_seq ?_; refine cw_region ?_; (refine lw_is ?_; refine lw_pure (by exact pur_indexAddr tabOk rfl rfl rfl rfl (by omega) (by omega)) rfl ?_); (refine lw_is ?_; refine lw_pure (by exact pur_loads' tabOk rfl rfl rfl (by exact fun wz hz => by (try subst hz); exact (by assumption)) (by rfl)) rfl ?_)); refine lw_alloc zOk rfl rfl ?_; intro b4 w4 hn4; refine lw_init tabOk rfl rfl rfl rfl rfl rfl (hn4) rfl ?_; clear hn4 w4; intro w4 hn4; have h4 := hn4.blk; have x4 := hn4.ext; have hb4 := hb3.ext x4; (refine lw_nil ?_; refine qw_then ?_; refine cw_seq ?_; refine cw_region ?_; (refine lw_is ?_; refine lw_pure (by exact pur_loads' tabOk rfl rfl rfl (by exact fun wz hz => by (try subst hz); exact (Blk.row (by assumption))) (by rfl)) rfl ?_); (refine lw_is ?_; refine lw_pure (by exact pur_move rfl) rfl ?_); (refine lw_is ?_; refine lw_pure (by exact pur_sub rfl rfl (IntWalk.i64_in _ (by omega))) rfl ?_); (refine lw_is ?_; refine lw_pure (by exact pur_move rfl) rfl ?_)); refine cC (by kernel_rfl) rfl (IH.out x S xa xc (d - 1) mj lb _ (by omega) hxw (by omega) (by omega) hmj0 hmj1 (sx.ext x4) hS hb4) rfl ?_; rintro _ w5 ⟨⟨⟩, hb5, f5⟩; have f35 : Fr (· = lb) w2 w5 := f3.trans ((Fr.of_ext x4).trans f5)
      cases hq : (x.lim (d - 1) mj).1
      · try rw [hq]
        ((refine lw_is ?_; refine lw_pure (by exact pur_not rfl) rfl ?_); refine lw_nil ?_; refine qw_then ?_; (refine cw_is ?_; refine cw_bt rfl (by rfl) ?_); refine cw_seq ?_; refine cw_region ?_; (refine lw_is ?_; refine lw_pure (by exact pur_assign rfl) rfl ?_); refine lw_nil ?_; refine qw_then ?_; refine cw_ret ?_; refine qw_block_ret ?_; refine qw_then_ret ?_; refine qw_then_ret ?_; refine qw_block_ret ?_; refine qw_then_ret ?_)
        refine qw_ret1 Tryz.results53 rfl ?_; rw [HR.out, HD.out, hq]
        exact ⟨rfl, hb5, f2.trans f35⟩
      · try rw [hq]
        ((refine lw_is ?_; refine lw_pure (by exact pur_not rfl) rfl ?_); refine lw_nil ?_; refine qw_then ?_; (refine cw_is ?_; refine cw_bf rfl (by rfl) ?_); refine cw_skip ?_; refine qw_block_norm ?_; refine qw_then ?_; refine cw_region ?_; (refine lw_is ?_; refine lw_pure (by exact pur_add rfl rfl (IntWalk.i64_in _ (by omega))) rfl ?_); (refine lw_is ?_; refine lw_pure (by exact pur_move rfl) rfl ?_); refine lw_nil ?_)
        refine qw_round (j + 1) (by (refine sub_cons rfl ?_; refine sub_cons rfl ?_; refine sub_cons rfl ?_; refine sub_cons rfl ?_; refine sub_cons rfl ?_; exact sub_nil)) ⟨f35, by omega, (x.lim (d - 1) mj).2, hb5, hml.1, by omega, ?_⟩ (by omega)
        rw [HR.out, HD.out, hq]; rfl
    · (refine cw_seq ?_; refine cw_region ?_; (refine lw_is ?_; refine lw_pure (by exact pur_lss rfl rfl) rfl ?_); refine lw_nil ?_; refine qw_then ?_; refine cw_seq ?_; (refine cw_is ?_; refine cw_no rfl (by omega) ?_); refine cw_exit ?_; refine qw_then_exit ?_; refine qw_then_exit ?_; refine qw_block_exit ?_; refine qw_then ?_; refine cw_seq ?_; refine cw_region ?_; (refine lw_is ?_; refine lw_pure (by exact pur_assign rfl) rfl ?_); refine lw_nil ?_; refine qw_then ?_; refine cw_ret ?_)
      refine qw_ret1 Tryz.results53 rfl ?_; have : l.drop j = [] := List.drop_eq_nil_of_le (by omega); rw [HR.out, this]
      exact ⟨rfl, hb3, f2.trans f3⟩
theorem Ext.fr1 {a b c : World} {lb : Nat} (h : Ext a b) (k : Fr (· = lb) b c) (hl : a.heap.size ≤ lb) : Ext a c :=
 ⟨k.os.trans (Below.os h), k.tape.trans (Below.tape h), k.output.trans (Below.output h), Nat.le_trans h.size k.size, fun i hi => (k.block i (Nat.lt_of_lt_of_le hi h.size) (by omega)).trans (h.block hi)⟩
theorem sits_lt' {S : Nat → Prop} {w : World} (t : Nd) (a : Option Addr) (h : t.sits S w a) : t.sits (fun b => S b ∧ b < w.heap.size) w a := by
 have key : ∀ N : Nat, (∀ (l : List Nd) (a : Option Addr), rowSize l < N → rowSits S w l a → rowSits (fun b => S b ∧ b < w.heap.size) w l a) := by
  intro N
  induction N with
  | zero => intro l a h; omega
  | succ N ih =>
   intro l a hN h
   cases l with
   | nil => simp [rowSits]
   | cons x r =>
    simp only [rowSits] at h ⊢; obtain ⟨b, o, a', c, rfl, hS, h0, h1, h2, h3, hs, hr⟩ := h; have hb := cell_lt h0; simp only [rowSize] at hN; have hx := Nd.size_pos x; obtain ⟨k, n, s, l⟩ := x; simp only [Nd.size] at hN; refine ⟨b, o, a', c, rfl, ⟨hS, hb⟩, h0, h1, h2, h3, ?_, ih r _ (by omega) hr⟩; simp only [Nd.sits] at hs ⊢
    exact ih l a' (by omega) hs
 obtain ⟨k, n, s, l⟩ := t; simp only [Nd.sits] at h ⊢
 exact key (rowSize l + 1) l a (by omega) h
set_option maxRecDepth 100000 in
set_option maxHeartbeats 1000000 in
theorem isBody_c (t : Nd) (S : Nat → Prop) (a : Option Addr) (c : Nat) (w : World) (hwf : t.wf) (hs : t.sits S w a) :
 Calls Tryz.prog 38 #[t.val a c] w fun e w' => e = .returned (.bool (bodyOk t)) ∧ Ext w w' := by
 have hsl := sits_lt' t a hs; refine calls_in Tryz.func38 Tryz.ntmps38 rfl rfl ?_; (refine cw_seq ?_; refine cw_region ?_); refine lw_box rfl rfl rfl ?_; intro b1 w1 hn1; have h1 := hn1.blk; have x1 := hn1.ext; have p1 := hn1.pos; have z1 := hn1.size
 ((refine lw_is ?_; refine lw_pure (by exact pur_assign rfl) rfl ?_); refine lw_nil ?_; refine qw_then ?_; refine cw_seq ?_; refine cw_region ?_)
 refine lw_alloc zOk rfl rfl ?_; intro b2 w2 hn2; refine lw_init tabOk rfl rfl rfl rfl rfl rfl (hn2) rfl ?_; clear hn2 w2; intro w2 hn2; have x2 := hn2.ext; have h2 := h1.ext x2; have b2p := hn2.pos; (refine lw_nil ?_; refine qw_then ?_; refine cw_seq ?_; refine cw_region ?_; (refine lw_is ?_; refine lw_pure (by exact pur_loads' tabOk rfl rfl rfl (by exact fun wz hz => by (try subst hz); exact (Blk.row (by assumption))) (by rfl)) rfl ?_)); refine cC (by kernel_rfl) rfl (limited_c (t.size + 1) t _ a c 80 2000 b2 _ (by omega) hwf (by omega) (by omega) (by omega) (by omega) (hsl.ext (by refine Ext.trans ?_ (by assumption); assumption)) (fun h => by omega) hn2.blk) rfl ?_; rintro _ w3 ⟨⟨⟩, -, f3⟩; have x3 : Ext w w3 := Ext.fr1 (b := w2) (by refine Ext.trans ?_ (by assumption); assumption) f3 (by omega); have h3 := h2.fr f3 (by omega)
 cases hq : (t.lim 80 2000).1
 · try rw [hq]
   ((refine lw_is ?_; refine lw_pure (by exact pur_move rfl) rfl ?_); (refine lw_isg ?_; refine lw_off rfl rfl rfl (by rfl) rfl ?_); (refine lw_isg ?_; refine lw_off rfl rfl rfl (by rfl) rfl ?_); (refine lw_is ?_; refine lw_pure (by exact pur_pick_f rfl rfl (by rfl)) rfl ?_); (refine lw_is ?_; refine lw_pure (by exact pur_assign rfl) rfl ?_); refine lw_nil ?_; refine qw_then ?_; refine cw_ret ?_)
   refine qw_ret1 Tryz.results38 rfl ?_
   exact ⟨ret_bool (by simp [bodyOk, hq]), x3⟩
 · try rw [hq]
   ((refine lw_is ?_; refine lw_pure (by exact pur_move rfl) rfl ?_); (refine lw_isg ?_; refine lw_on rfl rfl rfl (by rfl) ?_); (refine lw_is ?_; refine lw_pure (by exact pur_loads' tabOk rfl rfl rfl (by exact fun wz hz => by (try subst hz); exact (Blk.row (by assumption))) (by rfl)) rfl ?_); (refine lw_isg ?_; refine lw_on rfl rfl rfl (by rfl) ?_))
   refine cC (by kernel_rfl) rfl (IsBlock_t S t hwf a c _ (hs.ext x3)) rfl ?_; rintro _ w4 ⟨⟨⟩, x4⟩
   ((refine lw_is ?_; refine lw_pure (by exact pur_pick_t rfl rfl (by rfl)) rfl ?_); (refine lw_is ?_; refine lw_pure (by exact pur_assign rfl) rfl ?_); refine lw_nil ?_; refine qw_then ?_; refine cw_ret ?_)
   refine qw_ret1 Tryz.results38 rfl ?_
   exact ⟨ret_bool (by simp [bodyOk, hq]), x3.trans x4⟩
end Bk
namespace Bk
open Go Go.RowKit Go.Proofs
structure PD.wf (p : PD) : Prop where
 name : p.name.length ≤ 9223372036854775807
 len : p.params.length ≤ 9223372036854775807
 params : ∀ v ∈ p.params, v.wf
 body : p.body.wf
structure PG.wf (g : PG) : Prop where
 nv : g.vars.length ≤ 9223372036854775807
 np : g.procs.length ≤ 9223372036854775807
 vars : ∀ v ∈ g.vars, v.wf
 procs : ∀ p ∈ g.procs, p.wf
 main : g.main.wf
theorem procs_false {l : List PD} {j : Nat} (h : j < l.length) (hk : l[j].ok = false) : l.all PD.ok = false := by
 rw [List.all_eq_false]
 exact ⟨l[j], List.getElem_mem h, by simp [hk]⟩
theorem procs_true {l : List PD} (h : ∀ j (hj : j < l.length), l[j].ok = true) : l.all PD.ok = true := by
 rw [List.all_eq_true]; intro x hx; obtain ⟨i, hi, rfl⟩ := List.mem_iff_getElem.1 hx
 exact h i hi
set_option maxRecDepth 100000 in
set_option maxHeartbeats 1000000 in
theorem Valid_c (g : PG) (S : Nat → Prop) (va : Option Addr) (vc : Nat) (pa : Option Addr) (pc : Nat) (ma : Option Addr) (mc : Nat) (w : World) (hwf : g.wf) (hs : g.sits S w va pa ma) :
 Calls Tryz.prog 18 #[.agg (g.cells va vc pa pc ma mc).toArray] w fun e w' => e = .returned (.bool g.ok) ∧ Ext w w' := by
 have hnv := hwf.nv; have hnp := hwf.np; refine calls_in Tryz.func18 Tryz.ntmps18 rfl rfl ?_; (refine cw_seq ?_; refine cw_region ?_); refine lw_box rfl rfl rfl ?_; intro b1 w1 hn1; have h1 := hn1.blk; have x1 := hn1.ext
 by_cases c1 : 32 < g.vars.length
 · ((refine lw_is ?_; refine lw_pure (by exact pur_assign rfl) rfl ?_); refine lw_nil ?_; refine qw_then ?_; refine cw_seq ?_; refine cw_seq ?_; refine cw_region ?_; (refine lw_is ?_; refine lw_pure (by exact pur_fieldAddr0 tabOk rfl rfl rfl) rfl ?_); (refine lw_is ?_; refine lw_pure (by exact pur_load tabOk rfl rfl rfl (by exact fun wz hz => by (try subst hz); exact (Blk.cell (by assumption) (by rfl)))) rfl ?_); (refine lw_is ?_; refine lw_pure (by exact pur_len_slice tabOk rfl rfl) rfl ?_); (refine lw_is ?_; refine lw_pure (by exact pur_gtr rfl rfl) rfl ?_); (refine lw_is ?_; refine lw_pure (by exact pur_move rfl) rfl ?_); (refine lw_isg ?_; refine lw_off_yes rfl rfl rfl (by omega) rfl ?_); (refine lw_isg ?_; refine lw_off_yes rfl rfl rfl (by omega) rfl ?_); (refine lw_isg ?_; refine lw_off_yes rfl rfl rfl (by omega) rfl ?_); (refine lw_isg ?_; refine lw_off_yes rfl rfl rfl (by omega) rfl ?_); (refine lw_is ?_; refine lw_pure (by exact pur_pick_yes rfl rfl (by omega)) rfl ?_); (refine lw_is ?_; refine lw_pure (by exact pur_move rfl) rfl ?_); (refine lw_isg ?_; refine lw_off rfl rfl rfl (by rfl) rfl ?_); (refine lw_isg ?_; refine lw_off rfl rfl rfl (by rfl) rfl ?_); (refine lw_isg ?_; refine lw_off rfl rfl rfl (by rfl) rfl ?_); (refine lw_isg ?_; refine lw_off rfl rfl rfl (by rfl) rfl ?_); (refine lw_is ?_; refine lw_pure (by exact pur_pick_t rfl rfl (by rfl)) rfl ?_); refine lw_nil ?_; refine qw_then ?_; (refine cw_is ?_; refine cw_bt rfl (by rfl) ?_); refine cw_seq ?_; refine cw_region ?_; (refine lw_is ?_; refine lw_pure (by exact pur_assign rfl) rfl ?_); refine lw_nil ?_; refine qw_then ?_; refine cw_ret ?_; refine qw_then_ret ?_)
   refine qw_ret1 Tryz.results18 rfl ?_
   exact ⟨ret_bool (by simp [PG.ok]; omega), x1⟩
 by_cases c2 : 64 < g.procs.length
 · ((refine lw_is ?_; refine lw_pure (by exact pur_assign rfl) rfl ?_); refine lw_nil ?_; refine qw_then ?_; refine cw_seq ?_; refine cw_seq ?_; refine cw_region ?_; (refine lw_is ?_; refine lw_pure (by exact pur_fieldAddr0 tabOk rfl rfl rfl) rfl ?_); (refine lw_is ?_; refine lw_pure (by exact pur_load tabOk rfl rfl rfl (by exact fun wz hz => by (try subst hz); exact (Blk.cell (by assumption) (by rfl)))) rfl ?_); (refine lw_is ?_; refine lw_pure (by exact pur_len_slice tabOk rfl rfl) rfl ?_); (refine lw_is ?_; refine lw_pure (by exact pur_gtr rfl rfl) rfl ?_); (refine lw_is ?_; refine lw_pure (by exact pur_move rfl) rfl ?_); (refine lw_isg ?_; refine lw_on_no rfl rfl rfl (by omega) ?_); (refine lw_is ?_; refine lw_pure (by exact pur_fieldAddr tabOk rfl rfl rfl) rfl ?_); (refine lw_isg ?_; refine lw_on_no rfl rfl rfl (by omega) ?_); (refine lw_is ?_; refine lw_pure (by exact pur_load tabOk rfl rfl rfl (by exact fun wz hz => by (try subst hz); exact (Blk.cell (by assumption) (by rfl)))) rfl ?_); (refine lw_isg ?_; refine lw_on_no rfl rfl rfl (by omega) ?_); (refine lw_is ?_; refine lw_pure (by exact pur_len_slice tabOk rfl rfl) rfl ?_); (refine lw_isg ?_; refine lw_on_no rfl rfl rfl (by omega) ?_); (refine lw_is ?_; refine lw_pure (by exact pur_gtr rfl rfl) rfl ?_); (refine lw_is ?_; refine lw_pure (by exact pur_pick_no rfl rfl (by omega)) rfl ?_); (refine lw_is ?_; refine lw_pure (by exact pur_move rfl) rfl ?_); (refine lw_isg ?_; refine lw_off_yes rfl rfl rfl (by omega) rfl ?_); (refine lw_isg ?_; refine lw_off_yes rfl rfl rfl (by omega) rfl ?_); (refine lw_isg ?_; refine lw_off_yes rfl rfl rfl (by omega) rfl ?_); (refine lw_isg ?_; refine lw_off_yes rfl rfl rfl (by omega) rfl ?_); (refine lw_is ?_; refine lw_pure (by exact pur_pick_yes rfl rfl (by omega)) rfl ?_); refine lw_nil ?_; refine qw_then ?_; (refine cw_is ?_; refine cw_bt rfl (by rfl) ?_); refine cw_seq ?_; refine cw_region ?_; (refine lw_is ?_; refine lw_pure (by exact pur_assign rfl) rfl ?_); refine lw_nil ?_; refine qw_then ?_; refine cw_ret ?_; refine qw_then_ret ?_)
   refine qw_ret1 Tryz.results18 rfl ?_
   exact ⟨ret_bool (by simp [PG.ok]; omega), x1⟩
 ((refine lw_is ?_; refine lw_pure (by exact pur_assign rfl) rfl ?_); refine lw_nil ?_; refine qw_then ?_; refine cw_seq ?_; refine cw_seq ?_; refine cw_region ?_; (refine lw_is ?_; refine lw_pure (by exact pur_fieldAddr0 tabOk rfl rfl rfl) rfl ?_); (refine lw_is ?_; refine lw_pure (by exact pur_load tabOk rfl rfl rfl (by exact fun wz hz => by (try subst hz); exact (Blk.cell (by assumption) (by rfl)))) rfl ?_); (refine lw_is ?_; refine lw_pure (by exact pur_len_slice tabOk rfl rfl) rfl ?_); (refine lw_is ?_; refine lw_pure (by exact pur_gtr rfl rfl) rfl ?_); (refine lw_is ?_; refine lw_pure (by exact pur_move rfl) rfl ?_); (refine lw_isg ?_; refine lw_on_no rfl rfl rfl (by omega) ?_); (refine lw_is ?_; refine lw_pure (by exact pur_fieldAddr tabOk rfl rfl rfl) rfl ?_); (refine lw_isg ?_; refine lw_on_no rfl rfl rfl (by omega) ?_); (refine lw_is ?_; refine lw_pure (by exact pur_load tabOk rfl rfl rfl (by exact fun wz hz => by (try subst hz); exact (Blk.cell (by assumption) (by rfl)))) rfl ?_); (refine lw_isg ?_; refine lw_on_no rfl rfl rfl (by omega) ?_); (refine lw_is ?_; refine lw_pure (by exact pur_len_slice tabOk rfl rfl) rfl ?_); (refine lw_isg ?_; refine lw_on_no rfl rfl rfl (by omega) ?_); (refine lw_is ?_; refine lw_pure (by exact pur_gtr rfl rfl) rfl ?_); (refine lw_is ?_; refine lw_pure (by exact pur_pick_no rfl rfl (by omega)) rfl ?_); (refine lw_is ?_; refine lw_pure (by exact pur_move rfl) rfl ?_); (refine lw_isg ?_; refine lw_on_no rfl rfl rfl (by omega) ?_); (refine lw_is ?_; refine lw_pure (by exact pur_fieldAddr0 tabOk rfl rfl rfl) rfl ?_); (refine lw_isg ?_; refine lw_on_no rfl rfl rfl (by omega) ?_); (refine lw_is ?_; refine lw_pure (by exact pur_load tabOk rfl rfl rfl (by exact fun wz hz => by (try subst hz); exact (Blk.cell (by assumption) (by rfl)))) rfl ?_); (refine lw_isg ?_; refine lw_on_no rfl rfl rfl (by omega) ?_))
 refine cC (by kernel_rfl) rfl (declared_c g.vars S va vc _ hnv hwf.vars (hs.vars.ext x1)) rfl ?_; rintro _ w2 ⟨⟨⟩, x2⟩
 cases hq : allOk g.vars
 · try rw [hq]
   ((refine lw_isg ?_; refine lw_on_no rfl rfl rfl (by omega) ?_); (refine lw_is ?_; refine lw_pure (by exact pur_not rfl) rfl ?_); (refine lw_is ?_; refine lw_pure (by exact pur_pick_no rfl rfl (by omega)) rfl ?_); refine lw_nil ?_; refine qw_then ?_; (refine cw_is ?_; refine cw_bt rfl (by rfl) ?_); refine cw_seq ?_; refine cw_region ?_; (refine lw_is ?_; refine lw_pure (by exact pur_assign rfl) rfl ?_); refine lw_nil ?_; refine qw_then ?_; refine cw_ret ?_; refine qw_then_ret ?_)
   refine qw_ret1 Tryz.results18 rfl ?_
   exact ⟨ret_bool (by simp [PG.ok, hq]), x1.trans x2⟩
 try rw [hq]
 have h2 := h1.ext x2
 ((refine lw_isg ?_; refine lw_on_no rfl rfl rfl (by omega) ?_); (refine lw_is ?_; refine lw_pure (by exact pur_not rfl) rfl ?_); (refine lw_is ?_; refine lw_pure (by exact pur_pick_no rfl rfl (by omega)) rfl ?_); refine lw_nil ?_; refine qw_then ?_; (refine cw_is ?_; refine cw_bf rfl (by rfl) ?_); refine cw_skip ?_; refine qw_then ?_; refine cw_seq ?_; refine cw_seq ?_; refine cw_region ?_; (refine lw_is ?_; refine lw_pure (by exact pur_fieldAddr tabOk rfl rfl rfl) rfl ?_); (refine lw_is ?_; refine lw_pure (by exact pur_load tabOk rfl rfl rfl (by exact fun wz hz => by (try subst hz); exact (Blk.cell (by assumption) (by rfl)))) rfl ?_); (refine lw_is ?_; refine lw_pure (by exact pur_len_slice tabOk rfl rfl) rfl ?_); (refine lw_is ?_; refine lw_pure (by exact pur_move rfl) rfl ?_); refine lw_nil ?_; refine qw_then ?_; refine cw_block ?_)
 refine cw_loop (ι := Nat) (fun j => [(24, .int .i64 j), (23, .int .i64 g.procs.length), (22, .slice pa g.procs.length pc), (1, .pointer (some ⟨b1, 0, none⟩))]) (fun j w' => Ext w2 w' ∧ j ≤ g.procs.length ∧ ∀ i (hi : i < g.procs.length), i < j → g.procs[i].ok = true) (fun j => g.procs.length - j) 0 (by (refine sub_cons rfl ?_; refine sub_cons rfl ?_; refine sub_cons rfl ?_; refine sub_cons rfl ?_; exact sub_nil)) ⟨Ext.refl _, by omega, by omega⟩ ?_; rintro j w3 ⟨x3, hj, hall⟩
 have HA := Lib.hid hall; clear hall
 have xx3 : Ext w w3 := (by refine Ext.trans ?_ (by assumption); refine Ext.trans ?_ (by assumption); assumption)
 by_cases hlt : j < g.procs.length
 · have hps : PDs S w3 g.procs pa := hs.procs.ext xx3
   obtain ⟨kb, ko, rfl, -, hkid⟩ := hps.get (by omega); obtain ⟨qa, qc, ba, bc, rx, sv, sb⟩ := hkid j g.procs[j] (List.getElem?_eq_getElem hlt); have wf := hwf.procs g.procs[j] (List.getElem_mem hlt); have wf1 := wf.name; have wf2 := wf.len; have HN := Lib.hid (procs_false hlt); clear hkid
   generalize hv : g.procs[j] = p at *
   have HE := Lib.hid hv; clear hv
   (refine cw_seq ?_; refine cw_region ?_; (refine lw_is ?_; refine lw_pure (by exact pur_lss rfl rfl) rfl ?_); refine lw_nil ?_; refine qw_then ?_; refine cw_seq ?_; (refine cw_is ?_; refine cw_yes rfl (by omega) ?_); refine cw_skip ?_; refine qw_then ?_; refine cw_seq ?_; refine cw_block ?_; refine cw_seq ?_; refine cw_region ?_; (refine lw_is ?_; refine lw_pure (by exact pur_indexAddr tabOk rfl rfl rfl rfl (by omega) (by omega)) rfl ?_); (refine lw_is ?_; refine lw_pure (by exact pur_loads' tabOk rfl rfl rfl (by exact fun wz hz => by (try subst hz); exact (by assumption)) (by rfl)) rfl ?_)); refine lw_alloc zOk rfl rfl ?_; intro b4 w4 hn4; refine lw_init tabOk rfl rfl rfl rfl rfl rfl (hn4) rfl ?_; clear hn4 w4; intro w4 hn4; have h4 := hn4.blk; have x4 := hn4.ext; (refine lw_nil ?_; refine qw_then ?_; refine cw_seq ?_; refine cw_region ?_; (refine lw_is ?_; refine lw_pure (by exact pur_fieldAddr0 tabOk rfl rfl rfl) rfl ?_); (refine lw_is ?_; refine lw_pure (by exact pur_load tabOk rfl rfl rfl (by exact fun wz hz => by (try subst hz); exact (Blk.cell (by assumption) (by rfl)))) rfl ?_)); refine cC (by kernel_rfl) rfl (Name_c p.name _ wf1) rfl ?_; rintro _ w5 ⟨⟨⟩, x5⟩; have xx5 : Ext w w5 := xx3.trans (x4.trans x5); have xx35 : Ext w3 w5 := x4.trans x5; have h5 := h4.ext x5
   cases hnm : isName p.name
   · try rw [hnm]
     ((refine lw_is ?_; refine lw_pure (by exact pur_not rfl) rfl ?_); (refine lw_is ?_; refine lw_pure (by exact pur_move rfl) rfl ?_); (refine lw_isg ?_; refine lw_off rfl rfl rfl (by rfl) rfl ?_); (refine lw_isg ?_; refine lw_off rfl rfl rfl (by rfl) rfl ?_); (refine lw_isg ?_; refine lw_off rfl rfl rfl (by rfl) rfl ?_); (refine lw_isg ?_; refine lw_off rfl rfl rfl (by rfl) rfl ?_); (refine lw_is ?_; refine lw_pure (by exact pur_pick_t rfl rfl (by rfl)) rfl ?_); (refine lw_is ?_; refine lw_pure (by exact pur_move rfl) rfl ?_); (refine lw_isg ?_; refine lw_off rfl rfl rfl (by rfl) rfl ?_); (refine lw_isg ?_; refine lw_off rfl rfl rfl (by rfl) rfl ?_); (refine lw_isg ?_; refine lw_off rfl rfl rfl (by rfl) rfl ?_); (refine lw_isg ?_; refine lw_off rfl rfl rfl (by rfl) rfl ?_); (refine lw_is ?_; refine lw_pure (by exact pur_pick_t rfl rfl (by rfl)) rfl ?_); (refine lw_is ?_; refine lw_pure (by exact pur_move rfl) rfl ?_); (refine lw_isg ?_; refine lw_off rfl rfl rfl (by rfl) rfl ?_); (refine lw_isg ?_; refine lw_off rfl rfl rfl (by rfl) rfl ?_); (refine lw_isg ?_; refine lw_off rfl rfl rfl (by rfl) rfl ?_); (refine lw_isg ?_; refine lw_off rfl rfl rfl (by rfl) rfl ?_); (refine lw_is ?_; refine lw_pure (by exact pur_pick_t rfl rfl (by rfl)) rfl ?_); refine lw_nil ?_; refine qw_then ?_; (refine cw_is ?_; refine cw_bt rfl (by rfl) ?_); refine cw_seq ?_; refine cw_region ?_; (refine lw_is ?_; refine lw_pure (by exact pur_assign rfl) rfl ?_); refine lw_nil ?_; refine qw_then ?_; refine cw_ret ?_; refine qw_block_ret ?_; refine qw_then_ret ?_; refine qw_then_ret ?_; refine qw_block_ret ?_; refine qw_then_ret ?_)
     refine qw_ret1 Tryz.results18 rfl ?_
     exact ⟨ret_bool (by simp [PG.ok, HN.out (by simp [PD.ok, hnm])]), xx5⟩
   try rw [hnm]
   by_cases c3 : 8 < p.params.length
   · ((refine lw_is ?_; refine lw_pure (by exact pur_not rfl) rfl ?_); (refine lw_is ?_; refine lw_pure (by exact pur_move rfl) rfl ?_); (refine lw_isg ?_; refine lw_on rfl rfl rfl (by rfl) ?_); (refine lw_is ?_; refine lw_pure (by exact pur_fieldAddr tabOk rfl rfl rfl) rfl ?_); (refine lw_isg ?_; refine lw_on rfl rfl rfl (by rfl) ?_); (refine lw_is ?_; refine lw_pure (by exact pur_load tabOk rfl rfl rfl (by exact fun wz hz => by (try subst hz); exact (Blk.cell (by assumption) (by rfl)))) rfl ?_); (refine lw_isg ?_; refine lw_on rfl rfl rfl (by rfl) ?_); (refine lw_is ?_; refine lw_pure (by exact pur_len_slice tabOk rfl rfl) rfl ?_); (refine lw_isg ?_; refine lw_on rfl rfl rfl (by rfl) ?_); (refine lw_is ?_; refine lw_pure (by exact pur_gtr rfl rfl) rfl ?_); (refine lw_is ?_; refine lw_pure (by exact pur_pick_f rfl rfl (by rfl)) rfl ?_); (refine lw_is ?_; refine lw_pure (by exact pur_move rfl) rfl ?_); (refine lw_isg ?_; refine lw_off_yes rfl rfl rfl (by omega) rfl ?_); (refine lw_isg ?_; refine lw_off_yes rfl rfl rfl (by omega) rfl ?_); (refine lw_isg ?_; refine lw_off_yes rfl rfl rfl (by omega) rfl ?_); (refine lw_isg ?_; refine lw_off_yes rfl rfl rfl (by omega) rfl ?_); (refine lw_is ?_; refine lw_pure (by exact pur_pick_yes rfl rfl (by omega)) rfl ?_); (refine lw_is ?_; refine lw_pure (by exact pur_move rfl) rfl ?_); (refine lw_isg ?_; refine lw_off rfl rfl rfl (by rfl) rfl ?_); (refine lw_isg ?_; refine lw_off rfl rfl rfl (by rfl) rfl ?_); (refine lw_isg ?_; refine lw_off rfl rfl rfl (by rfl) rfl ?_); (refine lw_isg ?_; refine lw_off rfl rfl rfl (by rfl) rfl ?_); (refine lw_is ?_; refine lw_pure (by exact pur_pick_t rfl rfl (by rfl)) rfl ?_); refine lw_nil ?_; refine qw_then ?_; (refine cw_is ?_; refine cw_bt rfl (by rfl) ?_); refine cw_seq ?_; refine cw_region ?_; (refine lw_is ?_; refine lw_pure (by exact pur_assign rfl) rfl ?_); refine lw_nil ?_; refine qw_then ?_; refine cw_ret ?_; refine qw_block_ret ?_; refine qw_then_ret ?_; refine qw_then_ret ?_; refine qw_block_ret ?_; refine qw_then_ret ?_)
     refine qw_ret1 Tryz.results18 rfl ?_
     exact ⟨ret_bool (by simp [PG.ok, HN.out (by simp [PD.ok, hnm]; omega)]), xx5⟩
   ((refine lw_is ?_; refine lw_pure (by exact pur_not rfl) rfl ?_); (refine lw_is ?_; refine lw_pure (by exact pur_move rfl) rfl ?_); (refine lw_isg ?_; refine lw_on rfl rfl rfl (by rfl) ?_); (refine lw_is ?_; refine lw_pure (by exact pur_fieldAddr tabOk rfl rfl rfl) rfl ?_); (refine lw_isg ?_; refine lw_on rfl rfl rfl (by rfl) ?_); (refine lw_is ?_; refine lw_pure (by exact pur_load tabOk rfl rfl rfl (by exact fun wz hz => by (try subst hz); exact (Blk.cell (by assumption) (by rfl)))) rfl ?_); (refine lw_isg ?_; refine lw_on rfl rfl rfl (by rfl) ?_); (refine lw_is ?_; refine lw_pure (by exact pur_len_slice tabOk rfl rfl) rfl ?_); (refine lw_isg ?_; refine lw_on rfl rfl rfl (by rfl) ?_); (refine lw_is ?_; refine lw_pure (by exact pur_gtr rfl rfl) rfl ?_); (refine lw_is ?_; refine lw_pure (by exact pur_pick_f rfl rfl (by rfl)) rfl ?_); (refine lw_is ?_; refine lw_pure (by exact pur_move rfl) rfl ?_); (refine lw_isg ?_; refine lw_on_no rfl rfl rfl (by omega) ?_); (refine lw_is ?_; refine lw_pure (by exact pur_fieldAddr tabOk rfl rfl rfl) rfl ?_); (refine lw_isg ?_; refine lw_on_no rfl rfl rfl (by omega) ?_); (refine lw_is ?_; refine lw_pure (by exact pur_load tabOk rfl rfl rfl (by exact fun wz hz => by (try subst hz); exact (Blk.cell (by assumption) (by rfl)))) rfl ?_); (refine lw_isg ?_; refine lw_on_no rfl rfl rfl (by omega) ?_))
   refine cC (by kernel_rfl) rfl (declared_c p.params S qa qc _ wf2 wf.params (sv.ext xx35)) rfl ?_; rintro _ w6 ⟨⟨⟩, x6⟩; have xx6 : Ext w w6 := xx5.trans x6; have xx36 : Ext w3 w6 := xx35.trans x6; have h6 := h5.ext x6
   cases hq2 : allOk p.params
   · try rw [hq2]
     ((refine lw_isg ?_; refine lw_on_no rfl rfl rfl (by omega) ?_); (refine lw_is ?_; refine lw_pure (by exact pur_not rfl) rfl ?_); (refine lw_is ?_; refine lw_pure (by exact pur_pick_no rfl rfl (by omega)) rfl ?_); (refine lw_is ?_; refine lw_pure (by exact pur_move rfl) rfl ?_); (refine lw_isg ?_; refine lw_off rfl rfl rfl (by rfl) rfl ?_); (refine lw_isg ?_; refine lw_off rfl rfl rfl (by rfl) rfl ?_); (refine lw_isg ?_; refine lw_off rfl rfl rfl (by rfl) rfl ?_); (refine lw_isg ?_; refine lw_off rfl rfl rfl (by rfl) rfl ?_); (refine lw_is ?_; refine lw_pure (by exact pur_pick_t rfl rfl (by rfl)) rfl ?_); refine lw_nil ?_; refine qw_then ?_; (refine cw_is ?_; refine cw_bt rfl (by rfl) ?_); refine cw_seq ?_; refine cw_region ?_; (refine lw_is ?_; refine lw_pure (by exact pur_assign rfl) rfl ?_); refine lw_nil ?_; refine qw_then ?_; refine cw_ret ?_; refine qw_block_ret ?_; refine qw_then_ret ?_; refine qw_then_ret ?_; refine qw_block_ret ?_; refine qw_then_ret ?_)
     refine qw_ret1 Tryz.results18 rfl ?_
     exact ⟨ret_bool (by simp [PG.ok, HN.out (by simp [PD.ok, hq2])]), xx6⟩
   try rw [hq2]
   ((refine lw_isg ?_; refine lw_on_no rfl rfl rfl (by omega) ?_); (refine lw_is ?_; refine lw_pure (by exact pur_not rfl) rfl ?_); (refine lw_is ?_; refine lw_pure (by exact pur_pick_no rfl rfl (by omega)) rfl ?_); (refine lw_is ?_; refine lw_pure (by exact pur_move rfl) rfl ?_); (refine lw_isg ?_; refine lw_on rfl rfl rfl (by rfl) ?_); (refine lw_is ?_; refine lw_pure (by exact pur_fieldAddr tabOk rfl rfl rfl) rfl ?_); (refine lw_isg ?_; refine lw_on rfl rfl rfl (by rfl) ?_); (refine lw_is ?_; refine lw_pure (by exact pur_loads_blk tabOk rfl rfl rfl (by exact fun wz hz => by (try subst hz); exact (by assumption)) (by rfl)) rfl ?_); (refine lw_isg ?_; refine lw_on rfl rfl rfl (by rfl) ?_))
   refine cC (by kernel_rfl) rfl (isBody_c p.body S ba bc _ wf.body (sb.ext xx36)) rfl ?_; rintro _ w7 ⟨⟨⟩, x7⟩; have xx7 : Ext w w7 := xx6.trans x7
   cases hq3 : bodyOk p.body
   · try rw [hq3]
     ((refine lw_isg ?_; refine lw_on rfl rfl rfl (by rfl) ?_); (refine lw_is ?_; refine lw_pure (by exact pur_not rfl) rfl ?_); (refine lw_is ?_; refine lw_pure (by exact pur_pick_f rfl rfl (by rfl)) rfl ?_); refine lw_nil ?_; refine qw_then ?_; (refine cw_is ?_; refine cw_bt rfl (by rfl) ?_); refine cw_seq ?_; refine cw_region ?_; (refine lw_is ?_; refine lw_pure (by exact pur_assign rfl) rfl ?_); refine lw_nil ?_; refine qw_then ?_; refine cw_ret ?_; refine qw_block_ret ?_; refine qw_then_ret ?_; refine qw_then_ret ?_; refine qw_block_ret ?_; refine qw_then_ret ?_)
     refine qw_ret1 Tryz.results18 rfl ?_
     exact ⟨ret_bool (by simp [PG.ok, HN.out (by simp [PD.ok, hq3])]), xx7⟩
   try rw [hq3]
   have hok : p.ok = true := by simp [PD.ok, hnm, hq2, hq3]; omega
   ((refine lw_isg ?_; refine lw_on rfl rfl rfl (by rfl) ?_); (refine lw_is ?_; refine lw_pure (by exact pur_not rfl) rfl ?_); (refine lw_is ?_; refine lw_pure (by exact pur_pick_f rfl rfl (by rfl)) rfl ?_); refine lw_nil ?_; refine qw_then ?_; (refine cw_is ?_; refine cw_bf rfl (by rfl) ?_); refine cw_skip ?_; refine qw_block_norm ?_; refine qw_then ?_; refine cw_region ?_; (refine lw_is ?_; refine lw_pure (by exact pur_add rfl rfl (IntWalk.i64_in _ (by omega))) rfl ?_); (refine lw_is ?_; refine lw_pure (by exact pur_move rfl) rfl ?_); refine lw_nil ?_)
   refine qw_round (j + 1) (by (refine sub_cons rfl ?_; refine sub_cons rfl ?_; refine sub_cons rfl ?_; refine sub_cons rfl ?_; exact sub_nil)) ⟨x3.trans (xx36.trans x7), by omega, fun i hi hij => ?_⟩ (by omega)
   by_cases e : i = j
   · subst e; exact HE.out ▸ hok
   · exact HA.out i hi (by omega)
 · have h3 := h2.ext x3
   (refine cw_seq ?_; refine cw_region ?_; (refine lw_is ?_; refine lw_pure (by exact pur_lss rfl rfl) rfl ?_); refine lw_nil ?_; refine qw_then ?_; refine cw_seq ?_; (refine cw_is ?_; refine cw_no rfl (by omega) ?_); refine cw_exit ?_; refine qw_then_exit ?_; refine qw_then_exit ?_; refine qw_block_exit ?_; refine qw_then ?_; refine cw_seq ?_; refine cw_region ?_; (refine lw_is ?_; refine lw_pure (by exact pur_fieldAddr tabOk rfl rfl rfl) rfl ?_); (refine lw_is ?_; refine lw_pure (by exact pur_loads_blk tabOk rfl rfl rfl (by exact fun wz hz => by (try subst hz); exact (by assumption)) (by rfl)) rfl ?_)); refine cC (by kernel_rfl) rfl (isBody_c g.main S ma mc _ hwf.main (hs.main.ext xx3)) rfl ?_; rintro _ w4 ⟨⟨⟩, x4⟩
   ((refine lw_is ?_; refine lw_pure (by exact pur_assign rfl) rfl ?_); refine lw_nil ?_; refine qw_then ?_; refine cw_ret ?_)
   refine qw_ret1 Tryz.results18 rfl ?_; refine ⟨ret_bool ?_, xx3.trans x4⟩; have := procs_true (fun i hi => HA.out i hi (by omega))
   simp [PG.ok, hq, this]; omega
end Bk
namespace Bk
open Go
theorem rowDepth_nnB : ∀ l : List Nd, 0 ≤ rowDepth l
 | [] => by simp [rowDepth]
 | t :: r => by have := rowDepth_nnB r; simp only [rowDepth]; omega
mutual
theorem lim_okB : ∀ (t : Nd) (d m : Int), t.depth ≤ d → (t.size : Int) ≤ m → t.lim d m = (true, m - t.size)
 | .mk _ _ _ l, d, m, hd, hm => by
  simp only [Nd.depth] at hd; simp only [Nd.size] at hm; have h0 : 0 ≤ rowDepth l := rowDepth_nnB l
  unfold Nd.lim
  rw [if_neg (by omega), rowLim_okB l (d - 1) (m - 1) (by omega) (by omega)]; simp only [Nd.size]
  congr 1
  omega
theorem rowLim_okB : ∀ (l : List Nd) (d m : Int), rowDepth l ≤ d → (rowSize l : Int) ≤ m → rowLim l d m = (true, m - rowSize l)
 | [], d, m, _, _ => by simp [rowLim, rowSize]
 | t :: r, d, m, hd, hm => by
  simp only [rowDepth] at hd; simp only [rowSize] at hm; have h1 := lim_okB t d m (by omega) (by omega)
  unfold rowLim
  rw [h1]; simp only [if_true]; rw [rowLim_okB r d _ (by omega) (by omega)]; simp only [rowSize]
  congr 1
  omega
end
mutual
theorem lim_depthB : ∀ (t : Nd) (d m : Int), 0 ≤ d → (t.lim d m).1 = true → t.depth ≤ d
 | .mk _ _ s l, d, m, hd, h => by
  simp only [Nd.lim] at h
  split at h
  · simp at h
  · have := rowLim_depthB l (d - 1) (m - 1) (by omega) h
    simp only [Nd.depth]; omega
theorem rowLim_depthB : ∀ (l : List Nd) (d m : Int), 0 ≤ d → (rowLim l d m).1 = true → rowDepth l ≤ d
 | [], d, m, hd, _ => by simp only [rowDepth]; exact hd
 | t :: r, d, m, hd, h => by
  simp only [rowLim] at h
  split at h
  · rename_i ht
    have h1 := lim_depthB t d m hd ht; have h2 := rowLim_depthB r d _ hd h
    simp only [rowDepth]; omega
  · simp at h
end
mutual
theorem lim_sizeB : ∀ (t : Nd) (d m : Int), 0 ≤ m → (t.lim d m).1 = true → (t.size : Int) + (t.lim d m).2 ≤ m
 | .mk _ _ s l, d, m, hm, h => by
  simp only [Nd.lim] at h ⊢
  split at h
  · simp at h
  · rename_i hn
    rw [if_neg hn]; have := rowLim_sizeB l (d - 1) (m - 1) (by omega) h
    simp only [Nd.size]; omega
theorem rowLim_sizeB : ∀ (l : List Nd) (d m : Int), 0 ≤ m → (rowLim l d m).1 = true → (rowSize l : Int) + (rowLim l d m).2 ≤ m
 | [], d, m, hm, _ => by simp only [rowLim, rowSize]; omega
 | t :: r, d, m, hm, h => by
  simp only [rowLim] at h ⊢
  split at h
  · rename_i ht
    rw [if_pos ht]; have h1 := lim_sizeB t d m hm ht; have h0 := lim_le t d m hm; have h2 := rowLim_sizeB r d (t.lim d m).2 h0.1 h
    simp only [rowSize]; omega
  · simp at h
end
theorem body_iff {t : Nd} : bodyOk t = true ↔ t.isBlock = true ∧ t.depth ≤ 80 ∧ t.size ≤ 2000 := by
 constructor
 · intro h
   simp only [bodyOk, Bool.and_eq_true] at h; have h1 := lim_sizeB t 80 2000 (by omega) h.1; have h2 := lim_le t 80 2000 (by omega)
   exact ⟨h.2, lim_depthB t 80 2000 (by omega) h.1, by omega⟩
 · rintro ⟨h1, h2, h3⟩
   simp only [bodyOk, Bool.and_eq_true]; refine ⟨?_, h1⟩; rw [lim_okB t 80 2000 h2 (by omega)]
theorem ok_parts {g : PG} (h : g.ok = true) : g.vars.length ≤ 32 ∧ g.procs.length ≤ 64 ∧ allOk g.vars = true ∧ (∀ p ∈ g.procs, p.ok = true) ∧ bodyOk g.main = true := by
 simp only [PG.ok, Bool.and_eq_true, decide_eq_true_eq] at h; obtain ⟨⟨⟨⟨h1, h2⟩, h3⟩, h4⟩, h5⟩ := h
 exact ⟨h1, h2, h3, List.all_eq_true.1 h4, h5⟩
theorem parts_ok {g : PG} (h1 : g.vars.length ≤ 32) (h2 : g.procs.length ≤ 64) (h3 : allOk g.vars = true) (h4 : ∀ p ∈ g.procs, p.ok = true) (h5 : bodyOk g.main = true) : g.ok = true := by
 simp only [PG.ok, Bool.and_eq_true, decide_eq_true_eq]
 exact ⟨⟨⟨⟨h1, h2⟩, h3⟩, List.all_eq_true.2 h4⟩, h5⟩
theorem pok_parts {p : PD} (h : p.ok = true) : isName p.name = true ∧ p.params.length ≤ 8 ∧ allOk p.params = true ∧ bodyOk p.body = true := by
 simp only [PD.ok, Bool.and_eq_true, decide_eq_true_eq] at h; obtain ⟨⟨⟨h1, h2⟩, h3⟩, h4⟩ := h
 exact ⟨h1, h2, h3, h4⟩
theorem parts_pok {p : PD} (h1 : isName p.name = true) (h2 : p.params.length ≤ 8) (h3 : allOk p.params = true) (h4 : bodyOk p.body = true) : p.ok = true := by
 simp only [PD.ok, Bool.and_eq_true, decide_eq_true_eq]
 exact ⟨⟨⟨h1, h2⟩, h3⟩, h4⟩
theorem inv_body (q : Bool) {t : Nd} (h : bodyOk t = true) : bodyOk (t.inv q) = true := by
 obtain ⟨h1, h2, h3⟩ := body_iff.1 h; have := inv_ok q (t.size + 1) t (by omega) (Or.inr h1)
 exact body_iff.2 ⟨this.bl h1, by rw [this.depth]; exact h2, by rw [this.size]; exact h3⟩
def PD.map (f : Nd → Nd) (p : PD) : PD := ⟨p.name, p.params, f p.body⟩
def PG.inv (f : Nd → Nd) (q : Bool) (g : PG) : PG := ⟨g.vars, g.procs.map (PD.map f), g.main.inv q⟩
theorem inv_pg_ok {f : Nd → Nd} (q : Bool) {g : PG} (h : g.ok = true) (hf : ∀ p ∈ g.procs, bodyOk (f p.body) = true) : (g.inv f q).ok = true := by
 obtain ⟨h1, h2, h3, h4, h5⟩ := ok_parts h; refine parts_ok h1 (by simpa [PG.inv] using h2) h3 (fun p hp => ?_) (inv_body q h5); obtain ⟨x, hx, rfl⟩ := List.mem_map.1 hp; obtain ⟨p1, p2, p3, p4⟩ := pok_parts (h4 x hx)
 exact parts_pok p1 p2 p3 (hf x hx)
theorem inv_pg_wf {f : Nd → Nd} (q : Bool) {g : PG} (h : g.wf) (hok : g.ok = true) (hf : ∀ p ∈ g.procs, (f p.body).wf) : (g.inv f q).wf := by
 obtain ⟨h1, h2, h3, h4, h5⟩ := ok_parts hok; refine ⟨h.nv, by simpa [PG.inv] using h.np, h.vars, fun p hp => ?_, (inv_ok q (g.main.size + 1) g.main (by omega) (Or.inr (body_iff.1 h5).1)).wf h.main⟩; obtain ⟨x, hx, rfl⟩ := List.mem_map.1 hp; have := h.procs x hx
 exact ⟨this.name, this.len, this.params, hf x hx⟩
theorem inv_pg_back {f : Nd → Nd} (q : Bool) {g : PG} (hok : g.ok = true) (hf : ∀ p ∈ g.procs, f (f p.body) = p.body) : (g.inv f q).inv f q = g := by
 obtain ⟨h1, h2, h3, h4, h5⟩ := ok_parts hok; have e1 := (inv_ok q (g.main.size + 1) g.main (by omega) (Or.inr (body_iff.1 h5).1)).back; obtain ⟨vs, ps, m⟩ := g; simp only [PG.inv, PG.mk.injEq, true_and]; refine ⟨?_, e1⟩; rw [List.map_map]
 conv => rhs; rw [← List.map_id ps]
 refine List.map_congr_left fun p hp => ?_
 obtain ⟨a, b, c⟩ := p; simp only [Function.comp, PD.map, id, PD.mk.injEq, true_and]
 exact hf _ hp
theorem ok_mainB {g : PG} (h : g.ok = true) : g.main.isBlock = true := (body_iff.1 (ok_parts h).2.2.2.2).1
theorem ok_bodyB {g : PG} (h : g.ok = true) : ∀ p ∈ g.procs, p.body.isBlock = true := fun p hp => (body_iff.1 (pok_parts ((ok_parts h).2.2.2.1 p hp)).2.2.2).1
end Bk
namespace Bk
open Go Go.RowKit Go.Proofs
attribute [local irreducible] Go.Calls
def ProgR (u : PG) (k : Int) (w : World) : Ending → World → Prop := fun e w' => ∃ va vc pa pc ma mc, e = .returned (.tuple #[.agg (u.cells va vc pa pc ma mc).toArray, .int .i64 k]) ∧ u.sits (fun b => w.heap.size ≤ b ∧ b < w'.heap.size) w' va pa ma ∧ Ext w w'
theorem ProgR.ret {u : PG} {k : Int} {w : World} {e : Ending} {w' : World} (h : ProgR u k w e w') : ∃ v, e = .returned v := by
 obtain ⟨_, _, _, _, _, _, h, -⟩ := h
 exact ⟨_, h⟩
theorem valid_v {g : PG} {b : Bool} (hwf : g.wf) (h : g.ok = b) (S : Nat → Prop) (va : Option Addr) (vc : Nat) (pa : Option Addr) (pc : Nat) (ma : Option Addr) (mc : Nat) (w : World) (hs : g.sits S w va pa ma) :
 Calls Tryz.prog 18 #[.agg (g.cells va vc pa pc ma mc).toArray] w fun e w' => e = .returned (.bool b) ∧ Ext w w' := by
 have := Valid_c g S va vc pa pc ma mc w hwf hs
 rw [h] at this; exact this
def zeroPG : PG := ⟨[], [], zeroNd⟩
theorem zeroPG_sits {S : Nat → Prop} {w : World} : zeroPG.sits S w none none none := ⟨Or.inl rfl, Or.inl rfl, sits_nil⟩
theorem PG.sits.ltA {S : Nat → Prop} {w : World} {g : PG} {va pa ma : Option Addr} (h : g.sits S w va pa ma) : g.sits (· < w.heap.size) w va pa ma := ⟨h.vars.lt2.wide fun _ h => h.2, h.procs.ltA, sits_ltA _ _ h.main⟩
set_option maxRecDepth 100000 in
set_option maxHeartbeats 4000000 in
theorem iprogram_n (q : Bool) (fv : Value) (g : PG) (hwf : g.wf) (hok : g.ok = false) (S : Nat → Prop) (va : Option Addr) (vc : Nat) (pa : Option Addr) (pc : Nat) (ma : Option Addr) (mc : Nat) (w : World) (hs : g.sits S w va pa ma) :
 Calls Tryz.prog 33 #[.agg (g.cells va vc pa pc ma mc).toArray, fv, .bool q] w (ProgR zeroPG 3 w) := by
 have X := Ext.refl w; have HV := Lib.hid (valid_v hwf hok); clear hwf hok; replace hs := hs.ltA; refine calls_in Tryz.func33 Tryz.ntmps33 rfl rfl ?_
 focus
  refine cS ?_; (refine lw_box' [_, _, _, _, _, _] rfl rfl rfl ?_; intro b1 w2 n3); have h4 := n3.blk; have x5 := n3.ext; have p6 := n3.pos; have z7 := n3.size; clear n3; replace X := X.ext x5; replace hs := PG.sits.ext hs x5; clear x5; (refine lw_alloc' [_, _, _, _, _, _] zOk rfl rfl ?_; intro b8 w9 n10); have h12 := n10.blk; have x13 := n10.ext; have p14 := n10.pos; have z15 := n10.size; clear n10; replace h4 := h4.ext x13; replace X := X.ext x13; replace hs := PG.sits.ext hs x13; clear x13; refine cA rfl rfl (cT (cw_seq (cS (lw_loads_b' [_, _, _, _, _, _] tabOk rfl rfl rfl h4 rfl rfl rfl ?_)))); refine cC (by kernel_rfl) rfl (HV.out _ _ _ _ _ _ _ _ (by assumption)) rfl ?_; rintro _ w17 ⟨⟨⟩, x16⟩; have z18 := x16.size; replace h12 := h12.ext x16; replace h4 := h4.ext x16; replace X := X.ext x16; replace hs := PG.sits.ext hs x16; clear x16; refine lw_pure (pur_not rfl) rfl (cT (cw_cond_t rfl (cS (lw_pure (pur_build' [_, _, _, _, _, _] tabOk zOk rfl rfl rfl rfl) rfl ?_)))); (refine lw_store' [_, _, _, _, _, _] [_, _, _, _, _, _] tabOk rfl rfl rfl rfl rfl rfl h12 rfl rfl ?_; intro w19 n20); have h23 := n20.blk; have f21 := n20.fr; have z22 := n20.size; clear n20 h12; replace h4 := h4.fr f21 (by omega); replace X := X.fr f21 (by omega); replace hs := PG.sits.fr hs f21 (by omega); clear f21; refine cA rfl rfl (cT (cw_ret (qw_then_ret ?_))); rotate_left 1
 refine qw_retc2 rfl tabOk rfl rfl rfl (by assumption) rfl rfl ?_
 exact ⟨none, 0, none, 0, none, 0, rfl, zeroPG_sits, X⟩
theorem procs_snoc (f : Nd → Nd) (l : List PD) (j : Nat) (h : j < l.length) : (l.take (j + 1)).map (PD.map f) = (l.take j).map (PD.map f) ++ [(l[j]).map f] := by
 rw [List.take_succ_eq_append_getElem h, List.map_append]; rfl
theorem PDs.lt2 {S : Nat → Prop} {w : World} {l : List PD} {a : Option Addr} (h : PDs S w l a) : PDs (fun b => S b ∧ b < w.heap.size) w l a := by
 rcases h with h | ⟨b, o, h1, h2, h3⟩
 · exact Or.inl h
 · cases l with
   | nil => exact Or.inl rfl
   | cons v r =>
    obtain ⟨_, _, _, _, hr, -, -⟩ := h3 0 v rfl; refine Or.inr ⟨b, o, h1, ⟨h2, cell_lt (Row.at0 hr rfl)⟩, fun i x hi => ?_⟩; obtain ⟨pa, pc, ba, bc, hr, hv, hs⟩ := h3 i x hi
    exact ⟨pa, pc, ba, bc, hr, hv.lt2, sits_lt2 _ _ hs⟩
theorem progR_mk {f : Nd → Nd} {q : Bool} {g : PG} {w w' : World} {va ra ma : Option Addr} {vc rc mc M e : Nat} {xs : List PD} {S1 S2 : Nat → Prop} (hx : xs = g.procs.map (PD.map f)) (hv : VDs S1 w' g.vars va) (ho : OwnL pdShape w' M e (.slice ra xs.length rc) xs) (hm : (g.main.inv q).sits S2 w' ma) (X : Ext w w') (k1 : ∀ b, S1 b → w.heap.size ≤ b) (k2 : ∀ b, S2 b → w.heap.size ≤ b) (kM : w.heap.size ≤ M) :
 ProgR (g.inv f q) 0 w (.returned (.tuple #[.agg #[.slice va g.vars.length vc, .slice ra xs.length rc, .int .u8 (g.main.inv q).kind, .int .i64 (g.main.inv q).num, str (g.main.inv q).name, .slice ma (g.main.inv q).kids.length mc], .int .i64 0])) w' := by
 subst hx; refine ⟨va, vc, ra, rc, ma, mc, rfl, ⟨hv.lt2.wide fun b h => ⟨k1 b h.1, h.2⟩, ?_, Nd.sits.wide (sits_lt2 _ _ hm) fun b h => ⟨k2 b h.1, h.2⟩⟩, X⟩; have h1 := PDs.lt2 (ho.pds (S := fun b => M ≤ b) (fun b hb => hb))
 exact PDs.wide h1 fun b h => ⟨by omega, h.2⟩
set_option maxRecDepth 100000 in
set_option maxHeartbeats 4000000 in
theorem iprogram_c (q : Bool) (fid : Nat) (f : Nd → Nd) (hbd : bodied Tryz.prog fid = true) (g : PG) (hwf : g.wf) (hok : g.ok = true) (hf : g.few) (hm : g.main.isBlock = true)
 (HB : ∀ p ∈ g.procs, ∀ (S : Nat → Prop) (a : Option Addr) (c : Nat) (w : World), p.body.sits S w a → Calls Tryz.prog fid #[p.body.val a c] w (CopyR (f p.body) w))
 (S : Nat → Prop) (va : Option Addr) (vc : Nat) (pa : Option Addr) (pc : Nat) (ma : Option Addr) (mc : Nat) (w : World) (hs : g.sits S w va pa ma) :
 Calls Tryz.prog 33 #[.agg (g.cells va vc pa pc ma mc).toArray, .func (.func fid) #[] #[], .bool q] w (ProgR (g.inv f q) 0 w) := by
 have X := Ext.refl w; obtain ⟨nv, np, hmz, hps⟩ := hf; have HV := Lib.hid (valid_v hwf hok); have HI := Lib.hid (invert_t q g.main hmz (Or.inr hm)); have HC := Lib.hid (vdClone_c g.vars (by omega)); have HP := Lib.hid HB; have HQ := Lib.hid hps; clear hwf hok hm HB hps; replace hs := hs.ltA; refine calls_in Tryz.func33 Tryz.ntmps33 rfl rfl ?_
 focus
  refine cS ?_; (refine lw_box' [_, _, _, _, _, _] rfl rfl rfl ?_; intro b1 w2 n3); have h4 := n3.blk; have x5 := n3.ext; have p6 := n3.pos; have z7 := n3.size; clear n3; replace X := X.ext x5; replace hs := PG.sits.ext hs x5; clear x5; (refine lw_alloc' [_, _, _, _, _, _] zOk rfl rfl ?_; intro b8 w9 n10); have h12 := n10.blk; have x13 := n10.ext; have p14 := n10.pos; have z15 := n10.size; clear n10; replace h4 := h4.ext x13; replace X := X.ext x13; replace hs := PG.sits.ext hs x13; clear x13; refine cA rfl rfl (cT (cw_seq (cS (lw_loads_b' [_, _, _, _, _, _] tabOk rfl rfl rfl h4 rfl rfl rfl ?_)))); refine cC (by kernel_rfl) rfl (HV.out _ _ _ _ _ _ _ _ (by assumption)) rfl ?_; rintro _ w17 ⟨⟨⟩, x16⟩; have z18 := x16.size; replace h12 := h12.ext x16; replace h4 := h4.ext x16; replace X := X.ext x16; replace hs := PG.sits.ext hs x16; clear x16; refine lw_pure (pur_not rfl) rfl (cT (cw_cond_f rfl (cw_skip (qw_then ?_)))); rotate_left 1
 refine cw_meet (ι := Nat × Option Addr × Nat × Option Addr × Nat) (fun x => [(1, .func (.func fid) #[] #[]), (3, .pointer (some ⟨b1, 0, none⟩)), (6, .pointer (some ⟨b8, 0, none⟩)), (8, .pointer (some ⟨x.1, 0, none⟩))])
  (fun x w' => Blk w' x.1 [.slice x.2.1 g.vars.length x.2.2.1, .slice none 0 0, .int .u8 (g.main.inv q).kind, .int .i64 (g.main.inv q).num, str (g.main.inv q).name, .slice x.2.2.2.1 (g.main.inv q).kids.length x.2.2.2.2] ∧ VDs (fun b => b8 < b ∧ b ≠ x.1 ∧ b < w'.heap.size) w' g.vars x.2.1 ∧ (g.main.inv q).sits (fun b => b8 < b ∧ b ≠ x.1 ∧ b < w'.heap.size) w' x.2.2.2.1 ∧ b8 < x.1 ∧ x.1 < w'.heap.size ∧
   Blk w' b1 [.slice va g.vars.length vc, .slice pa g.procs.length pc, .int .u8 g.main.kind, .int .i64 g.main.num, str g.main.name, .slice ma g.main.kids.length mc] ∧ Blk w' b8 [.slice none 0 0, .slice none 0 0, .int .u8 0, .int .i64 0, str [], .slice none 0 0] ∧ g.sits (· < w.heap.size) w' va pa ma ∧ Ext w w') ?_ ?_
 · clear HP HQ HV
   have hv := hs.vars; have hmm := hs.main
   focus
    (refine cw_tdraw (fun wz => Ext w17 wz) 9 (.pure 0 (.pure 1 (.pure 3 (.pure 4 (.pure 5 (.fork 2 (.fork 6 (.pure 7 (.fork 8 .tail .none)) (.fork 8 (.fork 6 (.pure 7 .tail) .none) .none)) (.fork 8 (.fork 2 (.fork 6 (.pure 7 .tail) .none) .none) .none))))))) mixed (by kernel_rfl) (panicOk_then panicOk_body) ?_; intro wa1 xa2 _); have qsa3 : (fun wz => Ext w17 wz) wa1 := xa2; simp only at qsa3; have d_h12 := h12; have d_h4 := h4; have d_hs := hs; have d_hv := hv; have d_hmm := hmm; have za4 := xa2.size; replace h12 := h12.ext xa2; replace h4 := h4.ext xa2; replace X := X.ext xa2; replace hs := PG.sits.ext hs xa2; replace hv := hv.ext xa2; replace hmm := Nd.sits.ext hmm xa2; clear xa2; refine ⟨qsa3, ?_⟩; refine tw_pure rfl (pur_fieldAddr0 tabOk rfl rfl rfl) rfl (tw_pure rfl (pur_load tabOk rfl rfl rfl (fun wz hz => Blk.cell (Blk.ext d_h4 hz) rfl)) rfl (tw_pure rfl (pur_fieldAddr tabOk rfl rfl rfl) rfl (tw_pure rfl (pur_loads_blk' [_, _, _, _] tabOk rfl rfl rfl (fun wz hz => (Blk.ext d_h4 hz)) rfl rfl) rfl (tw_pure rfl (pur_move rfl) rfl ?_)))); refine tw_does rfl (does_call (by kernel_rfl) rfl (HC.out _ _ _ _ (by assumption)) (fun _ _ h => h.ret)) rfl ?_ (fun _ h => h) ?kra5; rintro _ wa10 ⟨aa6, ⟨ca7, ⟨⟨⟩, ⟨ha8, xa9⟩⟩⟩⟩; have za11 := xa9.size; replace qsa3 := qsa3.ext xa9; replace h12 := h12.ext xa9; replace h4 := h4.ext xa9; replace X := X.ext xa9; replace hs := PG.sits.ext hs xa9; replace hv := hv.ext xa9; replace hmm := Nd.sits.ext hmm xa9; clear xa9; refine ⟨qsa3, ?_⟩; refine tw_does rfl (does_call (by kernel_rfl) rfl (HI.out _ _ _ _ (by assumption)) (fun _ _ h => h.ret)) rfl ?_ (fun _ h => h) ?kra12
    rintro _ wa17 ⟨aa13, ⟨ca14, ⟨⟨⟩, ⟨ha15, xa16⟩⟩⟩⟩; have za18 := xa16.size; replace ha8 := ha8.ext xa16; replace qsa3 := qsa3.ext xa16; replace h12 := h12.ext xa16; replace h4 := h4.ext xa16; replace X := X.ext xa16; replace hs := PG.sits.ext hs xa16; replace hv := hv.ext xa16; replace hmm := Nd.sits.ext hmm xa16; clear xa16; refine ⟨qsa3, ?_⟩; refine tw_pure rfl (pur_build' [_, _, _, _, _, _] tabOk zOk rfl rfl rfl rfl) rfl ?_; (refine tw_does rfl (does_alloc zOk rfl) rfl ?_ (fun _ h => h) tw_none; rintro _ wa21 ⟨ba20, rfl, na22⟩); have ha23 := na22.blk; dsimp only at ha23; have xa24 := na22.ext; have pa25 := na22.pos; have za26 := na22.size; clear na22; replace ha15 := Nd.sits.ext ha15 xa24; replace ha8 := ha8.ext xa24; replace qsa3 := qsa3.ext xa24; replace h12 := h12.ext xa24; replace h4 := h4.ext xa24; replace X := X.ext xa24; replace hs := PG.sits.ext hs xa24; replace hv := hv.ext xa24; replace hmm := Nd.sits.ext hmm xa24; clear xa24; refine ⟨qsa3, ?_⟩; clear d_h12 d_h4 d_hs d_hv d_hmm qsa3; refine tw_tail rfl ?_; (refine lw_store' [_, _, _, _, _, _] [_, _, _, _, _, _] tabOk rfl rfl rfl rfl rfl rfl ha23 rfl rfl ?_; intro wa27 na28); have ha31 := na28.blk; have fa29 := na28.fr; have za30 := na28.size; clear na28 ha23; replace ha15 := Nd.sits.fr ha15 fa29 (by omega); replace ha8 := ha8.fr fa29 (by omega); replace h12 := h12.fr fa29 (by omega); replace h4 := h4.fr fa29 (by omega); replace X := X.fr fa29 (by omega); replace hs := PG.sits.fr hs fa29 (by omega); replace hv := hv.fr fa29 (by omega)
    replace hmm := Nd.sits.fr hmm fa29 (by omega); clear fa29; refine lw_nil ?_; rotate_left 1; (refine tw_does rfl (does_alloc zOk rfl) rfl ?_ (fun _ h => h) tw_none; rintro _ wa34 ⟨ba33, rfl, na35⟩); have ha36 := na35.blk; dsimp only at ha36; have xa37 := na35.ext; have pa38 := na35.pos; have za39 := na35.size; clear na35; replace ha8 := ha8.ext xa37; replace qsa3 := qsa3.ext xa37; replace h12 := h12.ext xa37; replace h4 := h4.ext xa37; replace X := X.ext xa37; replace hs := PG.sits.ext hs xa37; replace hv := hv.ext xa37; replace hmm := Nd.sits.ext hmm xa37; clear xa37; refine ⟨qsa3, ?_⟩; refine tw_does rfl (does_call (by kernel_rfl) rfl (HI.out _ _ _ _ (by assumption)) (fun _ _ h => h.ret)) rfl ?_ (fun _ h => h) tw_none; rintro _ wa45 ⟨aa41, ⟨ca42, ⟨⟨⟩, ⟨ha43, xa44⟩⟩⟩⟩; have za46 := xa44.size; replace ha36 := ha36.ext xa44; replace ha8 := ha8.ext xa44; replace qsa3 := qsa3.ext xa44; replace h12 := h12.ext xa44; replace h4 := h4.ext xa44; replace X := X.ext xa44; replace hs := PG.sits.ext hs xa44; replace hv := hv.ext xa44; replace hmm := Nd.sits.ext hmm xa44; clear xa44; refine ⟨qsa3, ?_⟩; refine tw_pure rfl (pur_build' [_, _, _, _, _, _] tabOk zOk rfl rfl rfl rfl) rfl ?_; clear d_h12 d_h4 d_hs d_hv d_hmm qsa3; refine tw_tail rfl ?_; (refine lw_store' [_, _, _, _, _, _] [_, _, _, _, _, _] tabOk rfl rfl rfl rfl rfl rfl ha36 rfl rfl ?_; intro wa47 na48); have ha51 := na48.blk; have fa49 := na48.fr; have za50 := na48.size; clear na48 ha36; replace ha43 := Nd.sits.fr ha43 fa49 (by omega)
    replace ha8 := ha8.fr fa49 (by omega); replace h12 := h12.fr fa49 (by omega); replace h4 := h4.fr fa49 (by omega); replace X := X.fr fa49 (by omega); replace hs := PG.sits.fr hs fa49 (by omega); replace hv := hv.fr fa49 (by omega); replace hmm := Nd.sits.fr hmm fa49 (by omega); clear fa49; refine lw_nil ?_; rotate_left 1; (refine tw_does rfl (does_alloc zOk rfl) rfl ?_ (fun _ h => h) tw_none; rintro _ wa54 ⟨ba53, rfl, na55⟩); have ha56 := na55.blk; dsimp only at ha56; have xa57 := na55.ext; have pa58 := na55.pos; have za59 := na55.size; clear na55; replace qsa3 := qsa3.ext xa57; replace h12 := h12.ext xa57; replace h4 := h4.ext xa57; replace X := X.ext xa57; replace hs := PG.sits.ext hs xa57; replace hv := hv.ext xa57; replace hmm := Nd.sits.ext hmm xa57; clear xa57; refine ⟨qsa3, ?_⟩; refine tw_does rfl (does_call (by kernel_rfl) rfl (HC.out _ _ _ _ (by assumption)) (fun _ _ h => h.ret)) rfl ?_ (fun _ h => h) tw_none; rintro _ wa65 ⟨aa61, ⟨ca62, ⟨⟨⟩, ⟨ha63, xa64⟩⟩⟩⟩; have za66 := xa64.size; replace ha56 := ha56.ext xa64; replace qsa3 := qsa3.ext xa64; replace h12 := h12.ext xa64; replace h4 := h4.ext xa64; replace X := X.ext xa64; replace hs := PG.sits.ext hs xa64; replace hv := hv.ext xa64; replace hmm := Nd.sits.ext hmm xa64; clear xa64; refine ⟨qsa3, ?_⟩; refine tw_does rfl (does_call (by kernel_rfl) rfl (HI.out _ _ _ _ (by assumption)) (fun _ _ h => h.ret)) rfl ?_ (fun _ h => h) tw_none; rintro _ wa72 ⟨aa68, ⟨ca69, ⟨⟨⟩, ⟨ha70, xa71⟩⟩⟩⟩; have za73 := xa71.size; replace ha63 := ha63.ext xa71
    replace ha56 := ha56.ext xa71; replace qsa3 := qsa3.ext xa71; replace h12 := h12.ext xa71; replace h4 := h4.ext xa71; replace X := X.ext xa71; replace hs := PG.sits.ext hs xa71; replace hv := hv.ext xa71; replace hmm := Nd.sits.ext hmm xa71; clear xa71; refine ⟨qsa3, ?_⟩; refine tw_pure rfl (pur_build' [_, _, _, _, _, _] tabOk zOk rfl rfl rfl rfl) rfl ?_; clear d_h12 d_h4 d_hs d_hv d_hmm qsa3; refine tw_tail rfl ?_; (refine lw_store' [_, _, _, _, _, _] [_, _, _, _, _, _] tabOk rfl rfl rfl rfl rfl rfl ha56 rfl rfl ?_; intro wa74 na75); have ha78 := na75.blk; have fa76 := na75.fr; have za77 := na75.size; clear na75 ha56; replace ha70 := Nd.sits.fr ha70 fa76 (by omega); replace ha63 := ha63.fr fa76 (by omega); replace h12 := h12.fr fa76 (by omega); replace h4 := h4.fr fa76 (by omega); replace X := X.fr fa76 (by omega); replace hs := PG.sits.fr hs fa76 (by omega); replace hv := hv.fr fa76 (by omega); replace hmm := Nd.sits.fr hmm fa76 (by omega); clear fa76; refine lw_nil ?_; rotate_left 1
   · exact qw_meet (_, _, _, _, _) (by (refine sub_cons rfl ?_; refine sub_cons rfl ?_; refine sub_cons rfl ?_; refine sub_cons rfl ?_; exact sub_nil)) ⟨by assumption, VDs.wide (by assumption) (fun b h => ⟨by omega, by omega, by omega⟩), Nd.sits.wide (by assumption) (fun b h => ⟨by omega, by omega, by omega⟩), by omega, by omega, by assumption, by assumption, by assumption, by assumption⟩
   · exact qw_meet (_, _, _, _, _) (by (refine sub_cons rfl ?_; refine sub_cons rfl ?_; refine sub_cons rfl ?_; refine sub_cons rfl ?_; exact sub_nil)) ⟨by assumption, VDs.wide (by assumption) (fun b h => ⟨by omega, by omega, by omega⟩), Nd.sits.wide (by assumption) (fun b h => ⟨by omega, by omega, by omega⟩), by omega, by omega, by assumption, by assumption, by assumption, by assumption⟩
   · exact qw_meet (_, _, _, _, _) (by (refine sub_cons rfl ?_; refine sub_cons rfl ?_; refine sub_cons rfl ?_; refine sub_cons rfl ?_; exact sub_nil)) ⟨by assumption, VDs.wide (by assumption) (fun b h => ⟨by omega, by omega, by omega⟩), Nd.sits.wide (by assumption) (fun b h => ⟨by omega, by omega, by omega⟩), by omega, by omega, by assumption, by assumption, by assumption, by assumption⟩
 · clear h4 h12 hs X
   rintro ⟨bq, va', vc', ma', mc'⟩ w1 ⟨hbq, hv', hm', o1, o2, hb1, hb8, hs, X⟩; simp only at hbq hv' hm' o1 o2; have hp := hs.procs; have hz := Nat.le_refl w1.heap.size; clear hs HV HI HC
   focus
    refine cw_seq (cS (lw_pure (pur_fieldAddr tabOk rfl rfl rfl) rfl (lw_load_b tabOk rfl rfl rfl hb1 rfl rfl (lw_pure (pur_len_slice tabOk rfl rfl) rfl (cM rfl rfl (cT (cw_block ?_))))))); rotate_left 1
   refine cw_loop (ι := Nat × List PD × Option Addr × Nat) (fun x => [(1, .func (.func fid) #[] #[]), (3, .pointer (some ⟨b1, 0, none⟩)), (6, .pointer (some ⟨b8, 0, none⟩)), (8, .pointer (some ⟨bq, 0, none⟩)), (24, .slice pa g.procs.length pc), (25, .int .i64 g.procs.length), (26, .int .i64 x.1)])
    (fun x w' => OwnL pdShape w' w1.heap.size 48 (.slice x.2.2.1 x.2.1.length x.2.2.2) x.2.1 ∧ x.2.1 = (g.procs.take x.1).map (PD.map f) ∧ x.1 ≤ g.procs.length ∧ Blk w' bq [.slice va' g.vars.length vc', .slice x.2.2.1 x.2.1.length x.2.2.2, .int .u8 (g.main.inv q).kind, .int .i64 (g.main.inv q).num, str (g.main.inv q).name, .slice ma' (g.main.inv q).kids.length mc'] ∧ VDs (fun b => b8 < b ∧ b ≠ bq ∧ b < w1.heap.size) w' g.vars va' ∧ (g.main.inv q).sits (fun b => b8 < b ∧ b ≠ bq ∧ b < w1.heap.size) w' ma' ∧
     Blk w' b1 [.slice va g.vars.length vc, .slice pa g.procs.length pc, .int .u8 g.main.kind, .int .i64 g.main.num, str g.main.name, .slice ma g.main.kids.length mc] ∧ Blk w' b8 [.slice none 0 0, .slice none 0 0, .int .u8 0, .int .i64 0, str [], .slice none 0 0] ∧ PDs (· < w.heap.size) w' g.procs pa ∧ Ext w w' ∧ w1.heap.size ≤ w'.heap.size)
    (fun x => g.procs.length - x.1) (0, [], none, 0) (by (refine sub_cons rfl ?_; refine sub_cons rfl ?_; refine sub_cons rfl ?_; refine sub_cons rfl ?_; refine sub_cons rfl ?_; refine sub_cons rfl ?_; refine sub_cons rfl ?_; exact sub_nil)) ⟨OwnL.nil, by simp, Nat.zero_le _, hbq, hv', hm', hb1, hb8, hp, X, hz⟩ ?_
   clear hbq hv' hm' hb1 hb8 hp X hz; rintro ⟨j, xs, ra, rc⟩ w3 ⟨hown, hxs, hj, hbq, hv', hm', hb1, hb8, hp, X, hz⟩; simp only at hown hxs hj hbq
   have hob : ∀ g', (Value.slice ra xs.length rc).ownBlock = some g' → w1.heap.size ≤ g' ∧ g' < w3.heap.size := fun g' h => ⟨hown.ge h, hown.lt h⟩
   have hxl : xs.length ≤ 1000000 := by rw [hxs, List.length_map, List.length_take]; omega
   refine CW.sub (m := [(1, .func (.func fid) #[] #[]), (3, .pointer (some ⟨b1, 0, none⟩)), (6, .pointer (some ⟨b8, 0, none⟩)), (8, .pointer (some ⟨bq, 0, none⟩)), (24, .slice pa g.procs.length pc), (25, .int .i64 g.procs.length), (26, .int .i64 (j : Int))]) ?_ (by (refine sub_cons rfl ?_; refine sub_cons rfl ?_; refine sub_cons rfl ?_; refine sub_cons rfl ?_; refine sub_cons rfl ?_; refine sub_cons rfl ?_; refine sub_cons rfl ?_; exact sub_nil))
   by_cases hlt : j < g.procs.length
   · obtain ⟨kb, ko, rfl, kS, hk⟩ := Arr.get hp (by omega)
     obtain ⟨xa, xc, ya, yc, rx, vx, sx⟩ := hk j _ (List.getElem?_eq_getElem hlt); have HX := Lib.hid (HP.out _ (List.getElem_mem hlt)); have hxz := HQ.out _ (List.getElem_mem hlt); have HC := Lib.hid (vdClone_c g.procs[j].params (by omega))
     have hnext : xs ++ [(g.procs[j]).map f] = (g.procs.take (j + 1)).map (PD.map f) := by rw [hxs, procs_snoc f _ j hlt]
     clear hk HP HQ hxs
     generalize g.procs[j] = x at *
     focus
      refine cS (lw_pure (pur_lss rfl rfl) rfl (cT (cw_seq ?_))); refine cw_yes rfl (by omega) ?_; refine cw_skip (qw_then (cw_seq (cw_block (cS ?_)))); refine lw_pure (pur_indexAddr tabOk rfl rfl rfl rfl (by omega) (by omega)) rfl ?_; refine lw_loads_r0 tabOk rfl rfl rfl rx rfl rfl ?_; (refine lw_alloc' [_, _, _, _, _, _] zOk rfl rfl ?_; intro bc1 wc2 nc3); (refine lw_init' [_, _, _, _, _, _] tabOk rfl rfl rfl rfl rfl rfl nc3 rfl ?_; clear nc3; clear wc2; intro wc4 nc3); have hc5 := nc3.blk; have xc6 := nc3.ext; have pc7 := nc3.pos; have zc8 := nc3.size; clear nc3; replace hown := hown.ext xc6; replace hbq := hbq.ext xc6; replace hv' := VDs.ext hv' xc6; replace hm' := Nd.sits.ext hm' xc6; replace hb8 := hb8.ext xc6; replace X := X.ext xc6; replace hb1 := hb1.ext xc6; replace hp := hp.ext xc6; replace rx := rx.ext xc6; replace vx := vx.ext xc6; replace sx := Nd.sits.ext sx xc6; clear xc6; refine cT ?_; (refine cw_tdraw (fun wz => Ext wc4 wz) 13 (.pure 0 (.pure 1 (.pure 2 (.pure 3 (.pure 4 (.pure 5 (.pure 7 (.pure 8 (.pure 9 (.fork 6 (.fork 10 (.pure 11 (.fork 12 .tail .none)) .none) .none)))))))))) mixed (by kernel_rfl) (panicOk_block (panicOk_then (panicOk_then (panicOk_block (panicOk_then panicOk_body))))) ?_; intro wc9 xc10 _); have qsc11 : (fun wz => Ext wc4 wz) wc9 := xc10; simp only at qsc11; have d_hc5 := hc5; have d_hown := hown; have d_hbq := hbq; have d_hv' := hv'; have d_hm' := hm'; have d_hb8 := hb8; have d_hb1 := hb1; have d_hp := hp; have d_rx := rx; have d_vx := vx
      have d_sx := sx; have zc12 := xc10.size; replace hc5 := hc5.ext xc10; replace hown := hown.ext xc10; replace hbq := hbq.ext xc10; replace hv' := VDs.ext hv' xc10; replace hm' := Nd.sits.ext hm' xc10; replace hb8 := hb8.ext xc10; replace X := X.ext xc10; replace hb1 := hb1.ext xc10; replace hp := hp.ext xc10; replace rx := rx.ext xc10; replace vx := vx.ext xc10; replace sx := Nd.sits.ext sx xc10; clear xc10; refine ⟨qsc11, ?_⟩; refine tw_pure rfl (pur_fieldAddr tabOk rfl rfl rfl) rfl (tw_pure rfl (pur_load tabOk rfl rfl rfl (fun wz hz => Blk.cell (Blk.ext d_hbq hz) rfl)) rfl (tw_pure rfl (pur_fieldAddr0 tabOk rfl rfl rfl) rfl (tw_pure rfl (pur_load tabOk rfl rfl rfl (fun wz hz => Blk.cell (Blk.ext d_hc5 hz) rfl)) rfl (tw_pure rfl (pur_fieldAddr tabOk rfl rfl rfl) rfl (tw_pure rfl (pur_load tabOk rfl rfl rfl (fun wz hz => Blk.cell (Blk.ext d_hc5 hz) rfl)) rfl (tw_pure rfl (pur_move rfl) rfl (tw_pure rfl (pur_fieldAddr tabOk rfl rfl rfl) rfl (tw_pure rfl (pur_loads_blk' [_, _, _, _] tabOk rfl rfl rfl (fun wz hz => (Blk.ext d_hc5 hz)) rfl rfl) rfl ?_)))))))); refine tw_does rfl (does_call (by kernel_rfl) rfl (HC.out _ _ _ _ (by assumption)) (fun _ _ h => h.ret)) rfl ?_ (fun _ h => h) tw_none; rintro _ wc18 ⟨ac14, ⟨cc15, ⟨⟨⟩, ⟨hc16, xc17⟩⟩⟩⟩; have zc19 := xc17.size; replace qsc11 := qsc11.ext xc17; replace hc5 := hc5.ext xc17; replace hown := hown.ext xc17; replace hbq := hbq.ext xc17; replace hv' := VDs.ext hv' xc17; replace hm' := Nd.sits.ext hm' xc17; replace hb8 := hb8.ext xc17
      replace X := X.ext xc17; replace hb1 := hb1.ext xc17; replace hp := hp.ext xc17; replace rx := rx.ext xc17; replace vx := vx.ext xc17; replace sx := Nd.sits.ext sx xc17; clear xc17; refine ⟨qsc11, ?_⟩; refine tw_does rfl (does_callv (fi := []) (ca := []) hbd rfl rfl (HX.out _ _ _ _ (by assumption)) (fun _ _ h => h.ret)) rfl ?_ (fun _ h => h) tw_none; rintro _ wc25 ⟨ac21, ⟨cc22, ⟨⟨⟩, ⟨hc23, xc24⟩⟩⟩⟩; have zc26 := xc24.size; replace hc16 := hc16.ext xc24; replace qsc11 := qsc11.ext xc24; replace hc5 := hc5.ext xc24; replace hown := hown.ext xc24; replace hbq := hbq.ext xc24; replace hv' := VDs.ext hv' xc24; replace hm' := Nd.sits.ext hm' xc24; replace hb8 := hb8.ext xc24; replace X := X.ext xc24; replace hb1 := hb1.ext xc24; replace hp := hp.ext xc24; replace rx := rx.ext xc24; replace vx := vx.ext xc24; replace sx := Nd.sits.ext sx xc24; clear xc24; refine ⟨qsc11, ?_⟩; refine tw_pure rfl (pur_build' [_, _, _, _, _, _] tabOk zOk rfl rfl rfl rfl) rfl ?_; (refine tw_does rfl (does_slice' [_, _, _, _, _, _] tabOk zOk rfl rfl rfl rfl rfl rfl rfl rfl rfl) rfl ?_ (fun _ h => h) tw_none; rintro _ wc29 ⟨bc28, rfl, nc30, tc31⟩); clear tc31; have hc32 := nc30.blk; have xc33 := nc30.ext; have pc34 := nc30.pos; have zc35 := nc30.size; clear nc30; replace hc23 := Nd.sits.ext hc23 xc33; replace hc16 := hc16.ext xc33; replace qsc11 := qsc11.ext xc33; replace hc5 := hc5.ext xc33; replace hown := hown.ext xc33; replace hbq := hbq.ext xc33; replace hv' := VDs.ext hv' xc33; replace hm' := Nd.sits.ext hm' xc33
      replace hb8 := hb8.ext xc33; replace X := X.ext xc33; replace hb1 := hb1.ext xc33; replace hp := hp.ext xc33; replace rx := rx.ext xc33; replace vx := vx.ext xc33; replace sx := Nd.sits.ext sx xc33; clear xc33; refine ⟨qsc11, ?_⟩; clear d_hc5 d_hown d_hbq d_hv' d_hm' d_hb8 d_hb1 d_hp d_rx d_vx d_sx qsc11; refine tw_tail rfl ?_; refine lw_does (does_appendL (sh := pdShape) (z := x.map f) tabOk zOk rfl rfl rfl rfl (by kernel_rfl) rfl rfl rfl (by assumption) (Blk.row (by assumption)) ⟨_, _, _, _, rfl, VDs.wide (by assumption) (fun b h => ⟨by omega, fun e => by have := hob _ e; omega⟩), Nd.sits.wide (by assumption) (fun b h => ⟨by omega, fun e => by have := hob _ e; omega⟩)⟩ (by omega) (by omega)) rfl ?_ (fun _ h => h); rintro _ wc40 ⟨gc36, ⟨capc37, ⟨rfl, ⟨hc38, fc39⟩⟩⟩⟩; have zc41 := fc39.size; clear hc32 hc23 hc16 hc5 hown; replace hbq := hbq.fr fc39 (by omega); replace hv' := VDs.fr hv' fc39 (by omega); replace hm' := Nd.sits.fr hm' fc39 (by omega); replace hb8 := hb8.fr fc39 (by omega); replace X := X.fr fc39 (by omega); replace hb1 := hb1.fr fc39 (by omega); replace hp := hp.fr fc39 (by omega); replace rx := Row.fr rx fc39 (by simp only; omega); replace vx := vx.fr fc39 (by omega); replace sx := Nd.sits.fr sx fc39 (by omega); clear fc39; refine lw_pure (pur_fieldAddr tabOk rfl rfl rfl) rfl ?_; (refine lw_store' [_] [_, _, _, _, _, _] tabOk rfl rfl rfl rfl rfl rfl hbq rfl rfl ?_; intro wc42 nc43); have hc46 := nc43.blk; have fc44 := nc43.fr; have zc45 := nc43.size; clear nc43 hbq
      replace hc38 := hc38.fr fc44 (by omega); replace hv' := VDs.fr hv' fc44 (by omega); replace hm' := Nd.sits.fr hm' fc44 (by omega); replace hb8 := hb8.fr fc44 (by omega); replace X := X.fr fc44 (by omega); replace hb1 := hb1.fr fc44 (by omega); replace hp := hp.fr fc44 (by omega); replace rx := Row.fr rx fc44 (by simp only; omega); replace vx := vx.fr fc44 (by omega); replace sx := Nd.sits.fr sx fc44 (by omega); clear fc44; refine lw_nil (qw_block_norm (qw_then (cw_region ?_))); refine lw_pure (pur_add rfl rfl (IntWalk.i64_in _ (by omega))) rfl ?_; refine cM rfl rfl (lw_nil ?_); rotate_left 1
     exact qw_round (j + 1, xs ++ [x.map f], some ⟨_, 0, none⟩, _) (by (refine sub_cons rfl ?_; refine sub_cons rfl ?_; refine sub_cons rfl ?_; refine sub_cons rfl ?_; refine sub_cons rfl ?_; refine sub_cons rfl ?_; refine sub_cons rfl ?_; exact sub_nil)) ⟨by assumption, hnext, by simp only; omega, by assumption, hv', hm', hb1, hb8, hp, X, by omega⟩ (by simp only; omega)
   · have hje : j = g.procs.length := by omega
     subst hje; rw [List.take_length] at hxs
     focus
      refine cS (lw_pure (pur_lss rfl rfl) rfl (cT (cw_seq ?_))); refine cw_no rfl (by omega) ?_; refine cw_exit (qw_then_exit (qw_then_exit (qw_block_exit (qw_then (cS (lw_loads_b' [_, _, _, _, _, _] tabOk rfl rfl rfl hbq rfl rfl rfl ?_)))))); (refine lw_store' [_, _, _, _, _, _] [_, _, _, _, _, _] tabOk rfl rfl rfl rfl rfl rfl hb8 rfl rfl ?_; intro wd1 nd2); have hd5 := nd2.blk; have fd3 := nd2.fr; have zd4 := nd2.size; clear nd2 hb8; replace hown := hown.fr fd3 (by omega); replace hbq := hbq.fr fd3 (by omega); replace hv' := VDs.fr hv' fd3 (by omega); replace hm' := Nd.sits.fr hm' fd3 (by omega); replace hb1 := hb1.fr fd3 (by omega); replace hp := hp.fr fd3 (by omega); replace X := X.fr fd3 (by omega); clear fd3; refine cA rfl rfl (cT (cw_ret ?_)); rotate_left 1
     refine qw_retc2 rfl tabOk rfl rfl rfl (by assumption) rfl rfl ?_
     exact progR_mk hxs hv' hown hm' X (fun b h => by omega) (fun b h => by omega) (by omega)
end Bk
namespace Bk
open Go Go.RowKit Go.Proofs
attribute [local irreducible] Go.Calls
theorem few_okI {g : PG} (h : g.ok = true) : g.few := by
 obtain ⟨h1, h2, -, h4, h5⟩ := ok_parts h; obtain ⟨-, -, b3⟩ := body_iff.1 h5; refine ⟨by omega, by omega, by omega, fun p hp => ?_⟩; obtain ⟨-, c1, -, c4⟩ := pok_parts (h4 p hp); obtain ⟨-, -, c3⟩ := body_iff.1 c4
 exact ⟨by omega, by omega⟩
theorem PG.inv_id (q : Bool) (g : PG) : g.inv id q = ⟨g.vars, g.procs, g.main.inv q⟩ := by
 unfold PG.inv
 congr 1
 conv => rhs; rw [← List.map_id g.procs]
 refine List.map_congr_left fun p _ => ?_
 obtain ⟨a, b, c⟩ := p
 rfl
set_option maxRecDepth 100000 in
set_option maxHeartbeats 4000000 in
theorem Deep1_c (t : Nd) (hz : t.size ≤ 1000000) (hb : t.isBlock = true) (S : Nat → Prop) (a : Option Addr) (c : Nat) (w : World) (hs : t.sits S w a) : Calls Tryz.prog 35 #[t.val a c] w (CopyR (t.inv true) w) := by
 have X := Ext.refl w; replace hs := sits_ltA _ _ hs; have HI := Lib.hid (invert_t true t hz (Or.inr hb)); clear hb; refine calls_in Tryz.func35 Tryz.ntmps35 rfl rfl ?_
 focus
  refine cS ?_; (refine lw_box' [_, _, _, _] rfl rfl rfl ?_; intro b1 w2 n3); have h4 := n3.blk; have x5 := n3.ext; have p6 := n3.pos; have z7 := n3.size; clear n3; replace X := X.ext x5; replace hs := Nd.sits.ext hs x5; clear x5; (refine lw_alloc' [_, _, _, _] zOk rfl rfl ?_; intro b8 w9 n10); have h12 := n10.blk; have x13 := n10.ext; have p14 := n10.pos; have z15 := n10.size; clear n10; replace h4 := h4.ext x13; replace X := X.ext x13; replace hs := Nd.sits.ext hs x13; clear x13; refine cN (lw_loads_b' [_, _, _, _] tabOk rfl rfl rfl h4 rfl rfl rfl ?_); refine cR (by kernel_rfl) rfl (HI.out _ _ _ _ (by assumption)) (fun _ _ h => h.ret) rfl ?_; rintro _ w20 ⟨a16, ⟨c17, ⟨⟨⟩, ⟨h18, x19⟩⟩⟩⟩; have z21 := x19.size; replace h12 := h12.ext x19; replace h4 := h4.ext x19; replace X := X.ext x19; replace hs := Nd.sits.ext hs x19; clear x19; (refine lw_store' [_, _, _, _] [_, _, _, _] tabOk rfl rfl rfl rfl rfl rfl h12 rfl rfl ?_; intro w22 n23); have h26 := n23.blk; have f24 := n23.fr; have z25 := n23.size; clear n23 h12; replace h18 := Nd.sits.fr h18 f24 (by omega); replace h4 := h4.fr f24 (by omega); replace X := X.fr f24 (by omega); replace hs := Nd.sits.fr hs f24 (by omega); clear f24; refine cT (cw_ret (qw_retc rfl tabOk rfl rfl rfl h26 rfl ?_)); rotate_left 1
 exact ⟨_, _, rfl, Nd.sits.wide (by assumption) (fun b h => by omega), X⟩
theorem prog_v {g : PG} (hwf : g.wf) (hok : g.ok = true) (S : Nat → Prop) (va : Option Addr) (vc : Nat) (pa : Option Addr) (pc : Nat) (ma : Option Addr) (mc : Nat) (w : World) (hs : g.sits S w va pa ma) :
 Calls Tryz.prog 33 #[.agg (g.cells va vc pa pc ma mc).toArray, .func (.func 34) #[] #[], .bool false] w (ProgR (g.inv id false) 0 w) :=
 iprogram_c false 34 id (by kernel_rfl) g hwf hok (few_okI hok) (ok_mainB hok) (fun p hp S a c w hs => clone_t p.body ((few_okI hok).procs p hp).2 S a c w hs) S va vc pa pc ma mc w hs
theorem deep_v {g : PG} (hwf : g.wf) (hok : g.ok = true) (S : Nat → Prop) (va : Option Addr) (vc : Nat) (pa : Option Addr) (pc : Nat) (ma : Option Addr) (mc : Nat) (w : World) (hs : g.sits S w va pa ma) :
 Calls Tryz.prog 33 #[.agg (g.cells va vc pa pc ma mc).toArray, .func (.func 35) #[] #[], .bool true] w (ProgR (g.inv (·.inv true) true) 0 w) :=
 iprogram_c true 35 (·.inv true) (by kernel_rfl) g hwf hok (few_okI hok) (ok_mainB hok) (fun p hp S a c w hs => Deep1_c p.body ((few_okI hok).procs p hp).2 (ok_bodyB hok p hp) S a c w hs) S va vc pa pc ma mc w hs
theorem progR_ext {u : PG} {k : Int} {w w' : World} {va pa ma : Option Addr} {vc pc mc lo hi : Nat} (hs : u.sits (fun b => lo ≤ b ∧ b < hi) w' va pa ma) (X : Ext w w') (hl : w.heap.size ≤ lo) (hh : hi ≤ w'.heap.size) : ProgR u k w (.returned (.tuple #[.agg #[.slice va u.vars.length vc, .slice pa u.procs.length pc, .int .u8 u.main.kind, .int .i64 u.main.num, str u.main.name, .slice ma u.main.kids.length mc], .int .i64 k])) w' :=
 ⟨va, vc, pa, pc, ma, mc, rfl, ⟨hs.vars.wide fun b h => by omega, PDs.wide hs.procs fun b h => by omega, Nd.sits.wide hs.main fun b h => by omega⟩, X⟩
set_option maxRecDepth 100000 in
set_option maxHeartbeats 4000000 in
theorem iProgram_r {k : Int} (u g : PG) (HI : ∀ (S : Nat → Prop) (va : Option Addr) (vc : Nat) (pa : Option Addr) (pc : Nat) (ma : Option Addr) (mc : Nat) (w : World), g.sits S w va pa ma →
      Calls Tryz.prog 33 #[.agg (g.cells va vc pa pc ma mc).toArray, .func (.func 34) #[] #[], .bool false] w (ProgR u k w))
 (S : Nat → Prop) (va : Option Addr) (vc : Nat) (pa : Option Addr) (pc : Nat) (ma : Option Addr) (mc : Nat) (w : World) (hs : g.sits S w va pa ma) :
 Calls Tryz.prog 16 #[.agg (g.cells va vc pa pc ma mc).toArray] w (ProgR u k w) := by
 have X := Ext.refl w; replace hs := hs.ltA; replace HI := Lib.hid HI; refine calls_in Tryz.func16 Tryz.ntmps16 rfl rfl ?_
 focus
  refine cS ?_; (refine lw_box' [_, _, _, _, _, _] rfl rfl rfl ?_; intro b1 w2 n3); have h4 := n3.blk; have x5 := n3.ext; have p6 := n3.pos; have z7 := n3.size; clear n3; replace X := X.ext x5; replace hs := PG.sits.ext hs x5; clear x5; (refine lw_alloc' [_, _, _, _, _, _] zOk rfl rfl ?_; intro b8 w9 n10); have h12 := n10.blk; have x13 := n10.ext; have p14 := n10.pos; have z15 := n10.size; clear n10; replace h4 := h4.ext x13; replace X := X.ext x13; replace hs := PG.sits.ext hs x13; clear x13; refine cA rfl rfl (cN (lw_loads_b' [_, _, _, _, _, _] tabOk rfl rfl rfl h4 rfl rfl rfl ?_)); refine cR (by kernel_rfl) rfl (HI.out _ _ _ _ _ _ _ _ (by assumption)) (fun _ _ h => h.ret) rfl ?_; rintro _ w24 ⟨va16, ⟨vc17, ⟨pa18, ⟨pc19, ⟨ma20, ⟨mc21, ⟨⟨⟩, ⟨h22, x23⟩⟩⟩⟩⟩⟩⟩⟩; have z25 := x23.size; replace h12 := h12.ext x23; replace h4 := h4.ext x23; replace X := X.ext x23; replace hs := PG.sits.ext hs x23; clear x23; refine lw_pure (pur_extract rfl rfl) rfl (lw_pure (pur_extract rfl rfl) rfl ?_); (refine lw_store' [_, _, _, _, _, _] [_, _, _, _, _, _] tabOk rfl rfl rfl rfl rfl rfl h12 rfl rfl ?_; intro w26 n27); have h30 := n27.blk; have f28 := n27.fr; have z29 := n27.size; clear n27 h12; replace h22 := PG.sits.fr h22 f28 (by omega); replace h4 := h4.fr f28 (by omega); replace X := X.fr f28 (by omega); replace hs := PG.sits.fr hs f28 (by omega); clear f28; refine cA rfl rfl (cT (cw_ret ?_)); rotate_left 1
 refine qw_retc2 rfl tabOk rfl rfl rfl (by assumption) rfl rfl ?_
 exact progR_ext (by assumption) X (by omega) (by omega)
set_option maxRecDepth 100000 in
set_option maxHeartbeats 4000000 in
theorem iDeep_r {k : Int} (u g : PG) (HI : ∀ (S : Nat → Prop) (va : Option Addr) (vc : Nat) (pa : Option Addr) (pc : Nat) (ma : Option Addr) (mc : Nat) (w : World), g.sits S w va pa ma →
      Calls Tryz.prog 33 #[.agg (g.cells va vc pa pc ma mc).toArray, .func (.func 35) #[] #[], .bool true] w (ProgR u k w))
 (S : Nat → Prop) (va : Option Addr) (vc : Nat) (pa : Option Addr) (pc : Nat) (ma : Option Addr) (mc : Nat) (w : World) (hs : g.sits S w va pa ma) :
 Calls Tryz.prog 17 #[.agg (g.cells va vc pa pc ma mc).toArray] w (ProgR u k w) := by
 have X := Ext.refl w; replace hs := hs.ltA; replace HI := Lib.hid HI; refine calls_in Tryz.func17 Tryz.ntmps17 rfl rfl ?_
 focus
  refine cS ?_; (refine lw_box' [_, _, _, _, _, _] rfl rfl rfl ?_; intro b1 w2 n3); have h4 := n3.blk; have x5 := n3.ext; have p6 := n3.pos; have z7 := n3.size; clear n3; replace X := X.ext x5; replace hs := PG.sits.ext hs x5; clear x5; (refine lw_alloc' [_, _, _, _, _, _] zOk rfl rfl ?_; intro b8 w9 n10); have h12 := n10.blk; have x13 := n10.ext; have p14 := n10.pos; have z15 := n10.size; clear n10; replace h4 := h4.ext x13; replace X := X.ext x13; replace hs := PG.sits.ext hs x13; clear x13; refine cA rfl rfl (cN (cA rfl rfl (cN (lw_loads_b' [_, _, _, _, _, _] tabOk rfl rfl rfl h4 rfl rfl rfl (cM rfl rfl ?_))))); refine cR (by kernel_rfl) rfl (HI.out _ _ _ _ _ _ _ _ (by assumption)) (fun _ _ h => h.ret) rfl ?_; rintro _ w24 ⟨va16, ⟨vc17, ⟨pa18, ⟨pc19, ⟨ma20, ⟨mc21, ⟨⟨⟩, ⟨h22, x23⟩⟩⟩⟩⟩⟩⟩⟩; have z25 := x23.size; replace h12 := h12.ext x23; replace h4 := h4.ext x23; replace X := X.ext x23; replace hs := PG.sits.ext hs x23; clear x23; refine lw_pure (pur_extract rfl rfl) rfl (lw_pure (pur_extract rfl rfl) rfl ?_); (refine lw_store' [_, _, _, _, _, _] [_, _, _, _, _, _] tabOk rfl rfl rfl rfl rfl rfl h12 rfl rfl ?_; intro w26 n27); have h30 := n27.blk; have f28 := n27.fr; have z29 := n27.size; clear n27 h12; replace h22 := PG.sits.fr h22 f28 (by omega); replace h4 := h4.fr f28 (by omega); replace X := X.fr f28 (by omega); replace hs := PG.sits.fr hs f28 (by omega); clear f28; refine cA rfl rfl (cT (cw_ret ?_)); rotate_left 1
 refine qw_retc2 rfl tabOk rfl rfl rfl (by assumption) rfl rfl ?_
 exact progR_ext (by assumption) X (by omega) (by omega)
theorem iProgram_v {g : PG} (hwf : g.wf) (hok : g.ok = true) (S : Nat → Prop) (va : Option Addr) (vc : Nat) (pa : Option Addr) (pc : Nat) (ma : Option Addr) (mc : Nat) (w : World) (hs : g.sits S w va pa ma) :
 Calls Tryz.prog 16 #[.agg (g.cells va vc pa pc ma mc).toArray] w (ProgR (g.inv id false) 0 w) := iProgram_r _ g (prog_v hwf hok) S va vc pa pc ma mc w hs
theorem iProgram_n {g : PG} (hwf : g.wf) (hok : g.ok = false) (S : Nat → Prop) (va : Option Addr) (vc : Nat) (pa : Option Addr) (pc : Nat) (ma : Option Addr) (mc : Nat) (w : World) (hs : g.sits S w va pa ma) :
 Calls Tryz.prog 16 #[.agg (g.cells va vc pa pc ma mc).toArray] w (ProgR zeroPG 3 w) := iProgram_r _ g (fun S va vc pa pc ma mc w hs => iprogram_n _ _ g hwf hok S va vc pa pc ma mc w hs) S va vc pa pc ma mc w hs
theorem iDeep_v {g : PG} (hwf : g.wf) (hok : g.ok = true) (S : Nat → Prop) (va : Option Addr) (vc : Nat) (pa : Option Addr) (pc : Nat) (ma : Option Addr) (mc : Nat) (w : World) (hs : g.sits S w va pa ma) :
 Calls Tryz.prog 17 #[.agg (g.cells va vc pa pc ma mc).toArray] w (ProgR (g.inv (·.inv true) true) 0 w) := iDeep_r _ g (deep_v hwf hok) S va vc pa pc ma mc w hs
theorem iDeep_n {g : PG} (hwf : g.wf) (hok : g.ok = false) (S : Nat → Prop) (va : Option Addr) (vc : Nat) (pa : Option Addr) (pc : Nat) (ma : Option Addr) (mc : Nat) (w : World) (hs : g.sits S w va pa ma) :
 Calls Tryz.prog 17 #[.agg (g.cells va vc pa pc ma mc).toArray] w (ProgR zeroPG 3 w) := iDeep_r _ g (fun S va vc pa pc ma mc w hs => iprogram_n _ _ g hwf hok S va vc pa pc ma mc w hs) S va vc pa pc ma mc w hs
end Bk
namespace Bk
open Go Go.RowKit
structure OwnQ {α : Type} (sh : Shape α) (w : World) (R : Nat → Prop) (B e : Nat) (v : Value) (xs : List α) : Prop where
 ex : ∃ css : List (List Value), Own w B e sh.sz v xs.length css.flatten ∧ css.length = xs.length ∧ ∀ (i : Nat) (x : α) (cs : List Value), xs[i]? = some x → css[i]? = some cs → sh.rep w (fun b => R b ∧ v.ownBlock ≠ some b) x cs
section
variable {α : Type} {sh : Shape α} {R R' : Nat → Prop} {B e : Nat} {w w' : World} {v : Value} {xs : List α}
theorem OwnQ.nil : OwnQ sh w R B e (.slice none 0 0) [] := ⟨⟨[], Own.nil, rfl, by simp⟩⟩
theorem OwnQ.ge (h : OwnQ sh w R B e v xs) {k : Nat} (hk : v.ownBlock = some k) : B ≤ k := by
 obtain ⟨css, h1, -⟩ := h.ex
 exact h1.ge hk
theorem OwnQ.lt (h : OwnQ sh w R B e v xs) {k : Nat} (hk : v.ownBlock = some k) : k < w.heap.size := by
 obtain ⟨css, h1, -⟩ := h.ex
 exact (h1.blk hk).2
theorem OwnQ.ext (h : OwnQ sh w R B e v xs) (x : Ext w w') : OwnQ sh w' R B e v xs := by
 obtain ⟨css, h1, h2, h3⟩ := h.ex
 exact ⟨css, h1.ext x, h2, fun i y cs hy hc => sh.mono (h3 i y cs hy hc) (fun _ h => h) (fun b o u _ hu => x.keep hu)⟩
theorem OwnQ.fr {S : Nat → Prop} (h : OwnQ sh w R B e v xs) (x : Fr S w w') (hs : ∀ k, S k → ¬ R k ∧ v.ownBlock ≠ some k) : OwnQ sh w' R B e v xs := by
 obtain ⟨css, h1, h2, h3⟩ := h.ex
 exact ⟨css, h1.fr x (fun k hk hS => (hs k hS).2 hk), h2, fun i y cs hy hc => sh.mono (h3 i y cs hy hc) (fun _ h => h) (fun b o u hb hu => x.keep (fun hS => (hs b hS).1 hb.1) hu)⟩
theorem OwnQ.wide (h : OwnQ sh w R B e v xs) (hR : ∀ b, R b → R' b) : OwnQ sh w R' B e v xs := by
 obtain ⟨css, h1, h2, h3⟩ := h.ex
 exact ⟨css, h1, h2, fun i y cs hy hc => sh.mono (h3 i y cs hy hc) (fun b hb => ⟨hR b hb.1, hb.2⟩) (fun _ _ _ _ hu => hu)⟩
theorem OwnQ.ltR (h : OwnQ sh w R B e v xs) : OwnQ sh w (fun b => R b ∧ b < w.heap.size) B e v xs := by
 obtain ⟨css, h1, h2, h3⟩ := h.ex
 exact ⟨css, h1, h2, fun i y cs hy hc => sh.mono (sh.lt (h3 i y cs hy hc)) (fun b hb => ⟨⟨hb.1.1, hb.2⟩, hb.1.2⟩) (fun _ _ _ _ hu => hu)⟩
def GrewQ (sh : Shape α) (w : World) (R : Nat → Prop) (B : Nat) (e : TypeId) (v : Value) (ys : List α) : Option Value → World → Prop
 | some v', w' => ∃ g cap, v' = .slice (some ⟨g, 0, none⟩) ys.length cap ∧ OwnQ sh w' R B e v' ys ∧ (v.ownBlock = some g ∨ w.heap.size ≤ g) ∧ g < w'.heap.size ∧ Fr (fun k => v.ownBlock = some k) w w'
 | none, _ => False
theorem does_appendQ {P : Program} {n : Nat} {l : Sl} {tab : Tab} {zt : ZTab} {ty : TypeId} {x y : Operand} {t sz1 cap : Nat} {sE : Sk} {zs : List Value} {cs : List Value} {z : α} {p : Addr} (T : TabOk P tab) (Z : ZTabOk P zt) (ht : lookT tab t = some (.slice e, sz1)) (hE : lookT tab e = some (sE, sh.sz)) (hz : lookZ zt e = some zs) (hzl : zs.length = sh.sz)
 (hby : bytesOk P e = true) (hsz : Nat.blt 0 sh.sz = true) (hx : ev l x = some v) (hy : ev l y = some (.slice (some p) 1 cap)) (hown : OwnQ sh w R' B e v xs) (hw : ∀ b, R' b → R b) (hr : Row w p cs) (hrep : sh.rep w (fun b => R b ∧ v.ownBlock ≠ some b) z cs) (hlen : xs.length ≤ 10000000000) (hB : B ≤ w.heap.size) :
 Does P n l (.call ⟨.builtin .append, #[x, y], #[t, t]⟩) ty w (GrewQ sh w R B e v (xs ++ [z])) := by
 obtain ⟨css, h1, h2, h3'⟩ := hown.ex
 have h3 : ∀ (i : Nat) (x : α) (cs : List Value), xs[i]? = some x → css[i]? = some cs → sh.rep w (fun b => R b ∧ v.ownBlock ≠ some b) x cs := fun i y cs hy hc => sh.mono (h3' i y cs hy hc) (fun b hb => ⟨hw b hb.1, hb.2⟩) (fun _ _ _ _ hu => hu)
 have hd := does_append (P := P) (n := n) (l := l) (ty := ty) T Z ht hE hz hzl hby hsz hx hy h1 hr (by rw [sh.len hrep]; simp) (sh.one hrep) (by omega) (by omega) hB
 unfold Does at hd ⊢
 intro a dst pos after g next Q ha hn hn0; refine hd a dst pos after g next Q ha (fun v' w' hG => ?_) (fun w' hG => hG.elim); obtain ⟨g1, g2, g, cap', g3, g4⟩ := hG; have hg := g1.blk (k := g) (by rw [g3]; rfl); refine hn v' w' ⟨g, cap', by rw [g3]; simp, ⟨css ++ [cs], ?_, by simp [h2], fun i y ds hy hc => ?_⟩, g4, hg.2, g2⟩
 · have e1 : (css ++ [cs]).flatten = css.flatten ++ cs := by simp
   have e2 : (xs ++ [z]).length = xs.length + 1 := by simp
   rw [e1, e2]; exact g1
 · have key : sh.rep w (fun b => R b ∧ v.ownBlock ≠ some b) y ds := by
    by_cases hi : i < xs.length
    · rw [List.getElem?_append_left hi] at hy
      rw [List.getElem?_append_left (by omega)] at hc
      exact h3 i y ds hy hc
    · have hil : i < (xs ++ [z]).length := by
       rcases Nat.lt_or_ge i (xs ++ [z]).length with h | h
       · exact h
       · rw [List.getElem?_eq_none h] at hy; cases hy
      simp only [List.length_append, List.length_cons, List.length_nil] at hil
      have hi' : i = xs.length := by omega
      subst hi'; rw [List.getElem?_append_right (Nat.le_refl _)] at hy; rw [List.getElem?_append_right (by omega)] at hc; simp only [Nat.sub_self, List.getElem?_cons_zero, Option.some.injEq] at hy; rw [h2] at hc; simp only [Nat.sub_self, List.getElem?_cons_zero, Option.some.injEq] at hc; subst hy hc
      exact hrep
   refine sh.mono (sh.lt key) (fun b hb => ⟨hb.1.1, fun e => ?_⟩) (fun b o u hb hu => g2.keep hb.1.2 hu); rw [g3] at e; simp only [Value.ownBlock, Option.some.injEq] at e; subst e
   rcases g4 with h | h
   · exact hb.1.2 h
   · omega
theorem OwnQ.rows (h : OwnQ sh w R B e v xs) (hx : xs ≠ []) : ∃ g cap, v = .slice (some ⟨g, 0, none⟩) xs.length cap ∧ B ≤ g ∧ g < w.heap.size ∧ ∀ (i : Nat) (x : α), xs[i]? = some x → ∃ cs, Row w ⟨g, i * sh.sz, none⟩ cs ∧ sh.rep w R x cs := by
 obtain ⟨css, h1, h2, h3⟩ := h.ex; have hM : OwnM sh w R B e v xs := ⟨css, h1, h2, fun i y cs hy hc => sh.mono (h3 i y cs hy hc) (fun b hb => ⟨Or.inl hb.1, hb.2⟩) (fun _ _ _ _ hu => hu)⟩
 rcases h1.row with ⟨rfl, hn, -⟩ | ⟨g, cap, rfl, hg, hob, hr⟩
 · exact absurd (List.length_eq_zero_iff.1 hn) hx
 · refine ⟨g, cap, rfl, hg, (h1.blk (k := g) rfl).2, fun i x hi => ?_⟩
   obtain ⟨g', cap', hv, -, hall⟩ := hM.rows hx; simp only [Value.slice.injEq, Option.some.injEq, Addr.mk.injEq, and_true, true_and] at hv; obtain ⟨rfl, rfl⟩ := hv
   have hil : i < xs.length := by
    rcases Nat.lt_or_ge i xs.length with h | h
    · exact h
    · rw [List.getElem?_eq_none h] at hi; cases hi
   have hcl : ∀ cs ∈ css, cs.length = sh.sz := fun cs hcs => by
    obtain ⟨j, hj, rfl⟩ := List.mem_iff_getElem.1 hcs; have hx1 : xs[j]? = some xs[j] := List.getElem?_eq_getElem (by omega)
    exact sh.len (h3 j _ _ hx1 (List.getElem?_eq_getElem hj))
   have hci : css[i]? = some (css[i]'(by omega)) := List.getElem?_eq_getElem (by omega); obtain ⟨cs, k1, k2⟩ := hall i x hi; refine ⟨css[i]'(by omega), ?_, sh.mono (h3 i x _ hi hci) (fun b hb => hb.1) (fun _ _ _ _ hu => hu)⟩; obtain ⟨f1, f2⟩ := flatten_at hcl (j := i) (by omega); rw [f1] at hr; have hs := hr.sub (i * sh.sz) sh.sz; rw [Nat.zero_add, List.append_assoc, List.drop_left' f2, List.take_left' (hcl _ (List.getElem_mem _))] at hs
   exact hs
end
end Bk
namespace Bk
open Go Go.RowKit Go.Proofs
attribute [local irreducible] Go.Calls
def ShareP (u : PG) (w : World) : Ending → World → Prop := fun e w' => ∃ va vc pa pc ma mc, e = .returned (.agg (u.cells va vc pa pc ma mc).toArray) ∧ u.sits (· < w'.heap.size) w' va pa ma ∧ Ext w w'
theorem ShareP.ret {u : PG} {w : World} {e : Ending} {w' : World} (h : ShareP u w e w') : ∃ v, e = .returned v := by
 obtain ⟨_, _, _, _, _, _, h, -⟩ := h
 exact ⟨_, h⟩
def ShareB (S : Nat → Prop) (u : Nd) (w : World) : Ending → World → Prop := fun e w' => ∃ a c, e = .returned (u.val a c) ∧ u.sits (fun b => (S b ∨ w.heap.size ≤ b) ∧ b < w'.heap.size) w' a ∧ Ext w w'
theorem ShareB.ret {S : Nat → Prop} {u : Nd} {w : World} {e : Ending} {w' : World} (h : ShareB S u w e w') : ∃ v, e = .returned v := by
 obtain ⟨_, _, h, -⟩ := h
 exact ⟨_, h⟩
theorem share_b {S : Nat → Prop} {u : Nd} {w : World} (e : Ending) (w' : World) (h : ShareR S u w e w') : ShareB S u w e w' := by
 obtain ⟨a, c, h1, h2, h3⟩ := h
 exact ⟨a, c, h1, sits_lt2 _ _ h2, h3⟩
theorem rCalls_v {t : Nd} (hz : t.size ≤ 1000000) (S : Nat → Prop) (a : Option Addr) (c : Nat) (w : World) (hs : t.sits S w a) : Calls Tryz.prog 42 #[t.val a c] w (ShareB S t.calls w) := (rCalls_c (t.size + 1) t S a c w (by omega) hz hs).mono share_b
theorem rStmt_w {t : Nd} (hz : t.size ≤ 1000000) (hv : t.isBlock = true) (S : Nat → Prop) (a : Option Addr) (c : Nat) (w : World) (hs : t.sits S w a) : Calls Tryz.prog 14 #[t.val a c] w (ShareB S (t.inv false) w) := (rStmt_c (t.size + 1) t S a c w (by omega) hz (Or.inr hv) hs).mono share_b
theorem OwnQ.pds {w : World} {R : Nat → Prop} {B e : Nat} {a : Option Addr} {len cap : Nat} {xs : List PD} {S : Nat → Prop} (h : OwnQ pdShape w R B e (.slice a len cap) xs) (hR : ∀ b, R b → S b) (hS : ∀ b, B ≤ b → S b) : PDs S w xs a := by
 by_cases hx : xs = []
 · exact Or.inl hx
 · obtain ⟨g, cap', hv, hg, -, hall⟩ := h.rows hx
   simp only [Value.slice.injEq] at hv; obtain ⟨rfl, -, -⟩ := hv; refine Or.inr ⟨g, 0, rfl, hS g hg, fun i x hi => ?_⟩; obtain ⟨cs, hr, pa, pc, ba, bc, rfl, h1, h2⟩ := hall i x hi
   exact ⟨pa, pc, ba, bc, by simpa [pdShape] using hr, h1.wide hR, h2.wide hR⟩
theorem shareP_mk {f : Nd → Nd} {q : Bool} {g : PG} {w w' : World} {va ra ma : Option Addr} {vc rc mc M e : Nat} {R : Nat → Prop} {xs : List PD} {S1 S2 : Nat → Prop} (hx : xs = g.procs.map (PD.map f)) (hv : VDs S1 w' g.vars va) (ho : OwnQ pdShape w' R M e (.slice ra xs.length rc) xs) (hm : (g.main.inv q).sits S2 w' ma) (X : Ext w w') :
 ShareP (g.inv f q) w (.returned (.agg #[.slice va g.vars.length vc, .slice ra xs.length rc, .int .u8 (g.main.inv q).kind, .int .i64 (g.main.inv q).num, str (g.main.inv q).name, .slice ma (g.main.inv q).kids.length mc])) w' := by
 subst hx; refine ⟨va, vc, ra, rc, ma, mc, rfl, ⟨hv.lt2.wide fun b h => h.2, ?_, Nd.sits.wide (sits_lt2 _ _ hm) fun b h => h.2⟩, X⟩; have h1 := PDs.lt2 (ho.pds (S := fun _ => True) (fun _ _ => trivial) (fun _ _ => trivial))
 exact PDs.wide h1 fun b h => h.2
set_option maxRecDepth 100000 in
set_option maxHeartbeats 4000000 in
theorem rDeep_c (g : PG) (hok : g.ok = true) (S : Nat → Prop) (va : Option Addr) (vc : Nat) (pa : Option Addr) (pc : Nat) (ma : Option Addr) (mc : Nat) (w : World) (hs : g.sits S w va pa ma) :
 Calls Tryz.prog 20 #[.agg (g.cells va vc pa pc ma mc).toArray] w (ShareP (g.inv (·.inv true) true) w) := by
 have X := Ext.refl w; obtain ⟨nv, np, hmz, hps⟩ := few_okI hok; have hmb := ok_mainB hok; have HR := Lib.hid (rStmt_w hmz hmb); have io := inv_ok false (g.main.size + 1) g.main (by omega) (Or.inr hmb); have hcm := calls_inv (g.main.size + 1) g.main (by omega) (Or.inr hmb); have HK := Lib.hid (rCalls_v (t := g.main.inv false) (by rw [io.size]; exact hmz)); rw [hcm] at HK; have HQ := Lib.hid hps; have HB := Lib.hid (ok_bodyB hok); clear hok hmb io hcm hps
 generalize g.main.inv false = u1 at *
 replace hs := hs.ltA; have hv := hs.vars; have hmm := hs.main; refine calls_in Tryz.func20 Tryz.ntmps20 rfl rfl ?_
 focus
  refine cS ?_; (refine lw_box' [_, _, _, _, _, _] rfl rfl rfl ?_; intro b1 w2 n3); have h4 := n3.blk; have x5 := n3.ext; have p6 := n3.pos; have z7 := n3.size; clear n3; replace X := X.ext x5; replace hs := PG.sits.ext hs x5; replace hv := hv.ext x5; replace hmm := Nd.sits.ext hmm x5; clear x5; (refine lw_alloc' [_, _, _, _, _, _] zOk rfl rfl ?_; intro b8 w9 n10); have h12 := n10.blk; have x13 := n10.ext; have p14 := n10.pos; have z15 := n10.size; clear n10; replace h4 := h4.ext x13; replace X := X.ext x13; replace hs := PG.sits.ext hs x13; replace hv := hv.ext x13; replace hmm := Nd.sits.ext hmm x13; clear x13; refine cT ?_; rotate_left 1
 refine cw_meet (ι := Nat × Option Addr × Nat) (fun x => [(1, .pointer (some ⟨b1, 0, none⟩)), (2, .pointer (some ⟨b8, 0, none⟩)), (3, .pointer (some ⟨x.1, 0, none⟩))])
  (fun x w' => Blk w' x.1 [.slice va g.vars.length vc, .slice none 0 0, .int .u8 (g.main.inv true).kind, .int .i64 (g.main.inv true).num, str (g.main.inv true).name, .slice x.2.1 (g.main.inv true).kids.length x.2.2] ∧ (g.main.inv true).sits (fun b => (b < w.heap.size ∨ b8 < b) ∧ b ≠ x.1 ∧ b < w'.heap.size) w' x.2.1 ∧ b8 < x.1 ∧ x.1 < w'.heap.size ∧
   Blk w' b1 [.slice va g.vars.length vc, .slice pa g.procs.length pc, .int .u8 g.main.kind, .int .i64 g.main.num, str g.main.name, .slice ma g.main.kids.length mc] ∧ Blk w' b8 [.slice none 0 0, .slice none 0 0, .int .u8 0, .int .i64 0, str [], .slice none 0 0] ∧ g.sits (· < w.heap.size) w' va pa ma ∧ Ext w w') ?_ ?_
 · clear HQ HB
   focus
    (refine cw_tdraw (fun wz => Ext w9 wz) 8 (.pure 0 (.pure 1 (.pure 2 (.pure 3 (.fork 4 (.fork 5 (.pure 6 (.fork 7 .tail .none)) (.fork 7 (.fork 5 (.pure 6 .tail) .none) .none)) (.fork 7 (.fork 4 (.fork 5 (.pure 6 .tail) .none) .none) .none)))))) mixed (by kernel_rfl) (panicOk_then panicOk_body) ?_; intro wa1 xa2 _); have qsa3 : (fun wz => Ext w9 wz) wa1 := xa2; simp only at qsa3; have d_h12 := h12; have d_h4 := h4; have d_hs := hs; have d_hv := hv; have d_hmm := hmm; have za4 := xa2.size; replace h12 := h12.ext xa2; replace h4 := h4.ext xa2; replace X := X.ext xa2; replace hs := PG.sits.ext hs xa2; replace hv := hv.ext xa2; replace hmm := Nd.sits.ext hmm xa2; clear xa2; refine ⟨qsa3, ?_⟩; refine tw_pure rfl (pur_fieldAddr0 tabOk rfl rfl rfl) rfl (tw_pure rfl (pur_load tabOk rfl rfl rfl (fun wz hz => Blk.cell (Blk.ext d_h4 hz) rfl)) rfl (tw_pure rfl (pur_fieldAddr tabOk rfl rfl rfl) rfl (tw_pure rfl (pur_loads_blk' [_, _, _, _] tabOk rfl rfl rfl (fun wz hz => (Blk.ext d_h4 hz)) rfl rfl) rfl ?_))); refine tw_does rfl (does_call (by kernel_rfl) rfl (HR.out (· < w.heap.size) _ _ _ (by assumption)) (fun _ _ h => h.ret)) rfl ?_ (fun _ h => h) ?kra5; rintro _ wa10 ⟨aa6, ⟨ca7, ⟨⟨⟩, ⟨ha8, xa9⟩⟩⟩⟩; have za11 := xa9.size; replace qsa3 := qsa3.ext xa9; replace h12 := h12.ext xa9; replace h4 := h4.ext xa9; replace X := X.ext xa9; replace hs := PG.sits.ext hs xa9; replace hv := hv.ext xa9; replace hmm := Nd.sits.ext hmm xa9; clear xa9; refine ⟨qsa3, ?_⟩; refine tw_does rfl (does_call (by kernel_rfl) rfl (HK.out _ _ _ _ (by assumption)) (fun _ _ h => h.ret)) rfl ?_ (fun _ h => h) ?kra12
    rintro _ wa17 ⟨aa13, ⟨ca14, ⟨⟨⟩, ⟨ha15, xa16⟩⟩⟩⟩; have za18 := xa16.size; replace ha8 := Nd.sits.ext ha8 xa16; replace qsa3 := qsa3.ext xa16; replace h12 := h12.ext xa16; replace h4 := h4.ext xa16; replace X := X.ext xa16; replace hs := PG.sits.ext hs xa16; replace hv := hv.ext xa16; replace hmm := Nd.sits.ext hmm xa16; clear xa16; refine ⟨qsa3, ?_⟩; refine tw_pure rfl (pur_build' [_, _, _, _, _, _] tabOk zOk rfl rfl rfl rfl) rfl ?_; (refine tw_does rfl (does_alloc zOk rfl) rfl ?_ (fun _ h => h) tw_none; rintro _ wa21 ⟨ba20, rfl, na22⟩); have ha23 := na22.blk; dsimp only at ha23; have xa24 := na22.ext; have pa25 := na22.pos; have za26 := na22.size; clear na22; replace ha15 := Nd.sits.ext ha15 xa24; replace ha8 := Nd.sits.ext ha8 xa24; replace qsa3 := qsa3.ext xa24; replace h12 := h12.ext xa24; replace h4 := h4.ext xa24; replace X := X.ext xa24; replace hs := PG.sits.ext hs xa24; replace hv := hv.ext xa24; replace hmm := Nd.sits.ext hmm xa24; clear xa24; refine ⟨qsa3, ?_⟩; clear d_h12 d_h4 d_hs d_hv d_hmm qsa3; refine tw_tail rfl ?_; (refine lw_store' [_, _, _, _, _, _] [_, _, _, _, _, _] tabOk rfl rfl rfl rfl rfl rfl ha23 rfl rfl ?_; intro wa27 na28); have ha31 := na28.blk; have fa29 := na28.fr; have za30 := na28.size; clear na28 ha23; replace ha15 := Nd.sits.fr ha15 fa29 (by omega); replace ha8 := Nd.sits.fr ha8 fa29 (by omega); replace h12 := h12.fr fa29 (by omega); replace h4 := h4.fr fa29 (by omega); replace X := X.fr fa29 (by omega); replace hs := PG.sits.fr hs fa29 (by omega)
    replace hv := hv.fr fa29 (by omega); replace hmm := Nd.sits.fr hmm fa29 (by omega); clear fa29; refine lw_nil ?_; rotate_left 1; (refine tw_does rfl (does_alloc zOk rfl) rfl ?_ (fun _ h => h) tw_none; rintro _ wa34 ⟨ba33, rfl, na35⟩); have ha36 := na35.blk; dsimp only at ha36; have xa37 := na35.ext; have pa38 := na35.pos; have za39 := na35.size; clear na35; replace ha8 := Nd.sits.ext ha8 xa37; replace qsa3 := qsa3.ext xa37; replace h12 := h12.ext xa37; replace h4 := h4.ext xa37; replace X := X.ext xa37; replace hs := PG.sits.ext hs xa37; replace hv := hv.ext xa37; replace hmm := Nd.sits.ext hmm xa37; clear xa37; refine ⟨qsa3, ?_⟩; refine tw_does rfl (does_call (by kernel_rfl) rfl (HK.out _ _ _ _ (by assumption)) (fun _ _ h => h.ret)) rfl ?_ (fun _ h => h) tw_none; rintro _ wa45 ⟨aa41, ⟨ca42, ⟨⟨⟩, ⟨ha43, xa44⟩⟩⟩⟩; have za46 := xa44.size; replace ha36 := ha36.ext xa44; replace ha8 := Nd.sits.ext ha8 xa44; replace qsa3 := qsa3.ext xa44; replace h12 := h12.ext xa44; replace h4 := h4.ext xa44; replace X := X.ext xa44; replace hs := PG.sits.ext hs xa44; replace hv := hv.ext xa44; replace hmm := Nd.sits.ext hmm xa44; clear xa44; refine ⟨qsa3, ?_⟩; refine tw_pure rfl (pur_build' [_, _, _, _, _, _] tabOk zOk rfl rfl rfl rfl) rfl ?_; clear d_h12 d_h4 d_hs d_hv d_hmm qsa3; refine tw_tail rfl ?_; (refine lw_store' [_, _, _, _, _, _] [_, _, _, _, _, _] tabOk rfl rfl rfl rfl rfl rfl ha36 rfl rfl ?_; intro wa47 na48); have ha51 := na48.blk; have fa49 := na48.fr; have za50 := na48.size; clear na48 ha36
    replace ha43 := Nd.sits.fr ha43 fa49 (by omega); replace ha8 := Nd.sits.fr ha8 fa49 (by omega); replace h12 := h12.fr fa49 (by omega); replace h4 := h4.fr fa49 (by omega); replace X := X.fr fa49 (by omega); replace hs := PG.sits.fr hs fa49 (by omega); replace hv := hv.fr fa49 (by omega); replace hmm := Nd.sits.fr hmm fa49 (by omega); clear fa49; refine lw_nil ?_; rotate_left 1; (refine tw_does rfl (does_alloc zOk rfl) rfl ?_ (fun _ h => h) tw_none; rintro _ wa54 ⟨ba53, rfl, na55⟩); have ha56 := na55.blk; dsimp only at ha56; have xa57 := na55.ext; have pa58 := na55.pos; have za59 := na55.size; clear na55; replace qsa3 := qsa3.ext xa57; replace h12 := h12.ext xa57; replace h4 := h4.ext xa57; replace X := X.ext xa57; replace hs := PG.sits.ext hs xa57; replace hv := hv.ext xa57; replace hmm := Nd.sits.ext hmm xa57; clear xa57; refine ⟨qsa3, ?_⟩; refine tw_does rfl (does_call (by kernel_rfl) rfl (HR.out (· < w.heap.size) _ _ _ (by assumption)) (fun _ _ h => h.ret)) rfl ?_ (fun _ h => h) tw_none; rintro _ wa65 ⟨aa61, ⟨ca62, ⟨⟨⟩, ⟨ha63, xa64⟩⟩⟩⟩; have za66 := xa64.size; replace ha56 := ha56.ext xa64; replace qsa3 := qsa3.ext xa64; replace h12 := h12.ext xa64; replace h4 := h4.ext xa64; replace X := X.ext xa64; replace hs := PG.sits.ext hs xa64; replace hv := hv.ext xa64; replace hmm := Nd.sits.ext hmm xa64; clear xa64; refine ⟨qsa3, ?_⟩; refine tw_does rfl (does_call (by kernel_rfl) rfl (HK.out _ _ _ _ (by assumption)) (fun _ _ h => h.ret)) rfl ?_ (fun _ h => h) tw_none; rintro _ wa72 ⟨aa68, ⟨ca69, ⟨⟨⟩, ⟨ha70, xa71⟩⟩⟩⟩
    have za73 := xa71.size; replace ha63 := Nd.sits.ext ha63 xa71; replace ha56 := ha56.ext xa71; replace qsa3 := qsa3.ext xa71; replace h12 := h12.ext xa71; replace h4 := h4.ext xa71; replace X := X.ext xa71; replace hs := PG.sits.ext hs xa71; replace hv := hv.ext xa71; replace hmm := Nd.sits.ext hmm xa71; clear xa71; refine ⟨qsa3, ?_⟩; refine tw_pure rfl (pur_build' [_, _, _, _, _, _] tabOk zOk rfl rfl rfl rfl) rfl ?_; clear d_h12 d_h4 d_hs d_hv d_hmm qsa3; refine tw_tail rfl ?_; (refine lw_store' [_, _, _, _, _, _] [_, _, _, _, _, _] tabOk rfl rfl rfl rfl rfl rfl ha56 rfl rfl ?_; intro wa74 na75); have ha78 := na75.blk; have fa76 := na75.fr; have za77 := na75.size; clear na75 ha56; replace ha70 := Nd.sits.fr ha70 fa76 (by omega); replace ha63 := Nd.sits.fr ha63 fa76 (by omega); replace h12 := h12.fr fa76 (by omega); replace h4 := h4.fr fa76 (by omega); replace X := X.fr fa76 (by omega); replace hs := PG.sits.fr hs fa76 (by omega); replace hv := hv.fr fa76 (by omega); replace hmm := Nd.sits.fr hmm fa76 (by omega); clear fa76; refine lw_nil ?_; rotate_left 1
   · exact qw_meet (_, _, _) (by (refine sub_cons rfl ?_; refine sub_cons rfl ?_; refine sub_cons rfl ?_; exact sub_nil)) ⟨by assumption, Nd.sits.wide (by assumption) (fun b h => ⟨by omega, by omega, by omega⟩), by omega, by omega, by assumption, by assumption, by assumption, by assumption⟩
   · exact qw_meet (_, _, _) (by (refine sub_cons rfl ?_; refine sub_cons rfl ?_; refine sub_cons rfl ?_; exact sub_nil)) ⟨by assumption, Nd.sits.wide (by assumption) (fun b h => ⟨by omega, by omega, by omega⟩), by omega, by omega, by assumption, by assumption, by assumption, by assumption⟩
   · exact qw_meet (_, _, _) (by (refine sub_cons rfl ?_; refine sub_cons rfl ?_; refine sub_cons rfl ?_; exact sub_nil)) ⟨by assumption, Nd.sits.wide (by assumption) (fun b h => ⟨by omega, by omega, by omega⟩), by omega, by omega, by assumption, by assumption, by assumption, by assumption⟩
 · clear h4 h12 hs X hv hmm HR HK
   rintro ⟨bq, ma', mc'⟩ w1 ⟨hbq, hm', o1, o2, hb1, hb8, hs, X⟩; simp only at hbq hm' o1 o2; have hp := hs.procs; have hv := hs.vars; have hz := Nat.le_refl w1.heap.size; clear hs
   focus
    refine cw_seq (cS (cA rfl rfl (cT (cw_block ?_)))); rotate_left 1
   refine cw_loop (ι := Nat × List PD × Option Addr × Nat) (fun x => [(1, .pointer (some ⟨b1, 0, none⟩)), (2, .pointer (some ⟨b8, 0, none⟩)), (3, .pointer (some ⟨bq, 0, none⟩)), (4, .int .i64 x.1)])
    (fun x w' => OwnQ pdShape w' (fun b => b < w.heap.size ∨ w1.heap.size ≤ b) w1.heap.size 48 (.slice x.2.2.1 x.2.1.length x.2.2.2) x.2.1 ∧ x.2.1 = (g.procs.take x.1).map (PD.map (·.inv true)) ∧ x.1 ≤ g.procs.length ∧ Blk w' bq [.slice va g.vars.length vc, .slice x.2.2.1 x.2.1.length x.2.2.2, .int .u8 (g.main.inv true).kind, .int .i64 (g.main.inv true).num, str (g.main.inv true).name, .slice ma' (g.main.inv true).kids.length mc'] ∧ VDs (· < w.heap.size) w' g.vars va ∧ (g.main.inv true).sits (fun b => (b < w.heap.size ∨ b8 < b) ∧ b ≠ bq ∧ b < w1.heap.size) w' ma' ∧
     Blk w' b1 [.slice va g.vars.length vc, .slice pa g.procs.length pc, .int .u8 g.main.kind, .int .i64 g.main.num, str g.main.name, .slice ma g.main.kids.length mc] ∧ Blk w' b8 [.slice none 0 0, .slice none 0 0, .int .u8 0, .int .i64 0, str [], .slice none 0 0] ∧ PDs (· < w.heap.size) w' g.procs pa ∧ Ext w w' ∧ w1.heap.size ≤ w'.heap.size)
    (fun x => g.procs.length - x.1) (0, [], none, 0) (by (refine sub_cons rfl ?_; refine sub_cons rfl ?_; refine sub_cons rfl ?_; refine sub_cons rfl ?_; exact sub_nil)) ⟨OwnQ.nil, by simp, Nat.zero_le _, hbq, hv, hm', hb1, hb8, hp, X, hz⟩ ?_
   clear hbq hv hm' hb1 hb8 hp X hz; rintro ⟨j, xs, ra, rc⟩ w3 ⟨hown, hxs, hj, hbq, hv', hm', hb1, hb8, hp, X, hz⟩; simp only at hown hxs hj hbq
   have hob : ∀ g', (Value.slice ra xs.length rc).ownBlock = some g' → w1.heap.size ≤ g' ∧ g' < w3.heap.size := fun g' h => ⟨hown.ge h, hown.lt h⟩
   have hxl : xs.length ≤ 1000000 := by rw [hxs, List.length_map, List.length_take]; omega
   refine CW.sub (m := [(1, .pointer (some ⟨b1, 0, none⟩)), (2, .pointer (some ⟨b8, 0, none⟩)), (3, .pointer (some ⟨bq, 0, none⟩)), (4, .int .i64 (j : Int))]) ?_ (by (refine sub_cons rfl ?_; refine sub_cons rfl ?_; refine sub_cons rfl ?_; refine sub_cons rfl ?_; exact sub_nil))
   by_cases hlt : j < g.procs.length
   · replace hown := hown.ltR
     obtain ⟨kb, ko, rfl, kS, hk⟩ := Arr.get hp (by omega); obtain ⟨xa, xc, ya, yc, rx, vx, sx⟩ := hk j _ (List.getElem?_eq_getElem hlt); have hxb := HB.out _ (List.getElem_mem hlt); have hxz := HQ.out _ (List.getElem_mem hlt); have HR := Lib.hid (rStmt_w hxz.2 hxb); have io := inv_ok false (g.procs[j].body.size + 1) g.procs[j].body (by omega) (Or.inr hxb); have hcm := calls_inv (g.procs[j].body.size + 1) g.procs[j].body (by omega) (Or.inr hxb); have HK := Lib.hid (rCalls_v (t := g.procs[j].body.inv false) (by rw [io.size]; exact hxz.2)); rw [hcm] at HK
     have hnext : xs ++ [(g.procs[j]).map (·.inv true)] = (g.procs.take (j + 1)).map (PD.map (·.inv true)) := by rw [hxs, procs_snoc _ _ j hlt]
     clear hk HB HQ hxs io hcm hxb
     generalize g.procs[j] = x at *
     generalize x.body.inv false = u1 at *
     focus
      refine cw_seq (cS (cM rfl rfl (lw_pure (pur_fieldAddr tabOk rfl rfl rfl) rfl (lw_load_b tabOk rfl rfl rfl hb1 rfl rfl (lw_pure (pur_len_slice tabOk rfl rfl) rfl (lw_pure (pur_lss rfl rfl) rfl (cT ?_))))))); refine cw_yes rfl (by omega) ?_; refine cw_skip (qw_then (cw_seq (cw_block (cS (lw_pure (pur_fieldAddr tabOk rfl rfl rfl) rfl (lw_load_b tabOk rfl rfl rfl hb1 rfl rfl (cM rfl rfl ?_))))))); refine lw_pure (pur_indexAddr tabOk rfl rfl rfl rfl (by omega) (by omega)) rfl ?_; refine lw_loads_r0 tabOk rfl rfl rfl rx rfl rfl ?_; (refine lw_alloc' [_, _, _, _, _, _] zOk rfl rfl ?_; intro bc1 wc2 nc3); (refine lw_init' [_, _, _, _, _, _] tabOk rfl rfl rfl rfl rfl rfl nc3 rfl ?_; clear nc3; clear wc2; intro wc4 nc3); have hc5 := nc3.blk; have xc6 := nc3.ext; have pc7 := nc3.pos; have zc8 := nc3.size; clear nc3; replace hbq := hbq.ext xc6; replace hv' := VDs.ext hv' xc6; replace hm' := Nd.sits.ext hm' xc6; replace hb8 := hb8.ext xc6; replace X := X.ext xc6; replace hown := hown.ext xc6; replace hb1 := hb1.ext xc6; replace hp := hp.ext xc6; replace rx := rx.ext xc6; replace vx := vx.ext xc6; replace sx := Nd.sits.ext sx xc6; clear xc6; refine cN (lw_pure (pur_fieldAddr tabOk rfl rfl rfl) rfl (lw_loads_b' [_, _, _, _] tabOk rfl rfl rfl hc5 rfl rfl rfl ?_)); refine cR (by kernel_rfl) rfl (HR.out (· < w.heap.size) _ _ _ (by assumption)) (fun _ _ h => h.ret) rfl ?_; rintro _ wc13 ⟨ac9, ⟨cc10, ⟨⟨⟩, ⟨hc11, xc12⟩⟩⟩⟩; have zc14 := xc12.size; replace hc5 := hc5.ext xc12; replace hbq := hbq.ext xc12
      replace hv' := VDs.ext hv' xc12; replace hm' := Nd.sits.ext hm' xc12; replace hb8 := hb8.ext xc12; replace X := X.ext xc12; replace hown := hown.ext xc12; replace hb1 := hb1.ext xc12; replace hp := hp.ext xc12; replace rx := rx.ext xc12; replace vx := vx.ext xc12; replace sx := Nd.sits.ext sx xc12; clear xc12; refine cR (by kernel_rfl) rfl (HK.out _ _ _ _ (by assumption)) (fun _ _ h => h.ret) rfl ?_; rintro _ wc19 ⟨ac15, ⟨cc16, ⟨⟨⟩, ⟨hc17, xc18⟩⟩⟩⟩; have zc20 := xc18.size; replace hc11 := Nd.sits.ext hc11 xc18; replace hc5 := hc5.ext xc18; replace hbq := hbq.ext xc18; replace hv' := VDs.ext hv' xc18; replace hm' := Nd.sits.ext hm' xc18; replace hb8 := hb8.ext xc18; replace X := X.ext xc18; replace hown := hown.ext xc18; replace hb1 := hb1.ext xc18; replace hp := hp.ext xc18; replace rx := rx.ext xc18; replace vx := vx.ext xc18; replace sx := Nd.sits.ext sx xc18; clear xc18; refine lw_pure (pur_fieldAddr tabOk rfl rfl rfl) rfl ?_; (refine lw_store' [_, _, _, _] [_, _, _, _, _, _] tabOk rfl rfl rfl rfl rfl rfl hc5 rfl rfl ?_; intro wc21 nc22); have hc25 := nc22.blk; have fc23 := nc22.fr; have zc24 := nc22.size; clear nc22 hc5; replace hc17 := Nd.sits.fr hc17 fc23 (by omega); replace hc11 := Nd.sits.fr hc11 fc23 (by omega); replace hbq := hbq.fr fc23 (by omega); replace hv' := VDs.fr hv' fc23 (by omega); replace hm' := Nd.sits.fr hm' fc23 (by omega); replace hb8 := hb8.fr fc23 (by omega); replace X := X.fr fc23 (by omega); replace hown := OwnQ.fr hown fc23 (fun k hk => ⟨fun h => by (try dsimp only at hk h); omega, fun e => by (try dsimp only at hk); have := hob _ e; omega⟩)
      replace hb1 := hb1.fr fc23 (by omega); replace hp := hp.fr fc23 (by omega); replace rx := Row.fr rx fc23 (by simp only; omega); replace vx := vx.fr fc23 (by omega); replace sx := Nd.sits.fr sx fc23 (by omega); clear fc23; refine cT (cw_region (lw_pure (pur_fieldAddr tabOk rfl rfl rfl) rfl (lw_load_b tabOk rfl rfl rfl hbq rfl rfl (lw_loads_b' [_, _, _, _, _, _] tabOk rfl rfl rfl hc25 rfl rfl rfl ?_)))); (refine lw_does (does_slice' [_, _, _, _, _, _] tabOk zOk rfl rfl rfl rfl rfl rfl rfl rfl rfl) rfl ?_ (fun _ h => h); rintro _ wc27 ⟨bc26, rfl, nc28, tc29⟩); clear tc29; have hc30 := nc28.blk; have xc31 := nc28.ext; have pc32 := nc28.pos; have zc33 := nc28.size; clear nc28; replace hc25 := hc25.ext xc31; replace hc17 := Nd.sits.ext hc17 xc31; replace hc11 := Nd.sits.ext hc11 xc31; replace hbq := hbq.ext xc31; replace hv' := VDs.ext hv' xc31; replace hm' := Nd.sits.ext hm' xc31; replace hb8 := hb8.ext xc31; replace X := X.ext xc31; replace hown := hown.ext xc31; replace hb1 := hb1.ext xc31; replace hp := hp.ext xc31; replace rx := rx.ext xc31; replace vx := vx.ext xc31; replace sx := Nd.sits.ext sx xc31; clear xc31; refine lw_does (does_appendQ (R := fun b => b < w.heap.size ∨ w1.heap.size ≤ b) (sh := pdShape) (z := x.map (·.inv true)) tabOk zOk rfl rfl rfl rfl (by kernel_rfl) rfl rfl rfl (by assumption) (fun _ h => by exact h.1) (Blk.row (by assumption)) ⟨_, _, _, _, rfl, VDs.wide (by assumption) (fun b h => ⟨by omega, fun e => by have := hob _ e; omega⟩), Nd.sits.wide (by assumption) (fun b h => by dsimp only at h; exact ⟨by omega, fun e => by have := hob _ e; omega⟩)⟩ (by omega) (by omega)) rfl ?_ (fun _ h => h)
      rintro _ wc40 ⟨gc34, ⟨capc35, ⟨rfl, ⟨hc36, ⟨hc37, ⟨hc38, fc39⟩⟩⟩⟩⟩⟩; have zc41 := fc39.size; replace hc30 := Blk.fr hc30 fc39 (fun e => by have := hob _ e; omega); replace hc25 := Blk.fr hc25 fc39 (fun e => by have := hob _ e; omega); replace hc17 := Nd.sits.fr hc17 fc39 (fun b hb hT => by have := hob _ hT; (try dsimp only at hb); omega); replace hc11 := Nd.sits.fr hc11 fc39 (fun b hb hT => by have := hob _ hT; (try dsimp only at hb); omega); replace hbq := Blk.fr hbq fc39 (fun e => by have := hob _ e; omega); replace hv' := VDs.fr hv' fc39 (fun b hb hT => by have := hob _ hT; (try dsimp only at hb); omega); replace hm' := Nd.sits.fr hm' fc39 (fun b hb hT => by have := hob _ hT; (try dsimp only at hb); omega); replace hb8 := Blk.fr hb8 fc39 (fun e => by have := hob _ e; omega); replace X := Ext.fr X fc39 (fun k hk => by have := hob _ hk; omega); clear hown; replace hb1 := Blk.fr hb1 fc39 (fun e => by have := hob _ e; omega); replace hp := PDs.fr hp fc39 (fun b hb hT => by have := hob _ hT; (try dsimp only at hb); omega); clear rx; replace vx := VDs.fr vx fc39 (fun b hb hT => by have := hob _ hT; (try dsimp only at hb); omega); replace sx := Nd.sits.fr sx fc39 (fun b hb hT => by have := hob _ hT; (try dsimp only at hb); omega); clear fc39; refine lw_pure (pur_fieldAddr tabOk rfl rfl rfl) rfl ?_; (refine lw_store' [_] [_, _, _, _, _, _] tabOk rfl rfl rfl rfl rfl rfl hbq rfl rfl ?_; intro wc42 nc43); have hc46 := nc43.blk; have fc44 := nc43.fr; have zc45 := nc43.size; clear nc43 hbq
      replace hc36 := OwnQ.fr hc36 fc44 (fun k hk => ⟨fun h => by (try dsimp only at hk h); omega, fun e => by have := OwnQ.ge (by assumption) e; (try dsimp only at hk); omega⟩); replace hc30 := hc30.fr fc44 (by omega); replace hc25 := hc25.fr fc44 (by omega); replace hc17 := Nd.sits.fr hc17 fc44 (by omega); replace hc11 := Nd.sits.fr hc11 fc44 (by omega); replace hv' := VDs.fr hv' fc44 (by omega); replace hm' := Nd.sits.fr hm' fc44 (by omega); replace hb8 := hb8.fr fc44 (by omega); replace X := X.fr fc44 (by omega); replace hb1 := hb1.fr fc44 (by omega); replace hp := hp.fr fc44 (by omega); replace vx := vx.fr fc44 (by omega); replace sx := Nd.sits.fr sx fc44 (by omega); clear fc44; refine lw_nil (qw_block_norm (qw_then (cw_region (cM rfl rfl ?_)))); refine lw_pure (pur_add rfl rfl (IntWalk.i64_in _ (by omega))) rfl ?_; refine cA rfl rfl (lw_nil ?_); rotate_left 1
     exact qw_round (j + 1, xs ++ [x.map (·.inv true)], some ⟨_, 0, none⟩, _) (by (refine sub_cons rfl ?_; refine sub_cons rfl ?_; refine sub_cons rfl ?_; refine sub_cons rfl ?_; exact sub_nil)) ⟨by assumption, hnext, by simp only; omega, by assumption, hv', hm', hb1, hb8, hp, X, by omega⟩ (by simp only; omega)
   · have hje : j = g.procs.length := by omega
     subst hje; rw [List.take_length] at hxs
     focus
      refine cw_seq (cS (cM rfl rfl (lw_pure (pur_fieldAddr tabOk rfl rfl rfl) rfl (lw_load_b tabOk rfl rfl rfl hb1 rfl rfl (lw_pure (pur_len_slice tabOk rfl rfl) rfl (lw_pure (pur_lss rfl rfl) rfl (cT ?_))))))); refine cw_no rfl (by omega) ?_; refine cw_exit (qw_then_exit (qw_then_exit (qw_block_exit (qw_then (cS (lw_loads_b' [_, _, _, _, _, _] tabOk rfl rfl rfl hbq rfl rfl rfl ?_)))))); (refine lw_store' [_, _, _, _, _, _] [_, _, _, _, _, _] tabOk rfl rfl rfl rfl rfl rfl hb8 rfl rfl ?_; intro wd1 nd2); have hd5 := nd2.blk; have fd3 := nd2.fr; have zd4 := nd2.size; clear nd2 hb8; replace hown := OwnQ.fr hown fd3 (fun k hk => ⟨fun h => by (try dsimp only at hk h); omega, fun e => by have := OwnQ.ge (by assumption) e; (try dsimp only at hk); omega⟩); replace hbq := hbq.fr fd3 (by omega); replace hv' := VDs.fr hv' fd3 (by omega); replace hm' := Nd.sits.fr hm' fd3 (by omega); replace hb1 := hb1.fr fd3 (by omega); replace hp := hp.fr fd3 (by omega); replace X := X.fr fd3 (by omega); clear fd3; refine cT (cw_ret (qw_retc rfl tabOk rfl rfl rfl hd5 rfl ?_)); rotate_left 1
     exact shareP_mk hxs hv' hown hm' X
end Bk
namespace Bk
open Go Go.RowKit Go.Proofs
attribute [local irreducible] Go.Calls
def aw17A : Nd := .mk 57 0 [] [.mk 40 0 [] [.mk 2 0 [120] [], .mk 1 1 [] []], .mk 50 0 [102] [.mk 2 0 [120] []]]
def aw17B : Nd := .mk 57 0 [] [.mk 51 0 [102] [.mk 2 0 [120] []], .mk 41 0 [] [.mk 2 0 [120] [], .mk 1 1 [] []]]
def aw17C : Nd := .mk 57 0 [] [.mk 43 0 [] [.mk 2 0 [120] [], .mk 2 0 [121] []]]
theorem aw17a : parseBlock [120, 32, 43, 61, 32, 49, 59, 10, 99, 97, 108, 108, 32, 102, 40, 120, 41, 59, 10] = (aw17A, 0, 0) := by kernel_rfl
theorem aw17b : parseBlock [117, 110, 99, 97, 108, 108, 32, 102, 40, 120, 41, 59, 10, 120, 32, 45, 61, 32, 49, 59, 10] = (aw17B, 0, 0) := by kernel_rfl
theorem aw17c : parseBlock [120, 32, 60, 61, 62, 32, 121, 59, 10] = (aw17C, 0, 0) := by kernel_rfl
theorem aw17i : aw17A.inv false = aw17B := by kernel_rfl
theorem aw17A_wf : aw17A.wf := by simp [aw17A, Nd.wf, rowWf]
theorem aw17C_wf : aw17C.wf := by simp [aw17C, Nd.wf, rowWf]
theorem aw17A_ok : aw17A.isBlock = true := by decide +kernel
theorem aw17C_ok : aw17C.isBlock = true := by decide +kernel
theorem aw17A_size : aw17A.size ≤ 1000000 := by decide +kernel
theorem aw17B_size : aw17B.size ≤ 1000000 := by decide +kernel
theorem aw17C_size : aw17C.size ≤ 1000000 := by decide +kernel
theorem aw17e : aw17B.eqb aw17B = true := (eqb_iff _ _).2 rfl
theorem aw17p : aw17C.eqb (aw17C.inv false) = true := by kernel_rfl
theorem aw17q : aw17A.eqb (aw17A.inv false) = false := by kernel_rfl
set_option maxRecDepth 100000 in
set_option maxHeartbeats 4000000 in
theorem awake17_c (w : World) (hS : Syms w) (hE : Errs w) : Calls Tryz.prog 7 #[] w fun e w' => e = .returned (.bool true) ∧ Ext w w' := by
 have X := Ext.refl w; have HA := Lib.hid (fun w => Block_p [120, 32, 43, 61, 32, 49, 59, 10, 99, 97, 108, 108, 32, 102, 40, 120, 41, 59, 10] w (by decide)); have HB := Lib.hid (fun w => Block_p [117, 110, 99, 97, 108, 108, 32, 102, 40, 120, 41, 59, 10, 120, 32, 45, 61, 32, 49, 59, 10] w (by decide)); have HC := Lib.hid (fun w => Block_p [120, 32, 60, 61, 62, 32, 121, 59, 10] w (by decide)); rw [aw17a] at HA; rw [aw17b] at HB; rw [aw17c] at HC; have HI := Lib.hid (iStmt_v aw17A_wf aw17A_size (Or.inr aw17A_ok)); rw [aw17i] at HI; have HE := Lib.hid (equalI_v aw17B aw17B_size aw17B); rw [aw17e] at HE; have HP := Lib.hid (palin_v aw17C_wf aw17C_size aw17C_ok); rw [aw17p] at HP; have HQ := Lib.hid (palin_v aw17A_wf aw17A_size aw17A_ok); rw [aw17q] at HQ
 generalize aw17A = A at *
 generalize aw17B = B at *
 generalize aw17C = C at *
 refine calls_in (args := []) Tryz.func7 Tryz.ntmps7 rfl rfl ?_
 focus
  refine cS (cA rfl rfl (cN ?_)); refine cR (by kernel_rfl) rfl (HA.out _ (by assumption) (by assumption)) (fun _ _ h => h.ret) rfl ?_; rintro _ w5 ⟨a1, ⟨k2, ⟨⟨⟩, ⟨h3, x4⟩⟩⟩⟩; have z6 := x4.size; replace hS := hS.ext x4; replace hE := hE.ext x4; replace X := X.ext x4; clear x4; refine cM rfl rfl (lw_pure (pur_extract rfl rfl) rfl (lw_pure (pur_extract rfl rfl) rfl (lw_pure (pur_extract rfl rfl) rfl ?_))); (refine lw_alloc' [_, _, _, _] zOk rfl rfl ?_; intro b7 w8 n9); (refine lw_init' [_, _, _, _] tabOk rfl rfl rfl rfl rfl rfl n9 rfl ?_; clear n9; clear w8; intro w10 n9); have h11 := n9.blk; dsimp only at h11; have x12 := n9.ext; have p13 := n9.pos; have z14 := n9.size; clear n9; replace h3 := Nd.sits.ext h3 x12; replace hS := hS.ext x12; replace hE := hE.ext x12; replace X := X.ext x12; clear x12; refine cA rfl rfl (cA rfl rfl (cN ?_)); refine cR (by kernel_rfl) rfl (HB.out _ (by assumption) (by assumption)) (fun _ _ h => h.ret) rfl ?_; rintro _ w19 ⟨a15, ⟨k16, ⟨⟨⟩, ⟨h17, x18⟩⟩⟩⟩; have z20 := x18.size; replace h11 := h11.ext x18; replace h3 := Nd.sits.ext h3 x18; replace hS := hS.ext x18; replace hE := hE.ext x18; replace X := X.ext x18; clear x18; refine cM rfl rfl (lw_pure (pur_extract rfl rfl) rfl (lw_pure (pur_extract rfl rfl) rfl (lw_pure (pur_extract rfl rfl) rfl ?_))); (refine lw_alloc' [_, _, _, _] zOk rfl rfl ?_; intro b21 w22 n23); (refine lw_init' [_, _, _, _] tabOk rfl rfl rfl rfl rfl rfl n23 rfl ?_; clear n23; clear w22; intro w24 n23); have h25 := n23.blk; dsimp only at h25
  have x26 := n23.ext; have p27 := n23.pos; have z28 := n23.size; clear n23; replace h17 := Nd.sits.ext h17 x26; replace h11 := h11.ext x26; replace h3 := Nd.sits.ext h3 x26; replace hS := hS.ext x26; replace hE := hE.ext x26; replace X := X.ext x26; clear x26; refine cA rfl rfl (cA rfl rfl (cN ?_)); refine cR (by kernel_rfl) rfl (HC.out _ (by assumption) (by assumption)) (fun _ _ h => h.ret) rfl ?_; rintro _ w33 ⟨a29, ⟨k30, ⟨⟨⟩, ⟨h31, x32⟩⟩⟩⟩; have z34 := x32.size; replace h25 := h25.ext x32; replace h17 := Nd.sits.ext h17 x32; replace h11 := h11.ext x32; replace h3 := Nd.sits.ext h3 x32; replace hS := hS.ext x32; replace hE := hE.ext x32; replace X := X.ext x32; clear x32; refine cM rfl rfl (lw_pure (pur_extract rfl rfl) rfl (lw_pure (pur_extract rfl rfl) rfl (lw_pure (pur_extract rfl rfl) rfl ?_))); (refine lw_alloc' [_, _, _, _] zOk rfl rfl ?_; intro b35 w36 n37); (refine lw_init' [_, _, _, _] tabOk rfl rfl rfl rfl rfl rfl n37 rfl ?_; clear n37; clear w36; intro w38 n37); have h39 := n37.blk; dsimp only at h39; have x40 := n37.ext; have p41 := n37.pos; have z42 := n37.size; clear n37; replace h31 := Nd.sits.ext h31 x40; replace h25 := h25.ext x40; replace h17 := Nd.sits.ext h17 x40; replace h11 := h11.ext x40; replace h3 := Nd.sits.ext h3 x40; replace hS := hS.ext x40; replace hE := hE.ext x40; replace X := X.ext x40; clear x40; refine cA rfl rfl (cA rfl rfl (cN (lw_loads_b' [_, _, _, _] tabOk rfl rfl rfl h11 rfl rfl rfl ?_))); refine cR (by kernel_rfl) rfl (HI.out _ _ _ _ (by assumption)) (fun _ _ h => h.ret) rfl ?_
  rintro _ w47 ⟨a43, ⟨c44, ⟨⟨⟩, ⟨h45, x46⟩⟩⟩⟩; have z48 := x46.size; replace h39 := h39.ext x46; replace h31 := Nd.sits.ext h31 x46; replace h25 := h25.ext x46; replace h17 := Nd.sits.ext h17 x46; replace h11 := h11.ext x46; replace h3 := Nd.sits.ext h3 x46; replace hS := hS.ext x46; replace hE := hE.ext x46; replace X := X.ext x46; clear x46; refine cM rfl rfl (lw_pure (pur_extract rfl rfl) rfl (lw_pure (pur_extract rfl rfl) rfl ?_)); (refine lw_alloc' [_, _, _, _] zOk rfl rfl ?_; intro b49 w50 n51); (refine lw_init' [_, _, _, _] tabOk rfl rfl rfl rfl rfl rfl n51 rfl ?_; clear n51; clear w50; intro w52 n51); have h53 := n51.blk; have x54 := n51.ext; have p55 := n51.pos; have z56 := n51.size; clear n51; replace h45 := Nd.sits.ext h45 x54; replace h39 := h39.ext x54; replace h31 := Nd.sits.ext h31 x54; replace h25 := h25.ext x54; replace h17 := Nd.sits.ext h17 x54; replace h11 := h11.ext x54; replace h3 := Nd.sits.ext h3 x54; replace hS := hS.ext x54; replace hE := hE.ext x54; replace X := X.ext x54; clear x54; refine cA rfl rfl (cN (cM rfl rfl (lw_pure (pur_eql rfl rfl) rfl (cM rfl rfl (lw_on rfl rfl rfl (gd_tt (rfl)) (cM rfl rfl (lw_on rfl rfl rfl (gd_tt (rfl)) (lw_pure (pur_eql rfl rfl) rfl (lw_pure (pur_pick_yes rfl rfl (rfl)) rfl (cM rfl rfl (lw_on rfl rfl rfl (gd_tt (rfl)) ?_))))))))))); refine cM rfl rfl (lw_on rfl rfl rfl (gd_tt (rfl)) (lw_pure (pur_eql rfl rfl) rfl (lw_pure (pur_pick_yes rfl rfl (rfl)) rfl (cM rfl rfl (lw_on rfl rfl rfl (gd_tt (rfl)) (cM rfl rfl (lw_on rfl rfl rfl (gd_tt (rfl)) (lw_pure (pur_eql rfl rfl) rfl (lw_pure (pur_pick_yes rfl rfl (rfl)) rfl (cM rfl rfl ?_))))))))))
  refine lw_on rfl rfl rfl (gd_tt (by decide)) ?_; refine lw_loads_b' [_, _, _, _] tabOk rfl rfl rfl h53 rfl rfl rfl ?_; refine lw_on rfl rfl rfl (gd_tt (by decide)) ?_; refine lw_loads_b' [_, _, _, _] tabOk rfl rfl rfl h25 rfl rfl rfl ?_; refine lw_on rfl rfl rfl (gd_tt (by decide)) ?_; refine cC (by kernel_rfl) rfl (HE.out _ _ _ _ _ _ _ (by assumption) (by assumption)) rfl ?_; rintro _ w58 ⟨⟨⟩, x57⟩; have z59 := x57.size; replace h53 := h53.ext x57; replace h45 := Nd.sits.ext h45 x57; replace h39 := h39.ext x57; replace h31 := Nd.sits.ext h31 x57; replace h25 := h25.ext x57; replace h17 := Nd.sits.ext h17 x57; replace h11 := h11.ext x57; replace h3 := Nd.sits.ext h3 x57; replace hS := hS.ext x57; replace hE := hE.ext x57; replace X := X.ext x57; clear x57; refine lw_pure (pur_pick_yes rfl rfl (by decide)) rfl ?_; refine cM rfl rfl (lw_on rfl rfl rfl (rfl) (lw_loads_b' [_, _, _, _] tabOk rfl rfl rfl h39 rfl rfl rfl (lw_on rfl rfl rfl (rfl) ?_))); refine cC (by kernel_rfl) rfl (HP.out _ _ _ _ (by assumption)) rfl ?_; rintro _ w61 ⟨⟨⟩, x60⟩; have z62 := x60.size; replace h53 := h53.ext x60; replace h45 := Nd.sits.ext h45 x60; replace h39 := h39.ext x60; replace h31 := Nd.sits.ext h31 x60; replace h25 := h25.ext x60; replace h17 := Nd.sits.ext h17 x60; replace h11 := h11.ext x60; replace h3 := Nd.sits.ext h3 x60; replace hS := hS.ext x60; replace hE := hE.ext x60; replace X := X.ext x60; clear x60; refine lw_pure (pur_pick_t rfl rfl rfl) rfl (cM rfl rfl (lw_on rfl rfl rfl (rfl) (lw_loads_b' [_, _, _, _] tabOk rfl rfl rfl h11 rfl rfl rfl (lw_on rfl rfl rfl (rfl) ?_))))
  refine cC (by kernel_rfl) rfl (HQ.out _ _ _ _ (by assumption)) rfl ?_; rintro _ w64 ⟨⟨⟩, x63⟩; have z65 := x63.size; replace h53 := h53.ext x63; replace h45 := Nd.sits.ext h45 x63; replace h39 := h39.ext x63; replace h31 := Nd.sits.ext h31 x63; replace h25 := h25.ext x63; replace h17 := Nd.sits.ext h17 x63; replace h11 := h11.ext x63; replace h3 := Nd.sits.ext h3 x63; replace hS := hS.ext x63; replace hE := hE.ext x63; replace X := X.ext x63; clear x63; refine lw_on rfl rfl rfl (rfl) (lw_pure (pur_not rfl) rfl (lw_pure (pur_pick_t rfl rfl rfl) rfl (cA rfl rfl (cT (cw_ret (qw_ret1 rfl rfl ?_)))))); rotate_left 1
 exact ⟨rfl, X⟩
end Bk
namespace Bk
open Go Go.RowKit Go.Proofs
mutual
def Nd.small : Nd → Int → Int → Bool × Int
 | .mk _ _ s l, d, m => if m < 1 ∨ d = 0 ∨ 40 < s.length then (false, m - 1) else rowSmall l (d - 1) (m - 1)
def rowSmall : List Nd → Int → Int → Bool × Int
 | [], _, m => (true, m)
 | t :: r, d, m => if (t.small d m).1 then rowSmall r d (t.small d m).2 else (false, (t.small d m).2)
end
mutual
theorem small_le : ∀ (t : Nd) (d m : Int), 0 ≤ m → ((t.small d m).1 = true → 0 ≤ (t.small d m).2 ∧ (t.small d m).2 ≤ m)
 | .mk _ _ s l, d, m, hm, h => by
  simp only [Nd.small] at h ⊢
  split at h
  · simp at h
  · rename_i hn
    rw [if_neg hn]; have := rowSmall_le l (d - 1) (m - 1) (by omega) h
    omega
theorem rowSmall_le : ∀ (l : List Nd) (d m : Int), 0 ≤ m → ((rowSmall l d m).1 = true → 0 ≤ (rowSmall l d m).2 ∧ (rowSmall l d m).2 ≤ m)
 | [], _, m, hm, _ => by simp [rowSmall, hm]
 | t :: r, d, m, hm, h => by
  simp only [rowSmall] at h ⊢
  split at h
  · rename_i ht
    rw [if_pos ht]; have h1 := small_le t d m hm ht; have h2 := rowSmall_le r d (t.small d m).2 h1.1 h
    omega
  · simp at h
end
set_option maxHeartbeats 1000000 in
theorem small_c (N : Nat) : ∀ (k n d m : Int) (s : List UInt8) (l : List Nd) (a : Option Addr) (c pb po : Nat) (S : Nat → Prop) (w : World),
 rowSize l < N → (Nd.mk k n s l).wf → rowSits S w l a → ¬ S pb →
 w.cell? ⟨pb, po, none⟩ = some (.int .i64 m) → w.frozen? ⟨pb, po, none⟩ = false → 0 ≤ m → m ≤ 1000 → 0 ≤ d → d ≤ 1000 →
 Calls Tryz.prog 47 #[.agg #[.int .u8 k, .int .i64 n, str s, .slice a l.length c], .int .i64 d, .pointer (some ⟨pb, po, none⟩)] w fun e w' =>
  e = .returned (.bool ((Nd.mk k n s l).small d m).1) ∧ w'.cell? ⟨pb, po, none⟩ = some (.int .i64 ((Nd.mk k n s l).small d m).2) ∧ w'.frozen? ⟨pb, po, none⟩ = false ∧ Fr (· = pb) w w' := by
 induction N with
 | zero => intro k n d m s l a c pb po S w h; omega
 | succ N ih =>
  intro k n d m s l a c pb po S w hN hwf hs hS hc hf hm0 hm1 hd0 hd1; have hpb := cell_lt hc; simp only [Nd.wf] at hwf; obtain ⟨hk0, hk1, hn0, hn1, hsl, hll, hrw⟩ := hwf
  have hpne : ¬ w.heap.size = pb := by simp at hpb; omega
  have hpne' : ¬ pb = w.heap.size := by simp at hpb; omega
  by_cases h1 : m < 1 ∨ d = 0 ∨ 40 < s.length
  · have hr : (Nd.mk k n s l).small d m = (false, m - 1) := by simp only [Nd.small]; rw [if_pos h1]
    have HR := Lib.hid hr; clear hr ih hs hrw
    by_cases e1 : m < 1
    · have d1 : decide (m - 1 < 0) = true := by simp; omega
      clear h1
      go_enter Tryz.func47, Tryz.ntmps47
      go_wp2_with fail
      go_ret
      rw [HR.out]
      exact ⟨rfl, by go_simp, by go_simp, (by repeat (first | exact Fr.refl _ _ | assumption | refine Fr.alloc ?_ _ | refine Fr.drew ?_ | refine Fr.setCell ?_ _ _ (Or.inl rfl) | refine Fr.trans ?_ (by assumption)))⟩
    · have d1 : decide (m - 1 < 0) = false := by simp; omega
      by_cases e2 : d = 0
      · have d2 : (d == 0) = true := by simp [e2]
        clear h1 e2
        go_enter Tryz.func47, Tryz.ntmps47
        go_wp2_with fail
        go_ret
        rw [HR.out]
        exact ⟨rfl, by go_simp, by go_simp, (by repeat (first | exact Fr.refl _ _ | assumption | refine Fr.alloc ?_ _ | refine Fr.drew ?_ | refine Fr.setCell ?_ _ _ (Or.inl rfl) | refine Fr.trans ?_ (by assumption)))⟩
      · have d2 : (d == 0) = false := by simp [e2]
        have d3 : decide ((40 : Int) < s.length) = true := by simp; omega
        clear h1
        go_enter Tryz.func47, Tryz.ntmps47
        go_wp2_with fail
        go_ret
        rw [HR.out]
        exact ⟨rfl, by go_simp, by go_simp, (by repeat (first | exact Fr.refl _ _ | assumption | refine Fr.alloc ?_ _ | refine Fr.drew ?_ | refine Fr.setCell ?_ _ _ (Or.inl rfl) | refine Fr.trans ?_ (by assumption)))⟩
  · have hr : (Nd.mk k n s l).small d m = rowSmall l (d - 1) (m - 1) := by simp only [Nd.small]; rw [if_neg h1]
    have HR := Lib.hid hr; clear hr
    have IH := Lib.hid ih; clear ih
    have d1 : decide (m - 1 < 0) = false := by simp; omega
    have d2 : (d == 0) = false := by simp; omega
    have d3 : decide ((40 : Int) < s.length) = false := by simp; omega
    have hm2 : 1 ≤ m := by omega
    have hd2 : 1 ≤ d := by omega
    clear h1
    go_enter Tryz.func47, Tryz.ntmps47
    go_wp2_with fail
    go_loopw [31] (fun i wr => ∃ (j : Nat) (mj : Int), j ≤ l.length ∧ i = .int .i64 j ∧ 0 ≤ mj ∧ mj ≤ 1000 ∧ Hid (rowSmall l (d - 1) (m - 1) = rowSmall (l.drop j) (d - 1) mj) ∧
     wr.cell? ⟨pb, po, none⟩ = some (.int .i64 mj) ∧ wr.frozen? ⟨pb, po, none⟩ = false ∧ Fr (· = pb) w wr) (fun i _ => l.length - (intOf i).toNat)
    case atStart => exact ⟨0, m - 1, Nat.zero_le _, rfl, by omega, by omega, Lib.hid rfl, by go_simp, by go_simp, (by repeat (first | exact Fr.refl _ _ | assumption | refine Fr.alloc ?_ _ | refine Fr.drew ?_ | refine Fr.setCell ?_ _ _ (Or.inl rfl) | refine Fr.trans ?_ (by assumption)))⟩
    case round =>
     obtain ⟨j, mj, hj, rfl, hmj0, hmj1, HJ, hcj, hfj, hfr⟩ := hrel; clear hc hf d1 d2 d3; have hpb' : pb < wr.heap.size := cell_lt hcj
     by_cases hlt : j < l.length
     · have hg : l[j]? = some l[j] := List.getElem?_eq_getElem hlt
       have hmem : l[j] ∈ l := List.getElem_mem hlt; have hwf := rowWf_get hrw _ hmem; have hsz := size_mem hmem; have hdrop := List.drop_eq_getElem_cons hlt
       generalize l[j] = t at *
       obtain ⟨b, o, a', c', rfl, hSb, g0, g1, g2, g3, hsk⟩ := rowSits_get (hs.fr hfr (fun b hb e => hS (e ▸ hb))) hg; obtain ⟨k', n', s', l'⟩ := t; simp only [Nd.kind, Nd.num, Nd.name, Nd.kids, Nd.sits, Nd.size] at g0 g1 g2 g3 hsk hsz
       have HG := Lib.hid hg; clear hg
       have HD := Lib.hid hdrop; clear hdrop
       go_wp2_with fail
       refine (IH.out k' n' (d - 1) mj s' l' a' c' pb po S _ (by omega) hwf (hsk.ext ((Ext.refl _).alloc _)) hS (by go_simp) (by go_simp) hmj0 hmj1 (by omega) (by omega)).mono ?_; rintro e w1 ⟨rfl, hc1, hf1, hfr1⟩; have hle := small_le (Nd.mk k' n' s' l') (d - 1) mj hmj0
       have hro : rowSmall (Nd.mk k' n' s' l' :: l.drop (j + 1)) (d - 1) mj = if ((Nd.mk k' n' s' l').small (d - 1) mj).1 then rowSmall (l.drop (j + 1)) (d - 1) ((Nd.mk k' n' s' l').small (d - 1) mj).2 else (false, ((Nd.mk k' n' s' l').small (d - 1) mj).2) := rfl
       rw [← HD.out, ← HJ.out] at hro
       generalize (Nd.mk k' n' s' l').small (d - 1) mj = bm at *
       obtain ⟨bb, mm⟩ := bm; clear hcj hfj g0 g1 g2 g3; simp only at hc1 hle hro
       have HRO := Lib.hid hro; clear hro
       cases bb
       · clear hle
         simp only
         go_wp2_with fail
         go_ret
         rw [HR.out, HRO.out]
         exact ⟨rfl, hc1, hf1, (by repeat (first | exact Fr.refl _ _ | assumption | refine Fr.alloc ?_ _ | refine Fr.drew ?_ | refine Fr.setCell ?_ _ _ (Or.inl rfl) | refine Fr.trans ?_ (by assumption)))⟩
       · obtain ⟨hle0, hle1⟩ := hle rfl
         simp only
         go_wp2_with fail
         go_roundw
         case rel => exact ⟨j + 1, mm, by omega, by go_num, hle0, by omega, HRO, hc1, hf1, (by repeat (first | exact Fr.refl _ _ | assumption | refine Fr.alloc ?_ _ | refine Fr.drew ?_ | refine Fr.setCell ?_ _ _ (Or.inl rfl) | refine Fr.trans ?_ (by assumption)))⟩
         case measure => simp [intOf]; omega
     · go_wp2_with fail
       go_ret
       have e1 : l.drop j = [] := List.drop_eq_nil_of_le (by omega); rw [HR.out, HJ.out, e1]
       exact ⟨rfl, hcj, hfj, hfr⟩
mutual
theorem small_size : ∀ (t : Nd) (d m : Int), 0 ≤ m → (t.small d m).1 = true → (t.size : Int) + (t.small d m).2 ≤ m
 | .mk _ _ s l, d, m, hm, h => by
  simp only [Nd.small, Nd.size] at h ⊢
  split at h
  · simp at h
  · rename_i hn
    rw [if_neg hn]; have := rowSmall_size l (d - 1) (m - 1) (by omega) h
    omega
theorem rowSmall_size : ∀ (l : List Nd) (d m : Int), 0 ≤ m → (rowSmall l d m).1 = true → (rowSize l : Int) + (rowSmall l d m).2 ≤ m
 | [], _, m, _, _ => by simp [rowSmall, rowSize]
 | t :: r, d, m, hm, h => by
  simp only [rowSmall, rowSize] at h ⊢
  split at h
  · rename_i ht
    rw [if_pos ht]; have h0 := small_le t d m hm ht; have h1 := small_size t d m hm ht; have h2 := rowSmall_size r d (t.small d m).2 h0.1 h
    omega
  · simp at h
end
theorem Ext.frG {S : Nat → Prop} {a b c : World} (h : Ext a b) (k : Fr S b c) (hS : ∀ i, S i → a.heap.size ≤ i) : Ext a c :=
 ⟨k.os.trans (Below.os h), k.tape.trans (Below.tape h), k.output.trans (Below.output h), Nat.le_trans h.size k.size, fun i hi => (k.block i (Nat.lt_of_lt_of_le hi h.size) (fun e => by have := hS i e; omega)).trans (h.block hi)⟩
theorem great_c (t : Nd) (hwf : t.wf) (S : Nat → Prop) (a : Option Addr) (c : Nat) (w : World) (hs : t.sits S w a) :
 Calls Tryz.prog 22 #[t.val a c] w fun e w' => e = .returned (.bool (!(t.small 24 200).1)) ∧ Ext w w' := by
 obtain ⟨k, n, s, l⟩ := t; simp only [Nd.kind, Nd.num, Nd.name, Nd.kids, Nd.val]; have hs' := sits_lt _ _ hs; simp only [Nd.sits] at hs'
 go_enter Tryz.func22, Tryz.ntmps22
 go_wp2_with fail
 refine (small_c (rowSize l + 1) k n 24 200 s l a c (w.heap.size + 1) 0 (· < w.heap.size) _ (by omega) hwf (hs'.ext (by say "0:B"; repeat (first | (say "0:(EXC0"; exact Ext.refl _; say "0:)EXC0") | (say "0:(EXC1"; assumption; say "0:)EXC1") | (say "0:(EXC2"; refine Ext.alloc ?_ _; say "0:)EXC2") | (say "0:(EXC3"; refine Ext.drew ?_; say "0:)EXC3") | (say "0:(EXC4"; refine Ext.trans ?_ (by assumption); say "0:)EXC4")))) (by omega) (by go_simp) (by go_simp) (by omega) (by omega) (by omega) (by omega)).mono ?_; rintro e w1 ⟨rfl, -, -, hf1⟩; simp only
 go_wp2_with fail
 go_ret
 exact ⟨rfl, Ext.frG (a := w) (by say "1:B"; repeat (first | (say "1:(EXC0"; exact Ext.refl _; say "1:)EXC0") | (say "1:(EXC1"; assumption; say "1:)EXC1") | (say "1:(EXC2"; refine Ext.alloc ?_ _; say "1:)EXC2") | (say "1:(EXC3"; refine Ext.drew ?_; say "1:)EXC3") | (say "1:(EXC4"; refine Ext.trans ?_ (by assumption); say "1:)EXC4"))) hf1 (by rintro k rfl; omega)⟩
end Bk
