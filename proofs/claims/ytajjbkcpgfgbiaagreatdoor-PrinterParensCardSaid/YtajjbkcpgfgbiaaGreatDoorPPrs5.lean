/- Texts that the proofs of PrinterParens need. No condition. (Part 5 of 5.) -/
import Derived.Test.YtajjbkcpgfgbiaaGreatDoorPPrs4
set_option linter.unusedSimpArgs false
set_option linter.unusedVariables false
namespace Bk
open Go Go.RowKit Go.Proofs
attribute [local irreducible] Go.Calls
section
variable {P : Program} {n : Nat} {ops : Array Oper} {Q : Exit → Act → World → Prop} {rest : List Oper} {l : Sl} {w : World} {tab : Tab} {ty : TypeId} {pos : String} {after : Array Edge}
theorem lw_mapput {x y z : Operand} {t kt e sz1 sz2 r : Nat} {k : List UInt8} {v : Value} {kvs : List (List UInt8 × Value)} (T : TabOk P tab) (ht : lookT tab t = some (.map kt e, sz1)) (hkt : lookT tab kt = some (.str, sz2)) (hx : ev l x = some (.map (some r))) (hy : ev l y = some (str k)) (hz : ev l z = some v) (hm : MapIs w r kvs)
 (kk : ∀ w1, MapIs w1 r (setS kvs k v) → Fr (· = r) w w1 → LW P n ops Q rest l w1) : LW P n ops Q (⟨none, .mapUpdate t x y z, ty, pos, after, none⟩ :: rest) l w := by
 refine lw_does0 (K := MapPut w r (setS kvs k v)) ?_ (fun v w1 h => by cases v with | none => exact kk w1 h.1 h.2.1 | some _ => exact h.elim)
 unfold Does
 intro a dst pos after g next Q ha _ hn; obtain ⟨w1, h1, h2, h3, h4⟩ := run_mapUpdate (P := P) (k := k) (v := v) T ht hkt hm
 have e1 : (execOp a.eval ⟨dst, .mapUpdate t x y z, ty, pos, after, g⟩).run P w = .ok .skip w1 := by
  simp only [execOp, ha.ev hx, ha.ev hy, ha.ev hz, Sem.run_bind, h1, Result.andThen, Sem.run_pure]
 unfold Oper.wp
 rw [e1]
 exact hn w1 ⟨h2, h3, h4⟩
theorem lw_makeMap {t d : Nat} (hd : Nat.blt d n = true) (k : ∀ r w1, r = w.heap.size → MapIs w1 r [] → Ext w w1 → w1.heap.size = r + 1 → LW P n ops Q rest ((d, .map (some r)) :: l) w1) : LW P n ops Q (⟨some d, .makeMap t none, ty, pos, after, none⟩ :: rest) l w :=
 lw_does does_makeMap hd (fun v w1 ⟨r, h1, h2, h3, h4, h5⟩ => by subst h1; exact k r w1 h2 h3 h4 h5) (fun _ h => h)
end
def u8Shape : Shape Int where
 sz := 1
 rep := fun _ _ v cs => cs = [.int .u8 v]
 len := fun h => by rw [h]; rfl
 one := fun h => by rw [h]; rfl
 mono := fun h _ _ => h
 lt := fun h => h
def ops8 (j : Nat) : List Int := (List.range j).map fun (i : Nat) => (8 : Int) + (i : Int)
theorem ops8_snoc (j : Nat) : ops8 (j + 1) = ops8 j ++ [8 + (j : Int)] := by simp [ops8, List.range_succ]
theorem ops8_len (j : Nat) : (ops8 j).length = j := by simp [ops8]
def OpsR (w : World) : Ending → World → Prop := fun e w' => ∃ b k, e = .returned (.slice (some ⟨b, 0, none⟩) 16 k) ∧ w.heap.size ≤ b ∧ b < w'.heap.size ∧ Row w' ⟨b, 0, none⟩ ((ops8 16).map (.int .u8 ·)) ∧ Ext w w'
theorem OpsR.ret {w : World} {e : Ending} {w' : World} (h : OpsR w e w') : ∃ v, e = .returned v := by
 obtain ⟨_, _, h, -⟩ := h
 exact ⟨_, h⟩
set_option maxRecDepth 100000 in
set_option maxHeartbeats 2000000 in
theorem Operators_c (w : World) : Calls Tryz.prog 58 #[] w (OpsR w) := by
 have X := Ext.refl w; refine calls_in (args := []) Tryz.func58 Tryz.ntmps58 rfl rfl ?_
 focus
  refine cS (cA rfl rfl (cN (cA rfl rfl (cT (cw_seq (cS (cA rfl rfl (cT (cw_block ?_))))))))); rotate_left 1
 refine cw_loop (ι := Nat × Option Addr × Nat) (fun x => [(1, .slice x.2.1 (ops8 x.1).length x.2.2), (2, .int .u8 (8 + (x.1 : Int)))])
  (fun x w' => OwnL u8Shape w' w.heap.size 5 (.slice x.2.1 (ops8 x.1).length x.2.2) (ops8 x.1) ∧ Ext w w' ∧ x.1 ≤ 16) (fun x => 16 - x.1) (0, none, 0) (by (refine sub_cons rfl ?_; refine sub_cons rfl ?_; exact sub_nil)) ⟨OwnL.nil, X, Nat.zero_le _⟩ ?_
 rintro ⟨j, a, cap⟩ w1 ⟨hown, X, hj⟩; simp only at hown hj; have hsz := X.size; have hl := ops8_len j; refine CW.sub (m := [(1, .slice a (ops8 j).length cap), (2, .int .u8 (8 + (j : Int)))]) ?_ (by (refine sub_cons rfl ?_; refine sub_cons rfl ?_; exact sub_nil))
 by_cases hlt : j < 16
 · have hsn := ops8_snoc j
   focus
    refine cw_seq (cS (cM rfl rfl (lw_pure (pur_leq rfl rfl) rfl (cT ?_)))); refine cw_yes rfl (by omega) ?_; refine cw_skip (qw_then (cw_seq (cw_block (cw_region (cM rfl rfl (cM rfl rfl ?_)))))); (refine lw_does (does_slice' [_] tabOk zOk rfl rfl rfl rfl rfl rfl rfl rfl rfl) rfl ?_ (fun _ h => h); rintro _ wa2 ⟨ba1, rfl, na3, ta4⟩); clear ta4; have ha5 := na3.blk; have xa6 := na3.ext; have pa7 := na3.pos; have za8 := na3.size; clear na3; replace hown := hown.ext xa6; replace X := X.ext xa6; clear xa6; refine lw_appendL (sh := u8Shape) (z := 8 + (j : Int)) tabOk zOk rfl rfl rfl rfl (by kernel_rfl) rfl rfl rfl hown (Blk.row (by assumption)) rfl (by omega) (by omega) rfl ?_; rintro ga9 cap'a10 wa11 ha12 fa13; have za14 := fa13.size; clear ha5 hown; replace X := X.fr fa13 (by omega); clear fa13; refine cA rfl rfl (lw_nil (qw_block_norm (qw_then (cw_region (cM rfl rfl ?_))))); refine lw_pure (pur_add rfl rfl (u8_wrap _ (by omega) (by omega))) rfl ?_; refine cA rfl rfl (lw_nil ?_); rotate_left 1
   refine qw_round (j + 1, some ⟨_, 0, none⟩, _) ?_ ⟨by rw [hsn]; assumption, X, by simp only; omega⟩ (by simp only; omega); refine sub_cons' rfl (by rw [hsn]) (sub_cons' rfl ?_ sub_nil)
   simp only [Value.int.injEq, true_and]; omega
 · have : j = 16 := by omega
   subst this
   focus
    refine cw_seq (cS (cM rfl rfl (lw_pure (pur_leq rfl rfl) rfl (cT ?_)))); refine cw_no rfl (by decide) ?_; refine cw_exit (qw_then_exit (qw_then_exit (qw_block_exit (qw_then (cS (cM rfl rfl (cA rfl rfl (cT (cw_ret (qw_ret1 rfl rfl ?_)))))))))); rotate_left 1
   obtain ⟨g, cap', hv, hg, hall⟩ := hown.rows (by decide); simp only [Value.slice.injEq] at hv; obtain ⟨rfl, -, -⟩ := hv
   have hrow : Row w1 ⟨g, 0, none⟩ ((ops8 16).map (.int .u8 ·)) := fun i v hi => by
    rw [List.getElem?_map, Option.map_eq_some_iff] at hi; obtain ⟨x, hx, rfl⟩ := hi; obtain ⟨cs, hr, rfl⟩ := hall i x hx; have := hr.at0 rfl
    have e : (⟨g, 0, none⟩ : Addr).add i = ⟨g, i * u8Shape.sz, none⟩ := by
     have : u8Shape.sz = 1 := rfl
     unfold Addr.add; by_cases h0 : i = 0 <;> simp [h0, this]
    rw [e]; exact this
   exact ⟨g, cap, by rw [ops8_len], hg, hown.lt rfl, hrow, X⟩
set_option maxRecDepth 100000 in
set_option maxHeartbeats 1000000 in
theorem finish_c (c : PC) (σ : PS) (w : World) (hP : PP c σ w) :
 Calls Tryz.prog 33 #[.pointer (some ⟨c.pb, 0, none⟩)] w fun r w' => r = .returned (.tuple #[]) ∧ PP c (finishP c.ts c.n σ) w' ∧ Fr (· = c.pb) w w' := by
 have X := Fr.refl (· = c.pb) w; have hpb := hP.pbB; have hB := hP.B
 by_cases h : σ.at_ < c.ts.length
 · rw [show finishP c.ts c.n σ = unexpP c.ts c.n σ from by simp [finishP, h]]
   refine calls_in Tryz.func33 Tryz.ntmps33 rfl rfl ?_
   focus
    refine cw_seq ?_; (refine cw_tdraw (fun wz => Ext w wz) 9 (.pure 0 (.pure 1 (.pure 2 (.pure 3 (.pure 4 (.pure 5 (.pure 6 (.pure 7 (.pure 8 .tail))))))))) mixed (by kernel_rfl) (panicOk_then panicOk_body) ?_; intro w1 x2 _); have qs3 : (fun wz => Ext w wz) w1 := x2; simp only at qs3; have d_hP := hP; have z4 := x2.size; replace hP := hP.ext x2; replace X := X.ext x2; clear x2; refine ⟨qs3, ?_⟩; refine tw_pure rfl (pur_move rfl) rfl (tw_pure rfl (pur_nilCheck rfl) rfl (tw_pure rfl (pur_fieldAddr tabOk rfl rfl rfl) rfl (tw_pure rfl (pur_load tabOk rfl rfl rfl (fun wz hz => Blk.cell (Blk.ext (PP.blk d_hP) hz) rfl)) rfl (tw_pure rfl (pur_move rfl) rfl (tw_pure rfl (pur_nilCheck rfl) rfl (tw_pure rfl (pur_fieldAddr0 tabOk rfl rfl rfl) rfl (tw_pure rfl (pur_load tabOk rfl rfl rfl (fun wz hz => Blk.cell (Blk.ext (PP.blk d_hP) hz) rfl)) rfl (tw_pure rfl (pur_len_slice tabOk rfl rfl) rfl ?_)))))))); clear qs3 d_hP; refine tw_tail rfl (lw_pure (pur_lss rfl rfl) rfl (cT ?_)); refine cw_yes rfl (by omega) ?_; refine cw_region (cM rfl rfl ?_); refine cC (by kernel_rfl) rfl (unexpected_c _ _ _ (by assumption)) rfl ?_; rintro _ w7 ⟨⟨⟩, ⟨h5, f6⟩⟩; have z8 := f6.size; clear hP; replace X := X.fr f6 (by omega); clear f6; refine lw_nil (qw_end0 rfl ?_); rotate_left 1
   exact ⟨rfl, by assumption, X⟩
 · rw [show finishP c.ts c.n σ = σ from by simp [finishP, h]]
   refine calls_in Tryz.func33 Tryz.ntmps33 rfl rfl ?_
   focus
    refine cw_seq ?_; (refine cw_tdraw (fun wz => Ext w wz) 9 (.pure 0 (.pure 1 (.pure 2 (.pure 3 (.pure 4 (.pure 5 (.pure 6 (.pure 7 (.pure 8 .tail))))))))) mixed (by kernel_rfl) (panicOk_then panicOk_body) ?_; intro wa1 xa2 _); have qsa3 : (fun wz => Ext w wz) wa1 := xa2; simp only at qsa3; have d_hP := hP; have za4 := xa2.size; replace hP := hP.ext xa2; replace X := X.ext xa2; clear xa2; refine ⟨qsa3, ?_⟩; refine tw_pure rfl (pur_move rfl) rfl (tw_pure rfl (pur_nilCheck rfl) rfl (tw_pure rfl (pur_fieldAddr tabOk rfl rfl rfl) rfl (tw_pure rfl (pur_load tabOk rfl rfl rfl (fun wz hz => Blk.cell (Blk.ext (PP.blk d_hP) hz) rfl)) rfl (tw_pure rfl (pur_move rfl) rfl (tw_pure rfl (pur_nilCheck rfl) rfl (tw_pure rfl (pur_fieldAddr0 tabOk rfl rfl rfl) rfl (tw_pure rfl (pur_load tabOk rfl rfl rfl (fun wz hz => Blk.cell (Blk.ext (PP.blk d_hP) hz) rfl)) rfl (tw_pure rfl (pur_len_slice tabOk rfl rfl) rfl ?_)))))))); clear qsa3 d_hP; refine tw_tail rfl (lw_pure (pur_lss rfl rfl) rfl (cT ?_)); refine cw_no rfl (by omega) ?_; refine cw_skip (qw_end0 rfl ?_); rotate_left 1
   exact ⟨rfl, by assumption, X⟩
def wholeT (t : Nd) (σ : PS) : Nd × Int × Int := if σ.err ≠ 0 then (zeroNd, σ.off, σ.err) else (t, 0, 0)
def WholeR (w : World) (pb : Nat) (S : Nat → Prop) (r : Nd × Int × Int) : Ending → World → Prop := fun e w' => ∃ a k, e = .returned (.tuple #[r.1.val a k, .int .i64 r.2.1, .int .i64 r.2.2]) ∧ r.1.sits S w' a ∧ Fr (· = pb) w w'
theorem WholeR.ret {w : World} {pb : Nat} {S : Nat → Prop} {r : Nd × Int × Int} {e : Ending} {w' : World} (h : WholeR w pb S r e w') : ∃ v, e = .returned v := by
 obtain ⟨_, _, h, -⟩ := h
 exact ⟨_, h⟩
set_option maxRecDepth 100000 in
set_option maxHeartbeats 1000000 in
theorem whole_c (c : PC) (σ : PS) (t : Nd) (S : Nat → Prop) (a : Option Addr) (k : Nat) (w : World) (hP : PP c σ w) (hz : t.size ≤ 1000000000) (hs : t.sits S w a) (hS : ∀ b, S b → b ≠ c.pb ∧ b < w.heap.size) :
 Calls Tryz.prog 34 #[.pointer (some ⟨c.pb, 0, none⟩), t.val a k] w (WholeR w c.pb S (wholeT t (limitP t 0 σ))) := by
 have X := Fr.refl (· = c.pb) w; have hpb := hP.pbB; have hB := hP.B
 by_cases h : (limitP t 0 σ).err = 0
 · rw [show wholeT t (limitP t 0 σ) = (t, 0, 0) from by simp [wholeT, h]]
   refine calls_in Tryz.func34 Tryz.ntmps34 rfl rfl ?_
   focus
    refine cS ?_; (refine lw_box' [_, _, _, _] rfl rfl rfl ?_; intro b1 w2 n3); have h4 := n3.blk; have x5 := n3.ext; have p6 := n3.pos; have z7 := n3.size; clear n3; replace hP := hP.ext x5; replace hs := Nd.sits.ext hs x5; replace X := X.ext x5; clear x5; (refine lw_alloc' [_, _, _, _] zOk rfl rfl ?_; intro b8 w9 n10); have h12 := n10.blk; have x13 := n10.ext; have p14 := n10.pos; have z15 := n10.size; clear n10; replace h4 := h4.ext x13; replace hP := hP.ext x13; replace hs := Nd.sits.ext hs x13; replace X := X.ext x13; clear x13; refine cA rfl rfl (cA rfl rfl (cN (cM rfl rfl (lw_loads_b' [_, _, _, _] tabOk rfl rfl rfl h4 rfl rfl rfl ?_)))); refine cC (by kernel_rfl) rfl (limit_c _ _ _ _ _ _ _ _ (by assumption) (by omega) (by assumption)) rfl ?_; rintro _ w18 ⟨⟨⟩, ⟨h16, f17⟩⟩; have z19 := f17.size; replace h12 := h12.fr f17 (by omega); replace h4 := h4.fr f17 (by omega); clear hP; replace hs := Nd.sits.fr hs f17 (fun k hk e => by have := hS k hk; omega); replace X := X.fr f17 (by omega); clear f17; refine cT (cw_seq (cS (cM rfl rfl (lw_pure (pur_nilCheck rfl) rfl (lw_pure (pur_fieldAddr tabOk rfl rfl rfl) rfl (lw_load_b tabOk rfl rfl rfl (PP.blk h16) rfl rfl (lw_pure (pur_neq rfl rfl) rfl (cT ?_)))))))); refine cw_no rfl (by omega) ?_; refine cw_skip (qw_then (cS (lw_loads_b' [_, _, _, _] tabOk rfl rfl rfl h4 rfl rfl rfl ?_))); (refine lw_store' [_, _, _, _] [_, _, _, _] tabOk rfl rfl rfl rfl rfl rfl h12 rfl rfl ?_; intro w20 n21); have h24 := n21.blk; have f22 := n21.fr; have z23 := n21.size
    clear n21 h12; replace h16 := h16.fr f22 (by omega); replace h4 := h4.fr f22 (by omega); replace hs := Nd.sits.fr hs f22 (fun k hk e => by have := hS k hk; omega); replace X := X.fr f22 (by omega); clear f22; refine cA rfl rfl (cA rfl rfl (cT (cw_ret (qw_retc3 rfl tabOk rfl rfl rfl h24 rfl rfl rfl ?_)))); rotate_left 1
   exact ⟨_, _, rfl, by assumption, X⟩
 · rw [show wholeT t (limitP t 0 σ) = (zeroNd, (limitP t 0 σ).off, (limitP t 0 σ).err) from by simp [wholeT, h]]
   refine calls_in Tryz.func34 Tryz.ntmps34 rfl rfl ?_
   focus
    refine cS ?_; (refine lw_box' [_, _, _, _] rfl rfl rfl ?_; intro ba1 wa2 na3); have ha4 := na3.blk; have xa5 := na3.ext; have pa6 := na3.pos; have za7 := na3.size; clear na3; replace hP := hP.ext xa5; replace hs := Nd.sits.ext hs xa5; replace X := X.ext xa5; clear xa5; (refine lw_alloc' [_, _, _, _] zOk rfl rfl ?_; intro ba8 wa9 na10); have ha12 := na10.blk; have xa13 := na10.ext; have pa14 := na10.pos; have za15 := na10.size; clear na10; replace ha4 := ha4.ext xa13; replace hP := hP.ext xa13; replace hs := Nd.sits.ext hs xa13; replace X := X.ext xa13; clear xa13; refine cA rfl rfl (cA rfl rfl (cN (cM rfl rfl (lw_loads_b' [_, _, _, _] tabOk rfl rfl rfl ha4 rfl rfl rfl ?_)))); refine cC (by kernel_rfl) rfl (limit_c _ _ _ _ _ _ _ _ (by assumption) (by omega) (by assumption)) rfl ?_; rintro _ wa18 ⟨⟨⟩, ⟨ha16, fa17⟩⟩; have za19 := fa17.size; replace ha12 := ha12.fr fa17 (by omega); replace ha4 := ha4.fr fa17 (by omega); clear hP; replace hs := Nd.sits.fr hs fa17 (fun k hk e => by have := hS k hk; omega); replace X := X.fr fa17 (by omega); clear fa17; refine cT (cw_seq (cS (cM rfl rfl (lw_pure (pur_nilCheck rfl) rfl (lw_pure (pur_fieldAddr tabOk rfl rfl rfl) rfl (lw_load_b tabOk rfl rfl rfl (PP.blk ha16) rfl rfl (lw_pure (pur_neq rfl rfl) rfl (cT ?_)))))))); refine cw_yes rfl (by assumption) ?_; refine cw_seq ?_; (refine cw_tdraw (fun wz => Fr (fun x => x = ba8) wa18 wz) 11 (.pure 0 (.pure 1 (.pure 2 (.pure 3 (.pure 4 (.pure 5 (.pure 6 (.pure 7 (.pure 8 (.fork 9 (.pure 10 .tail) .none)))))))))) mixed (by kernel_rfl) (panicOk_then (panicOk_then panicOk_body)) ?_; intro wa20 xa21 _)
    have qsa22 : (fun wz => Fr (fun x => x = ba8) wa18 wz) wa20 := Fr.of_ext xa21; simp only at qsa22; have d_ha16 := ha16; have d_ha12 := ha12; have d_ha4 := ha4; have d_hs := hs; have za23 := xa21.size; replace ha16 := ha16.ext xa21; replace ha12 := ha12.ext xa21; replace ha4 := ha4.ext xa21; replace hs := Nd.sits.ext hs xa21; replace X := X.ext xa21; clear xa21; refine ⟨qsa22, ?_⟩; refine tw_pure rfl (pur_build' [_, _, _, _] tabOk zOk rfl rfl rfl rfl) rfl (tw_pure rfl (pur_move rfl) rfl (tw_pure rfl (pur_nilCheck rfl) rfl (tw_pure rfl (pur_fieldAddr tabOk rfl rfl rfl) rfl ?_))); refine tw_pure rfl (pur_load tabOk rfl rfl rfl (fun wz hz => Blk.cell (Blk.fr (PP.blk d_ha16) hz (by omega)) rfl)) rfl ?_; refine tw_pure rfl (pur_move rfl) rfl (tw_pure rfl (pur_nilCheck rfl) rfl (tw_pure rfl (pur_fieldAddr tabOk rfl rfl rfl) rfl ?_)); refine tw_pure rfl (pur_load tabOk rfl rfl rfl (fun wz hz => Blk.cell (Blk.fr (PP.blk d_ha16) hz (by omega)) rfl)) rfl ?_; (refine tw_store [_, _, _, _] [_, _, _, _] rfl tabOk rfl rfl rfl rfl rfl rfl ha12 rfl rfl ?_ tw_none; intro wa24 na25); have ha28 := na25.blk; have fa26 := na25.fr; have za27 := na25.size; clear na25 ha12; replace qsa22 := qsa22.fr fa26 (by omega); replace ha16 := ha16.fr fa26 (by omega); replace ha4 := ha4.fr fa26 (by omega); replace hs := Nd.sits.fr hs fa26 (fun k hk e => by have := hS k hk; omega); replace X := X.fr fa26 (by omega); clear fa26; refine ⟨qsa22, ?_⟩; refine tw_pure rfl (pur_assign rfl) rfl ?_; clear d_ha16 d_ha12 d_ha4 d_hs qsa22
    refine tw_tail rfl (cA rfl rfl (cT (cw_ret (qw_then_ret (qw_retc3 rfl tabOk rfl rfl rfl ha28 rfl rfl rfl ?_))))); rotate_left 1
   exact ⟨_, _, rfl, sits_nil, X⟩
end Bk
namespace Bk
open Go Go.RowKit Go.Proofs
attribute [local irreducible] Go.Calls
theorem setS_bin (j : Nat) (h : j < 16) : setS (binMap.take j) (symbol (8 + (j : Int))) (.int .u8 (8 + (j : Int))) = binMap.take (j + 1) := by
 have : j = 0 ∨ j = 1 ∨ j = 2 ∨ j = 3 ∨ j = 4 ∨ j = 5 ∨ j = 6 ∨ j = 7 ∨ j = 8 ∨ j = 9 ∨ j = 10 ∨ j = 11 ∨ j = 12 ∨ j = 13 ∨ j = 14 ∨ j = 15 := by omega
 rcases this with rfl | rfl | rfl | rfl | rfl | rfl | rfl | rfl | rfl | rfl | rfl | rfl | rfl | rfl | rfl | rfl <;> rfl
def StartR (s : List UInt8) (w : World) : Ending → World → Prop := fun e w' => ∃ c : PC, e = .returned (.pointer (some ⟨c.pb, 0, none⟩)) ∧ (c.ts = (startP s).1 ∧ c.n = s.length ∧ w.heap.size ≤ c.pb) ∧ PP c (startP s).2 w' ∧ Ext w w' ∧ c.B ≤ w'.heap.size
theorem StartR.ret {s : List UInt8} {w : World} {e : Ending} {w' : World} (h : StartR s w e w') : ∃ v, e = .returned v := by
 obtain ⟨_, h, -⟩ := h
 exact ⟨_, h⟩
theorem Syms.lt {w : World} (h : Syms w) : 0 < w.heap.size := cell_lt (h.sym 0 (by omega))
theorem Errs.lt {w : World} (h : Errs w) : 4 < w.heap.size := by
 obtain ⟨te, pe, h⟩ := h.ex
 exact cell_lt h
set_option maxRecDepth 100000 in
set_option maxHeartbeats 4000000 in
theorem start_c (s : List UInt8) (w : World) (hs : s.length ≤ 1000000) (hS : Syms w) (hE : Errs w) : Calls Tryz.prog 31 #[str s] w (StartR s w) := by
 have X := Ext.refl w; have hg1 := hS.lt; have hg2 := hE.lt; have hl1 := lexT_len s; refine calls_in Tryz.func31 Tryz.ntmps31 rfl rfl ?_
 focus
  refine cS (cA rfl rfl (cN (cM rfl rfl ?_))); refine cR (by kernel_rfl) rfl (Lex_c _ _ (by omega)) (fun _ _ h => h.ret) rfl ?_; rintro _ w5 ⟨a1, ⟨k2, ⟨⟨⟩, ⟨h3, x4⟩⟩⟩⟩; have z6 := x4.size; replace hS := hS.ext x4; replace hE := hE.ext x4; replace X := X.ext x4; clear x4; refine cM rfl rfl (lw_pure (pur_extract rfl rfl) rfl (lw_pure (pur_extract rfl rfl) rfl (lw_pure (pur_extract rfl rfl) rfl (cA rfl rfl (cA rfl rfl (cA rfl rfl (cN (cM rfl rfl ?_)))))))); refine cR (by kernel_rfl) rfl (Solid_c _ _ _ _ _ (by omega) (by assumption) (by intro b h; exact h.2)) (fun _ _ h => h.ret) rfl ?_; rintro _ w11 ⟨a7, ⟨k8, ⟨⟨⟩, ⟨h9, x10⟩⟩⟩⟩; have z12 := x10.size; replace h3 := h3.ext x10; replace hS := hS.ext x10; replace hE := hE.ext x10; replace X := X.ext x10; clear x10; refine cM rfl rfl (lw_pure (pur_len_s tabOk rfl rfl) rfl (lw_makeMap rfl ?_)); rintro r13 w14 rfl h15 x16 h17; have z18 := x16.size; replace h9 := h9.ext x16; replace h3 := h3.ext x16; replace hS := hS.ext x16; replace hE := hE.ext x16; replace X := X.ext x16; clear x16; refine cM rfl rfl (cM rfl rfl (lw_pure (pur_build' [_, _, _, _, _, _] tabOk zOk rfl rfl rfl rfl) rfl ?_)); (refine lw_box' [_, _, _, _, _, _] rfl rfl rfl ?_; intro b19 w20 n21); have h22 := n21.blk; have x23 := n21.ext; have p24 := n21.pos; have z25 := n21.size; clear n21; replace h15 := h15.ext x23; replace h9 := h9.ext x23; replace h3 := h3.ext x23; replace hS := hS.ext x23; replace hE := hE.ext x23; replace X := X.ext x23; clear x23; refine cA rfl rfl (cT (cw_seq (cS ?_)))
  refine cR (by kernel_rfl) rfl (Operators_c _) (fun _ _ h => h.ret) rfl ?_; rintro _ w32 ⟨b26, ⟨k27, ⟨⟨⟩, ⟨h28, ⟨h29, ⟨h30, x31⟩⟩⟩⟩⟩⟩; have z33 := x31.size; replace h22 := h22.ext x31; replace h15 := h15.ext x31; replace h9 := h9.ext x31; replace h3 := h3.ext x31; replace hS := hS.ext x31; replace hE := hE.ext x31; replace X := X.ext x31; clear x31; refine lw_pure (pur_len_slice tabOk rfl rfl) rfl (cM rfl rfl (cT (cw_block ?_))); rotate_left 1
 generalize hr : w11.heap.size = r at *
 refine cw_loop (ι := Nat) (fun j => [(6, .pointer (some ⟨b19, 0, none⟩)), (24, .slice (some ⟨b26, 0, none⟩) 16 k27), (25, .int .i64 16), (26, .int .i64 j)])
  (fun j w' => j ≤ 16 ∧ MapIs w' r (binMap.take j) ∧ Row w' ⟨b26, 0, none⟩ ((ops8 16).map (.int .u8 ·)) ∧ Blk w' b19 [.slice a7 (solidT (lexT s).1).length k8, .int .i64 0, .int .i64 s.length, .map (some r), .int .i64 (lexT s).2.1, .int .i64 (lexT s).2.2] ∧
   Toks (fun b => w5.heap.size ≤ b ∧ b < r) w' (solidT (lexT s).1) a7 ∧ Syms w' ∧ Errs w' ∧ Ext w w' ∧ w32.heap.size ≤ w'.heap.size) (fun j => 16 - j) 0 (by (refine sub_cons rfl ?_; refine sub_cons rfl ?_; refine sub_cons rfl ?_; refine sub_cons rfl ?_; exact sub_nil)) ⟨Nat.zero_le _, h15, h30, h22, h9, hS, hE, X, Nat.le_refl _⟩ ?_
 rintro j w1 ⟨hj, hM, hrow, hb, hT, hS, hE, X, hz⟩; clear h15 h30 h22 h9 h3
 by_cases hlt : j < 16
 · have hr1 : Row w1 ⟨b26, 0 + j * 1, none⟩ [.int .u8 (8 + (j : Int))] := by
    have h1 := hrow.sub j 1
    have e : (((ops8 16).map (.int .u8 ·)).drop j).take 1 = [Value.int .u8 (8 + (j : Int))] := by
     have : j = 0 ∨ j = 1 ∨ j = 2 ∨ j = 3 ∨ j = 4 ∨ j = 5 ∨ j = 6 ∨ j = 7 ∨ j = 8 ∨ j = 9 ∨ j = 10 ∨ j = 11 ∨ j = 12 ∨ j = 13 ∨ j = 14 ∨ j = 15 := by omega
     rcases this with rfl | rfl | rfl | rfl | rfl | rfl | rfl | rfl | rfl | rfl | rfl | rfl | rfl | rfl | rfl | rfl <;> rfl
    rw [e] at h1
    rw [Nat.mul_one]; exact h1
   have hset := setS_bin j hlt
   focus
    refine cS (lw_pure (pur_lss rfl rfl) rfl (cT (cw_seq ?_))); refine cw_yes rfl (by omega) ?_; refine cw_skip (qw_then (cw_seq (cw_block (cS ?_)))); refine lw_pure (pur_indexAddr tabOk rfl rfl rfl rfl (by omega) (by omega)) rfl ?_; refine lw_load_r0 tabOk rfl rfl rfl hr1 rfl rfl (cA rfl rfl (cT ?_)); (refine cw_tdraw (fun wz => Ext w1 wz) 7 (.pure 0 (.pure 1 (.pure 2 (.pure 3 (.pure 4 (.pure 6 (.fork 5 .tail .none))))))) mixed (by kernel_rfl) (panicOk_block (panicOk_then (panicOk_then (panicOk_block (panicOk_then panicOk_body))))) ?_; intro wa1 xa2 _); have qsa3 : (fun wz => Ext w1 wz) wa1 := xa2; simp only at qsa3; have d_hM := hM; have d_hrow := hrow; have d_hb := hb; have d_hT := hT; have d_hS := hS; have d_hE := hE; have d_hr1 := hr1; have za4 := xa2.size; replace hM := hM.ext xa2; replace hrow := hrow.ext xa2; replace hb := hb.ext xa2; replace hT := hT.ext xa2; replace hS := hS.ext xa2; replace hE := hE.ext xa2; replace X := X.ext xa2; replace hr1 := hr1.ext xa2; clear xa2; refine ⟨qsa3, ?_⟩; refine tw_pure rfl (pur_move rfl) rfl (tw_pure rfl (pur_nilCheck rfl) rfl (tw_pure rfl (pur_fieldAddr tabOk rfl rfl rfl) rfl (tw_pure rfl (pur_load tabOk rfl rfl rfl (fun wz hz => Blk.cell (Blk.ext d_hb hz) rfl)) rfl (tw_pure rfl (pur_move rfl) rfl (tw_pure rfl (pur_move rfl) rfl ?_))))); refine tw_does rfl (does_call (by kernel_rfl) rfl (arith_Symbol_s _ _ (by omega) (by omega) (by assumption)) (fun _ _ h => ⟨_, h.1⟩)) rfl ?_ (fun _ h => h) tw_none; rintro _ wa5 ⟨⟨⟩, rfl⟩; refine ⟨qsa3, ?_⟩
    clear qsa3 d_hM d_hrow d_hb d_hT d_hS d_hE d_hr1; refine tw_tail rfl (lw_mapput tabOk rfl rfl rfl rfl rfl hM ?_); rintro wa6 ha7 fa8; have za9 := fa8.size; clear hM; replace hrow := Row.fr hrow fa8 (by simp only; omega); replace hb := hb.fr fa8 (by omega); replace hT := hT.fr fa8 (by omega); replace hS := hS.fr fa8 (by omega); replace hE := hE.fr fa8 (by omega); replace X := X.fr fa8 (by omega); replace hr1 := Row.fr hr1 fa8 (by simp only; omega); clear fa8; refine lw_nil (qw_block_norm (qw_then (cw_region ?_))); refine lw_pure (pur_add rfl rfl (IntWalk.i64_in _ (by omega))) rfl ?_; refine cM rfl rfl (lw_nil ?_); rotate_left 1
   refine qw_round (j + 1) (by (refine sub_cons rfl ?_; refine sub_cons rfl ?_; refine sub_cons rfl ?_; refine sub_cons rfl ?_; exact sub_nil)) ⟨by omega, by rw [← hset]; assumption, hrow, hb, hT, hS, hE, X, by omega⟩ (by omega)
 · have : j = 16 := by omega
   subst this
   focus
    refine cS (lw_pure (pur_lss rfl rfl) rfl (cT (cw_seq ?_))); refine cw_no rfl (by decide) ?_; refine cw_exit (qw_then_exit (qw_then_exit (qw_block_exit (qw_then (cS (cM rfl rfl (cA rfl rfl (cT (cw_ret (qw_ret1 rfl rfl ?_)))))))))); rotate_left 1
   have hsz := X.size; refine ⟨⟨b19, w1.heap.size, solidT (lexT s).1, s.length, a7, k8, r⟩, rfl, ⟨rfl, rfl, by simp only; omega⟩, ?_, X, Nat.le_refl _⟩; refine ⟨hb, hT.wide (fun b h => ⟨by simp only; omega, by simp only; omega⟩), hM, by simp only; omega, by simp only; omega, by simp only; omega, Nat.le_refl _, Nat.zero_le _, ?_, fun t ht => ?_, fun t ht => (solid_ok s t ht).num, hE, by simp only; omega⟩
   · exact Nat.le_trans (start_len s) hs
   · exact Nat.le_trans (solid_ok s t ht).len hs
end Bk
namespace Bk
open Go Go.RowKit Go.Proofs
attribute [local irreducible] Go.Calls
theorem fuel_ok {c : PC} {s : List UInt8} (h : c.ts = (startP s).1) (σ : PS) : 4 * mS c.ts σ + 20 ≤ fuelP s := by
 have h1 := start_len s
 have h2 : mS c.ts σ ≤ c.ts.length := by unfold mS; split <;> omega
 rw [h] at h2
 unfold fuelP
 rw [h]
 omega
def ParseR (w : World) (r : Nd × Int × Int) : Ending → World → Prop := fun e w' => ∃ a k, e = .returned (.tuple #[r.1.val a k, .int .i64 r.2.1, .int .i64 r.2.2]) ∧ r.1.sits (w.heap.size ≤ ·) w' a ∧ Ext w w'
theorem ParseR.ret {w : World} {r : Nd × Int × Int} {e : Ending} {w' : World} (h : ParseR w r e w') : ∃ v, e = .returned v := by
 obtain ⟨_, _, h, -⟩ := h
 exact ⟨_, h⟩
def ParsePR (w : World) (r : PG × Int × Int) : Ending → World → Prop := fun e w' => ∃ va vc pa pc ma mc, e = .returned (.tuple #[.agg (r.1.cells va vc pa pc ma mc).toArray, .int .i64 r.2.1, .int .i64 r.2.2]) ∧ r.1.sits (w.heap.size ≤ ·) w' va pa ma ∧ Ext w w'
theorem ParsePR.ret {w : World} {r : PG × Int × Int} {e : Ending} {w' : World} (h : ParsePR w r e w') : ∃ v, e = .returned v := by
 obtain ⟨_, _, _, _, _, _, h, -⟩ := h
 exact ⟨_, h⟩
theorem PG.sits.wide {S S' : Nat → Prop} {w : World} {g : PG} {va pa ma : Option Addr} (h : g.sits S w va pa ma) (hs : ∀ b, S b → S' b) : g.sits S' w va pa ma := ⟨h.vars.wide hs, h.procs.wide hs, h.main.wide hs⟩
theorem parseExpr_whole (s : List UInt8) (c : PC) (h1 : c.ts = (startP s).1) (h2 : c.n = s.length) : parseExpr s = wholeT (exprP c.ts c.n (fuelP s) 1 (startP s).2).1 (limitP (exprP c.ts c.n (fuelP s) 1 (startP s).2).1 0 (finishP c.ts c.n (exprP c.ts c.n (fuelP s) 1 (startP s).2).2)) := by
 unfold parseExpr wholeT
 rw [h1, h2]
set_option maxRecDepth 100000 in
set_option maxHeartbeats 4000000 in
theorem Expr_p (s : List UInt8) (w : World) (hs : s.length ≤ 1000000) (hS : Syms w) (hE : Errs w) : Calls Tryz.prog 12 #[str s] w (ParseR w (parseExpr s)) := by
 have X := Ext.refl w; refine calls_in Tryz.func12 Tryz.ntmps12 rfl rfl ?_
 focus
  refine cS ?_; (refine lw_alloc' [_, _, _, _] zOk rfl rfl ?_; intro b1 w2 n3); have h5 := n3.blk; have x6 := n3.ext; have p7 := n3.pos; have z8 := n3.size; clear n3; replace hS := hS.ext x6; replace hE := hE.ext x6; replace X := X.ext x6; clear x6; refine cA rfl rfl (cA rfl rfl (cN (cM rfl rfl ?_))); refine cR (by kernel_rfl) rfl (start_c s _ hs (by assumption) (by assumption)) (fun _ _ h => h.ret) rfl ?_; rintro _ w16 ⟨c9, ⟨⟨⟩, ⟨⟨h10, ⟨h11, h12⟩⟩, ⟨h13, ⟨x14, h15⟩⟩⟩⟩⟩; have z17 := x14.size; replace h5 := h5.ext x14; replace hS := hS.ext x14; replace hE := hE.ext x14; replace X := X.ext x14; clear x14; refine cA rfl rfl (cN (cM rfl rfl ?_)); rotate_left 1
 have hf := fuel_ok h10 (startP s).2; have hat := h13.at_; have hlen := h13.len; have hpb := h13.pbB; have hB := h13.B; rw [parseExpr_whole s c9 h10 h11]; have hle := expr_le (n := c9.n) (k := fuelP s) (lv := 1) hat; have hsz := exprs_size (n := c9.n) (k := fuelP s) (lv := 1) hat; have hwf := hle.wf
 have hsz2 : (exprP c9.ts c9.n (fuelP s) 1 (startP s).2).1.size ≤ 1000000000 := by omega
 focus
  refine cR (by kernel_rfl) rfl ((exprs_c c9 (fuelP s)).expr _ _ _ (by assumption) (by omega) (by decide) (by decide)) (fun _ _ h => h.ret) rfl ?_; rintro _ wa6 ⟨aa1, ⟨ka2, ⟨⟨⟩, ⟨ha3, ⟨ha4, fa5⟩⟩⟩⟩⟩; have za7 := fa5.size; clear h13; replace h5 := h5.fr fa5 (by omega); replace hS := hS.fr fa5 (by omega); clear hE; replace X := X.fr fa5 (by omega); clear fa5; (refine lw_alloc' [_, _, _, _] zOk rfl rfl ?_; intro ba8 wa9 na10); (refine lw_init' [_, _, _, _] tabOk rfl rfl rfl rfl rfl rfl na10 rfl ?_; clear na10; clear wa9; intro wa11 na10); have ha12 := na10.blk; have xa13 := na10.ext; have pa14 := na10.pos; have za15 := na10.size; clear na10; replace ha3 := Nd.sits.ext ha3 xa13; replace ha4 := ha4.ext xa13; replace h5 := h5.ext xa13; replace hS := hS.ext xa13; replace X := X.ext xa13; clear xa13; refine cN (cM rfl rfl ?_); refine cC (by kernel_rfl) rfl (finish_c _ _ _ (by assumption)) rfl ?_; rintro _ wa18 ⟨⟨⟩, ⟨ha16, fa17⟩⟩; have za19 := fa17.size; replace ha12 := ha12.fr fa17 (by omega); replace ha3 := Nd.sits.fr ha3 fa17 (by omega); clear ha4; replace h5 := h5.fr fa17 (by omega); replace hS := hS.fr fa17 (by omega); replace X := X.fr fa17 (by omega); clear fa17; refine cN (cM rfl rfl (lw_loads_b' [_, _, _, _] tabOk rfl rfl rfl ha12 rfl rfl rfl ?_)); refine cR (by kernel_rfl) rfl (whole_c _ _ _ _ _ _ _ (by assumption) (by assumption) (by assumption) (by intro b h; exact ⟨by omega, by omega⟩)) (fun _ _ h => h.ret) rfl ?_; rintro _ wa24 ⟨aa20, ⟨ka21, ⟨⟨⟩, ⟨ha22, fa23⟩⟩⟩⟩; have za25 := fa23.size
  clear ha16; replace ha12 := ha12.fr fa23 (by omega); replace ha3 := Nd.sits.fr ha3 fa23 (by omega); replace h5 := h5.fr fa23 (by omega); replace hS := hS.fr fa23 (by omega); replace X := X.fr fa23 (by omega); clear fa23; refine lw_pure (pur_extract rfl rfl) rfl (lw_pure (pur_extract rfl rfl) rfl (lw_pure (pur_extract rfl rfl) rfl ?_)); (refine lw_store' [_, _, _, _] [_, _, _, _] tabOk rfl rfl rfl rfl rfl rfl h5 rfl rfl ?_; intro wa26 na27); have ha30 := na27.blk; have fa28 := na27.fr; have za29 := na27.size; clear na27 h5; replace ha22 := Nd.sits.fr ha22 fa28 (by omega); replace ha12 := ha12.fr fa28 (by omega); replace ha3 := Nd.sits.fr ha3 fa28 (by omega); clear hS; replace X := X.fr fa28 (by omega); clear fa28; refine cA rfl rfl (cA rfl rfl (cT (cw_ret (qw_retc3 rfl tabOk rfl rfl rfl ha30 rfl rfl rfl ?_)))); rotate_left 1
 exact ⟨_, _, rfl, Nd.sits.wide (by assumption) (fun b h => by omega), X⟩
section
variable {ts : List Tok} {n : Int}
end
end Bk
namespace Bk
open Go Go.RowKit Go.Proofs
attribute [local irreducible] Go.Calls
mutual
def Nd.eqb : Nd → Nd → Bool
 | .mk k n s l, .mk k' n' s' l' => decide (k = k') && (decide (n = n') && (decide (s = s') && rowEqb l l'))
def rowEqb : List Nd → List Nd → Bool
 | [], [] => true
 | x :: r, y :: q => x.eqb y && rowEqb r q
 | [], _ :: _ => false
 | _ :: _, [] => false
end
mutual
theorem eqb_iff : ∀ t u : Nd, t.eqb u = true ↔ t = u
 | .mk k n s l, .mk k' n' s' l' => by
  unfold Nd.eqb
  simp only [Bool.and_eq_true, decide_eq_true_eq, rowEqb_iff l l', Nd.mk.injEq]
theorem rowEqb_iff : ∀ l q : List Nd, rowEqb l q = true ↔ l = q
 | [], [] => by simp [rowEqb]
 | x :: r, y :: q => by
  unfold rowEqb
  simp only [Bool.and_eq_true, eqb_iff x y, rowEqb_iff r q, List.cons.injEq]
 | [], _ :: _ => by simp [rowEqb]
 | _ :: _, [] => by simp [rowEqb]
end
theorem rowEqb_len : ∀ {l q : List Nd}, l.length ≠ q.length → rowEqb l q = false
 | [], [], h => absurd rfl h
 | x :: r, y :: q, h => by
  unfold rowEqb
  rw [rowEqb_len (by simpa using h)]; simp
 | [], _ :: _, _ => by simp [rowEqb]
 | _ :: _, [], _ => by simp [rowEqb]
theorem rowEqb_at {l q : List Nd} {j : Nat} (hj : j < l.length) (hq : j < q.length) : rowEqb (l.drop j) (q.drop j) = (l[j].eqb q[j] && rowEqb (l.drop (j + 1)) (q.drop (j + 1))) := by
 rw [List.drop_eq_getElem_cons hj, List.drop_eq_getElem_cons hq, rowEqb]
mutual
theorem rowSits_ltA {S : Nat → Prop} {w : World} : ∀ (l : List Nd) (a : Option Addr), rowSits S w l a → rowSits (· < w.heap.size) w l a
 | [], _, _ => by simp [rowSits]
 | t :: r, a, h => by
  simp only [rowSits] at h ⊢; obtain ⟨b, o, a', c, rfl, hb, h0, h1, h2, h3, hs, hr⟩ := h
  exact ⟨b, o, a', c, rfl, cell_lt h0, h0, h1, h2, h3, sits_ltA t a' hs, rowSits_ltA r _ hr⟩
theorem sits_ltA {S : Nat → Prop} {w : World} : ∀ (t : Nd) (a : Option Addr), t.sits S w a → t.sits (· < w.heap.size) w a
 | .mk _ _ _ l, a, h => by
  simp only [Nd.sits] at h ⊢
  exact rowSits_ltA l a h
end
def EqC (x y : Nd) : Prop := ∀ (S S' : Nat → Prop) (a a' : Option Addr) (c c' : Nat) (w : World), x.sits S w a → y.sits S' w a' → Calls Tryz.prog 13 #[x.val a c, y.val a' c'] w fun e w' => e = .returned (.bool (x.eqb y)) ∧ Ext w w'
set_option maxRecDepth 100000 in
set_option maxHeartbeats 1000000 in
theorem EqualFunc_b (l q : List Nd) (h : ∀ x ∈ l, ∀ y, EqC x y) (S S' : Nat → Prop) (a a' : Option Addr) (c c' : Nat) (w : World) (hl : l.length ≤ 1000000000) (hs : rowSits S w l a) (hs' : rowSits S' w q a') :
 Calls Tryz.prog 35 #[.slice a l.length c, .slice a' q.length c', .func (.func 13) #[] #[]] w fun e w' => e = .returned (.bool (rowEqb l q)) ∧ Ext w w' := by
 have X := Ext.refl w
 have H := Lib.hid h; clear h
 by_cases hne : l.length = q.length
 · refine calls_in Tryz.func35 Tryz.ntmps35 rfl rfl ?_
   focus
    refine cS (cA rfl rfl (cT (cw_seq (cS (cM rfl rfl (lw_pure (pur_len_slice tabOk rfl rfl) rfl (cM rfl rfl (lw_pure (pur_len_slice tabOk rfl rfl) rfl (lw_pure (pur_neq rfl rfl) rfl (cT ?_)))))))))); refine cw_no rfl (by omega) ?_; refine cw_skip (qw_then (cw_seq (cS (cM rfl rfl (lw_pure (pur_len_slice tabOk rfl rfl) rfl (cM rfl rfl (cT (cw_block ?_)))))))); rotate_left 1
   replace hs := rowSits_ltA _ _ hs; replace hs' := rowSits_ltA _ _ hs'; refine cw_loop (ι := Nat) (fun j => [(1, .slice a' q.length c'), (2, .func (.func 13) #[] #[]), (15, .slice a l.length c), (16, .int .i64 l.length), (17, .int .i64 j)])
    (fun j w' => j ≤ l.length ∧ rowSits (· < w.heap.size) w' l a ∧ rowSits (· < w.heap.size) w' q a' ∧ rowEqb l q = rowEqb (l.drop j) (q.drop j) ∧ Ext w w') (fun j => l.length - j) 0 (by (refine sub_cons rfl ?_; refine sub_cons rfl ?_; refine sub_cons rfl ?_; refine sub_cons rfl ?_; refine sub_cons rfl ?_; exact sub_nil)) ⟨Nat.zero_le _, hs, hs', rfl, X⟩ ?_
   clear hs hs' X; rintro j w1 ⟨hj, hs, hs', he, X⟩; have hsz := X.size
   by_cases hlt : j < l.length
   · have hlt2 : j < q.length := by omega
     obtain ⟨kb, ko, rfl, hkS, hkid⟩ := kidRows hs (by intro e; subst e; simp at hlt); obtain ⟨kb', ko', rfl, hkS', hkid'⟩ := kidRows hs' (by intro e; subst e; simp at hlt2); obtain ⟨xa, xc, rx, sx⟩ := hkid j l[j] (List.getElem?_eq_getElem hlt); obtain ⟨ya, yc, ry, sy⟩ := hkid' j q[j] (List.getElem?_eq_getElem hlt2); have HC := H.out l[j] (List.getElem_mem hlt) q[j]; rw [rowEqb_at hlt hlt2] at he
     have H2 := Lib.hid HC; clear HC hkid hkid' H
     generalize l[j] = x at *
     generalize q[j] = y at *
     focus
      refine cS (lw_pure (pur_lss rfl rfl) rfl (cT (cw_seq ?_))); refine cw_yes rfl (by omega) ?_; refine cw_skip (qw_then (cw_seq (cw_block (cS (cM rfl rfl ?_))))); refine lw_pure (pur_indexAddr tabOk rfl rfl rfl rfl (by omega) (by omega)) rfl ?_; refine lw_loads_r0 tabOk rfl rfl rfl rx rfl rfl ?_; (refine lw_alloc' [_, _, _, _] zOk rfl rfl ?_; intro ba1 wa2 na3); have ha5 := na3.blk; have xa6 := na3.ext; have pa7 := na3.pos; have za8 := na3.size; clear na3; replace X := X.ext xa6; replace hs := Bk.rowSits.ext hs xa6; replace hs' := Bk.rowSits.ext hs' xa6; replace rx := rx.ext xa6; replace sx := Nd.sits.ext sx xa6; replace ry := ry.ext xa6; replace sy := Nd.sits.ext sy xa6; clear xa6; refine cA rfl rfl ?_; (refine lw_store' [_, _, _, _] [_, _, _, _] tabOk rfl rfl rfl rfl rfl rfl ha5 rfl rfl ?_; intro wa9 na10); have ha13 := na10.blk; have fa11 := na10.fr; have za12 := na10.size; clear na10 ha5; replace X := X.fr fa11 (by omega); replace hs := Bk.rowSits.fr hs fa11 (by omega); replace hs' := Bk.rowSits.fr hs' fa11 (by omega); replace rx := Row.fr rx fa11 (by simp only; omega); replace sx := Nd.sits.fr sx fa11 (by omega); replace ry := Row.fr ry fa11 (by simp only; omega); replace sy := Nd.sits.fr sy fa11 (by omega); clear fa11; refine cN (cM rfl rfl (cM rfl rfl ?_)); refine lw_pure (pur_indexAddr tabOk rfl rfl rfl rfl (by omega) (by omega)) rfl ?_; refine lw_loads_r0 tabOk rfl rfl rfl ry rfl rfl ?_; (refine lw_alloc' [_, _, _, _] zOk rfl rfl ?_; intro ba14 wa15 na16); (refine lw_init' [_, _, _, _] tabOk rfl rfl rfl rfl rfl rfl na16 rfl ?_; clear na16; clear wa15; intro wa17 na16)
      have ha18 := na16.blk; have xa19 := na16.ext; have pa20 := na16.pos; have za21 := na16.size; clear na16; replace ha13 := ha13.ext xa19; replace X := X.ext xa19; replace hs := Bk.rowSits.ext hs xa19; replace hs' := Bk.rowSits.ext hs' xa19; replace rx := rx.ext xa19; replace sx := Nd.sits.ext sx xa19; replace ry := ry.ext xa19; replace sy := Nd.sits.ext sy xa19; clear xa19; refine cN (cM rfl rfl (lw_loads_b' [_, _, _, _] tabOk rfl rfl rfl ha13 rfl rfl rfl (lw_loads_b' [_, _, _, _] tabOk rfl rfl rfl ha18 rfl rfl rfl ?_))); refine lw_does (does_callv (fi := []) (ca := []) (by kernel_rfl) rfl rfl (H2.out _ _ _ _ _ _ _ (by assumption) (by assumption)) (fun _ _ h => ⟨_, h.1⟩)) rfl ?_ (fun _ h => h); rintro va22 wa23 ⟨⟨⟩, xa24⟩; have za25 := xa24.size; replace ha18 := ha18.ext xa24; replace ha13 := ha13.ext xa24; replace X := X.ext xa24; replace hs := Bk.rowSits.ext hs xa24; replace hs' := Bk.rowSits.ext hs' xa24; replace rx := rx.ext xa24; replace sx := Nd.sits.ext sx xa24; replace ry := ry.ext xa24; replace sy := Nd.sits.ext sy xa24; clear xa24; refine lw_pure (pur_not rfl) rfl (cT ?_); refine cw_ncond rfl (fun ca26 => ?_) (fun ca26 => ?_); refine cS (cA rfl rfl (cT (cw_ret (qw_block_ret (qw_then_ret (qw_then_ret (qw_block_ret (qw_then_ret (qw_ret1 rfl rfl ?_))))))))); rotate_left 1; refine cw_skip (qw_block_norm (qw_then (cw_region ?_))); refine lw_pure (pur_add rfl rfl (IntWalk.i64_in _ (by omega))) rfl ?_; refine cM rfl rfl (lw_nil ?_); rotate_left 1
     · exact ⟨by rw [he, ca26]; rfl, X⟩
     · rw [ca26, Bool.true_and] at he
       exact qw_round (j + 1) (by (refine sub_cons rfl ?_; refine sub_cons rfl ?_; refine sub_cons rfl ?_; refine sub_cons rfl ?_; refine sub_cons rfl ?_; exact sub_nil)) ⟨by omega, hs, hs', he, X⟩ (by omega)
   · obtain rfl : j = l.length := by omega
     rw [List.drop_length, hne, List.drop_length] at he
     focus
      refine cS (lw_pure (pur_lss rfl rfl) rfl (cT (cw_seq ?_))); refine cw_no rfl (by omega) ?_; refine cw_exit (qw_then_exit (qw_then_exit (qw_block_exit (qw_then (cS (cA rfl rfl (cT (cw_ret (qw_ret1 rfl rfl ?_))))))))); rotate_left 1
     exact ⟨by rw [he]; rfl, X⟩
 · rw [rowEqb_len hne]
   refine calls_in Tryz.func35 Tryz.ntmps35 rfl rfl ?_
   focus
    refine cS (cA rfl rfl (cT (cw_seq (cS (cM rfl rfl (lw_pure (pur_len_slice tabOk rfl rfl) rfl (cM rfl rfl (lw_pure (pur_len_slice tabOk rfl rfl) rfl (lw_pure (pur_neq rfl rfl) rfl (cT ?_)))))))))); refine cw_yes rfl (by omega) ?_; refine cS (cA rfl rfl (cT (cw_ret (qw_then_ret (qw_ret1 rfl rfl ?_))))); rotate_left 1
   exact ⟨rfl, X⟩
theorem size_memA : ∀ {l : List Nd} {x : Nd}, x ∈ l → x.size ≤ rowSize l
 | [], x, hx => by cases hx
 | t :: r, x, hx => by
  simp only [rowSize]
  rcases List.mem_cons.1 hx with rfl | hx
  · omega
  · have := size_memA hx; omega
theorem length_rowA (l : List Nd) : l.length ≤ rowSize l := by
 induction l with
 | nil => simp [rowSize]
 | cons x r ih => have : 1 ≤ x.size := by cases x; simp only [Nd.size]; omega
                  simp only [rowSize, List.length_cons]; omega
set_option maxRecDepth 100000 in
set_option maxHeartbeats 1000000 in
theorem Equal_b (N : Nat) : ∀ (t u : Nd) (S S' : Nat → Prop) (a a' : Option Addr) (c c' : Nat) (w : World), t.size < N → t.size ≤ 1000000000 → t.sits S w a → u.sits S' w a' →
 Calls Tryz.prog 13 #[t.val a c, u.val a' c'] w fun e w' => e = .returned (.bool (t.eqb u)) ∧ Ext w w' := by
 induction N with
 | zero => intro t u S S' a a' c c' w h; omega
 | succ N ih =>
  rintro ⟨k, n, s, l⟩ ⟨k', n', s', q⟩ S S' a a' c c' w hN hM hs hs'; simp only [Nd.sits] at hs hs'; simp only [Nd.size] at hN hM; have hll := length_rowA l
  have hC : ∀ x ∈ l, ∀ y, EqC x y := fun x hx y S S' a a' c c' w h1 h2 => by
   have := size_memA hx
   exact ih x y S S' a a' c c' w (by omega) (by omega) h1 h2
  have HF := Lib.hid (fun w => EqualFunc_b l q hC S S' a a' c c' w (by omega)); clear hC ih; simp only [Nd.val, Nd.kind, Nd.num, Nd.name, Nd.kids]
  unfold Nd.eqb
  have X := Ext.refl w
  by_cases hk : k = k'
  · by_cases hn : n = n'
    · by_cases hsn : s = s'
      · rw [decide_eq_true hk, decide_eq_true hn, decide_eq_true hsn, Bool.true_and, Bool.true_and, Bool.true_and]
        subst hk hn hsn; refine calls_in Tryz.func13 Tryz.ntmps13 rfl rfl ?_
        focus
         refine cS ?_; (refine lw_box' [_, _, _, _] rfl rfl rfl ?_; intro b1 w2 n3); have h4 := n3.blk; have x5 := n3.ext; have p6 := n3.pos; have z7 := n3.size; clear n3; replace hs := Bk.rowSits.ext hs x5; replace hs' := Bk.rowSits.ext hs' x5; replace X := X.ext x5; clear x5; (refine lw_box' [_, _, _, _] rfl rfl rfl ?_; intro b8 w9 n10); have h11 := n10.blk; have x12 := n10.ext; have p13 := n10.pos; have z14 := n10.size; clear n10; replace h4 := h4.ext x12; replace hs := Bk.rowSits.ext hs x12; replace hs' := Bk.rowSits.ext hs' x12; replace X := X.ext x12; clear x12; refine cA rfl rfl (cN (lw_pure (pur_fieldAddr0 tabOk rfl rfl rfl) rfl (lw_load_b tabOk rfl rfl rfl h4 rfl rfl (lw_pure (pur_fieldAddr0 tabOk rfl rfl rfl) rfl (lw_load_b tabOk rfl rfl rfl h11 rfl rfl (lw_pure (pur_eql rfl rfl) rfl (cM rfl rfl ?_))))))); refine lw_on rfl rfl rfl (gd_tt (by omega)) ?_; refine lw_pure (pur_fieldAddr tabOk rfl rfl rfl) rfl ?_; refine lw_on rfl rfl rfl (gd_tt (by omega)) ?_; refine lw_load_b tabOk rfl rfl rfl h4 rfl rfl ?_; refine lw_on rfl rfl rfl (gd_tt (by omega)) ?_; refine lw_pure (pur_fieldAddr tabOk rfl rfl rfl) rfl ?_; refine lw_on rfl rfl rfl (gd_tt (by omega)) ?_; refine lw_load_b tabOk rfl rfl rfl h11 rfl rfl ?_; refine lw_on rfl rfl rfl (gd_tt (by omega)) ?_; refine lw_pure (pur_eql rfl rfl) rfl ?_; refine lw_pure (pur_pick_yes rfl rfl (by omega)) rfl ?_; refine cM rfl rfl ?_; refine lw_on rfl rfl rfl (gd_tt (by omega)) ?_; refine lw_pure (pur_fieldAddr tabOk rfl rfl rfl) rfl ?_
         refine lw_on rfl rfl rfl (gd_tt (by omega)) ?_; refine lw_load_b tabOk rfl rfl rfl h4 rfl rfl ?_; refine lw_on rfl rfl rfl (gd_tt (by omega)) ?_; refine lw_pure (pur_fieldAddr tabOk rfl rfl rfl) rfl ?_; refine lw_on rfl rfl rfl (gd_tt (by omega)) ?_; refine lw_load_b tabOk rfl rfl rfl h11 rfl rfl ?_; refine lw_on rfl rfl rfl (gd_tt (by omega)) ?_; refine lw_pure (pur_seql rfl rfl) rfl ?_; refine lw_pure (pur_pick_yes rfl rfl (by omega)) rfl ?_; refine cM rfl rfl (lw_on rfl rfl rfl (gd_tt (rfl)) (lw_pure (pur_fieldAddr tabOk rfl rfl rfl) rfl (lw_on rfl rfl rfl (gd_tt (rfl)) (lw_load_b tabOk rfl rfl rfl h4 rfl rfl (lw_on rfl rfl rfl (gd_tt (rfl)) (lw_pure (pur_fieldAddr tabOk rfl rfl rfl) rfl (lw_on rfl rfl rfl (gd_tt (rfl)) (lw_load_b tabOk rfl rfl rfl h11 rfl rfl (lw_on rfl rfl rfl (gd_tt (rfl)) ?_))))))))); refine cC (by kernel_rfl) rfl (HF.out _ (by assumption) (by assumption)) rfl ?_; rintro _ w16 ⟨⟨⟩, x15⟩; have z17 := x15.size; replace h11 := h11.ext x15; replace h4 := h4.ext x15; replace hs := Bk.rowSits.ext hs x15; replace hs' := Bk.rowSits.ext hs' x15; replace X := X.ext x15; clear x15; refine lw_pure (pur_pick_yes rfl rfl (rfl)) rfl (cA rfl rfl (cT (cw_ret (qw_ret1 rfl rfl ?_)))); rotate_left 1
        exact ⟨rfl, X⟩
      · rw [decide_eq_true hk, decide_eq_true hn, decide_eq_false hsn, Bool.true_and, Bool.true_and, Bool.false_and]
        subst hk hn; refine calls_in Tryz.func13 Tryz.ntmps13 rfl rfl ?_
        focus
         refine cS ?_; (refine lw_box' [_, _, _, _] rfl rfl rfl ?_; intro ba1 wa2 na3); have ha4 := na3.blk; have xa5 := na3.ext; have pa6 := na3.pos; have za7 := na3.size; clear na3; replace hs := Bk.rowSits.ext hs xa5; replace hs' := Bk.rowSits.ext hs' xa5; replace X := X.ext xa5; clear xa5; (refine lw_box' [_, _, _, _] rfl rfl rfl ?_; intro ba8 wa9 na10); have ha11 := na10.blk; have xa12 := na10.ext; have pa13 := na10.pos; have za14 := na10.size; clear na10; replace ha4 := ha4.ext xa12; replace hs := Bk.rowSits.ext hs xa12; replace hs' := Bk.rowSits.ext hs' xa12; replace X := X.ext xa12; clear xa12; refine cA rfl rfl (cN (lw_pure (pur_fieldAddr0 tabOk rfl rfl rfl) rfl (lw_load_b tabOk rfl rfl rfl ha4 rfl rfl (lw_pure (pur_fieldAddr0 tabOk rfl rfl rfl) rfl (lw_load_b tabOk rfl rfl rfl ha11 rfl rfl (lw_pure (pur_eql rfl rfl) rfl (cM rfl rfl ?_))))))); refine lw_on rfl rfl rfl (gd_tt (by omega)) ?_; refine lw_pure (pur_fieldAddr tabOk rfl rfl rfl) rfl ?_; refine lw_on rfl rfl rfl (gd_tt (by omega)) ?_; refine lw_load_b tabOk rfl rfl rfl ha4 rfl rfl ?_; refine lw_on rfl rfl rfl (gd_tt (by omega)) ?_; refine lw_pure (pur_fieldAddr tabOk rfl rfl rfl) rfl ?_; refine lw_on rfl rfl rfl (gd_tt (by omega)) ?_; refine lw_load_b tabOk rfl rfl rfl ha11 rfl rfl ?_; refine lw_on rfl rfl rfl (gd_tt (by omega)) ?_; refine lw_pure (pur_eql rfl rfl) rfl ?_; refine lw_pure (pur_pick_yes rfl rfl (by omega)) rfl ?_; refine cM rfl rfl ?_; refine lw_on rfl rfl rfl (gd_tt (by omega)) ?_; refine lw_pure (pur_fieldAddr tabOk rfl rfl rfl) rfl ?_
         refine lw_on rfl rfl rfl (gd_tt (by omega)) ?_; refine lw_load_b tabOk rfl rfl rfl ha4 rfl rfl ?_; refine lw_on rfl rfl rfl (gd_tt (by omega)) ?_; refine lw_pure (pur_fieldAddr tabOk rfl rfl rfl) rfl ?_; refine lw_on rfl rfl rfl (gd_tt (by omega)) ?_; refine lw_load_b tabOk rfl rfl rfl ha11 rfl rfl ?_; refine lw_on rfl rfl rfl (gd_tt (by omega)) ?_; refine lw_pure (pur_seql rfl rfl) rfl ?_; refine lw_pure (pur_pick_yes rfl rfl (by omega)) rfl ?_; refine cM rfl rfl ?_; refine lw_off rfl rfl rfl (gd_tf (by assumption)) rfl ?_; refine lw_off rfl rfl rfl (gd_tf (by assumption)) rfl ?_; refine lw_off rfl rfl rfl (gd_tf (by assumption)) rfl ?_; refine lw_off rfl rfl rfl (gd_tf (by assumption)) rfl ?_; refine lw_off rfl rfl rfl (gd_tf (by assumption)) rfl ?_; refine lw_pure (pur_pick_no rfl rfl (by assumption)) rfl ?_; refine cA rfl rfl (cT (cw_ret (qw_ret1 rfl rfl ?_))); rotate_left 1
        exact ⟨rfl, X⟩
    · rw [decide_eq_true hk, decide_eq_false hn, Bool.true_and, Bool.false_and]
      subst hk; refine calls_in Tryz.func13 Tryz.ntmps13 rfl rfl ?_
      focus
       refine cS ?_; (refine lw_box' [_, _, _, _] rfl rfl rfl ?_; intro bb1 wb2 nb3); have hb4 := nb3.blk; have xb5 := nb3.ext; have pb6 := nb3.pos; have zb7 := nb3.size; clear nb3; replace hs := Bk.rowSits.ext hs xb5; replace hs' := Bk.rowSits.ext hs' xb5; replace X := X.ext xb5; clear xb5; (refine lw_box' [_, _, _, _] rfl rfl rfl ?_; intro bb8 wb9 nb10); have hb11 := nb10.blk; have xb12 := nb10.ext; have pb13 := nb10.pos; have zb14 := nb10.size; clear nb10; replace hb4 := hb4.ext xb12; replace hs := Bk.rowSits.ext hs xb12; replace hs' := Bk.rowSits.ext hs' xb12; replace X := X.ext xb12; clear xb12; refine cA rfl rfl (cN (lw_pure (pur_fieldAddr0 tabOk rfl rfl rfl) rfl (lw_load_b tabOk rfl rfl rfl hb4 rfl rfl (lw_pure (pur_fieldAddr0 tabOk rfl rfl rfl) rfl (lw_load_b tabOk rfl rfl rfl hb11 rfl rfl (lw_pure (pur_eql rfl rfl) rfl (cM rfl rfl ?_))))))); refine lw_on rfl rfl rfl (gd_tt (by omega)) ?_; refine lw_pure (pur_fieldAddr tabOk rfl rfl rfl) rfl ?_; refine lw_on rfl rfl rfl (gd_tt (by omega)) ?_; refine lw_load_b tabOk rfl rfl rfl hb4 rfl rfl ?_; refine lw_on rfl rfl rfl (gd_tt (by omega)) ?_; refine lw_pure (pur_fieldAddr tabOk rfl rfl rfl) rfl ?_; refine lw_on rfl rfl rfl (gd_tt (by omega)) ?_; refine lw_load_b tabOk rfl rfl rfl hb11 rfl rfl ?_; refine lw_on rfl rfl rfl (gd_tt (by omega)) ?_; refine lw_pure (pur_eql rfl rfl) rfl ?_; refine lw_pure (pur_pick_yes rfl rfl (by omega)) rfl ?_; refine cM rfl rfl ?_; refine lw_off rfl rfl rfl (gd_tf (by assumption)) rfl ?_; refine lw_off rfl rfl rfl (gd_tf (by assumption)) rfl ?_
       refine lw_off rfl rfl rfl (gd_tf (by assumption)) rfl ?_; refine lw_off rfl rfl rfl (gd_tf (by assumption)) rfl ?_; refine lw_off rfl rfl rfl (gd_tf (by assumption)) rfl ?_; refine lw_pure (pur_pick_no rfl rfl (by assumption)) rfl ?_; refine cM rfl rfl (lw_off rfl rfl rfl (rfl) rfl (lw_off rfl rfl rfl (rfl) rfl (lw_off rfl rfl rfl (rfl) rfl (lw_off rfl rfl rfl (rfl) rfl (lw_off rfl rfl rfl (rfl) rfl (lw_pure (pur_pick_f rfl rfl rfl) rfl (cA rfl rfl (cT (cw_ret (qw_ret1 rfl rfl ?_)))))))))); rotate_left 1
      exact ⟨rfl, X⟩
  · rw [decide_eq_false hk, Bool.false_and]
    refine calls_in Tryz.func13 Tryz.ntmps13 rfl rfl ?_
    focus
     refine cS ?_; (refine lw_box' [_, _, _, _] rfl rfl rfl ?_; intro bc1 wc2 nc3); have hc4 := nc3.blk; have xc5 := nc3.ext; have pc6 := nc3.pos; have zc7 := nc3.size; clear nc3; replace hs := Bk.rowSits.ext hs xc5; replace hs' := Bk.rowSits.ext hs' xc5; replace X := X.ext xc5; clear xc5; (refine lw_box' [_, _, _, _] rfl rfl rfl ?_; intro bc8 wc9 nc10); have hc11 := nc10.blk; have xc12 := nc10.ext; have pc13 := nc10.pos; have zc14 := nc10.size; clear nc10; replace hc4 := hc4.ext xc12; replace hs := Bk.rowSits.ext hs xc12; replace hs' := Bk.rowSits.ext hs' xc12; replace X := X.ext xc12; clear xc12; refine cA rfl rfl (cN (lw_pure (pur_fieldAddr0 tabOk rfl rfl rfl) rfl (lw_load_b tabOk rfl rfl rfl hc4 rfl rfl (lw_pure (pur_fieldAddr0 tabOk rfl rfl rfl) rfl (lw_load_b tabOk rfl rfl rfl hc11 rfl rfl (lw_pure (pur_eql rfl rfl) rfl (cM rfl rfl ?_))))))); refine lw_off rfl rfl rfl (gd_tf (by assumption)) rfl ?_; refine lw_off rfl rfl rfl (gd_tf (by assumption)) rfl ?_; refine lw_off rfl rfl rfl (gd_tf (by assumption)) rfl ?_; refine lw_off rfl rfl rfl (gd_tf (by assumption)) rfl ?_; refine lw_off rfl rfl rfl (gd_tf (by assumption)) rfl ?_; refine lw_pure (pur_pick_no rfl rfl (by assumption)) rfl ?_; refine cM rfl rfl (lw_off rfl rfl rfl (rfl) rfl (lw_off rfl rfl rfl (rfl) rfl (lw_off rfl rfl rfl (rfl) rfl (lw_off rfl rfl rfl (rfl) rfl (lw_off rfl rfl rfl (rfl) rfl (lw_pure (pur_pick_f rfl rfl rfl) rfl (cM rfl rfl (lw_off rfl rfl rfl (rfl) rfl (lw_off rfl rfl rfl (rfl) rfl (lw_off rfl rfl rfl (rfl) rfl (lw_off rfl rfl rfl (rfl) rfl ?_)))))))))))
     refine lw_off rfl rfl rfl (rfl) rfl (lw_pure (pur_pick_f rfl rfl rfl) rfl (cA rfl rfl (cT (cw_ret (qw_ret1 rfl rfl ?_))))); rotate_left 1
    exact ⟨rfl, X⟩
end Bk
namespace Bk
open Go
def pre (acc : List Tok) (r : List Tok × Option Nat) : List Tok × Option Nat := match r.2 with
 | none => (acc ++ r.1, none)
 | some p => ([], some p)
theorem pre_pre (a b : List Tok) (r : List Tok × Option Nat) : pre a (pre b r) = pre (a ++ b) r := by
 rcases r with ⟨l, _ | p⟩ <;> simp [pre]
theorem lexGo_acc (s : List UInt8) : ∀ (k p : Nat) (acc : List Tok), lexGo k s p acc = pre acc (lexGo k s p [])
 | 0, p, acc => by simp [lexGo, pre]
 | k + 1, p, acc => by
  rw [lexGo, lexGo]
  split
  · split
    · simp [pre]
    · rw [lexGo_acc s k _ (acc ++ _), lexGo_acc s k _ ([] ++ _), pre_pre]
      simp
  · simp [pre]
theorem lexGo_fuel (s : List UInt8) : ∀ (k k' p : Nat) (acc : List Tok), s.length - p < k → s.length - p < k' → lexGo k s p acc = lexGo k' s p acc
 | 0, _, _, _, h, _ => by omega
 | _, 0, _, _, _, h => by omega
 | k + 1, k' + 1, p, acc, h, h' => by
  rw [lexGo, lexGo]
  split
  · split
    · rfl
    · exact lexGo_fuel s k k' _ _ (by omega) (by omega)
  · rfl
def lexFrom (s : List UInt8) (p : Nat) : List Tok × Option Nat := lexGo (s.length + 1) s p []
def tokAt (s : List UInt8) (p : Nat) : Tok := ⟨((firstTok (s.drop p)).1 : Nat), (s.drop p).take (firstTok (s.drop p)).2, (p : Int)⟩
theorem lexFrom_end {s : List UInt8} {p : Nat} (h : s.length ≤ p) : lexFrom s p = ([], none) := by
 unfold lexFrom; rw [lexGo, if_neg (by omega)]
theorem lexFrom_err {s : List UInt8} {p : Nat} (h : p < s.length) (h0 : (firstTok (s.drop p)).2 = 0) : lexFrom s p = ([], some p) := by
 unfold lexFrom; rw [lexGo, if_pos h, if_pos h0]
theorem lexFrom_step {s : List UInt8} {p : Nat} (h : p < s.length) (h0 : (firstTok (s.drop p)).2 ≠ 0) : lexFrom s p = pre [tokAt s p] (lexFrom s (p + (firstTok (s.drop p)).2)) := by
 unfold lexFrom
 rw [lexGo, if_pos h, if_neg h0, lexGo_acc]; rw [lexGo_fuel s s.length (s.length + 1) _ _ (by omega) (by omega)]
 rfl
def solidR (r : List Tok × Option Nat) : List Tok × Option Nat := match r.2 with
 | none => (solidT r.1, none)
 | some p => ([], some p)
def solidFrom (s : List UInt8) (p : Nat) : List Tok × Option Nat := solidR (lexFrom s p)
theorem solidR_pre (t : Tok) (r : List Tok × Option Nat) : solidR (pre [t] r) = if t.kind ≠ 4 ∧ t.kind ≠ 5 then pre [t] (solidR r) else solidR r := by
 rcases r with ⟨l, _ | p⟩
 · by_cases h : t.kind ≠ 4 ∧ t.kind ≠ 5
   · simp [pre, solidR, solidT, List.filter_cons, h]
   · rw [if_neg h]
     have : (decide (t.kind ≠ 4) && decide (t.kind ≠ 5)) = false := by
      simp only [Bool.and_eq_false_iff, decide_eq_false_iff_not]; omega
     simp only [pre, solidR, solidT, List.singleton_append, List.filter_cons, this]
     simp
 · simp [pre, solidR]
theorem solidFrom_end {s : List UInt8} {p : Nat} (h : s.length ≤ p) : solidFrom s p = ([], none) := by
 unfold solidFrom; rw [lexFrom_end h]; rfl
theorem solidFrom_err {s : List UInt8} {p : Nat} (h : p < s.length) (h0 : (firstTok (s.drop p)).2 = 0) : solidFrom s p = ([], some p) := by
 unfold solidFrom; rw [lexFrom_err h h0]; rfl
theorem solidFrom_tok {s : List UInt8} {p : Nat} (h : p < s.length) (h0 : (firstTok (s.drop p)).2 ≠ 0) (h4 : (firstTok (s.drop p)).1 ≠ 4) (h5 : (firstTok (s.drop p)).1 ≠ 5) :
 solidFrom s p = pre [tokAt s p] (solidFrom s (p + (firstTok (s.drop p)).2)) := by
 unfold solidFrom; rw [lexFrom_step h h0, solidR_pre, if_pos]
 constructor <;> simp only [tokAt] <;> omega
theorem solidFrom_skip {s : List UInt8} {p : Nat} (h : p < s.length) (h0 : (firstTok (s.drop p)).2 ≠ 0) (h4 : (firstTok (s.drop p)).1 = 4 ∨ (firstTok (s.drop p)).1 = 5) :
 solidFrom s p = solidFrom s (p + (firstTok (s.drop p)).2) := by
 unfold solidFrom; rw [lexFrom_step h h0, solidR_pre, if_neg]
 simp only [tokAt]; omega
theorem drop_at {s : List UInt8} {p : Nat} (h : p < s.length) : s.drop p = s[p] :: s.drop (p + 1) := List.drop_eq_getElem_cons h
theorem blank_parts {c : UInt8} (h : blank c = true) : letter c = false ∧ digit c = false ∧ c ≠ 35 := by
 simp only [blank, Bool.or_eq_true, decide_eq_true_eq] at h; refine ⟨?_, ?_, ?_⟩
 · simp only [letter, Bool.and_eq_false_iff, decide_eq_false_iff_not]; omega
 · simp only [digit, Bool.and_eq_false_iff, decide_eq_false_iff_not]; omega
 · rintro rfl; exact absurd h (by decide)
theorem firstTok_blank {c : UInt8} {r : List UInt8} (h : blank c = true) : firstTok (c :: r) = (4, 1 + span blank r) := by
 obtain ⟨h1, h2, -⟩ := blank_parts h
 simp [firstTok, h, h1, h2, span, List.takeWhile_cons]; omega
theorem firstTok_hash {r : List UInt8} : firstTok (35 :: r) = (5, 1 + span notLf r) := by
 have h1 : letter 35 = false := by decide
 have h2 : digit 35 = false := by decide
 have h3 : blank 35 = false := by decide
 have h4 : notLf 35 = true := by decide
 simp [firstTok, h1, h2, h3, h4, span, List.takeWhile_cons]; omega
theorem span_zero {p : UInt8 → Bool} {s : List UInt8} (h : ∀ c ∈ s.head?, p c = false) : span p s = 0 := by
 cases s with
 | nil => rfl
 | cons c r => simp [span, List.takeWhile_cons, h c (by simp)]
theorem solidFrom_blank {s : List UInt8} {p : Nat} (h : p < s.length) (hb : blank s[p] = true) : solidFrom s p = solidFrom s (p + 1) := by
 have e : firstTok (s.drop p) = (4, 1 + span blank (s.drop (p + 1))) := by rw [drop_at h]; exact firstTok_blank hb
 rw [solidFrom_skip h (by rw [e]; simp) (by rw [e]; simp), e]
 by_cases h1 : p + 1 < s.length
 · by_cases h2 : blank s[p + 1] = true
   · have e2 : firstTok (s.drop (p + 1)) = (4, 1 + span blank (s.drop (p + 1 + 1))) := by rw [drop_at h1]; exact firstTok_blank h2
     rw [solidFrom_skip h1 (by rw [e2]; simp) (by rw [e2]; simp), e2]
     have : span blank (s.drop (p + 1)) = 1 + span blank (s.drop (p + 1 + 1)) := by
      rw [drop_at h1]; simp only [span, List.takeWhile_cons, h2, if_true, List.length_cons]; omega
     rw [this]
     congr 1; omega
   · rw [span_zero (s := s.drop (p + 1))]
     rw [drop_at h1]; intro c hc; simp only [List.head?_cons, Option.mem_def, Option.some.injEq] at hc; rw [← hc]; simpa using h2
 · rw [span_zero (s := s.drop (p + 1))]
   rw [List.drop_eq_nil_of_le (by omega)]; simp
def signsL : List (List UInt8) := [[60, 61, 62], [58, 61], [43, 61], [45, 61], [94, 61], [61, 61], [33, 61], [60, 61], [62, 61], [38, 38], [124, 124], [43], [45], [42], [47], [37], [38], [124], [94], [33], [61], [60], [62], [40], [41], [123], [125], [91], [93], [59], [44]]
def pickLen (L : List (List UInt8)) (s : List UInt8) : Nat := ((L.find? (·.isPrefixOf s)).map List.length).getD 0
end Bk
namespace Bk
open Go
def Tok.sh (d : Nat) (t : Tok) : Tok := ⟨t.kind, t.text, t.pos + d⟩
def shR (d : Nat) (r : List Tok × Option Nat) : List Tok × Option Nat := (r.1.map (Tok.sh d), r.2.map (· + d))
theorem shR_pre (d : Nat) (t : Tok) (r : List Tok × Option Nat) : shR d (pre [t] r) = pre [t.sh d] (shR d r) := by
 obtain ⟨l, e⟩ := r
 cases e <;> simp [shR, pre]
theorem shR_0 (r : List Tok × Option Nat) : shR 0 r = r := by
 obtain ⟨l, e⟩ := r
 have : l.map (Tok.sh 0) = l := by
  conv => rhs; rw [← List.map_id l]
  congr 1
  funext t; cases t; simp [Tok.sh]
 cases e <;> simp [shR, this]
theorem shR_add (a b : Nat) (r : List Tok × Option Nat) : shR a (shR b r) = shR (b + a) r := by
 obtain ⟨l, e⟩ := r
 cases e <;> simp [shR, Tok.sh, Int.add_assoc, Nat.add_assoc]
theorem drop_shift (a u : List UInt8) (p : Nat) : (a ++ u).drop (a.length + p) = u.drop p := by
 rw [List.drop_append]; simp
theorem solidFrom_shift (a u : List UInt8) : ∀ (m p : Nat), u.length - p ≤ m → solidFrom (a ++ u) (a.length + p) = shR a.length (solidFrom u p) := by
 intro m
 induction m with
 | zero =>
  intro p h
  rw [solidFrom_end (by simp; omega), solidFrom_end (by omega)]; rfl
 | succ m ih =>
  intro p h
  by_cases hp : p < u.length
  · have hl : a.length + p < (a ++ u).length := by simp; omega
    have hd := drop_shift a u p
    by_cases h0 : (firstTok (u.drop p)).2 = 0
    · rw [solidFrom_err hl (by rw [hd]; exact h0), solidFrom_err hp h0]
      simp [shR, Nat.add_comm]
    · have hi := ih (p + (firstTok (u.drop p)).2) (by omega)
      by_cases h4 : (firstTok (u.drop p)).1 = 4 ∨ (firstTok (u.drop p)).1 = 5
      · rw [solidFrom_skip hl (by rw [hd]; exact h0) (by rw [hd]; exact h4), solidFrom_skip hp h0 h4, hd, Nat.add_assoc]
        exact hi
      · have h4' : (firstTok (u.drop p)).1 ≠ 4 ∧ (firstTok (u.drop p)).1 ≠ 5 := ⟨fun e => h4 (Or.inl e), fun e => h4 (Or.inr e)⟩
        rw [solidFrom_tok hl (by rw [hd]; exact h0) (by rw [hd]; exact h4'.1) (by rw [hd]; exact h4'.2), solidFrom_tok hp h0 h4'.1 h4'.2, hd, Nat.add_assoc, hi, shR_pre]
        congr 2
        unfold tokAt Tok.sh
        rw [hd]
        simp [Int.add_comm]
  · rw [solidFrom_end (by simp; omega), solidFrom_end (by omega)]; rfl
theorem solidFrom_cons (c : UInt8) (u : List UInt8) (p : Nat) : solidFrom (c :: u) (1 + p) = shR 1 (solidFrom u p) := solidFrom_shift [c] u _ p (Nat.le_refl _)
def sepC (c : UInt8) : Prop := blank c = true ∨ c = 35
theorem sep_not {c : UInt8} (h : sepC c) : wordish c = false ∧ digit c = false ∧ singles.contains c = false ∧ c ≠ 58 ∧ c ≠ 61 ∧ c ≠ 62 ∧ c ≠ 38 ∧ c ≠ 124 := by
 rcases h with h | rfl
 · have : c.toNat = 32 ∨ c.toNat = 9 ∨ c.toNat = 13 ∨ c.toNat = 10 := by
    simp only [blank, Bool.or_eq_true, decide_eq_true_eq] at h; omega
   have : c = 32 ∨ c = 9 ∨ c = 13 ∨ c = 10 := by
    rcases this with h | h | h | h
    · exact Or.inl (UInt8.toNat_inj.1 h)
    · exact Or.inr (Or.inl (UInt8.toNat_inj.1 h))
    · exact Or.inr (Or.inr (Or.inl (UInt8.toNat_inj.1 h)))
    · exact Or.inr (Or.inr (Or.inr (UInt8.toNat_inj.1 h)))
   rcases this with rfl | rfl | rfl | rfl <;> decide
 · decide
theorem span_sep {p : UInt8 → Bool} {c : UInt8} (h : p c = false) (r u : List UInt8) : span p (r ++ c :: u) = span p r := by
 unfold span
 induction r with
 | nil => simp [h]
 | cons x r ih =>
  simp only [List.cons_append, List.takeWhile_cons]
  split
  · simp [ih]
  · rfl
theorem pairs_second {c d : UInt8} (h : pairs.contains [c, d] = true) : d = 61 ∨ d = 38 ∨ d = 124 := by
 simp only [pairs, List.contains_cons, List.contains_nil, Bool.or_false, Bool.or_eq_true, beq_iff_eq, List.cons.injEq, and_true] at h
 rcases h with ⟨_, rfl⟩ | ⟨_, rfl⟩ | ⟨_, rfl⟩ | ⟨_, rfl⟩ | ⟨_, rfl⟩ | ⟨_, rfl⟩ | ⟨_, rfl⟩ | ⟨_, rfl⟩ | ⟨_, rfl⟩ | ⟨_, rfl⟩ <;> simp
end Bk
namespace Bk
open Go
theorem startOk {s : List UInt8} (h : ¬ 65536 < s.length) (h1 : (solidFrom s 0).2 = none) : startP s = ((solidFrom s 0).1, ⟨0, 0, 0⟩) := by
 unfold solidFrom lexFrom at *
 unfold startP lexT
 rw [if_neg h]
 generalize lexGo (s.length + 1) s 0 [] = r at *
 obtain ⟨l, e⟩ := r
 cases e with
 | none => rfl
 | some q => simp [solidR] at h1
theorem pairs_one (c : UInt8) : pairs.contains [c] = false := by
 cases hh : pairs.contains [c]
 · rfl
 · simp [pairs] at hh
structure CutAt (s : List UInt8) (p : Nat) (l : List Tok) (i : Nat) (q : Nat) : Prop where
 pos : (l.getD i Tok.zero).pos = (q : Int)
 le : p ≤ q
 ne : (l.getD i Tok.zero).text ≠ []
 text : (l.getD i Tok.zero).text = (s.drop q).take (l.getD i Tok.zero).text.length
 first : firstTok (s.drop q) = ((l.getD i Tok.zero).kind.toNat, (l.getD i Tok.zero).text.length)
 kind : (l.getD i Tok.zero).kind = (((firstTok (s.drop q)).1 : Nat) : Int)
 solid : (firstTok (s.drop q)).1 ≠ 4 ∧ (firstTok (s.drop q)).1 ≠ 5
 len : q + (l.getD i Tok.zero).text.length ≤ s.length
 before : solidFrom (s.take q) p = (l.take i, none)
 behind : solidFrom (s.take (q + (l.getD i Tok.zero).text.length)) p = (l.take (i + 1), none)
end Bk
namespace Bk
open Go
abbrev Txt := List (List UInt8)
inductive Nt where
 | ex (lv : Int) : Nt
 | cl (lv : Int) (x : Nd) : Nt
 | un : Nt
 | pl : Nt
def StopL (lv : Int) (b : Txt) : Prop := ∀ t ∈ b.head?, ∀ op, binOf t = some op → level op < lv
def NoBr (b : Txt) : Prop := ∀ t ∈ b.head?, t ≠ [91]
inductive G : Nt → Txt → Nd → Prop where
 | ex {lv : Int} {a b : Txt} {x y : Nd} : G .un a x → G (.cl lv x) b y → G (.ex lv) (a ++ b) y
 | cl0 {lv : Int} {x : Nd} : G (.cl lv x) [] x
 | cl1 {lv op : Int} {t : List UInt8} {a b : Txt} {x y z : Nd} : binOf t = some op → lv ≤ level op → G (.ex (level op + 1)) a y → StopL (level op + 1) b → G (.cl lv (.mk op 0 [] [x, y])) b z → G (.cl lv x) (t :: (a ++ b)) z
 | neg {a : Txt} {x : Nd} : G .un a x → G .un ([45] :: a) (.mk 6 0 [] [x])
 | not {a : Txt} {x : Nd} : G .un a x → G .un ([33] :: a) (.mk 7 0 [] [x])
 | num {t : List UInt8} : startsDigit t = true → (digitsVal t : Int) ≤ 9223372036854775807 → G .un [t] (.mk 1 (digitsVal t) [] [])
 | top {m : List UInt8} : isName m = true → G .un [[116, 111, 112], [40], m, [41]] (.mk 4 0 m [])
 | size {m : List UInt8} : isName m = true → G .un [[115, 105, 122, 101], [40], m, [41]] (.mk 5 0 m [])
 | par {a : Txt} {x : Nd} : G (.ex 1) a x → G .un ([40] :: (a ++ [[41]])) x
 | place {a : Txt} {x : Nd} : G .pl a x → G .un a x
 | var {m : List UInt8} : isName m = true → G .pl [m] (.mk 2 0 m [])
 | item {m : List UInt8} {a : Txt} {x : Nd} : isName m = true → G (.ex 1) a x → G .pl (m :: [91] :: (a ++ [[93]])) (.mk 3 0 m [x])
section
variable {ts : List Tok} {n : Int}
def txt (ts : List Tok) : Txt := ts.map Tok.text
def adv (σ : PS) (k : Nat) : PS := ⟨σ.at_ + k, σ.off, σ.err⟩
theorem adv_adv (σ : PS) (a b : Nat) : adv (adv σ a) b = adv σ (a + b) := by simp [adv, Nat.add_assoc]
theorem next_adv (σ : PS) : nextP σ = adv σ 1 := rfl
def rem (ts : List Tok) (σ : PS) : Txt := (txt ts).drop σ.at_
theorem rem_len (σ : PS) : (rem ts σ).length = ts.length - σ.at_ := by simp [rem, txt]
theorem rem_adv {σ : PS} {a b : Txt} (h : rem ts σ = a ++ b) : rem ts (adv σ a.length) = b := by
 unfold rem adv at *
 simp only; rw [← List.drop_drop, h]
 simp
theorem rem_cons {σ : PS} {t : List UInt8} {b : Txt} (h : rem ts σ = t :: b) : rem ts (adv σ 1) = b := rem_adv (a := [t]) h
theorem rem_lt {σ : PS} {t : List UInt8} {b : Txt} (h : rem ts σ = t :: b) : σ.at_ < ts.length := by
 have := rem_len (ts := ts) σ; rw [h] at this
 simp at this
 omega
theorem peek_cons {σ : PS} {t : List UInt8} {b : Txt} (h : rem ts σ = t :: b) (he : σ.err = 0) : (peekP ts σ).text = t := by
 have hl := rem_lt h
 unfold peekP
 rw [if_neg (by rintro (h | h); exact h he; omega)]
 unfold rem txt at h
 rw [List.drop_eq_getElem_cons (by simpa using hl)] at h; simp only [List.getElem_map, List.cons.injEq] at h; rw [List.getD_eq_getElem?_getD, List.getElem?_eq_getElem hl]
 exact h.1
theorem peek_nil {σ : PS} (hw : σ.at_ ≤ ts.length) (h : rem ts σ = []) : (peekP ts σ).text = [] := by
 have := rem_len (ts := ts) σ; rw [h] at this
 rw [peek_end (by simp at this; omega)]; rfl
theorem peek_rem {σ : PS} (hw : σ.at_ ≤ ts.length) (he : σ.err = 0) : (peekP ts σ).text = ((rem ts σ).head?).getD [] := by
 cases h : rem ts σ with
 | nil => rw [peek_nil hw h]; rfl
 | cons t b => rw [peek_cons h he]; rfl
theorem has_cons {σ : PS} {t u : List UInt8} {b : Txt} (h : rem ts σ = t :: b) (he : σ.err = 0) : hasP ts σ u = decide (t = u) := by unfold hasP; rw [peek_cons h he]
theorem peek_mem {σ : PS} (hl : σ.at_ < ts.length) (he : σ.err = 0) : peekP ts σ ∈ ts := by
 unfold peekP
 rw [if_neg (by rintro (h | h); exact h he; omega), List.getD_eq_getElem?_getD, List.getElem?_eq_getElem hl]
 exact List.getElem_mem hl
theorem kind_dig (hd : DigitKinds ts) {σ : PS} {t : List UInt8} {b : Txt} (h : rem ts σ = t :: b) (he : σ.err = 0) : (peekP ts σ).kind = 2 ↔ startsDigit t = true := by
 rw [← peek_cons h he]
 exact hd _ (peek_mem (rem_lt h) he)
theorem expect_cons {σ : PS} {t : List UInt8} {b : Txt} (h : rem ts σ = t :: b) (he : σ.err = 0) : expectP ts n σ t = adv σ 1 := by unfold expectP; rw [has_cons h he]; simp [next_adv]
theorem name_cons {σ : PS} {t : List UInt8} {b : Txt} (h : rem ts σ = t :: b) (he : σ.err = 0) (ht : isName t = true) : nameP ts n σ = (t, adv σ 1) := by unfold nameP; rw [peek_cons h he, if_pos ht]; rfl
end
theorem name_not {m : List UInt8} (h : isName m = true) : m ≠ [45] ∧ m ≠ [33] ∧ m ≠ [40] ∧ m ≠ [116, 111, 112] ∧ m ≠ [115, 105, 122, 101] ∧ startsDigit m = false := by
 refine ⟨?_, ?_, ?_, ?_, ?_, ?_⟩
 · rintro rfl; revert h; decide
 · rintro rfl; revert h; decide
 · rintro rfl; revert h; decide
 · rintro rfl; revert h; decide
 · rintro rfl; revert h; decide
 · cases m with
   | nil => rfl
   | cons c r =>
    have hk : (firstTok (c :: r)).1 = 1 := by
     simp only [isName, Bool.and_eq_true, beq_iff_eq] at h
     exact h.1.1.2
    cases hd : startsDigit (c :: r)
    · rfl
    · exfalso
      have hdg : digit c = true := by simpa [startsDigit] using hd
      have hl : letter c = false := by
       cases hl : letter c
       · rfl
       · simp only [letter, digit, Bool.and_eq_true, decide_eq_true_eq] at hl hdg; omega
      simp [firstTok, hl, hdg] at hk
theorem G.head {nt : Nt} {a : Txt} {x : Nd} (h : G nt a x) : match nt with
 | .cl lv _ => ∀ t r, a = t :: r → ∃ op, binOf t = some op ∧ lv ≤ level op
 | _ => a ≠ [] := by
 induction h with
 | ex _ _ i1 _ => simp only at *; intro h; exact i1 (List.append_eq_nil_iff.1 h).1
 | cl0 => intro t r h; cases h
 | cl1 h1 h2 => intro t r h; simp only [List.cons.injEq] at h; obtain ⟨rfl, -⟩ := h; exact ⟨_, h1, h2⟩
 | neg => simp
 | not => simp
 | num => simp
 | top => simp
 | size => simp
 | par => simp
 | place _ i => exact i
 | var => simp
 | item => simp
end Bk
namespace Bk
open Go
inductive Pc where
 | tk (t : List UInt8) : Pc
 | sp (s : List UInt8) : Pc
def flat : List Pc → List UInt8
 | [] => []
 | .tk t :: r => t ++ flat r
 | .sp s :: r => s ++ flat r
def toks : List Pc → Txt
 | [] => []
 | .tk t :: r => t :: toks r
 | .sp _ :: r => toks r
theorem flat_append : ∀ (a b : List Pc), flat (a ++ b) = flat a ++ flat b
 | [], b => rfl
 | .tk t :: r, b => by simp only [List.cons_append, flat, flat_append r b, List.append_assoc]
 | .sp t :: r, b => by simp only [List.cons_append, flat, flat_append r b, List.append_assoc]
theorem toks_append : ∀ (a b : List Pc), toks (a ++ b) = toks a ++ toks b
 | [], b => rfl
 | .tk t :: r, b => by simp only [List.cons_append, toks, toks_append r b]
 | .sp t :: r, b => by simp only [List.cons_append, toks, toks_append r b]
structure TokT (t : List UInt8) : Prop where
 ne : t ≠ []
 len : (firstTok t).2 = t.length
 kind : (firstTok t).1 = 1 ∨ (firstTok t).1 = 2 ∨ (firstTok t).1 = 3
structure Adj (t : List UInt8) (c : UInt8) : Prop where
 word : (firstTok t).1 = 1 → wordish c = false
 num : (firstTok t).1 = 2 → digit c = false
 sign : (firstTok t).1 = 3 → c ≠ 61 ∧ c ≠ 62 ∧ c ≠ 38 ∧ c ≠ 124
theorem adj_sep {t : List UInt8} {c : UInt8} (h : sepC c) : Adj t c := by
 obtain ⟨h1, h2, -, -, h61, h62, h38, h124⟩ := sep_not h
 exact ⟨fun _ => h1, fun _ => h2, fun _ => ⟨h61, h62, h38, h124⟩⟩
theorem signLen_adj {c : UInt8} (h61 : c ≠ 61) (h62 : c ≠ 62) (h38 : c ≠ 38) (h124 : c ≠ 124) (r u : List UInt8) (hr : r ≠ []) : signLen (r ++ c :: u) = signLen r := by
 cases r with
 | nil => exact absurd rfl hr
 | cons x r =>
  cases r with
  | nil =>
   have hp : pairs.contains [x, c] = false := by
    cases hh : pairs.contains [x, c]
    · rfl
    · rcases pairs_second hh with e | e | e
      · exact absurd e h61
      · exact absurd e h38
      · exact absurd e h124
   have hp1 := pairs_one x
   have h3 : List.isPrefixOf [60, 61, 62] ([x] ++ c :: u) = false := by
    simp only [List.cons_append, List.nil_append, List.isPrefixOf]
    have : (61 == c) = false := by simpa using fun e : 61 = c => h61 e.symm
    simp [this]
   have h31 : List.isPrefixOf [60, 61, 62] [x] = false := by simp [List.isPrefixOf]
   unfold signLen
   rw [h3, h31]; simp only [List.cons_append, List.nil_append, List.take_succ_cons, List.take_zero, List.take_nil, hp, hp1]
   rfl
  | cons y r =>
   have h3 : List.isPrefixOf [60, 61, 62] ((x :: y :: r) ++ c :: u) = List.isPrefixOf [60, 61, 62] (x :: y :: r) := by
    cases r with
    | nil =>
     simp only [List.cons_append, List.nil_append, List.isPrefixOf]
     have : (62 == c) = false := by simpa using fun e : 62 = c => h62 e.symm
     simp [this]
    | cons z r => simp [List.isPrefixOf]
   unfold signLen
   rw [h3]
   rfl
theorem firstTok_adj {t : List UInt8} {c : UInt8} (ht : TokT t) (h : Adj t c) (u : List UInt8) : firstTok (t ++ c :: u) = firstTok t := by
 obtain ⟨ne, hl, hk⟩ := ht
 cases t with
 | nil => exact absurd rfl ne
 | cons x r =>
  by_cases h1 : letter x = true
  · have hw := h.word (by simp [firstTok, h1])
    have e := span_sep hw (x :: r) u; simp only [List.cons_append] at e ⊢; simp only [firstTok, h1, if_true, e]
  · have h1' : letter x = false := by simpa using h1
    by_cases h2 : digit x = true
    · have hw := h.num (by simp [firstTok, h1', h2])
      have e := span_sep hw (x :: r) u; simp only [List.cons_append] at e ⊢; simp only [firstTok, h1', h2, if_true, if_false, Bool.false_eq_true, e]
    · have h2' : digit x = false := by simpa using h2
      by_cases h3 : blank x = true
      · exfalso; rw [firstTok_blank h3] at hk; simp at hk
      · have h3' : blank x = false := by simpa using h3
        by_cases h4 : x = 35
        · exfalso; subst h4; rw [firstTok_hash] at hk; simp at hk
        · obtain ⟨a, b, c', d⟩ := h.sign (by simp [firstTok, h1', h2', h3', h4])
          have e := signLen_adj a b c' d (x :: r) u (by simp); simp only [List.cons_append] at e ⊢; simp only [firstTok, h1', h2', h3', h4, if_false, Bool.false_eq_true, e]
def wf : Option (List UInt8) → List Pc → Prop
 | _, [] => True
 | p, .sp s :: r => (∀ c ∈ s, blank c = true) ∧ wf (if s.isEmpty then p else none) r
 | p, .tk t :: r => TokT t ∧ (∀ t0 ∈ p, ∀ c ∈ t.head?, Adj t0 c) ∧ wf (some t) r
def endOf : Option (List UInt8) → List Pc → Option (List UInt8)
 | p, [] => p
 | p, .sp s :: r => endOf (if s.isEmpty then p else none) r
 | _, .tk t :: r => endOf (some t) r
theorem wf_append : ∀ (a b : List Pc) (p : Option (List UInt8)), wf p (a ++ b) ↔ wf p a ∧ wf (endOf p a) b
 | [], b, p => by simp [wf, endOf]
 | .sp s :: r, b, p => by simp only [List.cons_append, wf, endOf, wf_append r b, and_assoc]
 | .tk t :: r, b, p => by simp only [List.cons_append, wf, endOf, wf_append r b, and_assoc]
theorem endOf_append : ∀ (a b : List Pc) (p : Option (List UInt8)), endOf p (a ++ b) = endOf (endOf p a) b
 | [], b, p => rfl
 | .sp s :: r, b, p => by simp only [List.cons_append, endOf, endOf_append r b]
 | .tk t :: r, b, p => by simp only [List.cons_append, endOf, endOf_append r b]
theorem wf_head : ∀ (r : List Pc) (t : List UInt8) (c : UInt8) (u : List UInt8), wf (some t) r → flat r = c :: u → Adj t c
 | [], t, c, u, _, h => by cases h
 | .sp s :: r, t, c, u, hw, h => by
  cases s with
  | nil => exact wf_head r t c u hw.2 h
  | cons d s =>
   simp only [flat, List.cons_append, List.cons.injEq] at h; rw [← h.1]
   exact adj_sep (Or.inl (hw.1 d (by simp)))
 | .tk t' :: r, t, c, u, hw, h => by
  cases t' with
  | nil => exact absurd rfl hw.1.ne
  | cons d s =>
   simp only [flat, List.cons_append, List.cons.injEq] at h; rw [← h.1]
   exact hw.2.1 t rfl d rfl
theorem blanks_step : ∀ (s u : List UInt8), (∀ c ∈ s, blank c = true) → solidFrom (s ++ u) 0 = shR s.length (solidFrom u 0)
 | [], u, _ => (shR_0 _).symm
 | c :: s, u, h => by
  have h1 := blanks_step s u (fun d hd => h d (by simp [hd])); rw [List.cons_append, solidFrom_blank (s := c :: (s ++ u)) (p := 0) (by simp) (h c (by simp))]; have h2 := solidFrom_cons c (s ++ u) 0; rw [Nat.add_comm] at h2
  rw [h2, h1, shR_add]; rfl
theorem pcs_solid : ∀ (L : List Pc) (p : Option (List UInt8)), wf p L → ∃ us, solidFrom (flat L) 0 = (us, none) ∧ txt us = toks L
 | [], p, _ => ⟨[], solidFrom_end (Nat.zero_le _), rfl⟩
 | .sp s :: r, p, h => by
  obtain ⟨us, h1, h2⟩ := pcs_solid r _ h.2; refine ⟨us.map (Tok.sh s.length), ?_, ?_⟩
  · show solidFrom (s ++ flat r) 0 = _
    rw [blanks_step s _ h.1, h1]; rfl
  · simp only [toks, ← h2]
    simp [txt, Tok.sh]
 | .tk t :: r, p, h => by
  obtain ⟨us, h1, h2⟩ := pcs_solid r _ h.2.2
  have hf : firstTok (t ++ flat r) = firstTok t := by
   cases hr : flat r with
   | nil => simp
   | cons c u => exact firstTok_adj h.1 (wf_head r t c u h.2.2 hr) u
  have hd0 : (t ++ flat r).drop 0 = t ++ flat r := rfl; have hl := h.1.len
  have hpos : t.length ≠ 0 := fun e => h.1.ne (List.eq_nil_of_length_eq_zero e)
  have hk4 : (firstTok t).1 ≠ 4 ∧ (firstTok t).1 ≠ 5 := by rcases h.1.kind with e | e | e <;> rw [e] <;> decide
  have hst := solidFrom_tok (s := t ++ flat r) (p := 0) (by simp; omega) (by rw [hd0, hf, hl]; exact hpos) (by rw [hd0, hf]; exact hk4.1) (by rw [hd0, hf]; exact hk4.2); have hsh := solidFrom_shift t (flat r) _ 0 (Nat.le_refl _); rw [Nat.add_zero] at hsh
  have ht : (tokAt (t ++ flat r) 0).text = t := by unfold tokAt; rw [hd0, hf, hl]; simp
  refine ⟨tokAt (t ++ flat r) 0 :: us.map (Tok.sh t.length), ?_, ?_⟩
  · show solidFrom (t ++ flat r) 0 = _
    rw [hst, hd0, hf, hl, Nat.zero_add, hsh, h1]; rfl
  · simp only [toks, ← h2]
    simp [txt, Tok.sh, ht]
theorem tokT_name {m : List UInt8} (h : isName m = true) : TokT m ∧ (firstTok m).1 = 1 := by
 simp only [isName, Bool.and_eq_true, beq_iff_eq, Bool.not_eq_true', decide_eq_true_eq] at h; obtain ⟨⟨⟨⟨h1, h2⟩, h3⟩, h4⟩, h5⟩ := h; refine ⟨⟨?_, h4, Or.inl h3⟩, h3⟩
 rintro rfl; simp at h1
theorem name_letter {m : List UInt8} (h : isName m = true) : ∀ c ∈ m.head?, letter c = true := by
 intro c hc
 cases m with
 | nil => cases hc
 | cons x r =>
  have : x = c := by simpa using hc
  subst this; have hk := (tokT_name h).2
  cases hl : letter x
  · exfalso
    simp only [firstTok, hl, if_false, Bool.false_eq_true] at hk
    split at hk
    · simp at hk
    · split at hk
      · simp at hk
      · split at hk <;> simp at hk
  · rfl
end Bk
namespace Bk
open Go
section
variable {ts : List Tok} {n : Int}
theorem bin_nil : binOf [] = none := by decide
theorem bin_br : binOf [91] = none := by decide
theorem has_rem {σ : PS} {u : List UInt8} (hw : σ.at_ ≤ ts.length) (he : σ.err = 0) : hasP ts σ u = decide (((rem ts σ).head?).getD [] = u) := by unfold hasP; rw [peek_rem hw he]
theorem nobr_has {σ : PS} (hw : σ.at_ ≤ ts.length) (he : σ.err = 0) (h : NoBr (rem ts σ)) : hasP ts σ [91] = false := by
 rw [has_rem hw he]
 cases hr : rem ts σ with
 | nil => simp
 | cons t b => have := h t (by rw [hr]; rfl); exact decide_eq_false this
theorem stop_bin {σ : PS} {lv : Int} (hw : σ.at_ ≤ ts.length) (he : σ.err = 0) (h : StopL lv (rem ts σ)) : ∀ op, binOf (peekP ts σ).text = some op → level op < lv := by
 intro op ho; rw [peek_rem hw he] at ho
 cases hr : rem ts σ with
 | nil => rw [hr] at ho; have ho' : binOf [] = some op := ho; rw [bin_nil] at ho'; cases ho'
 | cons t b => rw [hr] at ho; exact h t (by rw [hr]; rfl) op (by simpa using ho)
theorem rem_le {σ : PS} {a b : Txt} (h : rem ts σ = a ++ b) (ha : a ≠ []) : σ.at_ + a.length ≤ ts.length := by
 have := rem_len (ts := ts) σ; rw [h] at this
 cases a with
 | nil => exact absurd rfl ha
 | cons t r => simp only [List.length_append, List.length_cons] at this ⊢; omega
theorem rem_wf {σ : PS} {a b : Txt} (hw : σ.at_ ≤ ts.length) (h : rem ts σ = a ++ b) : (adv σ a.length).at_ ≤ ts.length := by
 cases a with
 | nil => exact hw
 | cons t r => exact rem_le h (by simp)
theorem G.pl_head {a : Txt} {x : Nd} (h : G .pl a x) : ∃ m r, a = m :: r ∧ isName m = true := by
 cases h with
 | var hm => exact ⟨_, _, rfl, hm⟩
 | item hm _ => exact ⟨_, _, rfl, hm⟩
def Reads (ts : List Tok) (n : Int) : Nt → Txt → Nd → Prop
 | .ex lv, a, x => ∀ (σ : PS) (k : Nat) (rest : Txt), σ.at_ ≤ ts.length → σ.err = 0 → rem ts σ = a ++ rest → StopL lv rest → NoBr rest → 4 * a.length + 4 ≤ k → exprP ts n k lv σ = (x, adv σ a.length)
 | .cl lv x0, a, x => ∀ (σ : PS) (k : Nat) (rest : Txt), σ.at_ ≤ ts.length → σ.err = 0 → rem ts σ = a ++ rest → StopL lv rest → NoBr rest → 4 * a.length + 1 ≤ k → climbP ts n k lv x0 σ = (x, adv σ a.length)
 | .un, a, x => ∀ (σ : PS) (k : Nat) (rest : Txt), σ.at_ ≤ ts.length → σ.err = 0 → rem ts σ = a ++ rest → NoBr rest → 4 * a.length + 3 ≤ k → unaryP ts n k σ = (x, adv σ a.length)
 | .pl, a, x => ∀ (σ : PS) (k : Nat) (rest : Txt), σ.at_ ≤ ts.length → σ.err = 0 → rem ts σ = a ++ rest → NoBr rest → 4 * a.length + 1 ≤ k → placeP ts n k σ = (x, adv σ a.length)
theorem G.cl_rest {lv : Int} {x y : Nd} {b rest : Txt} (h : G (.cl lv x) b y) (hs : StopL lv rest) (hn : NoBr rest) (op : Int) (hl : lv ≤ level op) (hb : StopL (level op + 1) b) : StopL (level op + 1) (b ++ rest) ∧ NoBr (b ++ rest) := by
 cases b with
 | nil => exact ⟨fun t ht o ho => by have := hs t ht o ho; omega, hn⟩
 | cons t r =>
  refine ⟨fun u hu => hb u (by simpa using hu), fun u hu => ?_⟩; obtain ⟨o, ho, -⟩ := h.head t r rfl
  have : u = t := by simpa using hu.symm
  subst this; rintro rfl
  rw [bin_br] at ho; cases ho
theorem G.cl_nobr {lv : Int} {x y : Nd} {b rest : Txt} (h : G (.cl lv x) b y) (hn : NoBr rest) : NoBr (b ++ rest) := by
 cases b with
 | nil => exact hn
 | cons t r =>
  intro u hu; obtain ⟨o, ho, -⟩ := h.head t r rfl
  have : u = t := by simpa using hu.symm
  subst this; rintro rfl
  rw [bin_br] at ho; cases ho
theorem stop_lit {lv : Int} {t : List UInt8} {r : Txt} (h : binOf t = none) : StopL lv (t :: r) := fun u hu op ho => by
 have : u = t := by simpa using hu.symm
 subst this
 rw [h] at ho; cases ho
theorem nobr_lit {t : List UInt8} {r : Txt} (h : t ≠ [91]) : NoBr (t :: r) := fun u hu => by
 have : u = t := by simpa using hu.symm
 subst this; exact h
theorem G.reads (hd : DigitKinds ts) {nt : Nt} {a : Txt} {x : Nd} (h : G nt a x) : Reads ts n nt a x := by
 induction h with
 | @ex lv a b x y h1 h2 i1 i2 =>
  intro σ k rest hw he hr hs hn hk; obtain ⟨k, rfl⟩ : ∃ j, k = j + 1 := ⟨k - 1, by omega⟩; simp only [List.length_append] at hk ⊢; rw [List.append_assoc] at hr; rw [exprP, i1 σ k _ hw he hr (h2.cl_nobr hn) (by omega)]; simp only; rw [i2 (adv σ a.length) k rest (rem_wf hw hr) he (rem_adv hr) hs hn (by omega), adv_adv]
 | @cl0 lv x =>
  intro σ k rest hw he hr hs hn hk; obtain ⟨k, rfl⟩ : ∃ j, k = j + 1 := ⟨k - 1, by omega⟩; rw [List.nil_append] at hr; have hb := stop_bin hw he (hr.symm ▸ hs); rw [climbP]
  split
  · rfl
  · rename_i op ho
    rw [if_pos (hb op ho)]; rfl
 | @cl1 lv op t a b x y z h1 h2 h3 h4 h5 i3 i5 =>
  intro σ k rest hw he hr hs hn hk; obtain ⟨k, rfl⟩ : ∃ j, k = j + 1 := ⟨k - 1, by omega⟩; simp only [List.length_cons, List.length_append] at hk ⊢
  have hr' : rem ts σ = t :: (a ++ (b ++ rest)) := by rw [hr]; simp
  obtain ⟨s1, s2⟩ := h5.cl_rest hs hn op h2 h4; have hl := rem_lt hr'; rw [climbP, peek_cons hr' he, h1]; simp only; rw [if_neg (by omega), next_adv, i3 (adv σ 1) k (b ++ rest) hl he (rem_cons hr') s1 s2 (by omega)]; simp only; have hr2 := rem_cons hr'; rw [i5 (adv (adv σ 1) a.length) k rest (rem_wf hl hr2) he (rem_adv hr2) hs hn (by omega), adv_adv, adv_adv]
  exact Prod.ext rfl (congrArg (adv σ) (by omega))
 | @neg a x h1 i1 =>
  intro σ k rest hw he hr hn hk; obtain ⟨k, rfl⟩ : ∃ j, k = j + 1 := ⟨k - 1, by omega⟩; simp only [List.length_cons] at hk ⊢; have hr' : rem ts σ = [45] :: (a ++ rest) := hr; rw [unaryP, has_cons hr' he, if_pos (by decide), next_adv, i1 (adv σ 1) k rest (rem_lt hr') he (rem_cons hr') hn (by omega), adv_adv, Nat.add_comm 1]
 | @not a x h1 i1 =>
  intro σ k rest hw he hr hn hk; obtain ⟨k, rfl⟩ : ∃ j, k = j + 1 := ⟨k - 1, by omega⟩; simp only [List.length_cons] at hk ⊢; have hr' : rem ts σ = [33] :: (a ++ rest) := hr; rw [unaryP, has_cons hr' he, if_neg (by decide), has_cons hr' he, if_pos (by decide), next_adv, i1 (adv σ 1) k rest (rem_lt hr') he (rem_cons hr') hn (by omega), adv_adv, Nat.add_comm 1]
 | @num t h1 h2 =>
  intro σ k rest hw he hr hn hk; obtain ⟨k, rfl⟩ : ∃ j, k = j + 2 := ⟨k - 2, by simp at hk; omega⟩; have hr' : rem ts σ = t :: rest := hr; have hne : t ≠ [45] ∧ t ≠ [33] := ⟨by rintro rfl; revert h1; decide, by rintro rfl; revert h1; decide⟩; rw [unaryP, has_cons hr' he, if_neg (by simpa using hne.1), has_cons hr' he, if_neg (by simpa using hne.2), primaryP, if_pos ((kind_dig hd hr' he).2 h1)]
  have hnum : numberP ts n 0 9223372036854775807 σ = ((digitsVal t : Int), adv σ 1) := by
   unfold numberP
   rw [if_pos ((kind_dig hd hr' he).2 h1), peek_cons hr' he, if_pos ⟨h2, by omega, h2⟩]; rfl
  rw [hnum]; rfl
 | @top m h1 =>
  intro σ k rest hw he hr hn hk; obtain ⟨k, rfl⟩ : ∃ j, k = j + 2 := ⟨k - 2, by simp at hk; omega⟩; have hr1 : rem ts σ = [116, 111, 112] :: ([40] :: m :: [41] :: rest) := hr; have hr2 := rem_cons hr1; have hr3 := rem_cons hr2; have hr4 := rem_cons hr3; rw [unaryP, has_cons hr1 he, if_neg (by decide), has_cons hr1 he, if_neg (by decide), primaryP, if_neg (fun e => by have := (kind_dig hd hr1 he).1 e; revert this; decide), has_cons hr1 he, if_pos (by decide), next_adv, expect_cons hr2 he, name_cons hr3 he h1]; simp only
  rw [expect_cons hr4 he]; rfl
 | @size m h1 =>
  intro σ k rest hw he hr hn hk; obtain ⟨k, rfl⟩ : ∃ j, k = j + 2 := ⟨k - 2, by simp at hk; omega⟩; have hr1 : rem ts σ = [115, 105, 122, 101] :: ([40] :: m :: [41] :: rest) := hr; have hr2 := rem_cons hr1; have hr3 := rem_cons hr2; have hr4 := rem_cons hr3; rw [unaryP, has_cons hr1 he, if_neg (by decide), has_cons hr1 he, if_neg (by decide), primaryP, if_neg (fun e => by have := (kind_dig hd hr1 he).1 e; revert this; decide), has_cons hr1 he, if_neg (by decide), has_cons hr1 he, if_pos (by decide), next_adv, expect_cons hr2 he, name_cons hr3 he h1]; simp only
  rw [expect_cons hr4 he]; rfl
 | @par a x h1 i1 =>
  intro σ k rest hw he hr hn hk; simp only [List.length_cons, List.length_append, List.length_nil] at hk ⊢; obtain ⟨k, rfl⟩ : ∃ j, k = j + 2 := ⟨k - 2, by omega⟩
  have hr1 : rem ts σ = [40] :: (a ++ ([41] :: rest)) := by rw [hr]; simp
  have hr2 := rem_cons hr1; have hr3 := rem_adv hr2
  rw [unaryP, has_cons hr1 he, if_neg (by decide), has_cons hr1 he, if_neg (by decide), primaryP, if_neg (fun e => by have := (kind_dig hd hr1 he).1 e; revert this; decide), has_cons hr1 he, if_neg (by decide), has_cons hr1 he, if_neg (by decide), has_cons hr1 he, if_pos (by decide), next_adv,
   i1 (adv σ 1) k _ (rem_lt hr1) he hr2 (stop_lit (by decide)) (nobr_lit (by decide)) (by omega)]
  simp only; rw [expect_cons hr3 he, adv_adv, adv_adv]
  exact Prod.ext rfl (congrArg (adv σ) (by omega))
 | @place a x h1 i1 =>
  intro σ k rest hw he hr hn hk; obtain ⟨k, rfl⟩ : ∃ j, k = j + 2 := ⟨k - 2, by omega⟩; obtain ⟨m, r, rfl, hm⟩ := h1.pl_head; have hr1 : rem ts σ = m :: (r ++ rest) := hr; obtain ⟨n1, n2, n3, n4, n5, n6⟩ := name_not hm; rw [unaryP, has_cons hr1 he, if_neg (by simpa using n1), has_cons hr1 he, if_neg (by simpa using n2), primaryP, if_neg (fun e => by have := (kind_dig hd hr1 he).1 e; rw [n6] at this; cases this), has_cons hr1 he, if_neg (by simpa using n4), has_cons hr1 he, if_neg (by simpa using n5), has_cons hr1 he, if_neg (by simpa using n3)]
  exact i1 σ k rest hw he hr hn (by omega)
 | @var m h1 =>
  intro σ k rest hw he hr hn hk; obtain ⟨k, rfl⟩ : ∃ j, k = j + 1 := ⟨k - 1, by omega⟩; have hr1 : rem ts σ = m :: rest := hr; rw [placeP, name_cons hr1 he h1]; simp only
  rw [nobr_has (σ := adv σ 1) (rem_lt hr1) he ((rem_cons hr1).symm ▸ hn), if_neg (by decide)]; rfl
 | @item m a x h1 h2 i2 =>
  intro σ k rest hw he hr hn hk; simp only [List.length_cons, List.length_append, List.length_nil] at hk ⊢; obtain ⟨k, rfl⟩ : ∃ j, k = j + 1 := ⟨k - 1, by omega⟩
  have hr1 : rem ts σ = m :: ([91] :: (a ++ ([93] :: rest))) := by rw [hr]; simp
  have hr2 := rem_cons hr1; have hr3 := rem_cons hr2; have hr4 := rem_adv hr3; rw [placeP, name_cons hr1 he h1]; simp only; rw [has_cons hr2 he, if_pos (by decide), next_adv, i2 (adv (adv σ 1) 1) k _ (rem_lt hr2) he hr3 (stop_lit (by decide)) (nobr_lit (by decide)) (by omega)]; simp only; rw [expect_cons hr4 he, adv_adv, adv_adv, adv_adv]
  exact Prod.ext rfl (congrArg (adv σ) (by omega))
end
end Bk
namespace Bk
open Go
section
variable {ts : List Tok} {n : Int}
def Seg (ts : List Tok) (σ σ' : PS) (a : Txt) : Prop := rem ts σ = a ++ rem ts σ'
theorem Seg.refl (σ : PS) : Seg ts σ σ [] := rfl
theorem Seg.trans {σ σ1 σ2 : PS} {a b : Txt} (h : Seg ts σ σ1 a) (k : Seg ts σ1 σ2 b) : Seg ts σ σ2 (a ++ b) := by unfold Seg at *; rw [h, k, List.append_assoc]
end
end Bk
namespace Bk
open Go
section
variable {ts : List Tok} {n : Int}
end
end Bk
namespace Bk
open Go
def st00 : PS := ⟨0, 0, 0⟩
def endE (ts : List Tok) (n : Int) (r : Nd × PS) : Nd × Int × Int := if (limitP r.1 0 (finishP ts n r.2)).err ≠ 0 then (zeroNd, (limitP r.1 0 (finishP ts n r.2)).off, (limitP r.1 0 (finishP ts n r.2)).err) else (r.1, 0, 0)
theorem parseE_at {s : List UInt8} {ts : List Tok} (hs : ¬ 65536 < s.length) (h : solidFrom s 0 = (ts, none)) {K : Nat} (hK : 4 * ts.length + 4 ≤ K) : parseExpr s = endE ts s.length (exprP ts s.length K 1 st00) ∧ DigitKinds ts := by
 have hst := startOk hs (by rw [h]); rw [h] at hst; simp only at hst; have hd := digitKinds_start s; have hl := start_len s; rw [hst] at hd hl; simp only at hd hl; refine ⟨?_, hd⟩
 have hm : mS ts st00 = ts.length := by simp [mS, st00]
 have e : exprP ts s.length (fuelP s) 1 st00 = exprP ts s.length K 1 st00 := by
  by_cases c : K ≤ fuelP s
  · exact expr_same c 1 st00 (Nat.zero_le _) (by rw [hm]; omega)
  · exact (expr_same (by omega : fuelP s ≤ K) 1 st00 (Nat.zero_le _) (by rw [hm]; unfold fuelP; omega)).symm
 rw [← e]
 unfold parseExpr endE
 rw [hst]
 rfl
theorem rem_st {ts : List Tok} : rem ts st00 = txt ts := rfl
theorem txt_len (ts : List Tok) : (txt ts).length = ts.length := by simp [txt]
theorem parseE_of {s : List UInt8} {ts : List Tok} {x : Nd} (hs : ¬ 65536 < s.length) (h : solidFrom s 0 = (ts, none)) (g : G (.ex 1) (txt ts) x) (h1 : x.depth ≤ 80) (h2 : x.size ≤ 2000) : parseExpr s = (x, 0, 0) := by
 obtain ⟨e, hd⟩ := parseE_at hs h (K := 4 * ts.length + 4) (Nat.le_refl _); rw [e]; have hr := g.reads (n := s.length) hd st00 (4 * ts.length + 4) [] (Nat.zero_le _) rfl (by rw [rem_st, List.append_nil]) (fun t ht => by cases ht) (fun t ht => by cases ht) (by rw [txt_len]; exact Nat.le_refl _); rw [hr, txt_len]
 unfold endE
 have hf : finishP ts s.length (adv st00 ts.length) = adv st00 ts.length := by unfold finishP; rw [if_neg (by simp [adv, st00])]
 have hl : limitP x 0 (adv st00 ts.length) = adv st00 ts.length := by
  unfold limitP
  rw [if_neg (by simp [adv, st00]), if_neg (by omega), if_neg (by omega)]
 simp only [hf, hl]; rw [if_neg (by simp [adv, st00])]
def parT (i j : Nat) (s : List UInt8) : List UInt8 := List.replicate i 40 ++ s ++ 10 :: List.replicate j 41
end Bk
namespace Bk
open Go
theorem dec_val (u : Nat) : digitsVal (Lib.decDigits u) = u ∧ (∀ c ∈ Lib.decDigits u, digit c = true) ∧ Lib.decDigits u ≠ [] := by
 induction u using Nat.strongRecOn with
 | _ u ih =>
  have hd : ∀ k, k < 10 → (UInt8.ofNat (48 + k)).toNat = 48 + k := fun k hk => by rw [UInt8.toNat_ofNat']; omega
  have hdig : ∀ k, k < 10 → digit (UInt8.ofNat (48 + k)) = true := fun k hk => by
   simp only [digit, hd k hk, Bool.and_eq_true, decide_eq_true_eq]; omega
  rw [Lib.decDigits]
  split
  · rename_i h
    refine ⟨?_, ?_, by simp⟩
    · unfold digitsVal
      simp only [List.foldl_cons, List.foldl_nil, hd u h]; omega
    · intro c hc
      have : c = UInt8.ofNat (48 + u) := by simpa using hc
      subst this; exact hdig u h
  · rename_i h
    obtain ⟨h1, h2, h3⟩ := ih (u / 10) (by omega); refine ⟨?_, ?_, by simp⟩
    · unfold digitsVal at *
      rw [List.foldl_append, h1]; simp only [List.foldl_cons, List.foldl_nil, hd (u % 10) (by omega)]
      omega
    · intro c hc
      rcases List.mem_append.1 hc with hc | hc
      · exact h2 c hc
      · have : c = UInt8.ofNat (48 + u % 10) := by simpa using hc
        subst this; exact hdig _ (by omega)
theorem itoa_dec {n : Int} (h : 0 ≤ n) : Lib.itoa n = Lib.decDigits n.toNat := by unfold Lib.itoa; rw [if_neg (by omega)]
theorem span_all' {p : UInt8 → Bool} : ∀ (s : List UInt8), (∀ c ∈ s, p c = true) → span p s = s.length
 | [], _ => rfl
 | c :: r, h => by
  have := span_all' r (fun d hd => h d (by simp [hd]))
  unfold span at *
  rw [List.takeWhile_cons, if_pos (h c (by simp)), List.length_cons, List.length_cons, this]
theorem tokT_num {ds : List UInt8} (hne : ds ≠ []) (h : ∀ c ∈ ds, digit c = true) : TokT ds ∧ (firstTok ds).1 = 2 := by
 have : firstTok ds = (2, ds.length) := by
  cases ds with
  | nil => exact absurd rfl hne
  | cons c r =>
   have hd := h c (by simp)
   have hl : letter c = false := by
    cases hl : letter c
    · rfl
    · rw [letter_digit c hl] at hd; cases hd
   have hs := span_all' (p := digit) (c :: r) h; simp only [firstTok, hl, hd, if_true, if_false, Bool.false_eq_true, hs]
 exact ⟨⟨hne, by rw [this], by rw [this]; exact Or.inr (Or.inl rfl)⟩, by rw [this]⟩
def pw (b : Bool) (L : List Pc) : List Pc := if b then .tk [40] :: (L ++ [.tk [41]]) else L
def Nd.pcs : Nd → List Pc
 | .mk k n s l =>
  if k = 1 then [.tk (Lib.itoa n)] else if k = 2 then [.tk s]
  else if k = 3 then match l with | [x] => .tk s :: .tk [91] :: (x.pcs ++ [.tk [93]]) | _ => []
  else if k = 4 then [.tk [116, 111, 112], .tk [40], .tk s, .tk [41]] else if k = 5 then [.tk [115, 105, 122, 101], .tk [40], .tk s, .tk [41]]
  else if k = 6 ∨ k = 7 then match l with | [x] => .tk (symbol k) :: pw (isBin x.kind) x.pcs | _ => []
  else match l with
   | [x, y] => pw (parenL x.kind k) x.pcs ++ (.sp [32] :: .tk (symbol k) :: .sp [32] :: pw (parenR y.kind k) y.pcs)
   | _ => []
theorem flat_pw (b : Bool) (L : List Pc) : flat (pw b L) = wrap (flat L) b := by
 unfold pw wrap
 cases b
 · rfl
 · simp only [if_true, flat, flat_append, List.append_nil]; simp
theorem toks_pw (b : Bool) (L : List Pc) : toks (pw b L) = if b then [40] :: (toks L ++ [[41]]) else toks L := by
 unfold pw
 cases b
 · rfl
 · simp only [if_true, toks, toks_append]
def OpenP (p : Option (List UInt8)) : Prop := ∀ t ∈ p, (firstTok t).1 = 3
def CloseT (t : List UInt8) : Prop := Adj t 41 ∧ Adj t 93 ∧ Adj t 59 ∧ Adj t 44
theorem closeT_name {m : List UInt8} (h : (firstTok m).1 = 1) : CloseT m := by
 refine ⟨?_, ?_, ?_, ?_⟩ <;> exact ⟨fun _ => (by decide), fun e => (by rw [h] at e; cases e), fun e => (by rw [h] at e; cases e)⟩
theorem closeT_num {m : List UInt8} (h : (firstTok m).1 = 2) : CloseT m := by
 refine ⟨?_, ?_, ?_, ?_⟩ <;> exact ⟨fun e => (by rw [h] at e; cases e), fun _ => (by decide), fun e => (by rw [h] at e; cases e)⟩
theorem closeT_sign {m : List UInt8} (h : (firstTok m).1 = 3) : CloseT m := by
 refine ⟨?_, ?_, ?_, ?_⟩ <;> exact ⟨fun e => (by rw [h] at e; cases e), fun e => (by rw [h] at e; cases e), fun _ => (by decide)⟩
theorem adj_open {t : List UInt8} {c : UInt8} (h : (firstTok t).1 = 3) (hc : c ≠ 61 ∧ c ≠ 62 ∧ c ≠ 38 ∧ c ≠ 124) : Adj t c := ⟨fun e => (by rw [h] at e; cases e), fun e => (by rw [h] at e; cases e), fun _ => hc⟩
theorem letter_open {c : UInt8} (h : letter c = true) : c ≠ 61 ∧ c ≠ 62 ∧ c ≠ 38 ∧ c ≠ 124 := by
 simp only [letter, Bool.and_eq_true, decide_eq_true_eq] at h
 refine ⟨?_, ?_, ?_, ?_⟩ <;> (rintro rfl; simp at h)
theorem digit_open {c : UInt8} (h : digit c = true) : c ≠ 61 ∧ c ≠ 62 ∧ c ≠ 38 ∧ c ≠ 124 := by
 simp only [digit, Bool.and_eq_true, decide_eq_true_eq] at h
 refine ⟨?_, ?_, ?_, ?_⟩ <;> (rintro rfl; simp at h)
theorem tokT_lit {t : List UInt8} (h : (!t.isEmpty && ((firstTok t).2 == t.length) && (((firstTok t).1 == 1) || ((firstTok t).1 == 3))) = true) : TokT t := by
 simp only [Bool.and_eq_true, Bool.or_eq_true, beq_iff_eq, Bool.not_eq_true'] at h; obtain ⟨⟨h1, h2⟩, h3⟩ := h; refine ⟨by rintro rfl; simp at h1, h2, ?_⟩
 rcases h3 with h3 | h3
 · exact Or.inl h3
 · exact Or.inr (Or.inr h3)
theorem symbol_tok {k : Int} (h0 : 6 ≤ k) (h1 : k ≤ 23) : TokT (symbol k) ∧ (firstTok (symbol k)).1 = 3 := by
 have : k = 6 ∨ k = 7 ∨ k = 8 ∨ k = 9 ∨ k = 10 ∨ k = 11 ∨ k = 12 ∨ k = 13 ∨ k = 14 ∨ k = 15 ∨ k = 16 ∨ k = 17 ∨ k = 18 ∨ k = 19 ∨ k = 20 ∨ k = 21 ∨ k = 22 ∨ k = 23 := by omega
 rcases this with rfl | rfl | rfl | rfl | rfl | rfl | rfl | rfl | rfl | rfl | rfl | rfl | rfl | rfl | rfl | rfl | rfl | rfl <;> exact ⟨tokT_lit (by decide), by decide⟩
structure Nice (L : List Pc) : Prop where
 wf : ∀ p, OpenP p → wf p L
 fin : ∀ p, ∃ t, endOf p L = some t ∧ CloseT t
theorem openP_sign {t : List UInt8} (h : (firstTok t).1 = 3) : OpenP (some t) := fun u hu => by
 have : t = u := by simpa using hu
 rw [← this]; exact h
theorem openP_none : OpenP none := fun u hu => by cases hu
theorem Nice.par {L : List Pc} (h : Nice L) : Nice (.tk [40] :: (L ++ [.tk [41]])) := by
 have ho : TokT [40] := tokT_lit (by decide); have hc : TokT [41] := tokT_lit (by decide); refine ⟨fun p hp => ⟨ho, fun t ht c hc' => ?_, ?_⟩, fun p => ?_⟩
 · have : c = 40 := by simpa using hc'.symm
   subst this
   exact adj_open (hp t ht) (by decide)
 · rw [wf_append]
   refine ⟨h.wf _ (openP_sign (by decide)), ?_⟩; obtain ⟨t, e, ct⟩ := h.fin (some [40]); rw [e]
   exact ⟨hc, fun u hu c hc' => by
    have : c = 41 := by simpa using hc'.symm
    have : t = u := by simpa using hu
    subst_vars; exact ct.1, trivial⟩
 · refine ⟨[41], ?_, closeT_sign (by decide)⟩
   simp only [endOf, endOf_append]
theorem Nice.pw {L : List Pc} (h : Nice L) (b : Bool) : Nice (pw b L) := by
 unfold Bk.pw
 cases b
 · exact h
 · exact h.par
theorem nice_tok {t : List UInt8} (ht : TokT t) (ho : ∀ c ∈ t.head?, c ≠ 61 ∧ c ≠ 62 ∧ c ≠ 38 ∧ c ≠ 124) (hc : CloseT t) : Nice [.tk t] :=
 ⟨fun p hp => ⟨ht, fun u hu c hc => adj_open (hp u hu) (ho c hc), trivial⟩, fun p => ⟨t, rfl, hc⟩⟩
theorem head_of {t : List UInt8} {q : UInt8 → Prop} (h : ∀ c ∈ t, q c) : ∀ c ∈ t.head?, q c := fun c hc => by
 cases t with
 | nil => cases hc
 | cons x r => have : x = c := by simpa using hc
               subst this; exact h x (by simp)
theorem pcs_nice (N : Nat) : ∀ t : Nd, t.size < N → t.isExpr = true → Nice t.pcs := by
 induction N with
 | zero => intro t h; omega
 | succ N ih =>
  intro t hs he; obtain ⟨k, n, s, l⟩ := t; simp only [Nd.size] at hs
  unfold Nd.isExpr at he
  unfold Nd.pcs
  by_cases c1 : k = 1
  · rw [if_pos c1] at he ⊢
    simp only [Bool.and_eq_true, decide_eq_true_eq] at he; obtain ⟨h1, h2, h3⟩ := dec_val n.toNat; rw [itoa_dec he.1.1]
    exact nice_tok (tokT_num h3 h2).1 (head_of (fun c hc => digit_open (h2 c hc))) (closeT_num (tokT_num h3 h2).2)
  rw [if_neg c1] at he ⊢
  by_cases c2 : k = 2
  · rw [if_pos (Or.inl c2)] at he
    rw [if_pos c2]; simp only [Bool.and_eq_true, named] at he; have hn := he.1.2
    exact nice_tok (tokT_name hn).1 (fun c hc => letter_open (name_letter hn c hc)) (closeT_name (tokT_name hn).2)
  by_cases c4 : k = 4 ∨ k = 5
  · rw [if_pos (Or.inr c4)] at he
    simp only [Bool.and_eq_true, named] at he; have hn := he.1.2
    have key : ∀ kw : List UInt8, TokT kw → (firstTok kw).1 = 1 → (∀ c ∈ kw.head?, letter c = true) → Nice [.tk kw, .tk [40], .tk s, .tk [41]] := by
     intro kw hkw hk1 hkl; refine ⟨fun p hp => ⟨hkw, fun u hu c hc => adj_open (hp u hu) (letter_open (hkl c hc)), tokT_lit (by decide), fun u hu c hc => ?_, (tokT_name hn).1, fun u hu c hc => ?_, tokT_lit (by decide), fun u hu c hc => ?_, trivial⟩, fun p => ⟨_, rfl, closeT_sign (by decide)⟩⟩
     · have : c = 40 := by simpa using hc.symm
       have : kw = u := by simpa using hu
       subst_vars
       exact ⟨fun _ => (by decide), fun e => (by rw [hk1] at e; cases e), fun e => (by rw [hk1] at e; cases e)⟩
     · have : [40] = u := by simpa using hu
       rw [← this]
       exact adj_open (by decide) (letter_open (name_letter hn c hc))
     · have : c = 41 := by simpa using hc.symm
       have : s = u := by simpa using hu
       subst_vars
       exact (closeT_name (tokT_name hn).2).1
    rw [if_neg c2, if_neg (by omega)]
    rcases c4 with c4 | c4
    · rw [if_pos c4]; exact key _ (tokT_lit (by decide)) (by decide) (by simp; decide)
    · rw [if_neg (by omega), if_pos c4]; exact key _ (tokT_lit (by decide)) (by decide) (by simp; decide)
  rw [if_neg (by omega)] at he; rw [if_neg c2]
  by_cases c3 : k = 3
  · rw [if_pos c3] at he ⊢
    simp only [Bool.and_eq_true, named] at he; obtain ⟨⟨-, hn⟩, hx⟩ := he
    split at hx
    · rename_i x
      simp only [rowSize] at hs; have hi := ih x (by omega) hx; refine ⟨fun p hp => ⟨(tokT_name hn).1, fun u hu c hc => adj_open (hp u hu) (letter_open (name_letter hn c hc)), tokT_lit (by decide), fun u hu c hc => ?_, ?_⟩, fun p => ⟨[93], ?_, closeT_sign (by decide)⟩⟩
      · have : c = 91 := by simpa using hc.symm
        have : s = u := by simpa using hu
        subst_vars
        exact ⟨fun _ => (by decide), fun e => (by rw [(tokT_name hn).2] at e; cases e), fun e => (by rw [(tokT_name hn).2] at e; cases e)⟩
      · rw [wf_append]
        refine ⟨hi.wf _ (openP_sign (by decide)), ?_⟩; obtain ⟨t, e, ct⟩ := hi.fin (some [91]); rw [e]
        exact ⟨tokT_lit (by decide), fun u hu c hc => by
         have : c = 93 := by simpa using hc.symm
         have : t = u := by simpa using hu
         subst_vars; exact ct.2.1, trivial⟩
      · simp only [endOf, endOf_append]
    · cases hx
  rw [if_neg c3] at he ⊢; rw [if_neg (by omega), if_neg (by omega)]
  by_cases c6 : k = 6 ∨ k = 7
  · rw [if_pos c6] at he ⊢
    simp only [Bool.and_eq_true] at he; obtain ⟨-, hx⟩ := he
    split at hx
    · rename_i x
      simp only [rowSize] at hs; have hi := (ih x (by omega) hx).pw (isBin x.kind); have hsy := symbol_tok (k := k) (by omega) (by omega); refine ⟨fun p hp => ⟨hsy.1, fun u hu c hc => adj_open (hp u hu) ?_, hi.wf _ (openP_sign hsy.2)⟩, fun p => hi.fin _⟩
      rcases c6 with rfl | rfl
      · have : c = 45 := by simpa [symbol, symbols] using hc.symm
        subst this; decide
      · have : c = 33 := by simpa [symbol, symbols] using hc.symm
        subst this; decide
    · cases hx
  rw [if_neg c6] at he ⊢
  by_cases c8 : 8 ≤ k ∧ k ≤ 23
  · rw [if_pos c8] at he
    simp only [Bool.and_eq_true] at he; obtain ⟨-, hx⟩ := he
    split at hx
    · rename_i x y
      simp only [rowSize] at hs; simp only [Bool.and_eq_true] at hx; have h1 := (ih x (by omega) hx.1).pw (parenL x.kind k); have h2 := (ih y (by omega) hx.2).pw (parenR y.kind k); have hsy := symbol_tok (k := k) (by omega) (by omega); refine ⟨fun p hp => ?_, fun p => ?_⟩
      · rw [wf_append]
        refine ⟨h1.wf p hp, by simp; decide, hsy.1, ?_, by simp; decide, ?_⟩
        · intro u hu; simp at hu
        · exact h2.wf _ (by intro u hu; simp at hu)
      · simp only [endOf_append, endOf]
        exact h2.fin _
    · cases hx
  · rw [if_neg c8] at he; cases he
theorem flat_pcs (N : Nat) : ∀ t : Nd, t.size < N → t.isExpr = true → flat t.pcs = t.text := by
 induction N with
 | zero => intro t h; omega
 | succ N ih =>
  intro t hs he; obtain ⟨k, n, s, l⟩ := t; simp only [Nd.size] at hs
  unfold Nd.isExpr at he
  unfold Nd.pcs Nd.text
  by_cases c1 : k = 1
  · rw [if_pos c1, if_pos c1]; simp [flat]
  rw [if_neg c1] at he ⊢; rw [if_neg c1]
  by_cases c2 : k = 2
  · rw [if_pos c2, if_pos c2]; simp [flat]
  rw [if_neg c2, if_neg c2]
  by_cases c3 : k = 3
  · rw [if_neg (by omega), if_pos c3] at he
    rw [if_pos c3, if_pos c3]; simp only [Bool.and_eq_true] at he; obtain ⟨-, hx⟩ := he
    split at hx
    · rename_i x
      simp only [rowSize] at hs; simp only [flat, flat_append, ih x (by omega) hx]
      simp
    · cases hx
  rw [if_neg c3, if_neg c3]
  by_cases c4 : k = 4
  · rw [if_pos c4, if_pos c4]; simp [flat]
  rw [if_neg c4, if_neg c4]
  by_cases c5 : k = 5
  · rw [if_pos c5, if_pos c5]; simp [flat]
  rw [if_neg c5, if_neg c5]; rw [if_neg (by omega), if_neg (by omega)] at he
  by_cases c6 : k = 6 ∨ k = 7
  · rw [if_pos c6] at he
    rw [if_pos c6, if_pos c6]; simp only [Bool.and_eq_true] at he; obtain ⟨-, hx⟩ := he
    split at hx
    · rename_i x
      simp only [rowSize] at hs; simp only [flat, flat_pw, ih x (by omega) hx]
    · cases hx
  rw [if_neg c6] at he; rw [if_neg c6, if_neg c6]
  by_cases c8 : 8 ≤ k ∧ k ≤ 23
  · rw [if_pos c8] at he
    simp only [Bool.and_eq_true] at he; obtain ⟨-, hx⟩ := he
    split at hx
    · rename_i x y
      simp only [rowSize] at hs; simp only [Bool.and_eq_true] at hx; simp only [flat_append, flat, flat_pw, ih x (by omega) hx.1, ih y (by omega) hx.2]
      simp
    · cases hx
  · rw [if_neg c8] at he; cases he
end Bk
namespace Bk
open Go
theorem G.cl_mono {l1 l2 : Int} {x y : Nd} {b : Txt} (h : G (.cl l1 x) b y) (hl : l2 ≤ l1) : G (.cl l2 x) b y := by
 generalize hn : Nt.cl l1 x = nt at h
 induction h generalizing x with
 | ex _ _ => cases hn
 | cl0 => cases hn; exact G.cl0
 | cl1 h1 h2 h3 h4 h5 _ i5 => cases hn; exact G.cl1 h1 (by omega) h3 h4 (i5 rfl)
 | neg => cases hn
 | not => cases hn
 | num => cases hn
 | top => cases hn
 | size => cases hn
 | par => cases hn
 | place => cases hn
 | var => cases hn
 | item => cases hn
theorem G.ex_mono {l1 l2 : Int} {y : Nd} {b : Txt} (h : G (.ex l1) b y) (hl : l2 ≤ l1) : G (.ex l2) b y := by
 cases h with
 | ex h1 h2 => exact G.ex h1 (h2.cl_mono hl)
theorem G.un_ex {a : Txt} {x : Nd} (h : G .un a x) (lv : Int) : G (.ex lv) a x := by
 have := G.ex h (G.cl0 (lv := lv))
 rwa [List.append_nil] at this
theorem G.cl_snoc {lv op : Int} {t : List UInt8} {x y z : Nd} {b c : Txt} (h : G (.cl lv x) b y) (hb : binOf t = some op) (hl : level op = lv) (hc : G (.ex (level op + 1)) c z) : G (.cl lv x) (b ++ t :: c) (.mk op 0 [] [y, z]) := by
 generalize hn : Nt.cl lv x = nt at h
 induction h generalizing x with
 | ex _ _ => cases hn
 | @cl0 l x0 =>
  cases hn
  have := G.cl1 (lv := lv) (x := x0) hb (by omega) hc (fun u hu => by cases hu) (G.cl0 (lv := lv))
  rwa [List.append_nil] at this
 | @cl1 l o u a b x0 y0 z0 h1 h2 h3 h4 h5 _ i5 =>
  cases hn
  have := G.cl1 (lv := lv) (x := x0) h1 h2 h3 (b := b ++ t :: c) ?_ (i5 rfl)
  · rw [show u :: (a ++ (b ++ t :: c)) = u :: (a ++ b) ++ t :: c by simp] at this
    exact this
  · cases b with
    | nil =>
     intro v hv o' ho'
     have : t = v := by simpa using hv
     subst this
     rw [hb] at ho'; cases ho'
     omega
    | cons v r => exact fun w hw => h4 w (by simpa using hw)
 | neg => cases hn
 | not => cases hn
 | num => cases hn
 | top => cases hn
 | size => cases hn
 | par => cases hn
 | place => cases hn
 | var => cases hn
 | item => cases hn
theorem binOf_symbol {k : Int} (h0 : 8 ≤ k) (h1 : k ≤ 23) : binOf (symbol k) = some k := by
 have : k = 8 ∨ k = 9 ∨ k = 10 ∨ k = 11 ∨ k = 12 ∨ k = 13 ∨ k = 14 ∨ k = 15 ∨ k = 16 ∨ k = 17 ∨ k = 18 ∨ k = 19 ∨ k = 20 ∨ k = 21 ∨ k = 22 ∨ k = 23 := by omega
 rcases this with rfl | rfl | rfl | rfl | rfl | rfl | rfl | rfl | rfl | rfl | rfl | rfl | rfl | rfl | rfl | rfl <;> decide
structure Said (t : Nd) : Prop where
 bin : isBin t.kind = true → G (.ex (level t.kind)) (toks t.pcs) t
 un : isBin t.kind = false → G .un (toks t.pcs) t
 pl : t.isPlace = true → G .pl (toks t.pcs) t
theorem Said.ex {t : Nd} (h : Said t) {lv : Int} (hl : isBin t.kind = true → lv ≤ level t.kind) : G (.ex lv) (toks t.pcs) t := by
 cases hb : isBin t.kind
 · exact (h.un hb).un_ex lv
 · exact (h.bin hb).ex_mono (hl hb)
theorem bin_level {k : Int} (h : isBin k = true) : 1 ≤ level k := by
 simp only [isBin, Bool.and_eq_true, decide_eq_true_eq] at h
 exact (level_bd h.1 h.2).1
theorem Said.par {t : Nd} (h : Said t) : G .un (toks (pw true t.pcs)) t := by
 rw [toks_pw]
 exact G.par (h.ex (fun hb => bin_level hb))
theorem Said.opd {t : Nd} (h : Said t) {lv : Int} {b : Bool} (hb : b = false → isBin t.kind = true → lv ≤ level t.kind) : G (.ex lv) (toks (pw b t.pcs)) t := by
 cases b
 · exact h.ex (hb rfl)
 · exact h.par.un_ex lv
theorem pcs_said (N : Nat) : ∀ t : Nd, t.size < N → t.isExpr = true → t.wf → Said t := by
 induction N with
 | zero => intro t h; omega
 | succ N ih =>
  intro t hs he hw; obtain ⟨k, n, s, l⟩ := t; simp only [Nd.size] at hs; have he0 := he
  unfold Nd.isExpr at he
  have nb : ¬ (8 ≤ k ∧ k ≤ 23) → isBin k = false := fun h => by
   cases hb : isBin k
   · rfl
   · simp only [isBin, Bool.and_eq_true, decide_eq_true_eq] at hb; exact absurd hb h
  by_cases c1 : k = 1
  · rw [if_pos c1] at he
    subst c1; simp only [Bool.and_eq_true, decide_eq_true_eq, List.isEmpty_iff] at he; obtain ⟨⟨h0, rfl⟩, rfl⟩ := he; obtain ⟨v1, v2, v3⟩ := dec_val n.toNat
    have e : (Nd.mk 1 n [] []).pcs = [.tk (Lib.decDigits n.toNat)] := by unfold Nd.pcs; rw [if_pos rfl, itoa_dec h0]
    have hsd : startsDigit (Lib.decDigits n.toNat) = true := by
     cases hd : Lib.decDigits n.toNat with
     | nil => exact absurd hd v3
     | cons c r => simpa [startsDigit] using v2 c (by rw [hd]; simp)
    have hmax : n ≤ 9223372036854775807 := hw.2.2.2.1; have hg : G .un [Lib.decDigits n.toNat] (.mk 1 (digitsVal (Lib.decDigits n.toNat)) [] []) := G.num hsd (by rw [v1]; omega); rw [v1, show ((n.toNat : Nat) : Int) = n by omega] at hg; refine ⟨fun h => (by simp [isBin, Nd.kind] at h), fun _ => by rw [e]; exact hg, fun h => (by simp [Nd.isPlace, Nd.kind] at h)⟩
  rw [if_neg c1] at he
  by_cases c245 : k = 2 ∨ k = 4 ∨ k = 5
  · rw [if_pos c245] at he
    simp only [Bool.and_eq_true, named, beq_iff_eq, List.isEmpty_iff] at he; obtain ⟨⟨rfl, hn⟩, rfl⟩ := he
    rcases c245 with rfl | rfl | rfl
    · have e : (Nd.mk 2 0 s []).pcs = [.tk s] := by unfold Nd.pcs; rw [if_neg (by decide), if_pos rfl]
      refine ⟨fun h => (by simp [isBin, Nd.kind] at h), fun _ => by rw [e]; exact G.place (G.var hn), fun _ => by rw [e]; exact G.var hn⟩
    · have e : (Nd.mk 4 0 s []).pcs = [.tk [116, 111, 112], .tk [40], .tk s, .tk [41]] := by unfold Nd.pcs; rw [if_neg (by decide), if_neg (by decide), if_neg (by decide), if_pos rfl]
      refine ⟨fun h => (by simp [isBin, Nd.kind] at h), fun _ => by rw [e]; exact G.top hn, fun h => (by simp [Nd.isPlace, Nd.kind] at h)⟩
    · have e : (Nd.mk 5 0 s []).pcs = [.tk [115, 105, 122, 101], .tk [40], .tk s, .tk [41]] := by unfold Nd.pcs; rw [if_neg (by decide), if_neg (by decide), if_neg (by decide), if_neg (by decide), if_pos rfl]
      refine ⟨fun h => (by simp [isBin, Nd.kind] at h), fun _ => by rw [e]; exact G.size hn, fun h => (by simp [Nd.isPlace, Nd.kind] at h)⟩
  rw [if_neg c245] at he
  by_cases c3 : k = 3
  · rw [if_pos c3] at he
    subst c3; simp only [Bool.and_eq_true, named, beq_iff_eq] at he; obtain ⟨⟨rfl, hn⟩, hx⟩ := he
    split at hx
    · rename_i x
      simp only [rowSize] at hs; have hi := ih x (by omega) hx hw.2.2.2.2.2.2.1
      have e : (Nd.mk 3 0 s [x]).pcs = .tk s :: .tk [91] :: (x.pcs ++ [.tk [93]]) := by
       conv => lhs; unfold Nd.pcs
       rw [if_neg (by decide), if_neg (by decide), if_pos rfl]
      have hg : G .pl (toks (Nd.mk 3 0 s [x]).pcs) (.mk 3 0 s [x]) := by
       rw [e]; simp only [toks, toks_append]
       exact G.item hn (hi.ex (fun hb => bin_level hb))
      exact ⟨fun h => (by simp [isBin, Nd.kind] at h), fun _ => G.place hg, fun _ => hg⟩
    · cases hx
  rw [if_neg c3] at he
  by_cases c6 : k = 6 ∨ k = 7
  · rw [if_pos c6] at he
    simp only [Bool.and_eq_true, plain, beq_iff_eq, List.isEmpty_iff] at he; obtain ⟨⟨rfl, rfl⟩, hx⟩ := he
    split at hx
    · rename_i x
      simp only [rowSize] at hs; have hi := ih x (by omega) hx hw.2.2.2.2.2.2.1
      have hu : G .un (toks (pw (isBin x.kind) x.pcs)) x := by
       cases hb : isBin x.kind
       · exact hi.un hb
       · exact hi.par
      have e : (Nd.mk k 0 [] [x]).pcs = .tk (symbol k) :: pw (isBin x.kind) x.pcs := by
       conv => lhs; unfold Nd.pcs
       rw [if_neg (by omega), if_neg (by omega), if_neg (by omega), if_neg (by omega), if_neg (by omega), if_pos c6]
      refine ⟨fun h => (by rw [show (Nd.mk k 0 [] [x]).kind = k from rfl, nb (by omega)] at h; cases h), fun _ => ?_, fun h => ?_⟩
      · rw [e]
        simp only [toks]
        rcases c6 with rfl | rfl
        · exact G.neg hu
        · exact G.not hu
      · exfalso
        simp only [Nd.isPlace, Nd.kind, Bool.and_eq_true, Bool.or_eq_true, beq_iff_eq] at h
        omega
    · cases hx
  rw [if_neg c6] at he
  by_cases c8 : 8 ≤ k ∧ k ≤ 23
  · rw [if_pos c8] at he
    simp only [Bool.and_eq_true, plain, beq_iff_eq, List.isEmpty_iff] at he; obtain ⟨⟨rfl, rfl⟩, hx⟩ := he
    split at hx
    · rename_i x y
      simp only [rowSize] at hs; simp only [Bool.and_eq_true] at hx; have h1 := ih x (by omega) hx.1 hw.2.2.2.2.2.2.1; have h2 := ih y (by omega) hx.2 hw.2.2.2.2.2.2.2.1; have hb := binOf_symbol c8.1 c8.2
      have g1 : G (.ex (level k)) (toks (pw (parenL x.kind k) x.pcs)) x := h1.opd (fun hp hb => by
       simp only [parenL, hb, Bool.true_and, decide_eq_false_iff_not] at hp; omega)
      have g2 : G (.ex (level k + 1)) (toks (pw (parenR y.kind k) y.pcs)) y := h2.opd (fun hp hb => by
       simp only [parenR, hb, Bool.true_and, decide_eq_false_iff_not] at hp; omega)
      have e : (Nd.mk k 0 [] [x, y]).pcs = pw (parenL x.kind k) x.pcs ++ (.sp [32] :: .tk (symbol k) :: .sp [32] :: pw (parenR y.kind k) y.pcs) := by
       conv => lhs; unfold Nd.pcs
       rw [if_neg (by omega), if_neg (by omega), if_neg (by omega), if_neg (by omega), if_neg (by omega), if_neg (by omega)]
      have hbk : isBin k = true := by simp only [isBin, Bool.and_eq_true, decide_eq_true_eq]; exact c8
      refine ⟨fun _ => ?_, fun h => (by rw [show (Nd.mk k 0 [] [x, y]).kind = k from rfl, hbk] at h; cases h), fun h => ?_⟩
      · rw [e]
        simp only [toks_append, toks]
        show G (.ex (level k)) _ _
        generalize toks (pw (parenL x.kind k) x.pcs) = A at *
        cases g1 with
        | @ex _ a b x0 _ gu gc =>
         rw [List.append_assoc]
         exact G.ex gu (gc.cl_snoc hb rfl g2)
      · exfalso
        simp only [Nd.isPlace, Nd.kind, Bool.and_eq_true, Bool.or_eq_true, beq_iff_eq] at h
        omega
    · cases hx
  · rw [if_neg c8] at he; cases he
theorem parse_text {t : Nd} (he : t.isExpr = true) (hw : t.wf) (hd : t.depth ≤ 80) (hz : t.size ≤ 2000) (hl : t.text.length ≤ 65536) : parseExpr t.text = (t, 0, 0) := by
 have hn := pcs_nice (t.size + 1) t (by omega) he; have hf := flat_pcs (t.size + 1) t (by omega) he; have hs := pcs_said (t.size + 1) t (by omega) he hw; obtain ⟨us, h1, h2⟩ := pcs_solid t.pcs none (hn.wf none openP_none); rw [hf] at h1
 exact parseE_of (by omega) h1 (by rw [h2]; exact hs.ex (fun hb => bin_level hb)) hd hz
end Bk
namespace Bk
open Go Go.RowKit Go.Proofs
attribute [local irreducible] Go.Calls
structure Tabs5 (w : World) : Prop where
 t : Tabs w
 g : Tryz.prog.globals.size ≤ w.heap.size
theorem Tabs5.ext {w w' : World} (h : Tabs5 w) (x : Ext w w') : Tabs5 w' := ⟨h.t.ext x h.g, Nat.le_trans h.g x.size⟩
mutual
theorem small_depth : ∀ (t : Nd) (d m : Int), 0 ≤ d → (t.small d m).1 = true → t.depth ≤ d
 | .mk k n s l, d, m, hd, h => by
  unfold Nd.small at h
  split at h
  · cases h
  · have := rowSmall_depth l (d - 1) (m - 1) (by omega) h
    simp only [Nd.depth]; omega
theorem rowSmall_depth : ∀ (l : List Nd) (d m : Int), 0 ≤ d → (rowSmall l d m).1 = true → rowDepth l ≤ d
 | [], d, m, hd, _ => by simp only [rowDepth]; exact hd
 | t :: r, d, m, hd, h => by
  unfold rowSmall at h
  split at h
  · rename_i h1
    have a := small_depth t d m hd h1; have b := rowSmall_depth r d _ hd h
    simp only [rowDepth]; omega
  · cases h
end
theorem great_y {t : Nd} (hwf : t.wf) (h : (t.small 24 200).1 = false) (S : Nat → Prop) (a : Option Addr) (c : Nat) (w : World) (hs : t.sits S w a) : Calls Tryz.prog 9 #[t.val a c] w fun e w' => e = .returned (.bool true) ∧ Ext w w' := by
 have := great_c t hwf S a c w hs
 rw [h] at this; exact this
theorem great_n {t : Nd} (hwf : t.wf) (h : (t.small 24 200).1 = true) (S : Nat → Prop) (a : Option Addr) (c : Nat) (w : World) (hs : t.sits S w a) : Calls Tryz.prog 9 #[t.val a c] w fun e w' => e = .returned (.bool false) ∧ Ext w w' := by
 have := great_c t hwf S a c w hs
 rw [h] at this; exact this
theorem isExpr_v {t : Nd} (hwf : t.wf) {b : Bool} (h : t.isExpr = b) (S : Nat → Prop) (a : Option Addr) (c : Nat) (w : World) (hs : t.sits S w a) : Calls Tryz.prog 10 #[t.val a c] w fun e w' => e = .returned (.bool b) ∧ Ext w w' := by
 have := IsExpr_t S t hwf a c w hs
 rw [h] at this; exact this
theorem pExpr_v {t : Nd} (hwf : t.wf) (h : t.isExpr = true) (hz : t.size ≤ 200) (S : Nat → Prop) (a : Option Addr) (c : Nat) (w : World) (ht : Tabs5 w) (hs : t.sits S w a) : Calls Tryz.prog 11 #[t.val a c] w fun e w' => e = .returned (.tuple #[str t.text, .int .i64 0]) ∧ Ext w w' := by
 have := Expr_c t hwf (by omega) S a c w ht.t ht.g hs
 rw [h] at this; exact this
theorem eqb_self (t : Nd) : t.eqb t = true := (eqb_iff t t).2 rfl
theorem equal_v {t : Nd} (hz : t.size ≤ 200) (S S' : Nat → Prop) (a a' : Option Addr) (c c' : Nat) (w : World) (hs : t.sits S w a) (hs' : t.sits S' w a') : Calls Tryz.prog 13 #[t.val a c, t.val a' c'] w fun e w' => e = .returned (.bool true) ∧ Ext w w' := by
 have := Equal_b (t.size + 1) t t S S' a a' c c' w (by omega) (by omega) hs hs'
 rw [eqb_self] at this; exact this
theorem small_facts {t : Nd} (hwf : t.wf) (hg : (t.small 24 200).1 = true) (he : t.isExpr = true) : t.size ≤ 200 ∧ t.depth ≤ 24 ∧ t.text.length ≤ 6000 := by
 have h1 := small_size t 24 200 (by omega) hg; have h2 := small_le t 24 200 (by omega) hg; have h3 := small_depth t 24 200 (by omega) hg; have h4 := text_len (t.size + 1) t (by omega) hwf he
 exact ⟨by omega, h3, by omega⟩
set_option maxRecDepth 100000 in
set_option maxHeartbeats 4000000 in
theorem PrinterParens_c (t : Nd) (hwf : t.wf) (S : Nat → Prop) (a : Option Addr) (c : Nat) (w : World) (ht : Tabs5 w) (hS : Syms w) (hE : Errs w) (hs : t.sits S w a) :
 Calls Tryz.prog 3 #[t.val a c] w fun e w' => e = .returned (.bool true) ∧ Ext w w' := by
 have X := Ext.refl w
 cases hg : (t.small 24 200).1
 · have HG := Lib.hid (great_y hwf hg)
   clear hg hwf; refine calls_in Tryz.func3 Tryz.ntmps3 rfl rfl ?_
   focus
    refine cS ?_; (refine lw_box' [_, _, _, _] rfl rfl rfl ?_; intro b1 w2 n3); have h4 := n3.blk; have x5 := n3.ext; have p6 := n3.pos; have z7 := n3.size; clear n3; replace ht := ht.ext x5; replace hS := hS.ext x5; replace hE := hE.ext x5; replace hs := Nd.sits.ext hs x5; replace X := X.ext x5; clear x5; refine cA rfl rfl (cT (cw_seq (cS ?_))); refine cC (by kernel_rfl) rfl (awake5_c _ (Tabs5.t (by assumption)) (Tabs5.g (by assumption))) rfl ?_; rintro _ w9 ⟨⟨⟩, x8⟩; have z10 := x8.size; replace h4 := h4.ext x8; replace ht := ht.ext x8; replace hS := hS.ext x8; replace hE := hE.ext x8; replace hs := Nd.sits.ext hs x8; replace X := X.ext x8; clear x8; refine lw_pure (pur_not rfl) rfl (cT (cw_cond_f rfl (cw_skip (qw_then (cw_seq (cS (lw_loads_b' [_, _, _, _] tabOk rfl rfl rfl h4 rfl rfl rfl ?_))))))); refine cC (by kernel_rfl) rfl (HG.out _ _ _ _ (by assumption)) rfl ?_; rintro _ w12 ⟨⟨⟩, x11⟩; have z13 := x11.size; replace h4 := h4.ext x11; replace ht := ht.ext x11; replace hS := hS.ext x11; replace hE := hE.ext x11; replace hs := Nd.sits.ext hs x11; replace X := X.ext x11; clear x11; refine cM rfl rfl (lw_off rfl rfl rfl (rfl) rfl (lw_off rfl rfl rfl (rfl) rfl (lw_off rfl rfl rfl (rfl) rfl (lw_pure (pur_pick_t rfl rfl rfl) rfl (cT (cw_cond_t rfl (cS (cA rfl rfl (cT (cw_ret (qw_then_ret ?_))))))))))); refine qw_ret1 rfl rfl ?_; rotate_left 1
   exact ⟨rfl, X⟩
 cases he : t.isExpr
 · have HG := Lib.hid (great_n hwf hg)
   have HI := Lib.hid (isExpr_v hwf he); clear hg hwf he; refine calls_in Tryz.func3 Tryz.ntmps3 rfl rfl ?_
   focus
    refine cS ?_; (refine lw_box' [_, _, _, _] rfl rfl rfl ?_; intro ba1 wa2 na3); have ha4 := na3.blk; have xa5 := na3.ext; have pa6 := na3.pos; have za7 := na3.size; clear na3; replace ht := ht.ext xa5; replace hS := hS.ext xa5; replace hE := hE.ext xa5; replace hs := Nd.sits.ext hs xa5; replace X := X.ext xa5; clear xa5; refine cA rfl rfl (cT (cw_seq (cS ?_))); refine cC (by kernel_rfl) rfl (awake5_c _ (Tabs5.t (by assumption)) (Tabs5.g (by assumption))) rfl ?_; rintro _ wa9 ⟨⟨⟩, xa8⟩; have za10 := xa8.size; replace ha4 := ha4.ext xa8; replace ht := ht.ext xa8; replace hS := hS.ext xa8; replace hE := hE.ext xa8; replace hs := Nd.sits.ext hs xa8; replace X := X.ext xa8; clear xa8; refine lw_pure (pur_not rfl) rfl (cT (cw_cond_f rfl (cw_skip (qw_then (cw_seq (cS (lw_loads_b' [_, _, _, _] tabOk rfl rfl rfl ha4 rfl rfl rfl ?_))))))); refine cC (by kernel_rfl) rfl (HG.out _ _ _ _ (by assumption)) rfl ?_; rintro _ wa12 ⟨⟨⟩, xa11⟩; have za13 := xa11.size; replace ha4 := ha4.ext xa11; replace ht := ht.ext xa11; replace hS := hS.ext xa11; replace hE := hE.ext xa11; replace hs := Nd.sits.ext hs xa11; replace X := X.ext xa11; clear xa11; refine cM rfl rfl (lw_on rfl rfl rfl (rfl) (lw_loads_b' [_, _, _, _] tabOk rfl rfl rfl ha4 rfl rfl rfl (lw_on rfl rfl rfl (rfl) ?_))); refine cC (by kernel_rfl) rfl (HI.out _ _ _ _ (by assumption)) rfl ?_; rintro _ wa15 ⟨⟨⟩, xa14⟩; have za16 := xa14.size; replace ha4 := ha4.ext xa14; replace ht := ht.ext xa14; replace hS := hS.ext xa14; replace hE := hE.ext xa14
    replace hs := Nd.sits.ext hs xa14; replace X := X.ext xa14; clear xa14; refine lw_on rfl rfl rfl (rfl) (lw_pure (pur_not rfl) rfl (lw_pure (pur_pick_f rfl rfl rfl) rfl (cT (cw_cond_t rfl (cS (cA rfl rfl (cT (cw_ret (qw_then_ret (qw_ret1 rfl rfl ?_)))))))))); rotate_left 1
   exact ⟨rfl, X⟩
 · obtain ⟨hz, hd, hl⟩ := small_facts hwf hg he
   have HG := Lib.hid (great_n hwf hg); have HI := Lib.hid (isExpr_v hwf he); have HP := Lib.hid (pExpr_v hwf he hz); have HQ := Lib.hid (equal_v hz); have hp := parse_text he hwf (by omega) (by omega) (by omega)
   have hE1 : ∀ w, Syms w → Errs w → Calls Tryz.prog 12 #[str t.text] w (ParseR w (parseExpr t.text)) := fun w => Expr_p _ w (by omega)
   rw [hp] at hE1; have HE := Lib.hid hE1; clear hg hwf he hE1 hp hl hd hz; refine calls_in Tryz.func3 Tryz.ntmps3 rfl rfl ?_
   focus
    refine cS ?_; (refine lw_box' [_, _, _, _] rfl rfl rfl ?_; intro bb1 wb2 nb3); have hb4 := nb3.blk; have xb5 := nb3.ext; have pb6 := nb3.pos; have zb7 := nb3.size; clear nb3; replace ht := ht.ext xb5; replace hS := hS.ext xb5; replace hE := hE.ext xb5; replace hs := Nd.sits.ext hs xb5; replace X := X.ext xb5; clear xb5; refine cA rfl rfl (cT (cw_seq (cS ?_))); refine cC (by kernel_rfl) rfl (awake5_c _ (Tabs5.t (by assumption)) (Tabs5.g (by assumption))) rfl ?_; rintro _ wb9 ⟨⟨⟩, xb8⟩; have zb10 := xb8.size; replace hb4 := hb4.ext xb8; replace ht := ht.ext xb8; replace hS := hS.ext xb8; replace hE := hE.ext xb8; replace hs := Nd.sits.ext hs xb8; replace X := X.ext xb8; clear xb8; refine lw_pure (pur_not rfl) rfl (cT (cw_cond_f rfl (cw_skip (qw_then (cw_seq (cS (lw_loads_b' [_, _, _, _] tabOk rfl rfl rfl hb4 rfl rfl rfl ?_))))))); refine cC (by kernel_rfl) rfl (HG.out _ _ _ _ (by assumption)) rfl ?_; rintro _ wb12 ⟨⟨⟩, xb11⟩; have zb13 := xb11.size; replace hb4 := hb4.ext xb11; replace ht := ht.ext xb11; replace hS := hS.ext xb11; replace hE := hE.ext xb11; replace hs := Nd.sits.ext hs xb11; replace X := X.ext xb11; clear xb11; refine cM rfl rfl (lw_on rfl rfl rfl (rfl) (lw_loads_b' [_, _, _, _] tabOk rfl rfl rfl hb4 rfl rfl rfl (lw_on rfl rfl rfl (rfl) ?_))); refine cC (by kernel_rfl) rfl (HI.out _ _ _ _ (by assumption)) rfl ?_; rintro _ wb15 ⟨⟨⟩, xb14⟩; have zb16 := xb14.size; replace hb4 := hb4.ext xb14; replace ht := ht.ext xb14; replace hS := hS.ext xb14; replace hE := hE.ext xb14
    replace hs := Nd.sits.ext hs xb14; replace X := X.ext xb14; clear xb14; refine lw_on rfl rfl rfl (rfl) (lw_pure (pur_not rfl) rfl (lw_pure (pur_pick_f rfl rfl rfl) rfl (cT (cw_cond_f rfl (cw_skip (qw_then (cS (lw_loads_b' [_, _, _, _] tabOk rfl rfl rfl hb4 rfl rfl rfl ?_)))))))); refine cC (by kernel_rfl) rfl (HP.out _ _ _ _ (by assumption) (by assumption)) rfl ?_; rintro _ wb18 ⟨⟨⟩, xb17⟩; have zb19 := xb17.size; replace hb4 := hb4.ext xb17; replace ht := ht.ext xb17; replace hS := hS.ext xb17; replace hE := hE.ext xb17; replace hs := Nd.sits.ext hs xb17; replace X := X.ext xb17; clear xb17; refine cM rfl rfl (lw_pure (pur_extract rfl rfl) rfl (lw_pure (pur_extract rfl rfl) rfl (cA rfl rfl (cA rfl rfl (cN (cM rfl rfl ?_)))))); refine cR (by kernel_rfl) rfl (HE.out _ (by assumption) (by assumption)) (fun _ _ h => h.ret) rfl ?_; rintro _ wb24 ⟨ab20, ⟨kb21, ⟨⟨⟩, ⟨hb22, xb23⟩⟩⟩⟩; have zb25 := xb23.size; replace hb4 := hb4.ext xb23; replace ht := ht.ext xb23; replace hS := hS.ext xb23; replace hE := hE.ext xb23; replace hs := Nd.sits.ext hs xb23; replace X := X.ext xb23; clear xb23; refine cM rfl rfl (lw_pure (pur_extract rfl rfl) rfl (lw_pure (pur_extract rfl rfl) rfl (lw_pure (pur_extract rfl rfl) rfl ?_))); (refine lw_alloc' [_, _, _, _] zOk rfl rfl ?_; intro bb26 wb27 nb28); (refine lw_init' [_, _, _, _] tabOk rfl rfl rfl rfl rfl rfl nb28 rfl ?_; clear nb28; clear wb27; intro wb29 nb28); have hb30 := nb28.blk; dsimp only at hb30; have xb31 := nb28.ext; have pb32 := nb28.pos
    have zb33 := nb28.size; clear nb28; replace hb22 := Nd.sits.ext hb22 xb31; replace hb4 := hb4.ext xb31; replace ht := ht.ext xb31; replace hS := hS.ext xb31; replace hE := hE.ext xb31; replace hs := Nd.sits.ext hs xb31; replace X := X.ext xb31; clear xb31; refine cA rfl rfl (cA rfl rfl (cN (cM rfl rfl (lw_pure (pur_eql rfl rfl) rfl (cM rfl rfl ?_))))); refine lw_on rfl rfl rfl (gd_tt (by decide)) ?_; refine cM rfl rfl ?_; refine lw_on rfl rfl rfl (gd_tt (by decide)) ?_; refine lw_pure (pur_eql rfl rfl) rfl ?_; refine lw_pure (pur_pick_yes rfl rfl (by decide)) rfl ?_; refine cM rfl rfl (lw_on rfl rfl rfl (gd_tt (rfl)) (cM rfl rfl (lw_on rfl rfl rfl (gd_tt (rfl)) (lw_pure (pur_eql rfl rfl) rfl (lw_pure (pur_pick_yes rfl rfl (rfl)) rfl (cM rfl rfl (lw_on rfl rfl rfl (gd_tt (rfl)) (lw_loads_b' [_, _, _, _] tabOk rfl rfl rfl hb4 rfl rfl rfl (lw_on rfl rfl rfl (gd_tt (rfl)) (lw_loads_b' [_, _, _, _] tabOk rfl rfl rfl hb30 rfl rfl rfl (lw_on rfl rfl rfl (gd_tt (rfl)) ?_))))))))))); refine cC (by kernel_rfl) rfl (HQ.out _ _ _ _ _ _ _ (by assumption) (by assumption)) rfl ?_; rintro _ wb35 ⟨⟨⟩, xb34⟩; have zb36 := xb34.size; replace hb30 := hb30.ext xb34; replace hb22 := Nd.sits.ext hb22 xb34; replace hb4 := hb4.ext xb34; replace ht := ht.ext xb34; replace hS := hS.ext xb34; replace hE := hE.ext xb34; replace hs := Nd.sits.ext hs xb34; replace X := X.ext xb34; clear xb34; refine lw_pure (pur_pick_yes rfl rfl (rfl)) rfl (cA rfl rfl (cT (cw_ret (qw_ret1 rfl rfl ?_)))); rotate_left 1
   exact ⟨rfl, X⟩
end Bk
namespace Bk
open Go Go.RowKit Go.Proofs
def AllB : Nat → Prop := fun _ => True
theorem row_build (W : World) (b o : Nat) : ∀ (len i0 : Nat), (∀ i, i < len → ∃ (t : Nd) (a' : Option Addr) (c' : Nat), t.wf ∧ W.cell? ⟨b, o + (i0 + i) * 4, none⟩ = some (.int .u8 t.kind) ∧ W.cell? ⟨b, o + (i0 + i) * 4 + 1, none⟩ = some (.int .i64 t.num) ∧ W.cell? ⟨b, o + (i0 + i) * 4 + 2, none⟩ = some (str t.name) ∧ W.cell? ⟨b, o + (i0 + i) * 4 + 3, none⟩ = some (.slice a' t.kids.length c') ∧ t.sits AllB W a') →
 ∃ l : List Nd, l.length = len ∧ rowWf l ∧ rowSits AllB W l (some ⟨b, o + i0 * 4, none⟩)
 | 0, _, _ => ⟨[], rfl, by simp [rowWf], by simp [rowSits]⟩
 | len + 1, i0, h => by
  obtain ⟨l, hl, hw, hs⟩ := row_build W b o len (i0 + 1) (fun i hi => by
   have := h (i + 1) (by omega)
   rwa [show i0 + (i + 1) = i0 + 1 + i from by omega] at this)
  obtain ⟨t, a', c', hwf, h0, h1, h2, h3, hsk⟩ := h 0 (by omega); rw [Nat.add_zero] at h0 h1 h2 h3; refine ⟨t :: l, by simp [hl], by simp [rowWf, hwf, hw], ?_⟩; simp only [rowSits]; refine ⟨b, o + i0 * 4, a', c', rfl, trivial, h0, h1, h2, h3, hsk, ?_⟩
  rwa [show o + i0 * 4 + 4 = o + (i0 + 1) * 4 from by omega]
theorem cells4 {W : World} {a : Addr} {cs : List Value} (h : W.cells? 0 a 4 = some cs) : ∃ c0 c1 c2 c3, cs = [c0, c1, c2, c3] ∧ W.cell? (a.add 0) = some c0 ∧ W.cell? (a.add 1) = some c1 ∧ W.cell? (a.add 2) = some c2 ∧ W.cell? (a.add 3) = some c3 := by
 unfold World.cells? at h
 rw [if_pos (Nat.zero_le _)] at h; rw [show List.range 4 = [0, 1, 2, 3] from rfl] at h
 cases e0 : W.cell? (a.add 0) <;> simp [e0] at h
 cases e1 : W.cell? (a.add 1) <;> simp [e1] at h
 cases e2 : W.cell? (a.add 2) <;> simp [e2] at h
 cases e3 : W.cell? (a.add 3) <;> simp [e3] at h
 exact ⟨_, _, _, _, h.symm, rfl, rfl, rfl, rfl⟩
theorem addr_add2 (b o n m : Nat) : ((⟨b, o, none⟩ : Addr).add n).add m = ⟨b, o + n + m, none⟩ := by
 unfold Addr.add
 by_cases hn : n = 0 <;> by_cases hm : m = 0 <;> simp [hn, hm]
theorem cellsNode : Tryz.prog.cellsOf 24 = 4 := by kernel_rfl
theorem cells5 : Tryz.prog.cellsOf 5 = 1 := by kernel_rfl
theorem cells3 : Tryz.prog.cellsOf 3 = 1 := by kernel_rfl
theorem cells9 : Tryz.prog.cellsOf 9 = 1 := by kernel_rfl
theorem cells22 : Tryz.prog.cellsOf 22 = 1 := by kernel_rfl
theorem node_of_trod {H : Type} (enc : TypeId × Value → H) (W : World) (sp : Nat → Bool) (N : Nat) : ∀ (fuel : Nat), fuel < N → ∀ (cs : List Value) (x : DataW H × List MemPlace), DataW.trod enc Tryz.prog W 0 sp true fuel 24 cs = some x →
 ∃ (t : Nd) (a : Option Addr) (c : Nat), cs = [.int .u8 t.kind, .int .i64 t.num, str t.name, .slice a t.kids.length c] ∧ t.wf ∧ t.sits AllB W a := by
 induction N with
 | zero => intro fuel h; omega
 | succ N ih =>
  intro fuel hN cs x h; obtain ⟨xs, n, rfl, -, hl, hlen, hf⟩ := DataW.trod_struct Tryz.underlying24 h; rw [cellsNode] at hl
  obtain ⟨c0, c1, c2, c3, rfl⟩ : ∃ c0 c1 c2 c3, cs = [c0, c1, c2, c3] := by
   rcases cs with _ | ⟨c0, _ | ⟨c1, _ | ⟨c2, _ | ⟨c3, _ | ⟨c4, cs⟩⟩⟩⟩⟩
   · simp at hl
   · simp at hl
   · simp at hl
   · simp at hl
   · exact ⟨_, _, _, _, rfl⟩
   · simp at hl
  obtain ⟨y0, y1, y2, y3, rfl⟩ : ∃ y0 y1 y2 y3, xs = [y0, y1, y2, y3] := by
   have hlen' : xs.length = 4 := hlen
   rcases xs with _ | ⟨c0, _ | ⟨c1, _ | ⟨c2, _ | ⟨c3, _ | ⟨c4, cs⟩⟩⟩⟩⟩
   · simp at hlen'
   · simp at hlen'
   · simp at hlen'
   · simp at hlen'
   · exact ⟨_, _, _, _, rfl⟩
   · simp at hlen'
  · have f0 : DataW.trod enc Tryz.prog W 0 sp true n 5 (([c0, c1, c2, c3].drop 0).take (Tryz.prog.cellsOf 5)) = some y0 := hf 0 _ rfl
    have f1 : DataW.trod enc Tryz.prog W 0 sp true n 3 (([c0, c1, c2, c3].drop 1).take (Tryz.prog.cellsOf 3)) = some y1 := hf 1 _ rfl; have f2 : DataW.trod enc Tryz.prog W 0 sp true n 9 (([c0, c1, c2, c3].drop 2).take (Tryz.prog.cellsOf 9)) = some y2 := hf 2 _ rfl; have f3 : DataW.trod enc Tryz.prog W 0 sp true n 22 (([c0, c1, c2, c3].drop 3).take (Tryz.prog.cellsOf 22)) = some y3 := hf 3 _ rfl; simp only [cells5, cells3, cells9, cells22, List.drop_zero, List.drop_succ_cons, List.take_succ_cons, List.take_zero] at f0 f1 f2 f3; obtain ⟨k, hk, -, wk⟩ := DataW.trod_int uByte f0; obtain ⟨m, hm, -, wm⟩ := DataW.trod_int Tryz.underlying3 f1; obtain ⟨s, hs, -, ws⟩ := DataW.trod_string underStr f2; simp only [List.cons.injEq, and_true] at hk hm hs; subst hk hm hs
    have wk' : 0 ≤ k ∧ k ≤ 255 := by simpa [Lit.wf, IntKind.min, IntKind.max, IntKind.signed, IntKind.bits] using wk
    have wm' : -9223372036854775808 ≤ m ∧ m ≤ 9223372036854775807 := by simpa [Lit.wf, IntKind.min, IntKind.max, IntKind.signed, IntKind.bits] using wm
    have ws' : s.data.toList.length ≤ 9223372036854775807 := by
     have : s.data.toList.length = s.size := by rw [Array.length_toList]; rfl
     unfold maxLen at ws; omega
    rcases DataW.trod_slice Tryz.underlying22 f3 with ⟨hc, -⟩ | ⟨a, len, cap, elems, rest, n', hn', hc, -, -, hle, hcm, hel, hE, -⟩
    · simp only [List.cons.injEq, and_true] at hc
      subst hc
      exact ⟨.mk k m s.data.toList [], none, 0, rfl, ⟨wk'.1, wk'.2, wm'.1, wm'.2, ws', by simp, by simp [rowWf]⟩, by simp [Nd.sits, rowSits]⟩
    · simp only [List.cons.injEq, and_true] at hc
      subst hc; rw [cellsNode] at hE
      rcases Nat.eq_zero_or_pos len with h0 | hpos
      · subst h0
        exact ⟨.mk k m s.data.toList [], some a, cap, rfl, ⟨wk'.1, wk'.2, wm'.1, wm'.2, ws', by simp, by simp [rowWf]⟩, by simp [Nd.sits, rowSits]⟩
      · have step : ∀ i, i < len → ∃ (t : Nd) (a' : Option Addr) (c' : Nat), t.wf ∧ W.cell? ((a.add (i * 4)).add 0) = some (.int .u8 t.kind) ∧ W.cell? ((a.add (i * 4)).add 1) = some (.int .i64 t.num) ∧ W.cell? ((a.add (i * 4)).add 2) = some (str t.name) ∧ W.cell? ((a.add (i * 4)).add 3) = some (.slice a' t.kids.length c') ∧ t.sits AllB W a' := by
         intro i hi; have hEi := hE i hi
         cases hc4 : W.cells? 0 (a.add (i * 4)) 4 with
         | none =>
          rw [hc4] at hEi; have hh : elems[i]? = some elems[i] := List.getElem?_eq_getElem (by omega); rw [hh] at hEi
          simp at hEi
         | some cs4 =>
          rw [hc4, List.getElem?_eq_getElem (by omega)] at hEi; obtain ⟨d0, d1, d2, d3, rfl, e0, e1, e2, e3⟩ := cells4 hc4; obtain ⟨t, a', c', hcs, hw, hs⟩ := ih n' (by omega) _ _ hEi; simp only [List.cons.injEq, and_true] at hcs; obtain ⟨rfl, rfl, rfl, rfl⟩ := hcs
          exact ⟨t, a', c', hw, e0, e1, e2, e3, hs⟩
        obtain ⟨b, o, spot⟩ := a
        have hspot : spot = none := by
         obtain ⟨t, a', c', -, e0, -⟩ := step 0 hpos; simp only [Nat.zero_mul, Addr.add, if_true] at e0
         unfold World.cell? at e0
         cases spot with
         | none => rfl
         | some q => simp at e0; split at e0 <;> simp at e0
        subst hspot
        obtain ⟨l, hl', hw', hs'⟩ := row_build W b o len 0 (fun i hi => by
         obtain ⟨t, a', c', hw, e0, e1, e2, e3, hs⟩ := step i hi; rw [addr_add2] at e0 e1 e2 e3; rw [Nat.zero_add]
         exact ⟨t, a', c', hw, e0, e1, e2, e3, hs⟩)
        subst hl'; refine ⟨.mk k m s.data.toList l, some ⟨b, o, none⟩, cap, rfl, ⟨wk'.1, wk'.2, wm'.1, wm'.2, ws', by unfold maxLen at hcm; omega, hw'⟩, ?_⟩
        simpa [Nd.sits] using hs'
end Bk
namespace Bk
open Go Go.RowKit Go.Proofs Go.Lib
theorem gPow5 : Tryz.prog.globalNamed "internal/strconv.uint64pow10" = some 1 := by kernel_rfl
theorem gPowT5 : (Tryz.prog.globals[1]?).map (·.type) = some 135 := by kernel_rfl
theorem uPowT5 : Tryz.prog.underlying 135 = some (.array 20 127) := by kernel_rfl
theorem uU645 : Tryz.prog.underlying 127 = some (.int .u64) := by kernel_rfl
theorem cU645 : Tryz.prog.cellsOf 127 = 1 := by kernel_rfl
theorem cPowT5 : Tryz.prog.cellsOf 135 = 20 := by kernel_rfl
theorem powData5 : (YtajjbkcpgfgbiaaGreatDoor.Rows.laid_internal_strconv_uint64pow10 : DataW Unit) = tabData .u64 pow10Tab := rfl
theorem heap5_of_laid {W : World} (h : laidMetH Tryz.prog laid4 W) : Tryz.prog.globals.size ≤ W.heap.size := by
 have h' : laidMet Tryz.prog laid4 W := h; obtain ⟨ps, ⟨g1, t1, cs1, f1, p1, q1, hg1, ht1, hv1, hd1, ⟨g2, t2, cs2, f2, p2, q2, hg2, ht2, hv2, hd2, ⟨g3, t3, cs3, f3, p3, q3, hg3, ht3, hv3, hd3, -, -⟩, -⟩, -⟩, -⟩ := h'
 have hg : Tryz.prog.globalNamed "math/bits.deBruijn64tab" = some 6 := by kernel_rfl
 have hn : Tryz.prog.globals.size ≤ 6 + 1 := of_decide_eq_true (by kernel_rfl); obtain rfl := Option.some.inj (hg.symm.trans hg3)
 rcases Nat.lt_or_ge 6 W.heap.size with hlt | hge
 · omega
 · unfold World.var? at hv3
   rw [hg] at hv3
   simp [Array.getElem?_eq_none hge] at hv3
theorem tabs5_of_laid {W : World} (h : laidMetH Tryz.prog laid4 W) : (Tabs5 W ∧ Syms W) ∧ Errs W := by
 obtain ⟨hS, hE⟩ := syms_of_laid h; have hg := heap5_of_laid h; have h' : laidMet Tryz.prog laid4 W := h; obtain ⟨ps, ⟨g1, t1, cs1, f1, p1, q1, hg1, ht1, hv1, hd1, ⟨g2, t2, cs2, f2, p2, q2, hg2, ht2, hv2, hd2, ⟨g3, t3, cs3, f3, p3, q3, hg3, ht3, hv3, hd3, ⟨g4, t4, cs4, f4, p4, q4, hg4, ht4, hv4, hd4, -, -⟩, -⟩, -⟩, -⟩, -⟩ := h'; obtain rfl := Option.some.inj (gPow5.symm.trans hg4); obtain rfl := Option.some.inj (gPowT5.symm.trans ht4); rw [powData5] at hd4; have e4 := cells_of_tab uPowT5 uU645 cU645 cPowT5 hd4; refine ⟨⟨⟨⟨hS.sym, ?_⟩, hg⟩, hS⟩, hE⟩
 unfold TabIs
 rw [hv4, ← e4]
theorem PrinterParens_d (t : Nd) (a : Option Addr) (c : Nat) (w : World) (hwf : t.wf) (hs : t.sits AllB w a) (hT : Tabs5 w ∧ Syms w) (hE : Errs w) :
 Calls Tryz.prog 3 #[t.val a c] w fun e w' => e = .returned (.bool true) ∧ Ext w w' := PrinterParens_c t hwf AllB a c w hT.1 hT.2 hE hs
end Bk
