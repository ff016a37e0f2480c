/- Texts that the proofs of ParserCut, ParserFirst, ParserLayout need. No condition. (Part 5 of 6.) -/
import Derived.Test.YtihgojmblldifaaDoorPLay4
set_option linter.unusedSimpArgs false
set_option linter.unusedVariables false
namespace Bk
open Go Go.RowKit Go.Proofs
attribute [local irreducible] Go.Calls
section
variable {P : Program} {n : Nat} {ops : Array Oper} {Q : Exit → Act → World → Prop} {rest : List Oper} {l : Sl} {w : World} {tab : Tab} {ty : TypeId} {pos : String} {after : Array Edge}
theorem lw_mapput {x y z : Operand} {t kt e sz1 sz2 r : Nat} {k : List UInt8} {v : Value} {kvs : List (List UInt8 × Value)} (T : TabOk P tab) (ht : lookT tab t = some (.map kt e, sz1)) (hkt : lookT tab kt = some (.str, sz2)) (hx : ev l x = some (.map (some r))) (hy : ev l y = some (str k)) (hz : ev l z = some v) (hm : MapIs w r kvs)
 (kk : ∀ w1, MapIs w1 r (setS kvs k v) → Fr (· = r) w w1 → LW P n ops Q rest l w1) : LW P n ops Q (⟨none, .mapUpdate t x y z, ty, pos, after, none⟩ :: rest) l w := by
 refine lw_does0 (K := MapPut w r (setS kvs k v)) ?_ (fun v w1 h => by cases v with | none => exact kk w1 h.1 h.2.1 | some _ => exact h.elim)
 unfold Does
 intro a dst pos after g next Q ha _ hn; obtain ⟨w1, h1, h2, h3, h4⟩ := run_mapUpdate (P := P) (k := k) (v := v) T ht hkt hm
 have e1 : (execOp a.eval ⟨dst, .mapUpdate t x y z, ty, pos, after, g⟩).run P w = .ok .skip w1 := by
  simp only [execOp, ha.ev hx, ha.ev hy, ha.ev hz, Sem.run_bind, h1, Result.andThen, Sem.run_pure]
 unfold Oper.wp
 rw [e1]
 exact hn w1 ⟨h2, h3, h4⟩
theorem lw_makeMap {t d : Nat} (hd : Nat.blt d n = true) (k : ∀ r w1, r = w.heap.size → MapIs w1 r [] → Ext w w1 → w1.heap.size = r + 1 → LW P n ops Q rest ((d, .map (some r)) :: l) w1) : LW P n ops Q (⟨some d, .makeMap t none, ty, pos, after, none⟩ :: rest) l w :=
 lw_does does_makeMap hd (fun v w1 ⟨r, h1, h2, h3, h4, h5⟩ => by subst h1; exact k r w1 h2 h3 h4 h5) (fun _ h => h)
end
def u8Shape : Shape Int where
 sz := 1
 rep := fun _ _ v cs => cs = [.int .u8 v]
 len := fun h => by rw [h]; rfl
 one := fun h => by rw [h]; rfl
 mono := fun h _ _ => h
 lt := fun h => h
def ops8 (j : Nat) : List Int := (List.range j).map fun (i : Nat) => (8 : Int) + (i : Int)
theorem ops8_snoc (j : Nat) : ops8 (j + 1) = ops8 j ++ [8 + (j : Int)] := by simp [ops8, List.range_succ]
theorem ops8_len (j : Nat) : (ops8 j).length = j := by simp [ops8]
def OpsR (w : World) : Ending → World → Prop := fun e w' => ∃ b k, e = .returned (.slice (some ⟨b, 0, none⟩) 16 k) ∧ w.heap.size ≤ b ∧ b < w'.heap.size ∧ Row w' ⟨b, 0, none⟩ ((ops8 16).map (.int .u8 ·)) ∧ Ext w w'
theorem OpsR.ret {w : World} {e : Ending} {w' : World} (h : OpsR w e w') : ∃ v, e = .returned v := by
 obtain ⟨_, _, h, -⟩ := h
 exact ⟨_, h⟩
set_option maxRecDepth 100000 in
set_option maxHeartbeats 2000000 in
theorem Operators_c (w : World) : Calls Tryd.prog 17 #[] w (OpsR w) := by
 have X := Ext.refl w; refine calls_in (args := []) Tryd.func17 Tryd.ntmps17 rfl rfl ?_
 focus
  refine cS (cA rfl rfl (cN (cA rfl rfl (cT (cw_seq (cS (cA rfl rfl (cT (cw_block ?_))))))))); rotate_left 1
 refine cw_loop (ι := Nat × Option Addr × Nat) (fun x => [(1, .slice x.2.1 (ops8 x.1).length x.2.2), (2, .int .u8 (8 + (x.1 : Int)))])
  (fun x w' => OwnL u8Shape w' w.heap.size 5 (.slice x.2.1 (ops8 x.1).length x.2.2) (ops8 x.1) ∧ Ext w w' ∧ x.1 ≤ 16) (fun x => 16 - x.1) (0, none, 0) (by (refine sub_cons rfl ?_; refine sub_cons rfl ?_; exact sub_nil)) ⟨OwnL.nil, X, Nat.zero_le _⟩ ?_
 rintro ⟨j, a, cap⟩ w1 ⟨hown, X, hj⟩; simp only at hown hj; have hsz := X.size; have hl := ops8_len j; refine CW.sub (m := [(1, .slice a (ops8 j).length cap), (2, .int .u8 (8 + (j : Int)))]) ?_ (by (refine sub_cons rfl ?_; refine sub_cons rfl ?_; exact sub_nil))
 by_cases hlt : j < 16
 · have hsn := ops8_snoc j
   focus
    refine cw_seq (cS (cM rfl rfl (lw_pure (pur_leq rfl rfl) rfl (cT ?_)))); refine cw_yes rfl (by omega) ?_; refine cw_skip (qw_then (cw_seq (cw_block (cw_region (cM rfl rfl (cM rfl rfl ?_)))))); (refine lw_does (does_slice' [_] tabOk zOk rfl rfl rfl rfl rfl rfl rfl rfl rfl) rfl ?_ (fun _ h => h); rintro _ wa2 ⟨ba1, rfl, na3, ta4⟩); clear ta4; have ha5 := na3.blk; have xa6 := na3.ext; have pa7 := na3.pos; have za8 := na3.size; clear na3; replace hown := hown.ext xa6; replace X := X.ext xa6; clear xa6; refine lw_appendL (sh := u8Shape) (z := 8 + (j : Int)) tabOk zOk rfl rfl rfl rfl (by kernel_rfl) rfl rfl rfl hown (Blk.row (by assumption)) rfl (by omega) (by omega) rfl ?_; rintro ga9 cap'a10 wa11 ha12 fa13; have za14 := fa13.size; clear ha5 hown; replace X := X.fr fa13 (by omega); clear fa13; refine cA rfl rfl (lw_nil (qw_block_norm (qw_then (cw_region (cM rfl rfl ?_))))); refine lw_pure (pur_add rfl rfl (u8_wrap _ (by omega) (by omega))) rfl ?_; refine cA rfl rfl (lw_nil ?_); rotate_left 1
   refine qw_round (j + 1, some ⟨_, 0, none⟩, _) ?_ ⟨by rw [hsn]; assumption, X, by simp only; omega⟩ (by simp only; omega); refine sub_cons' rfl (by rw [hsn]) (sub_cons' rfl ?_ sub_nil)
   simp only [Value.int.injEq, true_and]; omega
 · have : j = 16 := by omega
   subst this
   focus
    refine cw_seq (cS (cM rfl rfl (lw_pure (pur_leq rfl rfl) rfl (cT ?_)))); refine cw_no rfl (by decide) ?_; refine cw_exit (qw_then_exit (qw_then_exit (qw_block_exit (qw_then (cS (cM rfl rfl (cA rfl rfl (cT (cw_ret (qw_ret1 rfl rfl ?_)))))))))); rotate_left 1
   obtain ⟨g, cap', hv, hg, hall⟩ := hown.rows (by decide); simp only [Value.slice.injEq] at hv; obtain ⟨rfl, -, -⟩ := hv
   have hrow : Row w1 ⟨g, 0, none⟩ ((ops8 16).map (.int .u8 ·)) := fun i v hi => by
    rw [List.getElem?_map, Option.map_eq_some_iff] at hi; obtain ⟨x, hx, rfl⟩ := hi; obtain ⟨cs, hr, rfl⟩ := hall i x hx; have := hr.at0 rfl
    have e : (⟨g, 0, none⟩ : Addr).add i = ⟨g, i * u8Shape.sz, none⟩ := by
     have : u8Shape.sz = 1 := rfl
     unfold Addr.add; by_cases h0 : i = 0 <;> simp [h0, this]
    rw [e]; exact this
   exact ⟨g, cap, by rw [ops8_len], hg, hown.lt rfl, hrow, X⟩
set_option maxRecDepth 100000 in
set_option maxHeartbeats 1000000 in
theorem finish_c (c : PC) (σ : PS) (w : World) (hP : PP c σ w) :
 Calls Tryd.prog 24 #[.pointer (some ⟨c.pb, 0, none⟩)] w fun r w' => r = .returned (.tuple #[]) ∧ PP c (finishP c.ts c.n σ) w' ∧ Fr (· = c.pb) w w' := by
 have X := Fr.refl (· = c.pb) w; have hpb := hP.pbB; have hB := hP.B
 by_cases h : σ.at_ < c.ts.length
 · rw [show finishP c.ts c.n σ = unexpP c.ts c.n σ from by simp [finishP, h]]
   refine calls_in Tryd.func24 Tryd.ntmps24 rfl rfl ?_
   focus
    refine cw_seq ?_; (refine cw_tdraw (fun wz => Ext w wz) 9 (.pure 0 (.pure 1 (.pure 2 (.pure 3 (.pure 4 (.pure 5 (.pure 6 (.pure 7 (.pure 8 .tail))))))))) mixed (by kernel_rfl) (panicOk_then panicOk_body) ?_; intro w1 x2 _); have qs3 : (fun wz => Ext w wz) w1 := x2; simp only at qs3; have d_hP := hP; have z4 := x2.size; replace hP := hP.ext x2; replace X := X.ext x2; clear x2; refine ⟨qs3, ?_⟩; refine tw_pure rfl (pur_move rfl) rfl (tw_pure rfl (pur_nilCheck rfl) rfl (tw_pure rfl (pur_fieldAddr tabOk rfl rfl rfl) rfl (tw_pure rfl (pur_load tabOk rfl rfl rfl (fun wz hz => Blk.cell (Blk.ext (PP.blk d_hP) hz) rfl)) rfl (tw_pure rfl (pur_move rfl) rfl (tw_pure rfl (pur_nilCheck rfl) rfl (tw_pure rfl (pur_fieldAddr0 tabOk rfl rfl rfl) rfl (tw_pure rfl (pur_load tabOk rfl rfl rfl (fun wz hz => Blk.cell (Blk.ext (PP.blk d_hP) hz) rfl)) rfl (tw_pure rfl (pur_len_slice tabOk rfl rfl) rfl ?_)))))))); clear qs3 d_hP; refine tw_tail rfl (lw_pure (pur_lss rfl rfl) rfl (cT ?_)); refine cw_yes rfl (by omega) ?_; refine cw_region (cM rfl rfl ?_); refine cC (by kernel_rfl) rfl (unexpected_c _ _ _ (by assumption)) rfl ?_; rintro _ w7 ⟨⟨⟩, ⟨h5, f6⟩⟩; have z8 := f6.size; clear hP; replace X := X.fr f6 (by omega); clear f6; refine lw_nil (qw_end0 rfl ?_); rotate_left 1
   exact ⟨rfl, by assumption, X⟩
 · rw [show finishP c.ts c.n σ = σ from by simp [finishP, h]]
   refine calls_in Tryd.func24 Tryd.ntmps24 rfl rfl ?_
   focus
    refine cw_seq ?_; (refine cw_tdraw (fun wz => Ext w wz) 9 (.pure 0 (.pure 1 (.pure 2 (.pure 3 (.pure 4 (.pure 5 (.pure 6 (.pure 7 (.pure 8 .tail))))))))) mixed (by kernel_rfl) (panicOk_then panicOk_body) ?_; intro wa1 xa2 _); have qsa3 : (fun wz => Ext w wz) wa1 := xa2; simp only at qsa3; have d_hP := hP; have za4 := xa2.size; replace hP := hP.ext xa2; replace X := X.ext xa2; clear xa2; refine ⟨qsa3, ?_⟩; refine tw_pure rfl (pur_move rfl) rfl (tw_pure rfl (pur_nilCheck rfl) rfl (tw_pure rfl (pur_fieldAddr tabOk rfl rfl rfl) rfl (tw_pure rfl (pur_load tabOk rfl rfl rfl (fun wz hz => Blk.cell (Blk.ext (PP.blk d_hP) hz) rfl)) rfl (tw_pure rfl (pur_move rfl) rfl (tw_pure rfl (pur_nilCheck rfl) rfl (tw_pure rfl (pur_fieldAddr0 tabOk rfl rfl rfl) rfl (tw_pure rfl (pur_load tabOk rfl rfl rfl (fun wz hz => Blk.cell (Blk.ext (PP.blk d_hP) hz) rfl)) rfl (tw_pure rfl (pur_len_slice tabOk rfl rfl) rfl ?_)))))))); clear qsa3 d_hP; refine tw_tail rfl (lw_pure (pur_lss rfl rfl) rfl (cT ?_)); refine cw_no rfl (by omega) ?_; refine cw_skip (qw_end0 rfl ?_); rotate_left 1
   exact ⟨rfl, by assumption, X⟩
def wholeT (t : Nd) (σ : PS) : Nd × Int × Int := if σ.err ≠ 0 then (zeroNd, σ.off, σ.err) else (t, 0, 0)
def WholeR (w : World) (pb : Nat) (S : Nat → Prop) (r : Nd × Int × Int) : Ending → World → Prop := fun e w' => ∃ a k, e = .returned (.tuple #[r.1.val a k, .int .i64 r.2.1, .int .i64 r.2.2]) ∧ r.1.sits S w' a ∧ Fr (· = pb) w w'
theorem WholeR.ret {w : World} {pb : Nat} {S : Nat → Prop} {r : Nd × Int × Int} {e : Ending} {w' : World} (h : WholeR w pb S r e w') : ∃ v, e = .returned v := by
 obtain ⟨_, _, h, -⟩ := h
 exact ⟨_, h⟩
set_option maxRecDepth 100000 in
set_option maxHeartbeats 1000000 in
theorem whole_c (c : PC) (σ : PS) (t : Nd) (S : Nat → Prop) (a : Option Addr) (k : Nat) (w : World) (hP : PP c σ w) (hz : t.size ≤ 1000000000) (hs : t.sits S w a) (hS : ∀ b, S b → b ≠ c.pb ∧ b < w.heap.size) :
 Calls Tryd.prog 28 #[.pointer (some ⟨c.pb, 0, none⟩), t.val a k] w (WholeR w c.pb S (wholeT t (limitP t 0 σ))) := by
 have X := Fr.refl (· = c.pb) w; have hpb := hP.pbB; have hB := hP.B
 by_cases h : (limitP t 0 σ).err = 0
 · rw [show wholeT t (limitP t 0 σ) = (t, 0, 0) from by simp [wholeT, h]]
   refine calls_in Tryd.func28 Tryd.ntmps28 rfl rfl ?_
   focus
    refine cS ?_; (refine lw_box' [_, _, _, _] rfl rfl rfl ?_; intro b1 w2 n3); have h4 := n3.blk; have x5 := n3.ext; have p6 := n3.pos; have z7 := n3.size; clear n3; replace hP := hP.ext x5; replace hs := Nd.sits.ext hs x5; replace X := X.ext x5; clear x5; (refine lw_alloc' [_, _, _, _] zOk rfl rfl ?_; intro b8 w9 n10); have h12 := n10.blk; have x13 := n10.ext; have p14 := n10.pos; have z15 := n10.size; clear n10; replace h4 := h4.ext x13; replace hP := hP.ext x13; replace hs := Nd.sits.ext hs x13; replace X := X.ext x13; clear x13; refine cA rfl rfl (cA rfl rfl (cN (cM rfl rfl (lw_loads_b' [_, _, _, _] tabOk rfl rfl rfl h4 rfl rfl rfl ?_)))); refine cC (by kernel_rfl) rfl (limit_c _ _ _ _ _ _ _ _ (by assumption) (by omega) (by assumption)) rfl ?_; rintro _ w18 ⟨⟨⟩, ⟨h16, f17⟩⟩; have z19 := f17.size; replace h12 := h12.fr f17 (by omega); replace h4 := h4.fr f17 (by omega); clear hP; replace hs := Nd.sits.fr hs f17 (fun k hk e => by have := hS k hk; omega); replace X := X.fr f17 (by omega); clear f17; refine cT (cw_seq (cS (cM rfl rfl (lw_pure (pur_nilCheck rfl) rfl (lw_pure (pur_fieldAddr tabOk rfl rfl rfl) rfl (lw_load_b tabOk rfl rfl rfl (PP.blk h16) rfl rfl (lw_pure (pur_neq rfl rfl) rfl (cT ?_)))))))); refine cw_no rfl (by omega) ?_; refine cw_skip (qw_then (cS (lw_loads_b' [_, _, _, _] tabOk rfl rfl rfl h4 rfl rfl rfl ?_))); (refine lw_store' [_, _, _, _] [_, _, _, _] tabOk rfl rfl rfl rfl rfl rfl h12 rfl rfl ?_; intro w20 n21); have h24 := n21.blk; have f22 := n21.fr; have z23 := n21.size
    clear n21 h12; replace h16 := h16.fr f22 (by omega); replace h4 := h4.fr f22 (by omega); replace hs := Nd.sits.fr hs f22 (fun k hk e => by have := hS k hk; omega); replace X := X.fr f22 (by omega); clear f22; refine cA rfl rfl (cA rfl rfl (cT (cw_ret (qw_retc3 rfl tabOk rfl rfl rfl h24 rfl rfl rfl ?_)))); rotate_left 1
   exact ⟨_, _, rfl, by assumption, X⟩
 · rw [show wholeT t (limitP t 0 σ) = (zeroNd, (limitP t 0 σ).off, (limitP t 0 σ).err) from by simp [wholeT, h]]
   refine calls_in Tryd.func28 Tryd.ntmps28 rfl rfl ?_
   focus
    refine cS ?_; (refine lw_box' [_, _, _, _] rfl rfl rfl ?_; intro ba1 wa2 na3); have ha4 := na3.blk; have xa5 := na3.ext; have pa6 := na3.pos; have za7 := na3.size; clear na3; replace hP := hP.ext xa5; replace hs := Nd.sits.ext hs xa5; replace X := X.ext xa5; clear xa5; (refine lw_alloc' [_, _, _, _] zOk rfl rfl ?_; intro ba8 wa9 na10); have ha12 := na10.blk; have xa13 := na10.ext; have pa14 := na10.pos; have za15 := na10.size; clear na10; replace ha4 := ha4.ext xa13; replace hP := hP.ext xa13; replace hs := Nd.sits.ext hs xa13; replace X := X.ext xa13; clear xa13; refine cA rfl rfl (cA rfl rfl (cN (cM rfl rfl (lw_loads_b' [_, _, _, _] tabOk rfl rfl rfl ha4 rfl rfl rfl ?_)))); refine cC (by kernel_rfl) rfl (limit_c _ _ _ _ _ _ _ _ (by assumption) (by omega) (by assumption)) rfl ?_; rintro _ wa18 ⟨⟨⟩, ⟨ha16, fa17⟩⟩; have za19 := fa17.size; replace ha12 := ha12.fr fa17 (by omega); replace ha4 := ha4.fr fa17 (by omega); clear hP; replace hs := Nd.sits.fr hs fa17 (fun k hk e => by have := hS k hk; omega); replace X := X.fr fa17 (by omega); clear fa17; refine cT (cw_seq (cS (cM rfl rfl (lw_pure (pur_nilCheck rfl) rfl (lw_pure (pur_fieldAddr tabOk rfl rfl rfl) rfl (lw_load_b tabOk rfl rfl rfl (PP.blk ha16) rfl rfl (lw_pure (pur_neq rfl rfl) rfl (cT ?_)))))))); refine cw_yes rfl (by assumption) ?_; refine cw_seq ?_; (refine cw_tdraw (fun wz => Fr (fun x => x = ba8) wa18 wz) 11 (.pure 0 (.pure 1 (.pure 2 (.pure 3 (.pure 4 (.pure 5 (.pure 6 (.pure 7 (.pure 8 (.fork 9 (.pure 10 .tail) .none)))))))))) mixed (by kernel_rfl) (panicOk_then (panicOk_then panicOk_body)) ?_; intro wa20 xa21 _)
    have qsa22 : (fun wz => Fr (fun x => x = ba8) wa18 wz) wa20 := Fr.of_ext xa21; simp only at qsa22; have d_ha16 := ha16; have d_ha12 := ha12; have d_ha4 := ha4; have d_hs := hs; have za23 := xa21.size; replace ha16 := ha16.ext xa21; replace ha12 := ha12.ext xa21; replace ha4 := ha4.ext xa21; replace hs := Nd.sits.ext hs xa21; replace X := X.ext xa21; clear xa21; refine ⟨qsa22, ?_⟩; refine tw_pure rfl (pur_build' [_, _, _, _] tabOk zOk rfl rfl rfl rfl) rfl (tw_pure rfl (pur_move rfl) rfl (tw_pure rfl (pur_nilCheck rfl) rfl (tw_pure rfl (pur_fieldAddr tabOk rfl rfl rfl) rfl ?_))); refine tw_pure rfl (pur_load tabOk rfl rfl rfl (fun wz hz => Blk.cell (Blk.fr (PP.blk d_ha16) hz (by omega)) rfl)) rfl ?_; refine tw_pure rfl (pur_move rfl) rfl (tw_pure rfl (pur_nilCheck rfl) rfl (tw_pure rfl (pur_fieldAddr tabOk rfl rfl rfl) rfl ?_)); refine tw_pure rfl (pur_load tabOk rfl rfl rfl (fun wz hz => Blk.cell (Blk.fr (PP.blk d_ha16) hz (by omega)) rfl)) rfl ?_; (refine tw_store [_, _, _, _] [_, _, _, _] rfl tabOk rfl rfl rfl rfl rfl rfl ha12 rfl rfl ?_ tw_none; intro wa24 na25); have ha28 := na25.blk; have fa26 := na25.fr; have za27 := na25.size; clear na25 ha12; replace qsa22 := qsa22.fr fa26 (by omega); replace ha16 := ha16.fr fa26 (by omega); replace ha4 := ha4.fr fa26 (by omega); replace hs := Nd.sits.fr hs fa26 (fun k hk e => by have := hS k hk; omega); replace X := X.fr fa26 (by omega); clear fa26; refine ⟨qsa22, ?_⟩; refine tw_pure rfl (pur_assign rfl) rfl ?_; clear d_ha16 d_ha12 d_ha4 d_hs qsa22
    refine tw_tail rfl (cA rfl rfl (cT (cw_ret (qw_then_ret (qw_retc3 rfl tabOk rfl rfl rfl ha28 rfl rfl rfl ?_))))); rotate_left 1
   exact ⟨_, _, rfl, sits_nil, X⟩
end Bk
namespace Bk
open Go Go.RowKit Go.Proofs
attribute [local irreducible] Go.Calls
theorem setS_bin (j : Nat) (h : j < 16) : setS (binMap.take j) (symbol (8 + (j : Int))) (.int .u8 (8 + (j : Int))) = binMap.take (j + 1) := by
 have : j = 0 ∨ j = 1 ∨ j = 2 ∨ j = 3 ∨ j = 4 ∨ j = 5 ∨ j = 6 ∨ j = 7 ∨ j = 8 ∨ j = 9 ∨ j = 10 ∨ j = 11 ∨ j = 12 ∨ j = 13 ∨ j = 14 ∨ j = 15 := by omega
 rcases this with rfl | rfl | rfl | rfl | rfl | rfl | rfl | rfl | rfl | rfl | rfl | rfl | rfl | rfl | rfl | rfl <;> rfl
def StartR (s : List UInt8) (w : World) : Ending → World → Prop := fun e w' => ∃ c : PC, e = .returned (.pointer (some ⟨c.pb, 0, none⟩)) ∧ (c.ts = (startP s).1 ∧ c.n = s.length ∧ w.heap.size ≤ c.pb) ∧ PP c (startP s).2 w' ∧ Ext w w' ∧ c.B ≤ w'.heap.size
theorem StartR.ret {s : List UInt8} {w : World} {e : Ending} {w' : World} (h : StartR s w e w') : ∃ v, e = .returned v := by
 obtain ⟨_, h, -⟩ := h
 exact ⟨_, h⟩
theorem Syms.lt {w : World} (h : Syms w) : 0 < w.heap.size := cell_lt (h.sym 0 (by omega))
theorem Errs.lt {w : World} (h : Errs w) : 3 < w.heap.size := by
 obtain ⟨te, pe, h⟩ := h.ex
 exact cell_lt h
set_option maxRecDepth 100000 in
set_option maxHeartbeats 4000000 in
theorem start_c (s : List UInt8) (w : World) (hs : s.length ≤ 1000000) (hS : Syms w) (hE : Errs w) : Calls Tryd.prog 22 #[str s] w (StartR s w) := by
 have X := Ext.refl w; have hg1 := hS.lt; have hg2 := hE.lt; have hl1 := lexT_len s; refine calls_in Tryd.func22 Tryd.ntmps22 rfl rfl ?_
 focus
  refine cS (cA rfl rfl (cN (cM rfl rfl ?_))); refine cR (by kernel_rfl) rfl (Lex_c _ _ (by omega)) (fun _ _ h => h.ret) rfl ?_; rintro _ w5 ⟨a1, ⟨k2, ⟨⟨⟩, ⟨h3, x4⟩⟩⟩⟩; have z6 := x4.size; replace hS := hS.ext x4; replace hE := hE.ext x4; replace X := X.ext x4; clear x4; refine cM rfl rfl (lw_pure (pur_extract rfl rfl) rfl (lw_pure (pur_extract rfl rfl) rfl (lw_pure (pur_extract rfl rfl) rfl (cA rfl rfl (cA rfl rfl (cA rfl rfl (cN (cM rfl rfl ?_)))))))); refine cR (by kernel_rfl) rfl (Solid_c _ _ _ _ _ (by omega) (by assumption) (by intro b h; exact h.2)) (fun _ _ h => h.ret) rfl ?_; rintro _ w11 ⟨a7, ⟨k8, ⟨⟨⟩, ⟨h9, x10⟩⟩⟩⟩; have z12 := x10.size; replace h3 := h3.ext x10; replace hS := hS.ext x10; replace hE := hE.ext x10; replace X := X.ext x10; clear x10; refine cM rfl rfl (lw_pure (pur_len_s tabOk rfl rfl) rfl (lw_makeMap rfl ?_)); rintro r13 w14 rfl h15 x16 h17; have z18 := x16.size; replace h9 := h9.ext x16; replace h3 := h3.ext x16; replace hS := hS.ext x16; replace hE := hE.ext x16; replace X := X.ext x16; clear x16; refine cM rfl rfl (cM rfl rfl (lw_pure (pur_build' [_, _, _, _, _, _] tabOk zOk rfl rfl rfl rfl) rfl ?_)); (refine lw_box' [_, _, _, _, _, _] rfl rfl rfl ?_; intro b19 w20 n21); have h22 := n21.blk; have x23 := n21.ext; have p24 := n21.pos; have z25 := n21.size; clear n21; replace h15 := h15.ext x23; replace h9 := h9.ext x23; replace h3 := h3.ext x23; replace hS := hS.ext x23; replace hE := hE.ext x23; replace X := X.ext x23; clear x23; refine cA rfl rfl (cT (cw_seq (cS ?_)))
  refine cR (by kernel_rfl) rfl (Operators_c _) (fun _ _ h => h.ret) rfl ?_; rintro _ w32 ⟨b26, ⟨k27, ⟨⟨⟩, ⟨h28, ⟨h29, ⟨h30, x31⟩⟩⟩⟩⟩⟩; have z33 := x31.size; replace h22 := h22.ext x31; replace h15 := h15.ext x31; replace h9 := h9.ext x31; replace h3 := h3.ext x31; replace hS := hS.ext x31; replace hE := hE.ext x31; replace X := X.ext x31; clear x31; refine lw_pure (pur_len_slice tabOk rfl rfl) rfl (cM rfl rfl (cT (cw_block ?_))); rotate_left 1
 generalize hr : w11.heap.size = r at *
 refine cw_loop (ι := Nat) (fun j => [(6, .pointer (some ⟨b19, 0, none⟩)), (24, .slice (some ⟨b26, 0, none⟩) 16 k27), (25, .int .i64 16), (26, .int .i64 j)])
  (fun j w' => j ≤ 16 ∧ MapIs w' r (binMap.take j) ∧ Row w' ⟨b26, 0, none⟩ ((ops8 16).map (.int .u8 ·)) ∧ Blk w' b19 [.slice a7 (solidT (lexT s).1).length k8, .int .i64 0, .int .i64 s.length, .map (some r), .int .i64 (lexT s).2.1, .int .i64 (lexT s).2.2] ∧
   Toks (fun b => w5.heap.size ≤ b ∧ b < r) w' (solidT (lexT s).1) a7 ∧ Syms w' ∧ Errs w' ∧ Ext w w' ∧ w32.heap.size ≤ w'.heap.size) (fun j => 16 - j) 0 (by (refine sub_cons rfl ?_; refine sub_cons rfl ?_; refine sub_cons rfl ?_; refine sub_cons rfl ?_; exact sub_nil)) ⟨Nat.zero_le _, h15, h30, h22, h9, hS, hE, X, Nat.le_refl _⟩ ?_
 rintro j w1 ⟨hj, hM, hrow, hb, hT, hS, hE, X, hz⟩; clear h15 h30 h22 h9 h3
 by_cases hlt : j < 16
 · have hr1 : Row w1 ⟨b26, 0 + j * 1, none⟩ [.int .u8 (8 + (j : Int))] := by
    have h1 := hrow.sub j 1
    have e : (((ops8 16).map (.int .u8 ·)).drop j).take 1 = [Value.int .u8 (8 + (j : Int))] := by
     have : j = 0 ∨ j = 1 ∨ j = 2 ∨ j = 3 ∨ j = 4 ∨ j = 5 ∨ j = 6 ∨ j = 7 ∨ j = 8 ∨ j = 9 ∨ j = 10 ∨ j = 11 ∨ j = 12 ∨ j = 13 ∨ j = 14 ∨ j = 15 := by omega
     rcases this with rfl | rfl | rfl | rfl | rfl | rfl | rfl | rfl | rfl | rfl | rfl | rfl | rfl | rfl | rfl | rfl <;> rfl
    rw [e] at h1
    rw [Nat.mul_one]; exact h1
   have hset := setS_bin j hlt
   focus
    refine cS (lw_pure (pur_lss rfl rfl) rfl (cT (cw_seq ?_))); refine cw_yes rfl (by omega) ?_; refine cw_skip (qw_then (cw_seq (cw_block (cS ?_)))); refine lw_pure (pur_indexAddr tabOk rfl rfl rfl rfl (by omega) (by omega)) rfl ?_; refine lw_load_r0 tabOk rfl rfl rfl hr1 rfl rfl (cA rfl rfl (cT ?_)); (refine cw_tdraw (fun wz => Ext w1 wz) 7 (.pure 0 (.pure 1 (.pure 2 (.pure 3 (.pure 4 (.pure 6 (.fork 5 .tail .none))))))) mixed (by kernel_rfl) (panicOk_block (panicOk_then (panicOk_then (panicOk_block (panicOk_then panicOk_body))))) ?_; intro wa1 xa2 _); have qsa3 : (fun wz => Ext w1 wz) wa1 := xa2; simp only at qsa3; have d_hM := hM; have d_hrow := hrow; have d_hb := hb; have d_hT := hT; have d_hS := hS; have d_hE := hE; have d_hr1 := hr1; have za4 := xa2.size; replace hM := hM.ext xa2; replace hrow := hrow.ext xa2; replace hb := hb.ext xa2; replace hT := hT.ext xa2; replace hS := hS.ext xa2; replace hE := hE.ext xa2; replace X := X.ext xa2; replace hr1 := hr1.ext xa2; clear xa2; refine ⟨qsa3, ?_⟩; refine tw_pure rfl (pur_move rfl) rfl (tw_pure rfl (pur_nilCheck rfl) rfl (tw_pure rfl (pur_fieldAddr tabOk rfl rfl rfl) rfl (tw_pure rfl (pur_load tabOk rfl rfl rfl (fun wz hz => Blk.cell (Blk.ext d_hb hz) rfl)) rfl (tw_pure rfl (pur_move rfl) rfl (tw_pure rfl (pur_move rfl) rfl ?_))))); refine tw_does rfl (does_call (by kernel_rfl) rfl (arith_Symbol_s _ _ (by omega) (by omega) (by assumption)) (fun _ _ h => ⟨_, h.1⟩)) rfl ?_ (fun _ h => h) tw_none; rintro _ wa5 ⟨⟨⟩, rfl⟩; refine ⟨qsa3, ?_⟩
    clear qsa3 d_hM d_hrow d_hb d_hT d_hS d_hE d_hr1; refine tw_tail rfl (lw_mapput tabOk rfl rfl rfl rfl rfl hM ?_); rintro wa6 ha7 fa8; have za9 := fa8.size; clear hM; replace hrow := Row.fr hrow fa8 (by simp only; omega); replace hb := hb.fr fa8 (by omega); replace hT := hT.fr fa8 (by omega); replace hS := hS.fr fa8 (by omega); replace hE := hE.fr fa8 (by omega); replace X := X.fr fa8 (by omega); replace hr1 := Row.fr hr1 fa8 (by simp only; omega); clear fa8; refine lw_nil (qw_block_norm (qw_then (cw_region ?_))); refine lw_pure (pur_add rfl rfl (IntWalk.i64_in _ (by omega))) rfl ?_; refine cM rfl rfl (lw_nil ?_); rotate_left 1
   refine qw_round (j + 1) (by (refine sub_cons rfl ?_; refine sub_cons rfl ?_; refine sub_cons rfl ?_; refine sub_cons rfl ?_; exact sub_nil)) ⟨by omega, by rw [← hset]; assumption, hrow, hb, hT, hS, hE, X, by omega⟩ (by omega)
 · have : j = 16 := by omega
   subst this
   focus
    refine cS (lw_pure (pur_lss rfl rfl) rfl (cT (cw_seq ?_))); refine cw_no rfl (by decide) ?_; refine cw_exit (qw_then_exit (qw_then_exit (qw_block_exit (qw_then (cS (cM rfl rfl (cA rfl rfl (cT (cw_ret (qw_ret1 rfl rfl ?_)))))))))); rotate_left 1
   have hsz := X.size; refine ⟨⟨b19, w1.heap.size, solidT (lexT s).1, s.length, a7, k8, r⟩, rfl, ⟨rfl, rfl, by simp only; omega⟩, ?_, X, Nat.le_refl _⟩; refine ⟨hb, hT.wide (fun b h => ⟨by simp only; omega, by simp only; omega⟩), hM, by simp only; omega, by simp only; omega, by simp only; omega, Nat.le_refl _, Nat.zero_le _, ?_, fun t ht => ?_, fun t ht => (solid_ok s t ht).num, hE, by simp only; omega⟩
   · exact Nat.le_trans (start_len s) hs
   · exact Nat.le_trans (solid_ok s t ht).len hs
end Bk
namespace Bk
open Go Go.RowKit Go.Proofs
attribute [local irreducible] Go.Calls
theorem fuel_ok {c : PC} {s : List UInt8} (h : c.ts = (startP s).1) (σ : PS) : 4 * mS c.ts σ + 20 ≤ fuelP s := by
 have h1 := start_len s
 have h2 : mS c.ts σ ≤ c.ts.length := by unfold mS; split <;> omega
 rw [h] at h2
 unfold fuelP
 rw [h]
 omega
def ParseR (w : World) (r : Nd × Int × Int) : Ending → World → Prop := fun e w' => ∃ a k, e = .returned (.tuple #[r.1.val a k, .int .i64 r.2.1, .int .i64 r.2.2]) ∧ r.1.sits (w.heap.size ≤ ·) w' a ∧ Ext w w'
theorem ParseR.ret {w : World} {r : Nd × Int × Int} {e : Ending} {w' : World} (h : ParseR w r e w') : ∃ v, e = .returned v := by
 obtain ⟨_, _, h, -⟩ := h
 exact ⟨_, h⟩
def ParsePR (w : World) (r : PG × Int × Int) : Ending → World → Prop := fun e w' => ∃ va vc pa pc ma mc, e = .returned (.tuple #[.agg (r.1.cells va vc pa pc ma mc).toArray, .int .i64 r.2.1, .int .i64 r.2.2]) ∧ r.1.sits (w.heap.size ≤ ·) w' va pa ma ∧ Ext w w'
theorem ParsePR.ret {w : World} {r : PG × Int × Int} {e : Ending} {w' : World} (h : ParsePR w r e w') : ∃ v, e = .returned v := by
 obtain ⟨_, _, _, _, _, _, h, -⟩ := h
 exact ⟨_, h⟩
theorem PG.sits.wide {S S' : Nat → Prop} {w : World} {g : PG} {va pa ma : Option Addr} (h : g.sits S w va pa ma) (hs : ∀ b, S b → S' b) : g.sits S' w va pa ma := ⟨h.vars.wide hs, h.procs.wide hs, h.main.wide hs⟩
theorem parseExpr_whole (s : List UInt8) (c : PC) (h1 : c.ts = (startP s).1) (h2 : c.n = s.length) : parseExpr s = wholeT (exprP c.ts c.n (fuelP s) 1 (startP s).2).1 (limitP (exprP c.ts c.n (fuelP s) 1 (startP s).2).1 0 (finishP c.ts c.n (exprP c.ts c.n (fuelP s) 1 (startP s).2).2)) := by
 unfold parseExpr wholeT
 rw [h1, h2]
set_option maxRecDepth 100000 in
set_option maxHeartbeats 4000000 in
theorem Expr_p (s : List UInt8) (w : World) (hs : s.length ≤ 1000000) (hS : Syms w) (hE : Errs w) : Calls Tryd.prog 15 #[str s] w (ParseR w (parseExpr s)) := by
 have X := Ext.refl w; refine calls_in Tryd.func15 Tryd.ntmps15 rfl rfl ?_
 focus
  refine cS ?_; (refine lw_alloc' [_, _, _, _] zOk rfl rfl ?_; intro b1 w2 n3); have h5 := n3.blk; have x6 := n3.ext; have p7 := n3.pos; have z8 := n3.size; clear n3; replace hS := hS.ext x6; replace hE := hE.ext x6; replace X := X.ext x6; clear x6; refine cA rfl rfl (cA rfl rfl (cN (cM rfl rfl ?_))); refine cR (by kernel_rfl) rfl (start_c s _ hs (by assumption) (by assumption)) (fun _ _ h => h.ret) rfl ?_; rintro _ w16 ⟨c9, ⟨⟨⟩, ⟨⟨h10, ⟨h11, h12⟩⟩, ⟨h13, ⟨x14, h15⟩⟩⟩⟩⟩; have z17 := x14.size; replace h5 := h5.ext x14; replace hS := hS.ext x14; replace hE := hE.ext x14; replace X := X.ext x14; clear x14; refine cA rfl rfl (cN (cM rfl rfl ?_)); rotate_left 1
 have hf := fuel_ok h10 (startP s).2; have hat := h13.at_; have hlen := h13.len; have hpb := h13.pbB; have hB := h13.B; rw [parseExpr_whole s c9 h10 h11]; have hle := expr_le (n := c9.n) (k := fuelP s) (lv := 1) hat; have hsz := exprs_size (n := c9.n) (k := fuelP s) (lv := 1) hat; have hwf := hle.wf
 have hsz2 : (exprP c9.ts c9.n (fuelP s) 1 (startP s).2).1.size ≤ 1000000000 := by omega
 focus
  refine cR (by kernel_rfl) rfl ((exprs_c c9 (fuelP s)).expr _ _ _ (by assumption) (by omega) (by decide) (by decide)) (fun _ _ h => h.ret) rfl ?_; rintro _ wa6 ⟨aa1, ⟨ka2, ⟨⟨⟩, ⟨ha3, ⟨ha4, fa5⟩⟩⟩⟩⟩; have za7 := fa5.size; clear h13; replace h5 := h5.fr fa5 (by omega); replace hS := hS.fr fa5 (by omega); clear hE; replace X := X.fr fa5 (by omega); clear fa5; (refine lw_alloc' [_, _, _, _] zOk rfl rfl ?_; intro ba8 wa9 na10); (refine lw_init' [_, _, _, _] tabOk rfl rfl rfl rfl rfl rfl na10 rfl ?_; clear na10; clear wa9; intro wa11 na10); have ha12 := na10.blk; have xa13 := na10.ext; have pa14 := na10.pos; have za15 := na10.size; clear na10; replace ha3 := Nd.sits.ext ha3 xa13; replace ha4 := ha4.ext xa13; replace h5 := h5.ext xa13; replace hS := hS.ext xa13; replace X := X.ext xa13; clear xa13; refine cN (cM rfl rfl ?_); refine cC (by kernel_rfl) rfl (finish_c _ _ _ (by assumption)) rfl ?_; rintro _ wa18 ⟨⟨⟩, ⟨ha16, fa17⟩⟩; have za19 := fa17.size; replace ha12 := ha12.fr fa17 (by omega); replace ha3 := Nd.sits.fr ha3 fa17 (by omega); clear ha4; replace h5 := h5.fr fa17 (by omega); replace hS := hS.fr fa17 (by omega); replace X := X.fr fa17 (by omega); clear fa17; refine cN (cM rfl rfl (lw_loads_b' [_, _, _, _] tabOk rfl rfl rfl ha12 rfl rfl rfl ?_)); refine cR (by kernel_rfl) rfl (whole_c _ _ _ _ _ _ _ (by assumption) (by assumption) (by assumption) (by intro b h; exact ⟨by omega, by omega⟩)) (fun _ _ h => h.ret) rfl ?_; rintro _ wa24 ⟨aa20, ⟨ka21, ⟨⟨⟩, ⟨ha22, fa23⟩⟩⟩⟩; have za25 := fa23.size
  clear ha16; replace ha12 := ha12.fr fa23 (by omega); replace ha3 := Nd.sits.fr ha3 fa23 (by omega); replace h5 := h5.fr fa23 (by omega); replace hS := hS.fr fa23 (by omega); replace X := X.fr fa23 (by omega); clear fa23; refine lw_pure (pur_extract rfl rfl) rfl (lw_pure (pur_extract rfl rfl) rfl (lw_pure (pur_extract rfl rfl) rfl ?_)); (refine lw_store' [_, _, _, _] [_, _, _, _] tabOk rfl rfl rfl rfl rfl rfl h5 rfl rfl ?_; intro wa26 na27); have ha30 := na27.blk; have fa28 := na27.fr; have za29 := na27.size; clear na27 h5; replace ha22 := Nd.sits.fr ha22 fa28 (by omega); replace ha12 := ha12.fr fa28 (by omega); replace ha3 := Nd.sits.fr ha3 fa28 (by omega); clear hS; replace X := X.fr fa28 (by omega); clear fa28; refine cA rfl rfl (cA rfl rfl (cT (cw_ret (qw_retc3 rfl tabOk rfl rfl rfl ha30 rfl rfl rfl ?_)))); rotate_left 1
 exact ⟨_, _, rfl, Nd.sits.wide (by assumption) (fun b h => by omega), X⟩
section
variable {ts : List Tok} {n : Int}
end
set_option maxRecDepth 100000 in
set_option maxHeartbeats 4000000 in
theorem Program_p (s : List UInt8) (w : World) (hs : s.length ≤ 1000000) (hS : Syms w) (hE : Errs w) : Calls Tryd.prog 12 #[str s] w (ParsePR w (parseProgram s)) := by
 have X := Ext.refl w; refine calls_in Tryd.func12 Tryd.ntmps12 rfl rfl ?_
 focus
  refine cS ?_; (refine lw_alloc' [_, _, _, _, _, _] zOk rfl rfl ?_; intro b1 w2 n3); have h5 := n3.blk; have x6 := n3.ext; have p7 := n3.pos; have z8 := n3.size; clear n3; replace hS := hS.ext x6; replace hE := hE.ext x6; replace X := X.ext x6; clear x6; refine cA rfl rfl (cA rfl rfl (cN (cM rfl rfl ?_))); refine cR (by kernel_rfl) rfl (start_c s _ hs (by assumption) (by assumption)) (fun _ _ h => h.ret) rfl ?_; rintro _ w16 ⟨c9, ⟨⟨⟩, ⟨⟨h10, ⟨h11, h12⟩⟩, ⟨h13, ⟨x14, h15⟩⟩⟩⟩⟩; have z17 := x14.size; replace h5 := h5.ext x14; replace hS := hS.ext x14; replace hE := hE.ext x14; replace X := X.ext x14; clear x14; refine cA rfl rfl (cN (cM rfl rfl ?_)); rotate_left 1
 have hf := fuel_ok h10 (startP s).2; have hat := h13.at_; have hlen := h13.len; have hpb := h13.pbB; have hB := h13.B
 have hpe : parseProgram s = if (finishP c9.ts c9.n (programP c9.ts c9.n (fuelP s) (startP s).2).2).err ≠ 0 then (⟨[], [], zeroNd⟩, (finishP c9.ts c9.n (programP c9.ts c9.n (fuelP s) (startP s).2).2).off, (finishP c9.ts c9.n (programP c9.ts c9.n (fuelP s) (startP s).2).2).err) else ((programP c9.ts c9.n (fuelP s) (startP s).2).1, 0, 0) := by
  unfold parseProgram
  rw [h10, h11]
 rw [hpe]
 by_cases he : (finishP c9.ts c9.n (programP c9.ts c9.n (fuelP s) (startP s).2).2).err = 0
 · rw [if_neg (fun h => h he)]
   focus
    refine cR (by kernel_rfl) rfl (program_c c9 (fuelP s) _ _ (by assumption) (by omega)) (fun _ _ h => h.ret) rfl ?_; rintro _ wa10 ⟨vaa1, ⟨vca2, ⟨paa3, ⟨pca4, ⟨maa5, ⟨mca6, ⟨⟨⟩, ⟨ha7, ⟨ha8, fa9⟩⟩⟩⟩⟩⟩⟩⟩⟩; have za11 := fa9.size; clear h13; replace h5 := h5.fr fa9 (by omega); replace hS := hS.fr fa9 (by omega); clear hE; replace X := X.fr fa9 (by omega); clear fa9; (refine lw_alloc' [_, _, _, _, _, _] zOk rfl rfl ?_; intro ba12 wa13 na14); (refine lw_init' [_, _, _, _, _, _] tabOk rfl rfl rfl rfl rfl rfl na14 rfl ?_; clear na14; clear wa13; intro wa15 na14); have ha16 := na14.blk; have xa17 := na14.ext; have pa18 := na14.pos; have za19 := na14.size; clear na14; replace ha7 := PG.sits.ext ha7 xa17; replace ha8 := ha8.ext xa17; replace h5 := h5.ext xa17; replace hS := hS.ext xa17; replace X := X.ext xa17; clear xa17; refine cN (cM rfl rfl ?_); refine cC (by kernel_rfl) rfl (finish_c _ _ _ (by assumption)) rfl ?_; rintro _ wa22 ⟨⟨⟩, ⟨ha20, fa21⟩⟩; have za23 := fa21.size; replace ha16 := ha16.fr fa21 (by omega); replace ha7 := PG.sits.fr ha7 fa21 (by omega); clear ha8; replace h5 := h5.fr fa21 (by omega); replace hS := hS.fr fa21 (by omega); replace X := X.fr fa21 (by omega); clear fa21; refine cT (cw_seq (cS (cM rfl rfl (lw_pure (pur_nilCheck rfl) rfl (lw_pure (pur_fieldAddr tabOk rfl rfl rfl) rfl (lw_load_b tabOk rfl rfl rfl (PP.blk ha20) rfl rfl (lw_pure (pur_neq rfl rfl) rfl (cT ?_)))))))); refine cw_no rfl (by omega) ?_; refine cw_skip (qw_then (cS (lw_loads_b' [_, _, _, _, _, _] tabOk rfl rfl rfl ha16 rfl rfl rfl ?_)))
    (refine lw_store' [_, _, _, _, _, _] [_, _, _, _, _, _] tabOk rfl rfl rfl rfl rfl rfl h5 rfl rfl ?_; intro wa24 na25); have ha28 := na25.blk; have fa26 := na25.fr; have za27 := na25.size; clear na25 h5 ha20; replace ha16 := ha16.fr fa26 (by omega); replace ha7 := PG.sits.fr ha7 fa26 (by omega); clear hS; replace X := X.fr fa26 (by omega); clear fa26; refine cA rfl rfl (cA rfl rfl (cT (cw_ret (qw_retc3 rfl tabOk rfl rfl rfl ha28 rfl rfl rfl ?_)))); rotate_left 1
   exact ⟨_, _, _, _, _, _, rfl, PG.sits.wide (by assumption) (fun b h => by omega), X⟩
 · rw [if_pos he]
   focus
    refine cR (by kernel_rfl) rfl (program_c c9 (fuelP s) _ _ (by assumption) (by omega)) (fun _ _ h => h.ret) rfl ?_; rintro _ wb10 ⟨vab1, ⟨vcb2, ⟨pab3, ⟨pcb4, ⟨mab5, ⟨mcb6, ⟨⟨⟩, ⟨hb7, ⟨hb8, fb9⟩⟩⟩⟩⟩⟩⟩⟩⟩; have zb11 := fb9.size; clear h13; replace h5 := h5.fr fb9 (by omega); replace hS := hS.fr fb9 (by omega); clear hE; replace X := X.fr fb9 (by omega); clear fb9; (refine lw_alloc' [_, _, _, _, _, _] zOk rfl rfl ?_; intro bb12 wb13 nb14); (refine lw_init' [_, _, _, _, _, _] tabOk rfl rfl rfl rfl rfl rfl nb14 rfl ?_; clear nb14; clear wb13; intro wb15 nb14); have hb16 := nb14.blk; have xb17 := nb14.ext; have pb18 := nb14.pos; have zb19 := nb14.size; clear nb14; replace hb7 := PG.sits.ext hb7 xb17; replace hb8 := hb8.ext xb17; replace h5 := h5.ext xb17; replace hS := hS.ext xb17; replace X := X.ext xb17; clear xb17; refine cN (cM rfl rfl ?_); refine cC (by kernel_rfl) rfl (finish_c _ _ _ (by assumption)) rfl ?_; rintro _ wb22 ⟨⟨⟩, ⟨hb20, fb21⟩⟩; have zb23 := fb21.size; replace hb16 := hb16.fr fb21 (by omega); replace hb7 := PG.sits.fr hb7 fb21 (by omega); clear hb8; replace h5 := h5.fr fb21 (by omega); replace hS := hS.fr fb21 (by omega); replace X := X.fr fb21 (by omega); clear fb21; refine cT (cw_seq (cS (cM rfl rfl (lw_pure (pur_nilCheck rfl) rfl (lw_pure (pur_fieldAddr tabOk rfl rfl rfl) rfl (lw_load_b tabOk rfl rfl rfl (PP.blk hb20) rfl rfl (lw_pure (pur_neq rfl rfl) rfl (cT ?_)))))))); refine cw_yes rfl (by assumption) ?_; refine cw_seq ?_; (refine cw_tdraw (fun wz => Fr (fun x => x = b1) wb22 wz) 11 (.pure 0 (.pure 1 (.pure 2 (.pure 3 (.pure 4 (.pure 5 (.pure 6 (.pure 7 (.pure 8 (.fork 9 (.pure 10 .tail) .none)))))))))) mixed (by kernel_rfl) (panicOk_then (panicOk_then panicOk_body)) ?_; intro wb24 xb25 _)
    have qsb26 : (fun wz => Fr (fun x => x = b1) wb22 wz) wb24 := Fr.of_ext xb25; simp only at qsb26; have d_hb20 := hb20; have d_hb16 := hb16; have d_hb7 := hb7; have d_h5 := h5; have d_hS := hS; have zb27 := xb25.size; replace hb20 := hb20.ext xb25; replace hb16 := hb16.ext xb25; replace hb7 := PG.sits.ext hb7 xb25; replace h5 := h5.ext xb25; replace hS := hS.ext xb25; replace X := X.ext xb25; clear xb25; refine ⟨qsb26, ?_⟩; refine tw_pure rfl (pur_build' [_, _, _, _, _, _] tabOk zOk rfl rfl rfl rfl) rfl (tw_pure rfl (pur_move rfl) rfl (tw_pure rfl (pur_nilCheck rfl) rfl (tw_pure rfl (pur_fieldAddr tabOk rfl rfl rfl) rfl ?_))); refine tw_pure rfl (pur_load tabOk rfl rfl rfl (fun wz hz => Blk.cell (Blk.fr (PP.blk d_hb20) hz (by omega)) rfl)) rfl ?_; refine tw_pure rfl (pur_move rfl) rfl (tw_pure rfl (pur_nilCheck rfl) rfl (tw_pure rfl (pur_fieldAddr tabOk rfl rfl rfl) rfl ?_)); refine tw_pure rfl (pur_load tabOk rfl rfl rfl (fun wz hz => Blk.cell (Blk.fr (PP.blk d_hb20) hz (by omega)) rfl)) rfl ?_; (refine tw_store [_, _, _, _, _, _] [_, _, _, _, _, _] rfl tabOk rfl rfl rfl rfl rfl rfl h5 rfl rfl ?_ tw_none; intro wb28 nb29); have hb32 := nb29.blk; have fb30 := nb29.fr; have zb31 := nb29.size; clear nb29 h5; replace qsb26 := qsb26.fr fb30 (by omega); clear hb20; replace hb16 := hb16.fr fb30 (by omega); replace hb7 := PG.sits.fr hb7 fb30 (by omega); clear hS; replace X := X.fr fb30 (by omega); clear fb30; refine ⟨qsb26, ?_⟩; refine tw_pure rfl (pur_assign rfl) rfl ?_; clear d_hb20 d_hb16 d_hb7 d_h5 d_hS qsb26
    refine tw_tail rfl (cA rfl rfl (cT (cw_ret (qw_then_ret (qw_retc3 rfl tabOk rfl rfl rfl hb32 rfl rfl rfl ?_))))); rotate_left 1
   exact ⟨_, _, _, _, _, _, rfl, ⟨Or.inl rfl, Or.inl rfl, sits_nil⟩, X⟩
end Bk
namespace Bk
open Go Go.RowKit Go.Proofs
attribute [local irreducible] Go.Calls
def Two (w : World) (k x y : Int) : Ending → World → Prop := fun e w' => ∃ kb ko c x1 x2 x3 y1 y2 y3, e = .returned (.tuple #[.agg #[.int .u8 k, .int .i64 0, str [], .slice (some ⟨kb, ko, none⟩) 2 c], .int .i64 0, .int .i64 0]) ∧ Row w' ⟨kb, ko + 0 * 4, none⟩ [.int .u8 x, x1, x2, x3] ∧ Row w' ⟨kb, ko + 1 * 4, none⟩ [.int .u8 y, y1, y2, y3] ∧ Ext w w'
theorem Two.ret {w : World} {k x y : Int} {e : Ending} {w' : World} (h : Two w k x y e w') : ∃ v, e = .returned v := by
 obtain ⟨_, _, _, _, _, _, _, _, _, h, -⟩ := h
 exact ⟨_, h⟩
theorem aw1_p (w : World) (hS : Syms w) (hE : Errs w) : Calls Tryd.prog 15 #[str [49, 32, 45, 32, 50, 32, 45, 32, 51, 32, 42, 32, 120]] w (Two w 9 9 10) := by
 have := Expr_p [49, 32, 45, 32, 50, 32, 45, 32, 51, 32, 42, 32, 120] w (by decide) hS hE; rw [aw1] at this; refine this.mono ?_; rintro e w' ⟨a, k, rfl, hs, x⟩; simp only [Nd.sits] at hs; obtain ⟨b, o, rfl, -, hk⟩ := kidRows hs (by simp); obtain ⟨a0, c0, r0, -⟩ := hk 0 _ rfl; obtain ⟨a1, c1, r1, -⟩ := hk 1 _ rfl
 exact ⟨b, o, k, _, _, _, _, _, _, rfl, r0, r1, x⟩
theorem aw2_p (w : World) (hS : Syms w) (hE : Errs w) : Calls Tryd.prog 15 #[str [49, 32, 43]] w (ParseR w (zeroNd, 3, 4)) := by
 have := Expr_p [49, 32, 43] w (by decide) hS hE
 rw [aw2] at this; exact this
theorem aw3_p (w : World) (hS : Syms w) (hE : Errs w) : Calls Tryd.prog 15 #[str [49, 32, 50]] w (ParseR w (zeroNd, 2, 3)) := by
 have := Expr_p [49, 32, 50] w (by decide) hS hE
 rw [aw3] at this; exact this
def OneS (w : World) (x : Int) : Ending → World → Prop := fun e w' => ∃ va vc pa pc kb ko c x1 x2 x3, e = .returned (.tuple #[.agg #[.slice va 0 vc, .slice pa 0 pc, .int .u8 57, .int .i64 0, str [], .slice (some ⟨kb, ko, none⟩) 1 c], .int .i64 0, .int .i64 0]) ∧ Row w' ⟨kb, ko + 0 * 4, none⟩ [.int .u8 x, x1, x2, x3] ∧ Ext w w'
theorem OneS.ret {w : World} {x : Int} {e : Ending} {w' : World} (h : OneS w x e w') : ∃ v, e = .returned v := by
 obtain ⟨_, _, _, _, _, _, _, _, _, _, h, -⟩ := h
 exact ⟨_, h⟩
theorem aw4_p (w : World) (hS : Syms w) (hE : Errs w) : Calls Tryd.prog 12 #[str [109, 97, 105, 110, 32, 123, 32, 120, 32, 43, 61, 32, 49, 59, 32, 125]] w (OneS w 40) := by
 have := Program_p [109, 97, 105, 110, 32, 123, 32, 120, 32, 43, 61, 32, 49, 59, 32, 125] w (by decide) hS hE; rw [aw4] at this; refine this.mono ?_; rintro e w' ⟨va, vc, pa, pc, ma, mc, rfl, hs, x⟩; have hm := hs.main; simp only [Nd.sits] at hm; obtain ⟨b, o, rfl, -, hk⟩ := kidRows hm (by simp); obtain ⟨a0, c0, r0, -⟩ := hk 0 _ rfl
 exact ⟨va, vc, pa, pc, b, o, mc, _, _, _, rfl, r0, x⟩
theorem aw5_p (w : World) (hS : Syms w) (hE : Errs w) : Calls Tryd.prog 12 #[str [109, 97, 105, 110, 32, 123, 32, 120, 32, 43, 61, 32, 49, 32, 125]] w (ParsePR w (⟨[], [], zeroNd⟩, 14, 3)) := by
 have := Program_p [109, 97, 105, 110, 32, 123, 32, 120, 32, 43, 61, 32, 49, 32, 125] w (by decide) hS hE
 rw [aw5] at this; exact this
set_option maxRecDepth 100000 in
set_option maxHeartbeats 4000000 in
theorem awake4_c (w : World) (hS : Syms w) (hE : Errs w) : Calls Tryd.prog 11 #[] w fun e w' => e = .returned (.bool true) ∧ Ext w w' := by
 have X := Ext.refl w; refine calls_in (args := []) Tryd.func11 Tryd.ntmps11 rfl rfl ?_
 focus
  refine cS (cA rfl rfl (cN ?_)); refine cR (by kernel_rfl) rfl (aw1_p _ (by assumption) (by assumption)) (fun _ _ h => h.ret) rfl ?_; rintro _ w13 ⟨kb1, ⟨ko2, ⟨c3, ⟨x14, ⟨x25, ⟨x36, ⟨y17, ⟨y28, ⟨y39, ⟨⟨⟩, ⟨h10, ⟨h11, x12⟩⟩⟩⟩⟩⟩⟩⟩⟩⟩⟩⟩; have z14 := x12.size; replace hS := hS.ext x12; replace hE := hE.ext x12; replace X := X.ext x12; clear x12; refine cM rfl rfl (lw_pure (pur_extract rfl rfl) rfl (lw_pure (pur_extract rfl rfl) rfl (lw_pure (pur_extract rfl rfl) rfl ?_))); (refine lw_alloc' [_, _, _, _] zOk rfl rfl ?_; intro b15 w16 n17); (refine lw_init' [_, _, _, _] tabOk rfl rfl rfl rfl rfl rfl n17 rfl ?_; clear n17; clear w16; intro w18 n17); have h19 := n17.blk; have x20 := n17.ext; have p21 := n17.pos; have z22 := n17.size; clear n17; replace h10 := h10.ext x20; replace h11 := h11.ext x20; replace hS := hS.ext x20; replace hE := hE.ext x20; replace X := X.ext x20; clear x20; refine cA rfl rfl (cA rfl rfl (cN ?_)); refine cR (by kernel_rfl) rfl (aw2_p _ (by assumption) (by assumption)) (fun _ _ h => h.ret) rfl ?_; rintro _ w27 ⟨a23, ⟨k24, ⟨⟨⟩, ⟨h25, x26⟩⟩⟩⟩; have z28 := x26.size; replace h19 := h19.ext x26; replace h10 := h10.ext x26; replace h11 := h11.ext x26; replace hS := hS.ext x26; replace hE := hE.ext x26; replace X := X.ext x26; clear x26; refine cM rfl rfl (lw_pure (pur_extract rfl rfl) rfl (lw_pure (pur_extract rfl rfl) rfl (lw_pure (pur_extract rfl rfl) rfl ?_))); (refine lw_alloc' [_, _, _, _] zOk rfl rfl ?_; intro b29 w30 n31); (refine lw_init' [_, _, _, _] tabOk rfl rfl rfl rfl rfl rfl n31 rfl ?_; clear n31; clear w30; intro w32 n31)
  have h33 := n31.blk; dsimp only at h33; have x34 := n31.ext; have p35 := n31.pos; have z36 := n31.size; clear n31; replace h25 := Nd.sits.ext h25 x34; replace h19 := h19.ext x34; replace h10 := h10.ext x34; replace h11 := h11.ext x34; replace hS := hS.ext x34; replace hE := hE.ext x34; replace X := X.ext x34; clear x34; refine cA rfl rfl (cA rfl rfl (cN ?_)); refine cR (by kernel_rfl) rfl (aw3_p _ (by assumption) (by assumption)) (fun _ _ h => h.ret) rfl ?_; rintro _ w41 ⟨a37, ⟨k38, ⟨⟨⟩, ⟨h39, x40⟩⟩⟩⟩; have z42 := x40.size; replace h33 := h33.ext x40; replace h25 := Nd.sits.ext h25 x40; replace h19 := h19.ext x40; replace h10 := h10.ext x40; replace h11 := h11.ext x40; replace hS := hS.ext x40; replace hE := hE.ext x40; replace X := X.ext x40; clear x40; refine cM rfl rfl (lw_pure (pur_extract rfl rfl) rfl (lw_pure (pur_extract rfl rfl) rfl (lw_pure (pur_extract rfl rfl) rfl ?_))); (refine lw_alloc' [_, _, _, _] zOk rfl rfl ?_; intro b43 w44 n45); (refine lw_init' [_, _, _, _] tabOk rfl rfl rfl rfl rfl rfl n45 rfl ?_; clear n45; clear w44; intro w46 n45); have h47 := n45.blk; dsimp only at h47; have x48 := n45.ext; have p49 := n45.pos; have z50 := n45.size; clear n45; replace h39 := Nd.sits.ext h39 x48; replace h33 := h33.ext x48; replace h25 := Nd.sits.ext h25 x48; replace h19 := h19.ext x48; replace h10 := h10.ext x48; replace h11 := h11.ext x48; replace hS := hS.ext x48; replace hE := hE.ext x48; replace X := X.ext x48; clear x48; refine cA rfl rfl (cA rfl rfl (cN ?_)); refine cR (by kernel_rfl) rfl (aw4_p _ (by assumption) (by assumption)) (fun _ _ h => h.ret) rfl ?_
  rintro _ w63 ⟨va51, ⟨vc52, ⟨pa53, ⟨pc54, ⟨kb55, ⟨ko56, ⟨c57, ⟨x158, ⟨x259, ⟨x360, ⟨⟨⟩, ⟨h61, x62⟩⟩⟩⟩⟩⟩⟩⟩⟩⟩⟩⟩; have z64 := x62.size; replace h47 := h47.ext x62; replace h39 := Nd.sits.ext h39 x62; replace h33 := h33.ext x62; replace h25 := Nd.sits.ext h25 x62; replace h19 := h19.ext x62; replace h10 := h10.ext x62; replace h11 := h11.ext x62; replace hS := hS.ext x62; replace hE := hE.ext x62; replace X := X.ext x62; clear x62; refine cM rfl rfl (lw_pure (pur_extract rfl rfl) rfl (lw_pure (pur_extract rfl rfl) rfl (lw_pure (pur_extract rfl rfl) rfl ?_))); (refine lw_alloc' [_, _, _, _, _, _] zOk rfl rfl ?_; intro b65 w66 n67); (refine lw_init' [_, _, _, _, _, _] tabOk rfl rfl rfl rfl rfl rfl n67 rfl ?_; clear n67; clear w66; intro w68 n67); have h69 := n67.blk; have x70 := n67.ext; have p71 := n67.pos; have z72 := n67.size; clear n67; replace h61 := h61.ext x70; replace h47 := h47.ext x70; replace h39 := Nd.sits.ext h39 x70; replace h33 := h33.ext x70; replace h25 := Nd.sits.ext h25 x70; replace h19 := h19.ext x70; replace h10 := h10.ext x70; replace h11 := h11.ext x70; replace hS := hS.ext x70; replace hE := hE.ext x70; replace X := X.ext x70; clear x70; refine cA rfl rfl (cA rfl rfl (cN ?_)); refine cR (by kernel_rfl) rfl (aw5_p _ (by assumption) (by assumption)) (fun _ _ h => h.ret) rfl ?_; rintro _ w81 ⟨va73, ⟨vc74, ⟨pa75, ⟨pc76, ⟨ma77, ⟨mc78, ⟨⟨⟩, ⟨h79, x80⟩⟩⟩⟩⟩⟩⟩⟩; have z82 := x80.size; replace h69 := h69.ext x80; replace h61 := h61.ext x80; replace h47 := h47.ext x80; replace h39 := Nd.sits.ext h39 x80
  replace h33 := h33.ext x80; replace h25 := Nd.sits.ext h25 x80; replace h19 := h19.ext x80; replace h10 := h10.ext x80; replace h11 := h11.ext x80; replace hS := hS.ext x80; replace hE := hE.ext x80; replace X := X.ext x80; clear x80; refine cM rfl rfl (lw_pure (pur_extract rfl rfl) rfl (lw_pure (pur_extract rfl rfl) rfl (lw_pure (pur_extract rfl rfl) rfl ?_))); (refine lw_alloc' [_, _, _, _, _, _] zOk rfl rfl ?_; intro b83 w84 n85); (refine lw_init' [_, _, _, _, _, _] tabOk rfl rfl rfl rfl rfl rfl n85 rfl ?_; clear n85; clear w84; intro w86 n85); have h87 := n85.blk; dsimp only at h87; have x88 := n85.ext; have p89 := n85.pos; have z90 := n85.size; clear n85; replace h79 := PG.sits.ext h79 x88; replace h69 := h69.ext x88; replace h61 := h61.ext x88; replace h47 := h47.ext x88; replace h39 := Nd.sits.ext h39 x88; replace h33 := h33.ext x88; replace h25 := Nd.sits.ext h25 x88; replace h19 := h19.ext x88; replace h10 := h10.ext x88; replace h11 := h11.ext x88; replace hS := hS.ext x88; replace hE := hE.ext x88; replace X := X.ext x88; clear x88; refine cA rfl rfl (cA rfl rfl (cN (cM rfl rfl (lw_pure (pur_eql rfl rfl) rfl (cM rfl rfl ?_))))); refine lw_on rfl rfl rfl (gd_tt (by decide)) ?_; refine lw_pure (pur_fieldAddr0 tabOk rfl rfl rfl) rfl ?_; refine lw_on rfl rfl rfl (gd_tt (by decide)) ?_; refine lw_load_b tabOk rfl rfl rfl h19 rfl rfl ?_; refine lw_on rfl rfl rfl (gd_tt (by decide)) ?_; refine lw_pure (pur_eql rfl rfl) rfl ?_; refine lw_pure (pur_pick_yes rfl rfl (by decide)) rfl ?_
  refine cM rfl rfl ?_; refine lw_on rfl rfl rfl (gd_tt (by decide)) ?_; refine lw_pure (pur_fieldAddr tabOk rfl rfl rfl) rfl ?_; refine lw_on rfl rfl rfl (gd_tt (by decide)) ?_; refine lw_load_b tabOk rfl rfl rfl h19 rfl rfl ?_; refine lw_on rfl rfl rfl (gd_tt (by decide)) ?_; refine lw_pure (pur_len_slice tabOk rfl rfl) rfl ?_; refine lw_on rfl rfl rfl (gd_tt (by decide)) ?_; refine lw_pure (pur_eql rfl rfl) rfl ?_; refine lw_pure (pur_pick_yes rfl rfl (by decide)) rfl ?_; refine cM rfl rfl ?_; refine lw_on rfl rfl rfl (gd_tt (by decide)) ?_; refine lw_pure (pur_fieldAddr tabOk rfl rfl rfl) rfl ?_; refine lw_on rfl rfl rfl (gd_tt (by decide)) ?_; refine lw_load_b tabOk rfl rfl rfl h19 rfl rfl ?_; refine lw_on rfl rfl rfl (gd_tt (by decide)) ?_; refine lw_pure (pur_indexAddr tabOk rfl rfl rfl rfl (by omega) (by omega)) rfl ?_; refine lw_on rfl rfl rfl (gd_tt (by decide)) ?_; refine lw_pure (pur_fieldAddr0 tabOk rfl rfl rfl) rfl ?_; refine lw_on rfl rfl rfl (gd_tt (by decide)) ?_; refine lw_load_r tabOk rfl rfl rfl h10 rfl rfl ?_; refine lw_on rfl rfl rfl (gd_tt (by decide)) ?_; refine lw_pure (pur_eql rfl rfl) rfl ?_; refine lw_pure (pur_pick_yes rfl rfl (by decide)) rfl ?_; refine cM rfl rfl ?_; refine lw_on rfl rfl rfl (gd_tt (by decide)) ?_; refine lw_pure (pur_fieldAddr tabOk rfl rfl rfl) rfl ?_; refine lw_on rfl rfl rfl (gd_tt (by decide)) ?_; refine lw_load_b tabOk rfl rfl rfl h19 rfl rfl ?_; refine lw_on rfl rfl rfl (gd_tt (by decide)) ?_; refine lw_pure (pur_indexAddr tabOk rfl rfl rfl rfl (by omega) (by omega)) rfl ?_
  refine lw_on rfl rfl rfl (gd_tt (by decide)) ?_; refine lw_pure (pur_fieldAddr0 tabOk rfl rfl rfl) rfl ?_; refine lw_on rfl rfl rfl (gd_tt (by decide)) ?_; refine lw_load_r0 tabOk rfl rfl rfl h11 rfl rfl ?_; refine lw_on rfl rfl rfl (gd_tt (by decide)) ?_; refine lw_pure (pur_eql rfl rfl) rfl ?_; refine lw_pure (pur_pick_yes rfl rfl (by decide)) rfl ?_; refine cM rfl rfl ?_; refine lw_on rfl rfl rfl (gd_tt (by decide)) ?_; refine cM rfl rfl ?_; refine lw_on rfl rfl rfl (gd_tt (by decide)) ?_; refine lw_pure (pur_eql rfl rfl) rfl ?_; refine lw_pure (pur_pick_yes rfl rfl (by decide)) rfl ?_; refine cM rfl rfl ?_; refine lw_on rfl rfl rfl (gd_tt (by decide)) ?_; refine cM rfl rfl ?_; refine lw_on rfl rfl rfl (gd_tt (by decide)) ?_; refine lw_pure (pur_eql rfl rfl) rfl ?_; refine lw_pure (pur_pick_yes rfl rfl (by decide)) rfl ?_; refine cM rfl rfl ?_; refine lw_on rfl rfl rfl (gd_tt (by decide)) ?_; refine cM rfl rfl ?_; refine lw_on rfl rfl rfl (gd_tt (by decide)) ?_; refine lw_pure (pur_eql rfl rfl) rfl ?_; refine lw_pure (pur_pick_yes rfl rfl (by decide)) rfl ?_; refine cM rfl rfl ?_; refine lw_on rfl rfl rfl (gd_tt (by decide)) ?_; refine cM rfl rfl ?_; refine lw_on rfl rfl rfl (gd_tt (by decide)) ?_; refine lw_pure (pur_eql rfl rfl) rfl ?_; refine lw_pure (pur_pick_yes rfl rfl (by decide)) rfl ?_; refine cM rfl rfl ?_; refine lw_on rfl rfl rfl (gd_tt (by decide)) ?_; refine cM rfl rfl ?_; refine lw_on rfl rfl rfl (gd_tt (by decide)) ?_; refine lw_pure (pur_eql rfl rfl) rfl ?_
  refine lw_pure (pur_pick_yes rfl rfl (by decide)) rfl ?_; refine cM rfl rfl ?_; refine lw_on rfl rfl rfl (gd_tt (by decide)) ?_; refine lw_pure (pur_fieldAddr tabOk rfl rfl rfl) rfl ?_; refine lw_on rfl rfl rfl (gd_tt (by decide)) ?_; refine lw_pure (pur_fieldAddr tabOk rfl rfl rfl) rfl ?_; refine lw_on rfl rfl rfl (gd_tt (by decide)) ?_; refine lw_load_b tabOk rfl rfl rfl h69 rfl rfl ?_; refine lw_on rfl rfl rfl (gd_tt (by decide)) ?_; refine lw_pure (pur_len_slice tabOk rfl rfl) rfl ?_; refine lw_on rfl rfl rfl (gd_tt (by decide)) ?_; refine lw_pure (pur_eql rfl rfl) rfl ?_; refine lw_pure (pur_pick_yes rfl rfl (by decide)) rfl ?_; refine cM rfl rfl ?_; refine lw_on rfl rfl rfl (gd_tt (by decide)) ?_; refine lw_pure (pur_fieldAddr tabOk rfl rfl rfl) rfl ?_; refine lw_on rfl rfl rfl (gd_tt (by decide)) ?_; refine lw_pure (pur_fieldAddr tabOk rfl rfl rfl) rfl ?_; refine lw_on rfl rfl rfl (gd_tt (by decide)) ?_; refine lw_load_b tabOk rfl rfl rfl h69 rfl rfl ?_; refine lw_on rfl rfl rfl (gd_tt (by decide)) ?_; refine lw_pure (pur_indexAddr tabOk rfl rfl rfl rfl (by omega) (by omega)) rfl ?_; refine lw_on rfl rfl rfl (gd_tt (by decide)) ?_; refine lw_pure (pur_fieldAddr0 tabOk rfl rfl rfl) rfl ?_; refine lw_on rfl rfl rfl (gd_tt (by decide)) ?_; refine lw_load_r tabOk rfl rfl rfl h61 rfl rfl ?_; refine lw_on rfl rfl rfl (gd_tt (by decide)) ?_; refine lw_pure (pur_eql rfl rfl) rfl ?_; refine lw_pure (pur_pick_yes rfl rfl (by decide)) rfl ?_; refine cM rfl rfl ?_; refine lw_on rfl rfl rfl (gd_tt (by decide)) ?_
  refine cM rfl rfl ?_; refine lw_on rfl rfl rfl (gd_tt (by decide)) ?_; refine lw_pure (pur_eql rfl rfl) rfl ?_; refine lw_pure (pur_pick_yes rfl rfl (by decide)) rfl ?_; refine cM rfl rfl ?_; refine lw_on rfl rfl rfl (gd_tt (by decide)) ?_; refine cM rfl rfl ?_; refine lw_on rfl rfl rfl (gd_tt (by decide)) ?_; refine lw_pure (pur_eql rfl rfl) rfl ?_; refine lw_pure (pur_pick_yes rfl rfl (by decide)) rfl ?_; refine cA rfl rfl (cT (cw_ret (qw_ret1 rfl rfl ?_))); rotate_left 1
 exact ⟨rfl, X⟩
end Bk
namespace Bk
open Go Go.RowKit Go.Proofs
attribute [local irreducible] Go.Calls
theorem length_rowSize2 (l : List Nd) : l.length ≤ rowSize l := by
 induction l with
 | nil => simp [rowSize]
 | cons x r ih => have := Nd.size_pos x; simp only [rowSize, List.length_cons]; omega
set_option maxRecDepth 100000 in
set_option maxHeartbeats 1000000 in
theorem Equal_t (N : Nat) : ∀ (t : Nd) (S S' : Nat → Prop) (a a' : Option Addr) (c c' : Nat) (w : World), t.size < N → t.kids.length ≤ 1000000000 → rowSize t.kids ≤ 1000000000 → t.sits S w a → t.sits S' w a' →
 Calls Tryd.prog 16 #[t.val a c, t.val a' c'] w fun e w' => e = .returned (.bool true) ∧ Ext w w' := by
 induction N with
 | zero => intro t S S' a a' c c' w h; omega
 | succ N ih =>
  rintro ⟨k, n, s, l⟩ S S' a a' c c' w hN hM hR hs hs'
  have IH := Lib.hid ih; clear ih
  simp only [Nd.sits] at hs hs'; simp only [Nd.size, Nd.kids] at hN hM hR; simp only [Nd.val, Nd.kind, Nd.num, Nd.name, Nd.kids]; have X := Ext.refl w; refine calls_in Tryd.func16 Tryd.ntmps16 rfl rfl ?_
  focus
   refine cS ?_; (refine lw_box' [_, _, _, _] rfl rfl rfl ?_; intro b1 w2 n3); have h4 := n3.blk; have x5 := n3.ext; have p6 := n3.pos; have z7 := n3.size; clear n3; replace hs := Bk.rowSits.ext hs x5; replace hs' := Bk.rowSits.ext hs' x5; replace X := X.ext x5; clear x5; (refine lw_box' [_, _, _, _] rfl rfl rfl ?_; intro b8 w9 n10); have h11 := n10.blk; have x12 := n10.ext; have p13 := n10.pos; have z14 := n10.size; clear n10; replace h4 := h4.ext x12; replace hs := Bk.rowSits.ext hs x12; replace hs' := Bk.rowSits.ext hs' x12; replace X := X.ext x12; clear x12; refine cA rfl rfl (cT (cw_seq (cS (lw_pure (pur_fieldAddr0 tabOk rfl rfl rfl) rfl (lw_load_b tabOk rfl rfl rfl h4 rfl rfl (lw_pure (pur_fieldAddr0 tabOk rfl rfl rfl) rfl (lw_load_b tabOk rfl rfl rfl h11 rfl rfl (lw_pure (pur_neq rfl rfl) rfl (cM rfl rfl ?_))))))))); refine lw_on rfl rfl rfl (gd_ff (by omega)) ?_; refine lw_pure (pur_fieldAddr tabOk rfl rfl rfl) rfl ?_; refine lw_on rfl rfl rfl (gd_ff (by omega)) ?_; refine lw_load_b tabOk rfl rfl rfl h4 rfl rfl ?_; refine lw_on rfl rfl rfl (gd_ff (by omega)) ?_; refine lw_pure (pur_fieldAddr tabOk rfl rfl rfl) rfl ?_; refine lw_on rfl rfl rfl (gd_ff (by omega)) ?_; refine lw_load_b tabOk rfl rfl rfl h11 rfl rfl ?_; refine lw_on rfl rfl rfl (gd_ff (by omega)) ?_; refine lw_pure (pur_neq rfl rfl) rfl ?_; refine lw_pure (pur_pick_no rfl rfl (by omega)) rfl ?_; refine cM rfl rfl ?_; refine lw_on rfl rfl rfl (gd_ff (by omega)) ?_; refine lw_pure (pur_fieldAddr tabOk rfl rfl rfl) rfl ?_
   refine lw_on rfl rfl rfl (gd_ff (by omega)) ?_; refine lw_load_b tabOk rfl rfl rfl h4 rfl rfl ?_; refine lw_on rfl rfl rfl (gd_ff (by omega)) ?_; refine lw_pure (pur_fieldAddr tabOk rfl rfl rfl) rfl ?_; refine lw_on rfl rfl rfl (gd_ff (by omega)) ?_; refine lw_load_b tabOk rfl rfl rfl h11 rfl rfl ?_; refine lw_on rfl rfl rfl (gd_ff (by omega)) ?_; refine lw_pure (pur_sneq rfl rfl) rfl ?_; refine lw_pure (pur_pick_no rfl rfl (by omega)) rfl ?_; refine cM rfl rfl (lw_on rfl rfl rfl (gd_ff (not_not_intro rfl)) (lw_pure (pur_fieldAddr tabOk rfl rfl rfl) rfl (lw_on rfl rfl rfl (gd_ff (not_not_intro rfl)) (lw_load_b tabOk rfl rfl rfl h4 rfl rfl (lw_on rfl rfl rfl (gd_ff (not_not_intro rfl)) (lw_pure (pur_len_slice tabOk rfl rfl) rfl (lw_on rfl rfl rfl (gd_ff (not_not_intro rfl)) (lw_pure (pur_fieldAddr tabOk rfl rfl rfl) rfl (lw_on rfl rfl rfl (gd_ff (not_not_intro rfl)) (lw_load_b tabOk rfl rfl rfl h11 rfl rfl (lw_on rfl rfl rfl (gd_ff (not_not_intro rfl)) ?_))))))))))); refine lw_pure (pur_len_slice tabOk rfl rfl) rfl (lw_on rfl rfl rfl (gd_ff (not_not_intro rfl)) (lw_pure (pur_neq rfl rfl) rfl (lw_pure (pur_pick_no rfl rfl (not_not_intro rfl)) rfl (cT ?_)))); refine cw_no rfl (by omega) ?_; refine cw_skip (qw_then (cw_seq (cS (cA rfl rfl (cT (cw_block ?_)))))); rotate_left 1
  refine cw_loop (ι := Nat) (fun j => [(2, .pointer (some ⟨b1, 0, none⟩)), (3, .pointer (some ⟨b8, 0, none⟩)), (5, .int .i64 j)]) (fun j w' => rowSits S w' l a ∧ rowSits S' w' l a' ∧ Ext w w' ∧ Blk w' b1 [.int .u8 k, .int .i64 n, str s, .slice a l.length c] ∧ Blk w' b8 [.int .u8 k, .int .i64 n, str s, .slice a' l.length c'] ∧ j ≤ l.length) (fun j => l.length - j) 0 (by (refine sub_cons rfl ?_; refine sub_cons rfl ?_; refine sub_cons rfl ?_; exact sub_nil)) ⟨hs, hs', X, h4, h11, Nat.zero_le _⟩ ?_; rintro j w1 ⟨hs, hs', X, hb, hb', hj⟩; clear h4 h11
  by_cases hlt : j < l.length
  · obtain ⟨kb, ko, rfl, hkS, hkid⟩ := kidRows hs (by intro e; subst e; simp at hlt)
    obtain ⟨kb', ko', rfl, hkS', hkid'⟩ := kidRows hs' (by intro e; subst e; simp at hlt); obtain ⟨xa, xc, rx, sx⟩ := hkid j l[j] (List.getElem?_eq_getElem hlt); obtain ⟨ya, yc, ry, sy⟩ := hkid' j l[j] (List.getElem?_eq_getElem hlt); have hsz := size_mem (List.getElem_mem hlt)
    have hsz2 : l[j].size = 1 + rowSize l[j].kids := by cases l[j]; simp [Nd.size, Nd.kids]
    have hln := length_rowSize2 l[j].kids; clear hkid hkid'
    generalize l[j] = x at *
    focus
     refine cw_seq (cS (cM rfl rfl (lw_pure (pur_fieldAddr tabOk rfl rfl rfl) rfl (lw_load_b tabOk rfl rfl rfl hb rfl rfl (lw_pure (pur_len_slice tabOk rfl rfl) rfl (lw_pure (pur_lss rfl rfl) rfl (cT ?_))))))); refine cw_yes rfl (by omega) ?_; refine cw_skip (qw_then (cw_seq (cw_block (cw_seq ?_)))); (refine cw_tdraw (fun wz => Ext w1 wz) 10 (.pure 0 (.pure 1 (.pure 2 (.pure 3 (.pure 4 (.pure 5 (.pure 6 (.pure 7 (.pure 8 (.pure 9 .tail)))))))))) mixed (by kernel_rfl) (panicOk_then (panicOk_block (panicOk_then (panicOk_then (panicOk_block (panicOk_then panicOk_body)))))) ?_; intro wa1 xa2 _); have qsa3 : (fun wz => Ext w1 wz) wa1 := xa2; simp only at qsa3; have d_hs := hs; have d_hb := hb; have d_hs' := hs'; have d_hb' := hb'; have d_rx := rx; have d_sx := sx; have d_ry := ry; have d_sy := sy; have za4 := xa2.size; replace X := X.ext xa2; replace hs := Bk.rowSits.ext hs xa2; replace hb := hb.ext xa2; replace hs' := Bk.rowSits.ext hs' xa2; replace hb' := Blk.ext hb' xa2; replace rx := rx.ext xa2; replace sx := Nd.sits.ext sx xa2; replace ry := ry.ext xa2; replace sy := Nd.sits.ext sy xa2; clear xa2; refine ⟨qsa3, ?_⟩; refine tw_pure rfl (pur_fieldAddr tabOk rfl rfl rfl) rfl (tw_pure rfl (pur_load tabOk rfl rfl rfl (fun wz hz => Blk.cell (Blk.ext d_hb hz) rfl)) rfl (tw_pure rfl (pur_move rfl) rfl ?_)); refine tw_pure rfl (pur_indexAddr tabOk rfl rfl rfl rfl (by omega) (by omega)) rfl ?_; refine tw_pure rfl (pur_loads' tabOk rfl rfl rfl (fun wz hz => (Row.ext d_rx hz)) rfl) rfl (tw_pure rfl (pur_fieldAddr tabOk rfl rfl rfl) rfl (tw_pure rfl (pur_load tabOk rfl rfl rfl (fun wz hz => Blk.cell (Blk.ext d_hb' hz) rfl)) rfl (tw_pure rfl (pur_move rfl) rfl ?_)))
     refine tw_pure rfl (pur_indexAddr tabOk rfl rfl rfl rfl (by omega) (by omega)) rfl ?_; refine tw_pure rfl (pur_loads' tabOk rfl rfl rfl (fun wz hz => (Row.ext d_ry hz)) rfl) rfl ?_; clear qsa3 d_hs d_hb d_hs' d_hb' d_rx d_sx d_ry d_sy; refine tw_tail rfl ?_; refine cC (by kernel_rfl) rfl (IH.out x S S' _ _ _ _ _ (by omega) (by omega) (by omega) (by assumption) (by assumption)) rfl ?_; rintro _ wa6 ⟨⟨⟩, xa5⟩; have za7 := xa5.size; replace X := X.ext xa5; replace hs := Bk.rowSits.ext hs xa5; replace hb := hb.ext xa5; replace hs' := Bk.rowSits.ext hs' xa5; replace hb' := Blk.ext hb' xa5; replace rx := rx.ext xa5; replace sx := Nd.sits.ext sx xa5; replace ry := ry.ext xa5; replace sy := Nd.sits.ext sy xa5; clear xa5; refine lw_pure (pur_not rfl) rfl (cT (cw_cond_f rfl (cw_skip (qw_block_norm (qw_then (cw_region (cM rfl rfl ?_))))))); refine lw_pure (pur_add rfl rfl (IntWalk.i64_in _ (by omega))) rfl ?_; refine cA rfl rfl (lw_nil ?_); rotate_left 1
    exact qw_round (j + 1) (by (refine sub_cons rfl ?_; refine sub_cons rfl ?_; refine sub_cons rfl ?_; exact sub_nil)) ⟨hs, hs', X, hb, hb', by omega⟩ (by omega)
  · focus
     refine cw_seq (cS (cM rfl rfl (lw_pure (pur_fieldAddr tabOk rfl rfl rfl) rfl (lw_load_b tabOk rfl rfl rfl hb rfl rfl (lw_pure (pur_len_slice tabOk rfl rfl) rfl (lw_pure (pur_lss rfl rfl) rfl (cT ?_))))))); refine cw_no rfl (by omega) ?_; refine cw_exit (qw_then_exit (qw_then_exit (qw_block_exit (qw_then (cS (cA rfl rfl (cT (cw_ret (qw_ret1 rfl rfl ?_))))))))); rotate_left 1
    exact ⟨rfl, X⟩
theorem vd_fields : (Tryd.prog.fieldsOf 77).toList.map (fun f => (f.name == "_", f.type, f.offset)) = [(false, 9, 0), (false, 5, 1), (false, 3, 2)] := by kernel_rfl
theorem vd_under : Tryd.prog.underlying 77 = some (.struct (Tryd.prog.fieldsOf 77)) := by kernel_rfl
theorem vd_stood : Tryd.prog.stoodInHeld 77 = false := by kernel_rfl
theorem vd_guard : Tryd.prog.eqGuardType Tryd.prog.depth 77 = false := by kernel_rfl
theorem eqFields_same {P : Program} {d : Nat} {xs : Array Value} {w : World} : ∀ (fs : List Field), (∀ f ∈ fs, ∃ v, (part f.type xs f.offset).run P w = .ok v w ∧ (Op.equalIn d f.type v v).run P w = .ok true w) → (Op.eqFields d xs xs fs).run P w = .ok true w
 | [], _ => by simp [Op.eqFields]
 | f :: fs, h => by
  obtain ⟨v, h1, h2⟩ := h f List.mem_cons_self; have ih := eqFields_same (P := P) (d := d) (xs := xs) (w := w) fs (fun g hg => h g (List.mem_cons_of_mem _ hg))
  unfold Op.eqFields
  split
  · simp only [Sem.run_bind, h1, h2, Result.andThen_ok, Bool.not_true, Bool.false_eq_true, if_false, ih]
  · exact ih
theorem run_part {P : Program} {tab : Tab} {t sz off : Nat} {s : Sk} {cs : List Value} {v : Value} (T : TabOk P tab) (ht : lookT tab t = some (s, sz)) (hs : s.agg = false) (hv : cs[off]? = some v) (w : World) : (part t cs.toArray off).run P w = .ok v w := by
 simp [part, Sem.run_bind, run_isAgg (T _ _ _ ht), hs, Result.andThen, hv]
theorem run_vd_same (v : VD) (w : World) : (Op.equalIn 10000 77 v.val v.val).run Tryd.prog w = .ok true w := by
 rw [show (10000 : Nat) = 9999 + 1 from rfl, run_equalIn_agg w 9999 _ _ _ vd_under vd_stood]; refine eqFields_same _ (fun f hf => ?_); have hm : (f.name == "_", f.type, f.offset) ∈ (Tryd.prog.fieldsOf 77).toList.map (fun f => (f.name == "_", f.type, f.offset)) := List.mem_map.2 ⟨f, hf, rfl⟩; rw [vd_fields] at hm; simp only [List.mem_cons, List.not_mem_nil, or_false, Prod.mk.injEq] at hm
 rcases hm with ⟨-, h1, h2⟩ | ⟨-, h1, h2⟩ | ⟨-, h1, h2⟩
 · rw [h1, h2]
   refine ⟨str v.name, run_part (cs := v.cells) tabOk rfl rfl rfl w, ?_⟩
   rw [run_equalIn_string w 9998 _ _ _ (show Tryd.prog.underlying 9 = some .string from (tabOk 9 .str 1 rfl).under)]; simp
 · rw [h1, h2]
   refine ⟨.int .u8 v.kind, run_part (cs := v.cells) tabOk rfl rfl rfl w, ?_⟩
   rw [run_equalIn_int w 9998 _ _ .u8 _ _ (show Tryd.prog.underlying 5 = some (.int .u8) from (tabOk 5 (.int .u8) 1 rfl).under)]; simp
 · rw [h1, h2]
   refine ⟨.int .i64 v.len, run_part (cs := v.cells) tabOk rfl rfl rfl w, ?_⟩
   rw [run_equalIn_int w 9998 _ _ .i64 _ _ (show Tryd.prog.underlying 3 = some (.int .i64) from (tabOk 3 (.int .i64) 1 rfl).under)]; simp
theorem pur_vdneq {n : Nat} {l : Sl} {S : World → Prop} {ty t' : TypeId} {x y : Operand} {v : VD} (hx : ev l x = some v.val) (hy : ev l y = some v.val) : Pur Tryd.prog n l S (.binOp .neq 77 x y t') ty (.bool false) := by
 unfold Pur
 intro a w dst pos after g ha _; have e1 := run_eqGuard_agg (P := Tryd.prog) w .neq 77 x y v.cells.toArray v.cells.toArray vd_guard
 have e2 : (binOp .neq 77 v.val v.val).run Tryd.prog w = .ok (.bool false) w := by
  rw [run_neq_struct, run_vd_same]; rfl
 simp only [execOp, ha.ev hx, ha.ev hy, Sem.run_bind, e1, e2, Result.andThen_ok, Sem.run_pure]
set_option maxRecDepth 100000 in
set_option maxHeartbeats 1000000 in
theorem decls_t (l : List VD) (S S' : Nat → Prop) (a a' : Option Addr) (c c' : Nat) (w : World) (hl : l.length ≤ 1000000000) (hs : VDs S w l a) (hs' : VDs S' w l a') :
 Calls Tryd.prog 25 #[.slice a l.length c, .slice a' l.length c'] w fun e w' => e = .returned (.bool true) ∧ Ext w w' := by
 have X := Ext.refl w; refine calls_in Tryd.func25 Tryd.ntmps25 rfl rfl ?_
 focus
  refine cS (cA rfl rfl (cT (cw_seq (cS (cM rfl rfl (lw_pure (pur_len_slice tabOk rfl rfl) rfl (cM rfl rfl (lw_pure (pur_len_slice tabOk rfl rfl) rfl (lw_pure (pur_neq rfl rfl) rfl (cT ?_)))))))))); refine cw_no rfl (by omega) ?_; refine cw_skip (qw_then (cw_seq (cS (cA rfl rfl (cT (cw_block ?_)))))); rotate_left 1
 refine cw_loop (ι := Nat) (fun j => [(0, .slice a l.length c), (1, .slice a' l.length c'), (5, .int .i64 j)]) (fun j w' => VDs S w' l a ∧ VDs S' w' l a' ∧ Ext w w' ∧ j ≤ l.length) (fun j => l.length - j) 0 (by (refine sub_cons rfl ?_; refine sub_cons rfl ?_; refine sub_cons rfl ?_; exact sub_nil)) ⟨hs, hs', X, Nat.zero_le _⟩ ?_; rintro j w1 ⟨hs, hs', X, hj⟩
 by_cases hlt : j < l.length
 · obtain ⟨kb, ko, rfl, -, hk⟩ := hs.get (by omega)
   obtain ⟨kb', ko', rfl, -, hk'⟩ := hs'.get (by omega); have r1 : Row w1 ⟨kb, ko + j * 3, none⟩ l[j].cells := hk j _ (List.getElem?_eq_getElem hlt); have r2 : Row w1 ⟨kb', ko' + j * 3, none⟩ l[j].cells := hk' j _ (List.getElem?_eq_getElem hlt); clear hk hk'
   generalize l[j] = x at *
   focus
    refine cw_seq (cS (cM rfl rfl (cM rfl rfl (lw_pure (pur_len_slice tabOk rfl rfl) rfl (lw_pure (pur_lss rfl rfl) rfl (cT ?_)))))); refine cw_yes rfl (by omega) ?_; refine cw_skip (qw_then (cw_seq (cw_block (cw_seq ?_)))); (refine cw_tdraw (fun wz => Ext w1 wz) 8 (.pure 0 (.pure 1 (.pure 2 (.pure 3 (.pure 4 (.pure 5 (.pure 6 (.pure 7 .tail)))))))) mixed (by kernel_rfl) (panicOk_then (panicOk_block (panicOk_then (panicOk_then (panicOk_block (panicOk_then panicOk_body)))))) ?_; intro wa1 xa2 _); have qsa3 : (fun wz => Ext w1 wz) wa1 := xa2; simp only at qsa3; have d_hs := hs; have d_hs' := hs'; have d_r1 := r1; have d_r2 := r2; have za4 := xa2.size; replace X := X.ext xa2; replace hs := hs.ext xa2; replace hs' := VDs.ext hs' xa2; replace r1 := r1.ext xa2; replace r2 := r2.ext xa2; clear xa2; refine ⟨qsa3, ?_⟩; refine tw_pure rfl (pur_move rfl) rfl (tw_pure rfl (pur_move rfl) rfl ?_); refine tw_pure rfl (pur_indexAddr tabOk rfl rfl rfl rfl (by omega) (by omega)) rfl ?_; refine tw_pure rfl (pur_loads' tabOk rfl rfl rfl (fun wz hz => (Row.ext d_r1 hz)) rfl) rfl (tw_pure rfl (pur_move rfl) rfl (tw_pure rfl (pur_move rfl) rfl ?_)); refine tw_pure rfl (pur_indexAddr tabOk rfl rfl rfl rfl (by omega) (by omega)) rfl ?_; refine tw_pure rfl (pur_loads' tabOk rfl rfl rfl (fun wz hz => (Row.ext d_r2 hz)) rfl) rfl ?_; clear qsa3 d_hs d_hs' d_r1 d_r2; refine tw_tail rfl (lw_pure (pur_vdneq (v := x) rfl rfl) rfl (cT (cw_cond_f rfl (cw_skip (qw_block_norm (qw_then (cw_region (cM rfl rfl ?_))))))))
    refine lw_pure (pur_add rfl rfl (IntWalk.i64_in _ (by omega))) rfl ?_; refine cA rfl rfl (lw_nil ?_); rotate_left 1
   exact qw_round (j + 1) (by (refine sub_cons rfl ?_; refine sub_cons rfl ?_; refine sub_cons rfl ?_; exact sub_nil)) ⟨hs, hs', X, by omega⟩ (by omega)
 · focus
    refine cw_seq (cS (cM rfl rfl (cM rfl rfl (lw_pure (pur_len_slice tabOk rfl rfl) rfl (lw_pure (pur_lss rfl rfl) rfl (cT ?_)))))); refine cw_no rfl (by omega) ?_; refine cw_exit (qw_then_exit (qw_then_exit (qw_block_exit (qw_then (cS (cA rfl rfl (cT (cw_ret (qw_ret1 rfl rfl ?_))))))))); rotate_left 1
   exact ⟨rfl, X⟩
end Bk
namespace Bk
open Go Go.RowKit Go.Proofs
attribute [local irreducible] Go.Calls
theorem kids_le (t : Nd) (h : t.size ≤ 1000000000) : t.kids.length ≤ 1000000000 ∧ rowSize t.kids ≤ 1000000000 := by
 obtain ⟨k, n, s, l⟩ := t; have := length_rowSize2 l; simp only [Nd.size, Nd.kids] at h ⊢
 omega
structure PG.small (g : PG) : Prop where
 nv : g.vars.length ≤ 1000000000
 np : g.procs.length ≤ 1000000000
 main : g.main.size ≤ 1000000000
 procs : ∀ p ∈ g.procs, p.params.length ≤ 1000000000 ∧ p.body.size ≤ 1000000000
set_option maxRecDepth 100000 in
set_option maxHeartbeats 4000000 in
theorem Same_t (g : PG) (S S' : Nat → Prop) (va pa ma va' pa' ma' : Option Addr) (vc pc mc vc' pc' mc' : Nat) (w : World) (hg : g.small) (hs : g.sits S w va pa ma) (hs' : g.sits S' w va' pa' ma') :
 Calls Tryd.prog 13 #[.agg (g.cells va vc pa pc ma mc).toArray, .agg (g.cells va' vc' pa' pc' ma' mc').toArray] w fun e w' => e = .returned (.bool true) ∧ Ext w w' := by
 have X := Ext.refl w; obtain ⟨nv, np, hm, hp⟩ := hg; obtain ⟨m1, m2⟩ := kids_le g.main hm; obtain ⟨hv, hq, hmm⟩ := hs; obtain ⟨hv', hq', hmm'⟩ := hs'; refine calls_in Tryd.func13 Tryd.ntmps13 rfl rfl ?_
 focus
  refine cS ?_; (refine lw_box' [_, _, _, _, _, _] rfl rfl rfl ?_; intro b1 w2 n3); have h4 := n3.blk; have x5 := n3.ext; have p6 := n3.pos; have z7 := n3.size; clear n3; replace X := X.ext x5; replace hv := hv.ext x5; replace hq := hq.ext x5; replace hmm := Nd.sits.ext hmm x5; replace hv' := VDs.ext hv' x5; replace hq' := PDs.ext hq' x5; replace hmm' := Nd.sits.ext hmm' x5; clear x5; (refine lw_box' [_, _, _, _, _, _] rfl rfl rfl ?_; intro b8 w9 n10); have h11 := n10.blk; have x12 := n10.ext; have p13 := n10.pos; have z14 := n10.size; clear n10; replace h4 := h4.ext x12; replace X := X.ext x12; replace hv := hv.ext x12; replace hq := hq.ext x12; replace hmm := Nd.sits.ext hmm x12; replace hv' := VDs.ext hv' x12; replace hq' := PDs.ext hq' x12; replace hmm' := Nd.sits.ext hmm' x12; clear x12; refine cA rfl rfl (cT (cw_seq (cS (lw_pure (pur_fieldAddr0 tabOk rfl rfl rfl) rfl (lw_load_b tabOk rfl rfl rfl h4 rfl rfl (lw_pure (pur_fieldAddr0 tabOk rfl rfl rfl) rfl (lw_load_b tabOk rfl rfl rfl h11 rfl rfl ?_))))))); refine cC (by kernel_rfl) rfl (decls_t _ _ _ _ _ _ _ _ (by omega) (by assumption) (by assumption)) rfl ?_; rintro _ w16 ⟨⟨⟩, x15⟩; have z17 := x15.size; replace h11 := h11.ext x15; replace h4 := h4.ext x15; replace X := X.ext x15; replace hv := hv.ext x15; replace hq := hq.ext x15; replace hmm := Nd.sits.ext hmm x15; replace hv' := VDs.ext hv' x15; replace hq' := PDs.ext hq' x15; replace hmm' := Nd.sits.ext hmm' x15; clear x15; refine lw_pure (pur_not rfl) rfl (cM rfl rfl (lw_on rfl rfl rfl (rfl) (lw_pure (pur_fieldAddr tabOk rfl rfl rfl) rfl (lw_on rfl rfl rfl (rfl) (lw_load_b tabOk rfl rfl rfl h4 rfl rfl (lw_on rfl rfl rfl (rfl) (lw_pure (pur_len_slice tabOk rfl rfl) rfl (lw_on rfl rfl rfl (rfl) (lw_pure (pur_fieldAddr tabOk rfl rfl rfl) rfl (lw_on rfl rfl rfl (rfl) (lw_load_b tabOk rfl rfl rfl h11 rfl rfl ?_)))))))))))
  refine lw_on rfl rfl rfl (rfl) (lw_pure (pur_len_slice tabOk rfl rfl) rfl (lw_on rfl rfl rfl (rfl) (lw_pure (pur_neq rfl rfl) rfl (lw_pure (pur_pick_f rfl rfl rfl) rfl (cM rfl rfl ?_))))); refine lw_on rfl rfl rfl (gd_ff (by omega)) ?_; refine lw_pure (pur_fieldAddr tabOk rfl rfl rfl) rfl ?_; refine lw_on rfl rfl rfl (gd_ff (by omega)) ?_; refine lw_loads_b' [_, _, _, _] tabOk rfl rfl rfl h4 rfl rfl rfl ?_; refine lw_on rfl rfl rfl (gd_ff (by omega)) ?_; refine lw_pure (pur_fieldAddr tabOk rfl rfl rfl) rfl ?_; refine lw_on rfl rfl rfl (gd_ff (by omega)) ?_; refine lw_loads_b' [_, _, _, _] tabOk rfl rfl rfl h11 rfl rfl rfl ?_; refine lw_on rfl rfl rfl (gd_ff (by omega)) ?_; refine cC (by kernel_rfl) rfl (Equal_t _ _ _ _ _ _ _ _ _ (Nat.lt_succ_self _) m1 m2 (by assumption) (by assumption)) rfl ?_; rintro _ w19 ⟨⟨⟩, x18⟩; have z20 := x18.size; replace h11 := h11.ext x18; replace h4 := h4.ext x18; replace X := X.ext x18; replace hv := hv.ext x18; replace hq := hq.ext x18; replace hmm := Nd.sits.ext hmm x18; replace hv' := VDs.ext hv' x18; replace hq' := PDs.ext hq' x18; replace hmm' := Nd.sits.ext hmm' x18; clear x18; refine lw_on rfl rfl rfl (gd_ff (by omega)) ?_; refine lw_pure (pur_not rfl) rfl ?_; refine lw_pure (pur_pick_no rfl rfl (by omega)) rfl ?_; refine cT (cw_cond_f rfl (cw_skip (qw_then (cw_seq (cS (cA rfl rfl (cT (cw_block ?_)))))))); rotate_left 1
 refine cw_loop (ι := Nat) (fun j => [(2, .pointer (some ⟨b1, 0, none⟩)), (3, .pointer (some ⟨b8, 0, none⟩)), (5, .int .i64 j)]) (fun j w' => PDs S w' g.procs pa ∧ PDs S' w' g.procs pa' ∧ Ext w w' ∧ Blk w' b1 (g.cells va vc pa pc ma mc) ∧ Blk w' b8 (g.cells va' vc' pa' pc' ma' mc') ∧ j ≤ g.procs.length) (fun j => g.procs.length - j) 0 (by (refine sub_cons rfl ?_; refine sub_cons rfl ?_; refine sub_cons rfl ?_; exact sub_nil)) ⟨hq, hq', X, h4, h11, Nat.zero_le _⟩ ?_; rintro j w1 ⟨hq, hq', X, hb, hb', hj⟩; clear h4 h11 hv hv' hmm hmm'
 by_cases hlt : j < g.procs.length
 · obtain ⟨kb, ko, rfl, -, hk⟩ := hq.get (by omega)
   obtain ⟨kb', ko', rfl, -, hk'⟩ := hq'.get (by omega); obtain ⟨xa, xc, ya, yc, r1, v1, s1⟩ := hk j _ (List.getElem?_eq_getElem hlt); obtain ⟨xa', xc', ya', yc', r2, v2, s2⟩ := hk' j _ (List.getElem?_eq_getElem hlt); obtain ⟨p1, p2⟩ := hp _ (List.getElem_mem hlt); clear hk hk'
   generalize g.procs[j] = x at *
   obtain ⟨m3, m4⟩ := kids_le x.body p2
   focus
    refine cw_seq (cS (cM rfl rfl (lw_pure (pur_fieldAddr tabOk rfl rfl rfl) rfl (lw_load_b tabOk rfl rfl rfl hb rfl rfl (lw_pure (pur_len_slice tabOk rfl rfl) rfl (lw_pure (pur_lss rfl rfl) rfl (cT ?_))))))); refine cw_yes rfl (by omega) ?_; refine cw_skip (qw_then (cw_seq (cw_block (cw_seq ?_)))); (refine cw_tdraw (fun wz => Ext w1 wz) 42 (.pure 0 (.pure 1 (.pure 2 (.pure 3 (.pure 4 (.pure 5 (.pure 6 (.pure 7 (.pure 8 (.pure 9 (.pure 10 (.pure 11 (.pure 12 (.pure 13 (.pure 14 (.pure 15 (.pure 16 (.pure 17 (.pure 18 (.pure 19 (.pure 20 (.pure 21 (.pure 22 (.pure 23 (.pure 24 (.pure 25 (.fork 26 (.pure 27 (.pure 28 (.pure 29 (.pure 30 (.pure 31 (.pure 32 (.pure 33 (.pure 34 (.pure 35 (.pure 36 (.pure 37 (.pure 38 (.pure 39 (.pure 40 (.pure 41 .tail))))))))))))))) .none))))))))))))))))))))))))))) mixed (by kernel_rfl) (panicOk_then (panicOk_block (panicOk_then (panicOk_then (panicOk_block (panicOk_then panicOk_body)))))) ?_; intro wa1 xa2 _); have qsa3 : (fun wz => Ext w1 wz) wa1 := xa2; simp only at qsa3; have d_hq := hq; have d_hb := hb; have d_hq' := hq'; have d_hb' := hb'; have d_r1 := r1; have d_v1 := v1; have d_s1 := s1; have d_r2 := r2; have d_v2 := v2; have d_s2 := s2; have za4 := xa2.size; replace X := X.ext xa2; replace hq := hq.ext xa2; replace hb := hb.ext xa2; replace hq' := PDs.ext hq' xa2; replace hb' := Blk.ext hb' xa2; replace r1 := r1.ext xa2; replace v1 := v1.ext xa2; replace s1 := Nd.sits.ext s1 xa2; replace r2 := r2.ext xa2; replace v2 := v2.ext xa2; replace s2 := Nd.sits.ext s2 xa2
    clear xa2; refine ⟨qsa3, ?_⟩; refine tw_pure rfl (pur_fieldAddr tabOk rfl rfl rfl) rfl (tw_pure rfl (pur_load tabOk rfl rfl rfl (fun wz hz => Blk.cell (Blk.ext d_hb hz) rfl)) rfl (tw_pure rfl (pur_move rfl) rfl ?_)); refine tw_pure rfl (pur_indexAddr tabOk rfl rfl rfl rfl (by omega) (by omega)) rfl ?_; refine tw_pure rfl (pur_fieldAddr0 tabOk rfl rfl rfl) rfl (tw_pure rfl (pur_load tabOk rfl rfl rfl (fun wz hz => Row.at0 (Row.ext d_r1 hz) rfl)) rfl (tw_pure rfl (pur_fieldAddr tabOk rfl rfl rfl) rfl (tw_pure rfl (pur_load tabOk rfl rfl rfl (fun wz hz => Blk.cell (Blk.ext d_hb' hz) rfl)) rfl (tw_pure rfl (pur_move rfl) rfl ?_)))); refine tw_pure rfl (pur_indexAddr tabOk rfl rfl rfl rfl (by omega) (by omega)) rfl ?_; refine tw_pure rfl (pur_fieldAddr0 tabOk rfl rfl rfl) rfl (tw_pure rfl (pur_load tabOk rfl rfl rfl (fun wz hz => Row.at0 (Row.ext d_r2 hz) rfl)) rfl (tw_pure rfl (pur_sneq rfl rfl) rfl (tw_pure rfl (pur_move rfl) rfl (tw_on rfl rfl rfl rfl (gd_ff (not_not_intro rfl)) (pur_fieldAddr tabOk rfl rfl rfl) rfl (tw_on rfl rfl rfl rfl (gd_ff (not_not_intro rfl)) (pur_load tabOk rfl rfl rfl (fun wz hz => Blk.cell (Blk.ext d_hb hz) rfl)) rfl (tw_on rfl rfl rfl rfl (gd_ff (not_not_intro rfl)) (pur_move rfl) rfl ?_)))))); refine tw_on rfl rfl rfl rfl (gd_ff (not_not_intro rfl)) (pur_indexAddr tabOk rfl rfl rfl rfl (by omega) (by omega)) rfl ?_; refine tw_on rfl rfl rfl rfl (gd_ff (not_not_intro rfl)) (pur_fieldAddr tabOk rfl rfl rfl) rfl (tw_on rfl rfl rfl rfl (gd_ff (not_not_intro rfl)) (pur_load tabOk rfl rfl rfl (fun wz hz => Row.at (Row.ext d_r1 hz) rfl)) rfl (tw_on rfl rfl rfl rfl (gd_ff (not_not_intro rfl)) (pur_fieldAddr tabOk rfl rfl rfl) rfl (tw_on rfl rfl rfl rfl (gd_ff (not_not_intro rfl)) (pur_load tabOk rfl rfl rfl (fun wz hz => Blk.cell (Blk.ext d_hb' hz) rfl)) rfl (tw_on rfl rfl rfl rfl (gd_ff (not_not_intro rfl)) (pur_move rfl) rfl ?_))))
    refine tw_on rfl rfl rfl rfl (gd_ff (not_not_intro rfl)) (pur_indexAddr tabOk rfl rfl rfl rfl (by omega) (by omega)) rfl ?_; refine tw_on rfl rfl rfl rfl (gd_ff (not_not_intro rfl)) (pur_fieldAddr tabOk rfl rfl rfl) rfl (tw_on rfl rfl rfl rfl (gd_ff (not_not_intro rfl)) (pur_load tabOk rfl rfl rfl (fun wz hz => Row.at (Row.ext d_r2 hz) rfl)) rfl ?_); refine tw_does_on rfl rfl rfl rfl (gd_ff (not_not_intro rfl)) (does_call (by kernel_rfl) rfl (decls_t _ _ _ _ _ _ _ _ (by omega) (by assumption) (by assumption)) (fun _ _ h => ⟨_, h.1⟩)) rfl ?_ (fun _ h => h) tw_none; rintro _ wa6 ⟨⟨⟩, xa5⟩; have za7 := xa5.size; replace qsa3 := qsa3.ext xa5; replace X := X.ext xa5; replace hq := hq.ext xa5; replace hb := hb.ext xa5; replace hq' := PDs.ext hq' xa5; replace hb' := Blk.ext hb' xa5; replace r1 := r1.ext xa5; replace v1 := v1.ext xa5; replace s1 := Nd.sits.ext s1 xa5; replace r2 := r2.ext xa5; replace v2 := v2.ext xa5; replace s2 := Nd.sits.ext s2 xa5; clear xa5; refine ⟨qsa3, ?_⟩; refine tw_on rfl rfl rfl rfl (gd_ff (not_not_intro rfl)) (pur_not rfl) rfl (tw_pure rfl (pur_pick_no rfl rfl (not_not_intro rfl)) rfl (tw_pure rfl (pur_move rfl) rfl (tw_on rfl rfl rfl rfl (rfl) (pur_fieldAddr tabOk rfl rfl rfl) rfl (tw_on rfl rfl rfl rfl (rfl) (pur_load tabOk rfl rfl rfl (fun wz hz => Blk.cell (Blk.ext d_hb hz) rfl)) rfl (tw_on rfl rfl rfl rfl (rfl) (pur_move rfl) rfl ?_))))); refine tw_on rfl rfl rfl rfl (rfl) (pur_indexAddr tabOk rfl rfl rfl rfl (by omega) (by omega)) rfl ?_; refine tw_on rfl rfl rfl rfl (rfl) (pur_fieldAddr tabOk rfl rfl rfl) rfl (tw_on rfl rfl rfl rfl (rfl) (pur_loads_row' [_, _, _, _] tabOk rfl rfl rfl (fun wz hz => (Row.ext d_r1 hz)) rfl rfl) rfl (tw_on rfl rfl rfl rfl (rfl) (pur_fieldAddr tabOk rfl rfl rfl) rfl (tw_on rfl rfl rfl rfl (rfl) (pur_load tabOk rfl rfl rfl (fun wz hz => Blk.cell (Blk.ext d_hb' hz) rfl)) rfl (tw_on rfl rfl rfl rfl (rfl) (pur_move rfl) rfl ?_))))
    refine tw_on rfl rfl rfl rfl (rfl) (pur_indexAddr tabOk rfl rfl rfl rfl (by omega) (by omega)) rfl ?_; refine tw_on rfl rfl rfl rfl (rfl) (pur_fieldAddr tabOk rfl rfl rfl) rfl (tw_on rfl rfl rfl rfl (rfl) (pur_loads_row' [_, _, _, _] tabOk rfl rfl rfl (fun wz hz => (Row.ext d_r2 hz)) rfl rfl) rfl ?_); clear d_hq d_hb d_hq' d_hb' d_r1 d_v1 d_s1 d_r2 d_v2 d_s2 qsa3; refine tw_tail rfl (lw_on rfl rfl rfl (rfl) ?_); refine cC (by kernel_rfl) rfl (Equal_t _ _ _ _ _ _ _ _ _ (Nat.lt_succ_self _) m3 m4 (by assumption) (by assumption)) rfl ?_; rintro _ wa9 ⟨⟨⟩, xa8⟩; have za10 := xa8.size; replace X := X.ext xa8; replace hq := hq.ext xa8; replace hb := hb.ext xa8; replace hq' := PDs.ext hq' xa8; replace hb' := Blk.ext hb' xa8; replace r1 := r1.ext xa8; replace v1 := v1.ext xa8; replace s1 := Nd.sits.ext s1 xa8; replace r2 := r2.ext xa8; replace v2 := v2.ext xa8; replace s2 := Nd.sits.ext s2 xa8; clear xa8; refine lw_on rfl rfl rfl (rfl) (lw_pure (pur_not rfl) rfl (lw_pure (pur_pick_f rfl rfl rfl) rfl (cT (cw_cond_f rfl (cw_skip (qw_block_norm (qw_then (cw_region (cM rfl rfl ?_))))))))); refine lw_pure (pur_add rfl rfl (IntWalk.i64_in _ (by omega))) rfl ?_; refine cA rfl rfl (lw_nil ?_); rotate_left 1
   exact qw_round (j + 1) (by (refine sub_cons rfl ?_; refine sub_cons rfl ?_; refine sub_cons rfl ?_; exact sub_nil)) ⟨hq, hq', X, hb, hb', by omega⟩ (by omega)
 · focus
    refine cw_seq (cS (cM rfl rfl (lw_pure (pur_fieldAddr tabOk rfl rfl rfl) rfl (lw_load_b tabOk rfl rfl rfl hb rfl rfl (lw_pure (pur_len_slice tabOk rfl rfl) rfl (lw_pure (pur_lss rfl rfl) rfl (cT ?_))))))); refine cw_no rfl (by omega) ?_; refine cw_exit (qw_then_exit (qw_then_exit (qw_block_exit (qw_then (cS (cA rfl rfl (cT (cw_ret (qw_ret1 rfl rfl ?_))))))))); rotate_left 1
   exact ⟨rfl, X⟩
end Bk
namespace Bk
open Go
section
variable {ts : List Tok} {n : Int} {I : PS → Prop}
structure Clo (ts : List Tok) (n : Int) (I : PS → Prop) : Prop where
 next : ∀ σ, In ts σ → I σ → I (nextP σ)
 unexp : ∀ σ, σ.at_ ≤ ts.length → I σ → I (unexpP ts n σ)
 full : ∀ σ, In ts σ → I σ → I (failP σ (peekP ts σ).pos 5)
 range : ∀ σ, In ts σ → I σ → I (failP (nextP σ) (peekP ts σ).pos 2)
theorem Clo.expect (C : Clo ts n I) {σ : PS} {t : List UInt8} (h : σ.at_ ≤ ts.length) (ht : t ≠ []) (i : I σ) : I (expectP ts n σ t) := by
 unfold expectP
 split
 · rename_i hh; exact C.next _ (has_in h hh ht) i
 · exact C.unexp _ h i
theorem Clo.name (C : Clo ts n I) {σ : PS} (h : σ.at_ ≤ ts.length) (i : I σ) : I (nameP ts n σ).2 := by
 unfold nameP
 split
 · rename_i hh; exact C.next _ (peek_in h (Or.inl (isName_ne hh))) i
 · exact C.unexp _ h i
theorem Clo.number (C : Clo ts n I) {a b : Int} {σ : PS} (h : σ.at_ ≤ ts.length) (i : I σ) : I (numberP ts n a b σ).2 := by
 unfold numberP
 split
 · rename_i hh
   have hn := peek_in h (Or.inr (by rw [hh]; decide))
   split
   · exact C.next _ hn i
   · exact C.range _ hn i
 · exact C.unexp _ h i
theorem Clo.exprs (C : Clo ts n I) (k : Nat) : (∀ lv σ, σ.at_ ≤ ts.length → I σ → I (exprP ts n k lv σ).2) ∧ (∀ lv x σ, σ.at_ ≤ ts.length → I σ → I (climbP ts n k lv x σ).2) ∧
 (∀ σ, σ.at_ ≤ ts.length → I σ → I (unaryP ts n k σ).2) ∧ (∀ σ, σ.at_ ≤ ts.length → I σ → I (primaryP ts n k σ).2) ∧ (∀ σ, σ.at_ ≤ ts.length → I σ → I (placeP ts n k σ).2) := by
 induction k with
 | zero =>
  refine ⟨fun lv σ h i => ?_, fun lv x σ h i => ?_, fun σ h i => ?_, fun σ h i => ?_, fun σ h i => ?_⟩
  · rw [exprP]; exact i
  · rw [climbP]; exact i
  · rw [unaryP]; exact i
  · rw [primaryP]; exact i
  · rw [placeP]; exact i
 | succ k ih =>
  obtain ⟨iE, iC, iU, iP, iL⟩ := ih; obtain ⟨vE, vC, vU, vP, vL⟩ := expr_inv (ts := ts) (n := n) k; refine ⟨fun lv σ h i => ?_, fun lv x σ h i => ?_, fun σ h i => ?_, fun σ h i => ?_, fun σ h i => ?_⟩
  · rw [exprP]
    exact iC _ _ _ (vU σ h).1.wf (iU _ h i)
  · rw [climbP]
    split
    · exact i
    · rename_i op hop
      obtain ⟨hne, -⟩ := binOf_ne hop; have hn := peek_in h (Or.inl hne)
      split
      · exact i
      · have h1 := next_le hn
        have h2 := vE (level op + 1) (nextP σ) h1.wf
        exact iC _ _ _ h2.1.wf (iE _ _ h1.wf (C.next _ hn i))
  · rw [unaryP]
    split
    · rename_i hh
      have hn := has_in h hh (by decide)
      exact iU _ (next_le hn).wf (C.next _ hn i)
    · split
      · rename_i hh
        have hn := has_in h hh (by decide)
        exact iU _ (next_le hn).wf (C.next _ hn i)
      · exact iP _ h i
  · rw [primaryP]
    split
    · exact C.number h i
    · split
      · rename_i hh
        have hn := has_in h hh (by decide); have h1 := next_le hn; have h2 := expect_le (n := n) (t := [40]) h1.wf (by decide); have h3 := name_le (n := n) h2.wf
        exact C.expect h3.wf (by decide) (C.name h2.wf (C.expect h1.wf (by decide) (C.next _ hn i)))
      · split
        · rename_i hh
          have hn := has_in h hh (by decide); have h1 := next_le hn; have h2 := expect_le (n := n) (t := [40]) h1.wf (by decide); have h3 := name_le (n := n) h2.wf
          exact C.expect h3.wf (by decide) (C.name h2.wf (C.expect h1.wf (by decide) (C.next _ hn i)))
        · split
          · rename_i hh
            have hn := has_in h hh (by decide); have h1 := next_le hn
            exact C.expect (vE 1 _ h1.wf).1.wf (by decide) (iE _ _ h1.wf (C.next _ hn i))
          · exact iL _ h i
  · rw [placeP]
    have h0 := name_le (n := n) h
    split
    · rename_i hh
      have hn := has_in h0.wf hh (by decide); have h1 := next_le hn
      exact C.expect (vE 1 _ h1.wf).1.wf (by decide) (iE _ _ h1.wf (C.next _ hn (C.name h i)))
    · exact C.name h i
theorem Clo.expr (C : Clo ts n I) {k : Nat} {lv : Int} {σ : PS} (h : σ.at_ ≤ ts.length) (i : I σ) : I (exprP ts n k lv σ).2 := (C.exprs k).1 lv σ h i
theorem Clo.place (C : Clo ts n I) {k : Nat} {σ : PS} (h : σ.at_ ≤ ts.length) (i : I σ) : I (placeP ts n k σ).2 := (C.exprs k).2.2.2.2 σ h i
theorem place_le' {k : Nat} {σ : PS} (h : σ.at_ ≤ ts.length) : Le ts σ (placeP ts n k σ).2 := ((expr_inv (ts := ts) (n := n) k).2.2.2.2 σ h).1
theorem Clo.args (C : Clo ts n I) (k : Nat) : ∀ acc σ, σ.at_ ≤ ts.length → I σ → I (argsP ts n k acc σ).2 := by
 induction k with
 | zero => intro acc σ h i; rw [argsP]; exact i
 | succ k ih =>
  intro acc σ h i; rw [argsP]
  split
  · rename_i hh
    have hn := has_in h hh (by decide); have h1 := next_le hn; have i1 := C.next _ hn i
    split
    · rename_i h8
      have l2 := fail_le (ts := ts) h1.wf (peekP ts (nextP σ)).pos 5
      exact ih _ _ (name_le (n := n) l2.wf).wf (C.name l2.wf (C.full _ (peek_in h1.wf (Or.inl (isName_ne h8.2))) i1))
    · exact ih _ _ (name_le (n := n) h1.wf).wf (C.name h1.wf i1)
  · exact i
theorem args_le' (k : Nat) : ∀ acc σ, σ.at_ ≤ ts.length → Le ts σ (argsP ts n k acc σ).2 := by
 induction k with
 | zero => intro acc σ h; rw [argsP]; exact Le.refl h
 | succ k ih =>
  intro acc σ h; rw [argsP]
  split
  · rename_i hh
    have h1 := next_le (has_in h hh (by decide))
    split
    · have l2 := h1.trans (fail_le (ts := ts) h1.wf (peekP ts (nextP σ)).pos 5)
      have l3 := l2.trans (name_le (n := n) l2.wf)
      exact l3.trans (ih _ _ l3.wf)
    · have l3 := h1.trans (name_le (n := n) h1.wf)
      exact l3.trans (ih _ _ l3.wf)
  · exact Le.refl h
theorem Clo.call (C : Clo ts n I) {k : Nat} {kind : Int} {σ : PS} (h : In ts σ) (i : I σ) : I (callP ts n k kind σ).2 := by
 unfold callP
 have h1 := next_le h; have h2 := name_le (n := n) h1.wf; have h3 := expect_le (n := n) (t := [40]) h2.wf (by decide); have i3 := C.expect (t := [40]) h2.wf (by decide) (C.name h1.wf (C.next _ h i)); simp only
 split
 · rename_i hh; exact C.next _ (has_in h3.wf hh (by decide)) i3
 · have h4 := name_le (n := n) h3.wf
   exact C.expect (args_le' k _ _ h4.wf).wf (by decide) (C.args k _ _ h4.wf (C.name h3.wf i3))
theorem Clo.update (C : Clo ts n I) {k : Nat} {σ : PS} (h : σ.at_ ≤ ts.length) (i : I σ) : I (updateP ts n k σ).2 := by
 unfold updateP
 have h1 := place_le' (n := n) (k := k) h; have i1 := C.place (k := k) h i; simp only
 split
 · rename_i hh
   have hn := has_in h1.wf hh (by decide)
   exact C.place (next_le hn).wf (C.next _ hn i1)
 · split
   · exact C.unexp _ h1.wf i1
   · rename_i hh
     have hn := peek_in h1.wf (Or.inl (upd_ne hh))
     exact C.expr (next_le hn).wf (C.next _ hn i1)
theorem Clo.stack (C : Clo ts n I) {k : Nat} {kind : Int} {σ : PS} (h : In ts σ) (i : I σ) : I (stackP ts n k kind σ).2 := by
 unfold stackP
 have h1 := next_le h; have h2 := place_le' (n := n) (k := k) h1.wf; have h3 := expect_le (n := n) (t := [44]) h2.wf (by decide)
 exact C.name h3.wf (C.expect h2.wf (by decide) (C.place h1.wf (C.next _ h i)))
theorem Clo.tape (C : Clo ts n I) {k : Nat} {kind : Int} {σ : PS} (h : In ts σ) (i : I σ) : I (tapeP ts n k kind σ).2 := by
 unfold tapeP
 exact C.place (next_le h).wf (C.next _ h i)
theorem Clo.stmts (C : Clo ts n I) (k : Nat) : (∀ σ, σ.at_ ≤ ts.length → I σ → I (stmtP ts n k σ).2) ∧ (∀ kind mid last σ, In ts σ → mid ≠ [] → last ≠ [] → I σ → I (branchesP ts n k kind mid last σ).2) ∧ (∀ σ, In ts σ → I σ → I (localP ts n k σ).2) ∧
 (∀ σ, σ.at_ ≤ ts.length → I σ → I (blockP ts n k σ).2) ∧ (∀ acc σ, σ.at_ ≤ ts.length → I σ → I (stmtsP ts n k acc σ).2) := by
 induction k with
 | zero =>
  refine ⟨fun σ h i => ?_, fun kind mid last σ h _ _ i => ?_, fun σ h i => ?_, fun σ h i => ?_, fun acc σ h i => ?_⟩
  · rw [stmtP]; exact i
  · rw [branchesP]; exact i
  · rw [localP]; exact i
  · rw [blockP]; exact i
  · rw [stmtsP]; exact i
 | succ k ih =>
  obtain ⟨iS, iB, iL, iK, iT⟩ := ih; obtain ⟨vS, vB, vL, vK, vT⟩ := stmt_inv (ts := ts) (n := n) k; refine ⟨fun σ h i => ?_, fun kind mid last σ hn hmid hlast i => ?_, fun σ hn i => ?_, fun σ h i => ?_, fun acc σ h i => ?_⟩
  · rw [stmtP]
    have hin : ∀ t : List UInt8, t ≠ [] → (peekP ts σ).text = t → In ts σ := fun t ht e => peek_in h (Or.inl (by rw [e]; exact ht))
    by_cases c : (peekP ts σ).text = [112, 117, 115, 104]
    · rw [if_pos c]; exact C.stack (hin _ (by decide) c) i
    rw [if_neg c]; clear c
    by_cases c : (peekP ts σ).text = [112, 111, 112]
    · rw [if_pos c]; exact C.stack (hin _ (by decide) c) i
    rw [if_neg c]; clear c
    by_cases c : (peekP ts σ).text = [114, 101, 97, 100]
    · rw [if_pos c]; exact C.tape (hin _ (by decide) c) i
    rw [if_neg c]; clear c
    by_cases c : (peekP ts σ).text = [117, 110, 114, 101, 97, 100]
    · rw [if_pos c]; exact C.tape (hin _ (by decide) c) i
    rw [if_neg c]; clear c
    by_cases c : (peekP ts σ).text = [119, 114, 105, 116, 101]
    · rw [if_pos c]; exact C.tape (hin _ (by decide) c) i
    rw [if_neg c]; clear c
    by_cases c : (peekP ts σ).text = [117, 110, 119, 114, 105, 116, 101]
    · rw [if_pos c]; exact C.tape (hin _ (by decide) c) i
    rw [if_neg c]; clear c
    by_cases c : (peekP ts σ).text = [99, 97, 108, 108]
    · rw [if_pos c]; exact C.call (hin _ (by decide) c) i
    rw [if_neg c]; clear c
    by_cases c : (peekP ts σ).text = [117, 110, 99, 97, 108, 108]
    · rw [if_pos c]; exact C.call (hin _ (by decide) c) i
    rw [if_neg c]; clear c
    by_cases c : (peekP ts σ).text = [105, 102]
    · rw [if_pos c]; exact iB _ _ _ _ (hin _ (by decide) c) (by decide) (by decide) i
    rw [if_neg c]; clear c
    by_cases c : (peekP ts σ).text = [102, 114, 111, 109]
    · rw [if_pos c]; exact iB _ _ _ _ (hin _ (by decide) c) (by decide) (by decide) i
    rw [if_neg c]; clear c
    by_cases c : (peekP ts σ).text = [108, 111, 99, 97, 108]
    · rw [if_pos c]; exact iL _ (hin _ (by decide) c) i
    rw [if_neg c]; clear c
    exact C.update h i
  · rw [branchesP]
    have h1 := next_le hn; have h2 := expr_le (n := n) (k := k) (lv := 1) h1.wf; have h3 := vK _ h2.wf; have h4 := expect_le (n := n) (t := mid) h3.wf hmid; have h5 := vK _ h4.wf; have h6 := expect_le (n := n) (t := last) h5.wf hlast
    exact C.expr h6.wf (C.expect h5.wf hlast (iK _ h4.wf (C.expect h3.wf hmid (iK _ h2.wf (C.expr h1.wf (C.next _ hn i))))))
  · rw [localP]
    have h1 := next_le hn; have i1 := C.next _ hn i
    split
    · rename_i hh
      have hn2 := has_in h1.wf hh (by decide); have h2 := next_le hn2
      exact iK _ (name_le (n := n) h2.wf).wf (C.name h2.wf (C.next _ hn2 i1))
    · have h2 := name_le (n := n) h1.wf
      have h3 := expect_le (n := n) (t := [61]) h2.wf (by decide); have h4 := expr_le (n := n) (k := k) (lv := 1) h3.wf; have h5 := vK _ h4.wf; have h6 := expect_le (n := n) (t := [100, 101, 108, 111, 99, 97, 108]) h5.wf (by decide)
      exact C.expr h6.wf (C.expect h5.wf (by decide) (iK _ h4.wf (C.expr h3.wf (C.expect h2.wf (by decide) (C.name h1.wf i1)))))
  · rw [blockP]
    exact iT _ _ (expect_le (n := n) (t := [123]) h (by decide)).wf (C.expect h (by decide) i)
  · rw [stmtsP]
    split
    · exact i
    · split
      · rename_i hh; exact C.next _ (has_in h hh (by decide)) i
      · have h1 := vS _ h
        exact iT _ _ (expect_le (n := n) (t := [59]) h1.wf (by decide)).wf (C.expect h1.wf (by decide) (iS _ h i))
theorem Clo.decl (C : Clo ts n I) {σ : PS} (h : σ.at_ ≤ ts.length) (i : I σ) : I (declP ts n σ).2 := by
 unfold declP
 split
 · rename_i hh
   have hn := has_in h hh (by decide)
   exact C.name (next_le hn).wf (C.next _ hn i)
 · split
   · rename_i hh
     have hn := has_in h hh (by decide)
     exact C.name (next_le hn).wf (C.next _ hn i)
   · split
     · rename_i hh
       have hn := has_in h hh (by decide); have h1 := next_le hn; have h2 := name_le (n := n) h1.wf; have h3 := expect_le (n := n) (t := [91]) h2.wf (by decide); have h4 := number_le (n := n) (a := 1) (b := 16) h3.wf
       exact C.expect h4.wf (by decide) (C.number h3.wf (C.expect h2.wf (by decide) (C.name h1.wf (C.next _ hn i))))
     · exact C.unexp _ h i
theorem atDecl_in {σ : PS} (h : σ.at_ ≤ ts.length) (hd : atDeclP ts σ = true) : In ts σ := by
 simp only [atDeclP, Bool.or_eq_true] at hd
 rcases hd with (c | c) | c <;> exact has_in h c (by decide)
theorem Clo.params (C : Clo ts n I) (k : Nat) : ∀ acc σ, σ.at_ ≤ ts.length → I σ → I (paramsP ts n k acc σ).2 := by
 induction k with
 | zero => intro acc σ h i; rw [paramsP]; exact i
 | succ k ih =>
  intro acc σ h i; rw [paramsP]
  split
  · rename_i hh
    have hn := has_in h hh (by decide); have h1 := next_le hn; have i1 := C.next _ hn i; simp only
    split
    · rename_i h8
      have l2 := fail_le (ts := ts) h1.wf (peekP ts (nextP σ)).pos 5
      exact ih _ _ (decl_le (n := n) l2.wf).wf (C.decl l2.wf (C.full _ (atDecl_in h1.wf h8.2) i1))
    · exact ih _ _ (decl_le (n := n) h1.wf).wf (C.decl h1.wf i1)
  · exact i
structure CloL (ts : List Tok) (n : Int) (I : PS → Prop) : Prop extends Clo ts n I where
 lim : ∀ σ x τ, σ.at_ ≤ ts.length → I σ → I τ → I (limitP x (peekP ts σ).pos τ)
theorem CloL.body (C : CloL ts n I) {k : Nat} {σ : PS} (h : σ.at_ ≤ ts.length) (i : I σ) : I (bodyP ts n k σ).2 := by
 unfold bodyP
 exact C.lim _ _ _ h i ((C.toClo.stmts k).2.2.2.1 _ h i)
theorem CloL.proc (C : CloL ts n I) {k : Nat} {σ : PS} (h : σ.at_ ≤ ts.length) (i : I σ) : I (procP ts n k σ).2 := by
 rw [procP_at]; have h1 := expect_le (n := n) (t := [112, 114, 111, 99]) h (by decide); have h2 := name_le (n := n) h1.wf; have h3 := expect_le (n := n) (t := [40]) h2.wf (by decide); have i3 := C.expect (t := [40]) h2.wf (by decide) (C.name h1.wf (C.expect (t := [112, 114, 111, 99]) h (by decide) i)); have h4 := procQ_le (n := n) (k := k) h3.wf; refine C.body h4.wf ?_
 unfold procQ
 split
 · rename_i hh; exact C.next _ (has_in h3.wf hh (by decide)) i3
 · have h5 := decl_le (n := n) h3.wf
   exact C.expect (params_le (n := n) k _ _ h5.wf).wf (by decide) (C.params k _ _ h5.wf (C.decl h3.wf i3))
theorem CloL.vars (C : CloL ts n I) (k : Nat) : ∀ acc σ, σ.at_ ≤ ts.length → I σ → I (varsP ts n k acc σ).2 := by
 induction k with
 | zero => intro acc σ h i; rw [varsP]; exact i
 | succ k ih =>
  intro acc σ h i; rw [varsP]
  split
  · rename_i hh
    simp only
    split
    · have l2 := fail_le (ts := ts) h (peekP ts σ).pos 5
      exact ih _ _ (decl_le (n := n) l2.wf).wf (C.decl l2.wf (C.full _ (atDecl_in h hh) i))
    · exact ih _ _ (decl_le (n := n) h).wf (C.decl h i)
  · exact i
theorem CloL.procs (C : CloL ts n I) (k : Nat) : ∀ acc σ, σ.at_ ≤ ts.length → I σ → I (procsP ts n k acc σ).2 := by
 induction k with
 | zero => intro acc σ h i; rw [procsP]; exact i
 | succ k ih =>
  intro acc σ h i; rw [procsP]
  split
  · rename_i hh
    simp only
    split
    · have l2 := fail_le (ts := ts) h (peekP ts σ).pos 5
      exact ih _ _ (procP_le (n := n) (k := k) l2.wf).wf (C.proc l2.wf (C.full _ (has_in h hh (by decide)) i))
    · exact ih _ _ (procP_le (n := n) (k := k) h).wf (C.proc h i)
  · exact i
theorem CloL.program (C : CloL ts n I) {k : Nat} {σ : PS} (h : σ.at_ ≤ ts.length) (i : I σ) : I (programP ts n k σ).2 := by
 unfold programP
 have h1 := vars_le (n := n) k [] σ h; have h2 := procs_le (n := n) k [] _ h1.wf
 exact C.body (expect_le (n := n) (t := [109, 97, 105, 110]) h2.wf (by decide)).wf (C.expect h2.wf (by decide) (C.procs k _ _ h1.wf (C.vars k _ _ h i)))
theorem Clo.finish (C : Clo ts n I) {σ : PS} (h : σ.at_ ≤ ts.length) (i : I σ) : I (finishP ts n σ) := by
 unfold finishP
 split
 · exact C.unexp _ h i
 · exact i
end
end Bk
namespace Bk
open Go
abbrev Pr (α : Type) := List Tok → Int → PS → α × PS
section
variable (ts us : List Tok) (n m : Int) (c : Nat) (Q : PS → PS → Prop)
structure DD (σ τ : PS) : Prop where
 a : c ≤ σ.at_
 b : c ≤ τ.at_
 w : σ.at_ ≤ ts.length
 v : τ.at_ ≤ us.length
 e : us.length = c → τ.err = 0 ∨ (τ.err = 4 ∧ τ.off = m)
structure EE (σ τ : PS) : Prop extends DD ts us m c σ τ where
 x : us.length = c → τ.err ≠ 0
structure Syn (σ τ : PS) : Prop where
 kind : (peekP ts σ).kind = (peekP us τ).kind
 text : (peekP ts σ).text = (peekP us τ).text
 err : σ.err = 0 ↔ τ.err = 0
 next : In ts σ → In us τ → Q (nextP σ) (nextP τ)
 unexp : Q (unexpP ts n σ) (unexpP us m τ)
 full : In ts σ → In us τ → Q (failP σ (peekP ts σ).pos 5) (failP τ (peekP us τ).pos 5)
 range : In ts σ → In us τ → Q (failP (nextP σ) (peekP ts σ).pos 2) (failP (nextP τ) (peekP us τ).pos 2)
 lim : ∀ x σ' τ', Q σ' τ' → Q (limitP x (peekP ts σ).pos σ') (limitP x (peekP us τ).pos τ')
structure Sim : Prop where
 wf : ∀ σ τ, Q σ τ → σ.at_ ≤ ts.length ∧ τ.at_ ≤ us.length
 syn : ∀ σ τ, Q σ τ → DD ts us m c σ τ ∨ Syn ts us n m Q σ τ
def RD {α : Type} (a b : α × PS) : Prop := (a.1 = b.1 ∧ Q a.2 b.2) ∨ DD ts us m c a.2 b.2
def RE {α : Type} (a b : α × PS) : Prop := (a.1 = b.1 ∧ Q a.2 b.2) ∨ EE ts us m c a.2 b.2
end
structure Good {α : Type} (p : Pr α) : Prop where
 le : ∀ ts n σ, σ.at_ ≤ ts.length → Le ts σ (p ts n σ).2
 fin : ∀ ts n σ, σ.at_ = ts.length → (p ts n σ).2 = σ ∨ (p ts n σ).2 = unexpP ts n σ
 sim : ∀ ts us n m c Q, Sim ts us n m c Q → ∀ σ τ, Q σ τ → RD ts us m c Q (p ts n σ) (p us m τ)
def FE {α : Type} (p : Pr α) : Prop := ∀ ts n σ, σ.at_ = ts.length → (p ts n σ).2 = unexpP ts n σ
def GE {α : Type} (p : Pr α) : Prop := ∀ ts us n m c Q, Sim ts us n m c Q → ∀ σ τ, Q σ τ → RE ts us m c Q (p ts n σ) (p us m τ)
def bindP {α β : Type} (p : Pr α) (f : α → Pr β) : Pr β := fun ts n σ => f (p ts n σ).1 ts n (p ts n σ).2
def retP {α : Type} (x : α) : Pr α := fun _ _ σ => (x, σ)
def rdP {α : Type} (c : Int → List UInt8 → Bool) (y z : Int → List UInt8 → Pr α) : Pr α := fun ts n σ => if c (peekP ts σ).kind (peekP ts σ).text then y (peekP ts σ).kind (peekP ts σ).text ts n (nextP σ) else z (peekP ts σ).kind (peekP ts σ).text ts n σ
def unP {α : Type} (x : α) : Pr α := fun ts n σ => (x, unexpP ts n σ)
theorem Good.congr {α : Type} {p q : Pr α} (h : ∀ ts n σ, p ts n σ = q ts n σ) (g : Good q) : Good p := by
 have : p = q := by funext ts n σ; exact h ts n σ
 rw [this]; exact g
theorem GE.congr {α : Type} {p q : Pr α} (h : ∀ ts n σ, p ts n σ = q ts n σ) (g : GE q) : GE p := by
 have : p = q := by funext ts n σ; exact h ts n σ
 rw [this]; exact g
theorem FE.congr {α : Type} {p q : Pr α} (h : ∀ ts n σ, p ts n σ = q ts n σ) (g : FE q) : FE p := by
 have : p = q := by funext ts n σ; exact h ts n σ
 rw [this]; exact g
theorem unexp_end {ts : List Tok} {n : Int} {σ : PS} (h : σ.at_ = ts.length) : unexpP ts n σ = failP σ n 4 := by unfold unexpP; rw [if_neg (by omega)]
theorem fail_at (σ : PS) (o e : Int) : (failP σ o e).at_ = σ.at_ := by unfold failP; split <;> rfl
theorem unexp_at {ts : List Tok} {n : Int} (σ : PS) : (unexpP ts n σ).at_ = σ.at_ := by unfold unexpP; split <;> exact fail_at _ _ _
section
variable {ts us : List Tok} {n m : Int} {c : Nat} {Q : PS → PS → Prop}
theorem DD.un {σ τ : PS} (d : DD ts us m c σ τ) (h : us.length = c) : (unexpP us m τ).err = 4 ∧ (unexpP us m τ).off = m := by
 have hv := d.v; have hb := d.b; rw [unexp_end (by omega)]
 unfold failP
 rcases d.e h with e | e
 · rw [if_pos e]; exact ⟨rfl, rfl⟩
 · rw [if_neg (by rw [e.1]; decide)]; exact e
theorem DD.of {σ τ σ' τ' : PS} (d : DD ts us m c σ τ) (l1 : Le ts σ σ') (l2 : Le us τ τ') (f : τ.at_ = us.length → τ' = τ ∨ τ' = unexpP us m τ) : DD ts us m c σ' τ' := by
 refine ⟨Nat.le_trans d.a l1.le, Nat.le_trans d.b l2.le, l1.wf, l2.wf, fun h => ?_⟩; have hv := d.v; have hb := d.b
 rcases f (by omega) with e | e
 · rw [e]; exact d.e h
 · rw [e]; exact Or.inr (d.un h)
theorem DD.step {α β : Type} {p : Pr α} {q : Pr β} (g : Good p) (k : Good q) {σ τ : PS} (d : DD ts us m c σ τ) : DD ts us m c (p ts n σ).2 (q us m τ).2 := by
 have l1 := g.le ts n σ d.w; have l2 := k.le us m τ d.v; refine ⟨Nat.le_trans d.a l1.le, Nat.le_trans d.b l2.le, l1.wf, l2.wf, fun h => ?_⟩; have hv := d.v; have hb := d.b
 rcases k.fin us m τ (by omega) with e | e
 · rw [e]; exact d.e h
 · rw [e]; exact Or.inr (d.un h)
theorem DD.stepE {α β : Type} {p : Pr α} {q : Pr β} (g : Good p) (k : Good q) (f : FE q) {σ τ : PS} (d : DD ts us m c σ τ) : EE ts us m c (p ts n σ).2 (q us m τ).2 := by
 refine ⟨d.step g k, fun h => ?_⟩; have hv := d.v; have hb := d.b
 rw [f us m τ (by omega)]; exact unexp_err
theorem EE.le {σ τ σ' τ' : PS} (d : EE ts us m c σ τ) (l1 : Le ts σ σ') (l2 : Le us τ τ') : EE ts us m c σ' τ' := by
 refine ⟨⟨Nat.le_trans d.a l1.le, Nat.le_trans d.b l2.le, l1.wf, l2.wf, fun h => ?_⟩, fun h => ?_⟩
 · rw [l2.err (d.x h)]; exact d.e h
 · rw [l2.err (d.x h)]; exact d.x h
theorem RE.rd {α : Type} {a b : α × PS} (h : RE ts us m c Q a b) : RD ts us m c Q a b := by
 rcases h with h | h
 · exact Or.inl h
 · exact Or.inr h.toDD
end
theorem Good.ret {α : Type} (x : α) : Good (retP x) := ⟨fun ts n σ h => Le.refl h, fun ts n σ h => Or.inl rfl, fun ts us n m c Q S σ τ q => Or.inl ⟨rfl, q⟩⟩
theorem GE.ret {α : Type} (x : α) : GE (retP x) := fun ts us n m c Q S σ τ q => Or.inl ⟨rfl, q⟩
theorem Good.bind {α β : Type} {p : Pr α} {f : α → Pr β} (g : Good p) (k : ∀ x, Good (f x)) : Good (bindP p f) where
 le := fun ts n σ h => (g.le ts n σ h).trans ((k _).le ts n _ (g.le ts n σ h).wf)
 fin := fun ts n σ h => by
  unfold bindP
  rcases g.fin ts n σ h with e | e
  · rw [e]; exact (k _).fin ts n σ h
  · rw [e]
    right
    exact ((k _).le ts n _ (by rw [unexp_at]; omega)).err unexp_err
 sim := fun ts us n m c Q S σ τ q => by
  unfold bindP
  rcases g.sim ts us n m c Q S σ τ q with ⟨e, q1⟩ | d
  · rw [e]; exact (k _).sim ts us n m c Q S _ _ q1
  · exact Or.inr (d.step (k _) (k _))
theorem GE.bind {α β : Type} {p : Pr α} {f : α → Pr β} (g : Good p) (k : ∀ x, Good (f x)) (l : ∀ x, GE (f x)) (e : ∀ x, FE (f x)) : GE (bindP p f) := fun ts us n m c Q S σ τ q => by
 unfold bindP
 rcases g.sim ts us n m c Q S σ τ q with ⟨e, q1⟩ | d
 · rw [e]; exact l _ ts us n m c Q S _ _ q1
 · exact Or.inr (d.stepE (k _) (k _) (e _))
theorem GE.bindL {α β : Type} {p : Pr α} {f : α → Pr β} (g : GE p) (k : ∀ x, Good (f x)) (l : ∀ x, GE (f x)) : GE (bindP p f) := fun ts us n m c Q S σ τ q => by
 unfold bindP
 rcases g ts us n m c Q S σ τ q with ⟨e, q1⟩ | d
 · rw [e]; exact l _ ts us n m c Q S _ _ q1
 · exact Or.inr (d.le ((k _).le _ _ _ d.w) ((k _).le _ _ _ d.v))
theorem FE.bindL {α β : Type} {p : Pr α} {f : α → Pr β} (g : FE p) (k : ∀ x, Good (f x)) : FE (bindP p f) := fun ts n σ h => by
 unfold bindP
 rw [g ts n σ h]
 exact ((k _).le ts n _ (by rw [unexp_at]; omega)).err unexp_err
theorem FE.bind {α β : Type} {p : Pr α} {f : α → Pr β} (g : Good p) (k : ∀ x, Good (f x)) (e : ∀ x, FE (f x)) : FE (bindP p f) := fun ts n σ h => by
 unfold bindP
 rcases g.fin ts n σ h with h' | h'
 · rw [h']; exact e _ ts n σ h
 · rw [h']; exact ((k _).le ts n _ (by rw [unexp_at]; omega)).err unexp_err
theorem rd_in {ts : List Tok} {σ : PS} {c : Int → List UInt8 → Bool} (hc : c 0 [] = false) (h : σ.at_ ≤ ts.length) (hh : c (peekP ts σ).kind (peekP ts σ).text = true) : In ts σ := by
 refine peek_in h ?_
 by_cases h1 : (peekP ts σ).text = []
 · right
   intro h2
   rw [h1, h2, hc] at hh; cases hh
 · exact Or.inl h1
theorem rd_end {ts : List Tok} {σ : PS} {c : Int → List UInt8 → Bool} (hc : c 0 [] = false) (h : σ.at_ = ts.length) : c (peekP ts σ).kind (peekP ts σ).text = false := by
 rw [peek_end h]; exact hc
theorem Good.rd {α : Type} {c : Int → List UInt8 → Bool} {y z : Int → List UInt8 → Pr α} (hc : c 0 [] = false) (hy : ∀ k t, Good (y k t)) (hz : ∀ k t, Good (z k t)) : Good (rdP c y z) where
 le := fun ts n σ h => by
  unfold rdP
  split
  · rename_i hh
    have l := next_le (rd_in hc h hh)
    exact l.trans ((hy _ _).le ts n _ l.wf)
  · exact (hz _ _).le ts n σ h
 fin := fun ts n σ h => by
  unfold rdP
  rw [if_neg (by rw [rd_end hc h]; decide)]
  exact (hz _ _).fin ts n σ h
 sim := fun ts us n m c' Q S σ τ q => by
  rcases S.syn σ τ q with d | s
  · right
    have gl : ∀ (ts : List Tok) (n : Int) (σ : PS), σ.at_ ≤ ts.length → Le ts σ (rdP c y z ts n σ).2 := fun ts n σ h => by
     unfold rdP
     split
     · rename_i hh
       have l := next_le (rd_in hc h hh)
       exact l.trans ((hy _ _).le ts n _ l.wf)
     · exact (hz _ _).le ts n σ h
    have l1 := gl ts n σ d.w; have l2 := gl us m τ d.v; refine ⟨Nat.le_trans d.a l1.le, Nat.le_trans d.b l2.le, l1.wf, l2.wf, fun h => ?_⟩; have hv := d.v; have hb := d.b
    have hend : τ.at_ = us.length := by omega
    unfold rdP
    rw [if_neg (by rw [rd_end hc hend]; decide)]
    rcases (hz (peekP us τ).kind (peekP us τ).text).fin us m τ hend with e | e
    · rw [e]; exact d.e h
    · rw [e]; exact Or.inr (d.un h)
  · unfold rdP
    obtain ⟨w1, w2⟩ := S.wf σ τ q; rw [← s.kind, ← s.text]
    split
    · rename_i hh
      have i1 := rd_in hc w1 hh; have i2 := rd_in hc w2 (by rw [← s.kind, ← s.text]; exact hh)
      exact (hy _ _).sim ts us n m c' Q S _ _ (s.next i1 i2)
    · exact (hz _ _).sim ts us n m c' Q S _ _ q
theorem FE.rd {α : Type} {c : Int → List UInt8 → Bool} {y z : Int → List UInt8 → Pr α} (hc : c 0 [] = false) (hz : FE (z 0 [])) : FE (rdP c y z) := fun ts n σ h => by
 unfold rdP
 rw [if_neg (by rw [rd_end hc h]; decide), peek_end h]
 exact hz ts n σ h
theorem GE.rd {α : Type} {c : Int → List UInt8 → Bool} {y z : Int → List UInt8 → Pr α} (hc : c 0 [] = false) (hy : ∀ k t, Good (y k t)) (hz : ∀ k t, Good (z k t)) (ly : ∀ k t, GE (y k t)) (lz : ∀ k t, GE (z k t)) (fz : FE (z 0 [])) : GE (rdP c y z) := fun ts us n m c' Q S σ τ q => by
 rcases S.syn σ τ q with d | s
 · exact Or.inr (d.stepE (Good.rd hc hy hz) (Good.rd hc hy hz) (FE.rd hc fz))
 · unfold rdP
   obtain ⟨w1, w2⟩ := S.wf σ τ q; rw [← s.kind, ← s.text]
   split
   · rename_i hh
     have i1 := rd_in hc w1 hh; have i2 := rd_in hc w2 (by rw [← s.kind, ← s.text]; exact hh)
     exact ly _ _ ts us n m c' Q S _ _ (s.next i1 i2)
   · exact lz _ _ ts us n m c' Q S _ _ q
theorem FE.un {α : Type} (x : α) : FE (unP x) := fun ts n σ h => rfl
theorem Good.un {α : Type} (x : α) : Good (unP x) where
 le := fun ts n σ h => unexp_le h
 fin := fun ts n σ h => Or.inr rfl
 sim := fun ts us n m c Q S σ τ q => by
  rcases S.syn σ τ q with d | s
  · right
    refine ⟨by unfold unP; rw [unexp_at]; exact d.a, by unfold unP; rw [unexp_at]; exact d.b, by unfold unP; rw [unexp_at]; exact d.w, by unfold unP; rw [unexp_at]; exact d.v, fun h => Or.inr (d.un h)⟩
  · exact Or.inl ⟨rfl, s.unexp⟩
theorem GE.un {α : Type} (x : α) : GE (unP x) := fun ts us n m c Q S σ τ q => by
 rcases S.syn σ τ q with d | s
 · exact Or.inr (d.stepE (Good.un x) (Good.un x) (FE.un x))
 · exact Or.inl ⟨rfl, s.unexp⟩
theorem Good.map {α β : Type} {p : Pr α} (f : α → β) (g : Good p) : Good (fun ts n σ => (f (p ts n σ).1, (p ts n σ).2)) := Good.bind g (fun x => Good.ret (f x))
def fullP {α : Type} (b : Bool) (g : Int → List UInt8 → Bool) (r : Pr α) : Pr α := fun ts n σ => if b && g (peekP ts σ).kind (peekP ts σ).text then r ts n (failP σ (peekP ts σ).pos 5) else r ts n σ
theorem Good.full {α : Type} {b : Bool} {g : Int → List UInt8 → Bool} {r : Pr α} (hc : g 0 [] = false) (hr : Good r) : Good (fullP b g r) := by
 have gl : ∀ (ts : List Tok) (n : Int) (σ : PS), σ.at_ ≤ ts.length → Le ts σ (fullP b g r ts n σ).2 := fun ts n σ h => by
  unfold fullP
  split
  · have l := fail_le (ts := ts) h (peekP ts σ).pos 5
    exact l.trans (hr.le ts n _ l.wf)
  · exact hr.le ts n σ h
 have gf : ∀ (ts : List Tok) (n : Int) (σ : PS), σ.at_ = ts.length → fullP b g r ts n σ = r ts n σ := fun ts n σ h => by
  unfold fullP
  rw [rd_end hc h]; simp
 refine ⟨gl, fun ts n σ h => by rw [gf ts n σ h]; exact hr.fin ts n σ h, fun ts us n m c' Q S σ τ q => ?_⟩
 rcases S.syn σ τ q with d | s
 · right
   have l1 := gl ts n σ d.w; have l2 := gl us m τ d.v; refine ⟨Nat.le_trans d.a l1.le, Nat.le_trans d.b l2.le, l1.wf, l2.wf, fun h => ?_⟩; have hv := d.v; have hb := d.b
   have hend : τ.at_ = us.length := by omega
   rw [gf us m τ hend]
   rcases hr.fin us m τ hend with e | e
   · rw [e]; exact d.e h
   · rw [e]; exact Or.inr (d.un h)
 · unfold fullP
   obtain ⟨w1, w2⟩ := S.wf σ τ q; rw [s.kind, s.text]
   split
   · rename_i hh
     have h2 := (Bool.and_eq_true_iff.1 hh).2; have i2 := rd_in hc w2 h2; have i1 := rd_in hc w1 (by rw [s.kind, s.text]; exact h2)
     exact hr.sim ts us n m c' Q S _ _ (s.full i1 i2)
   · exact hr.sim ts us n m c' Q S _ _ q
def teP {α : Type} (g : Int → List UInt8 → Bool) (y z : Pr α) : Pr α := fun ts n σ => if g (peekP ts σ).kind (peekP ts σ).text then y ts n σ else z ts n σ
theorem Good.te {α : Type} {g : Int → List UInt8 → Bool} {y z : Pr α} (hy : Good y) (hz : Good z) : Good (teP g y z) := by
 have gl : ∀ (ts : List Tok) (n : Int) (σ : PS), σ.at_ ≤ ts.length → Le ts σ (teP g y z ts n σ).2 := fun ts n σ h => by
  unfold teP
  split
  · exact hy.le ts n σ h
  · exact hz.le ts n σ h
 have gf : ∀ (ts : List Tok) (n : Int) (σ : PS), σ.at_ = ts.length → (teP g y z ts n σ).2 = σ ∨ (teP g y z ts n σ).2 = unexpP ts n σ := fun ts n σ h => by
  unfold teP
  split
  · exact hy.fin ts n σ h
  · exact hz.fin ts n σ h
 refine ⟨gl, gf, fun ts us n m c Q S σ τ q => ?_⟩
 rcases S.syn σ τ q with d | s
 · exact Or.inr (d.of (gl _ _ _ d.w) (gl _ _ _ d.v) (gf us m τ))
 · unfold teP
   rw [s.kind, s.text]
   split
   · exact hy.sim ts us n m c Q S _ _ q
   · exact hz.sim ts us n m c Q S _ _ q
def erP {α : Type} (y z : Pr α) : Pr α := fun ts n σ => if σ.err ≠ 0 then y ts n σ else z ts n σ
theorem Good.er {α : Type} {y z : Pr α} (hy : Good y) (hz : Good z) : Good (erP y z) := by
 have gl : ∀ (ts : List Tok) (n : Int) (σ : PS), σ.at_ ≤ ts.length → Le ts σ (erP y z ts n σ).2 := fun ts n σ h => by
  unfold erP
  split
  · exact hy.le ts n σ h
  · exact hz.le ts n σ h
 have gf : ∀ (ts : List Tok) (n : Int) (σ : PS), σ.at_ = ts.length → (erP y z ts n σ).2 = σ ∨ (erP y z ts n σ).2 = unexpP ts n σ := fun ts n σ h => by
  unfold erP
  split
  · exact hy.fin ts n σ h
  · exact hz.fin ts n σ h
 refine ⟨gl, gf, fun ts us n m c Q S σ τ q => ?_⟩
 rcases S.syn σ τ q with d | s
 · exact Or.inr (d.of (gl _ _ _ d.w) (gl _ _ _ d.v) (gf us m τ))
 · unfold erP
   by_cases h : σ.err = 0
   · rw [if_neg (by simpa using h), if_neg (by simpa using s.err.1 h)]
     exact hz.sim ts us n m c Q S _ _ q
   · rw [if_pos h, if_pos (fun e => h (s.err.2 e))]
     exact hy.sim ts us n m c Q S _ _ q
theorem FE.er {α : Type} {y z : Pr α} (hy : Good y) (hz : FE z) : FE (erP y z) := fun ts n σ h => by
 unfold erP
 split
 · rename_i he
   rw [(hy.le ts n σ (by omega)).err he, (unexp_le (n := n) (by omega : σ.at_ ≤ ts.length)).err he]
 · exact hz ts n σ h
theorem GE.er {α : Type} {y z : Pr α} (hy : Good y) (hz : Good z) (ly : GE y) (lz : GE z) (fz : FE z) : GE (erP y z) := fun ts us n m c Q S σ τ q => by
 rcases S.syn σ τ q with d | s
 · exact Or.inr (d.stepE (Good.er hy hz) (Good.er hy hz) (FE.er hy fz))
 · unfold erP
   by_cases h : σ.err = 0
   · rw [if_neg (by simpa using h), if_neg (by simpa using s.err.1 h)]
     exact lz ts us n m c Q S _ _ q
   · rw [if_pos h, if_pos (fun e => h (s.err.2 e))]
     exact ly ts us n m c Q S _ _ q
end Bk
namespace Bk
open Go
def expP (t : List UInt8) : Pr Unit := rdP (fun _ u => decide (u = t)) (fun _ _ => retP ()) (fun _ _ => unP ())
theorem exp_at (t : List UInt8) (ts : List Tok) (n : Int) (σ : PS) : expectP ts n σ t = (expP t ts n σ).2 := by
 unfold expectP expP rdP hasP retP unP
 split <;> rfl
theorem ne_dec {t : List UInt8} (h : t ≠ []) : decide (([] : List UInt8) = t) = false := by simpa using fun e : [] = t => h e.symm
theorem good_exp {t : List UInt8} (h : t ≠ []) : Good (expP t) := Good.rd (ne_dec h) (fun _ _ => Good.ret _) (fun _ _ => Good.un _)
theorem fe_exp {t : List UInt8} (h : t ≠ []) : FE (expP t) := FE.rd (ne_dec h) (FE.un _)
theorem ge_exp {t : List UInt8} (h : t ≠ []) : GE (expP t) := GE.rd (ne_dec h) (fun _ _ => Good.ret _) (fun _ _ => Good.un _) (fun _ _ => GE.ret _) (fun _ _ => GE.un _) (FE.un _)
theorem good_name : Good (fun ts n σ => nameP ts n σ) :=
 Good.congr (q := rdP (fun _ t => isName t) (fun _ t => retP t) (fun _ _ => unP [])) (fun ts n σ => by unfold nameP rdP retP unP; split <;> rfl) (Good.rd (by decide) (fun _ _ => Good.ret _) (fun _ _ => Good.un _))
theorem good_number (a b : Int) : Good (fun ts n σ => numberP ts n a b σ) where
 le := fun ts n σ h => number_le h
 fin := fun ts n σ h => by
  right
  unfold numberP
  rw [peek_end h, if_neg (by decide)]
 sim := fun ts us n m c Q S σ τ q => by
  rcases S.syn σ τ q with d | s
  · right
    have l1 := number_le (n := n) (a := a) (b := b) d.w; have l2 := number_le (n := m) (a := a) (b := b) d.v; refine ⟨Nat.le_trans d.a l1.le, Nat.le_trans d.b l2.le, l1.wf, l2.wf, fun h => ?_⟩; have hv := d.v; have hb := d.b
    have hend : τ.at_ = us.length := by omega
    unfold numberP
    rw [peek_end hend, if_neg (by decide)]
    exact Or.inr (d.un h)
  · obtain ⟨w1, w2⟩ := S.wf σ τ q
    unfold numberP
    rw [← s.kind, ← s.text]
    by_cases hk : (peekP ts σ).kind = 2
    · have i1 := peek_in w1 (Or.inr (by rw [hk]; decide))
      have i2 := peek_in w2 (Or.inr (by rw [← s.kind, hk]; decide)); rw [if_pos hk, if_pos hk]
      split
      · exact Or.inl ⟨rfl, s.next i1 i2⟩
      · exact Or.inl ⟨rfl, s.range i1 i2⟩
    · rw [if_neg hk, if_neg hk]
      exact Or.inl ⟨rfl, s.unexp⟩
theorem bin_nil0 : binOf [] = none := by decide
theorem good_exprs (k : Nat) : (∀ lv, Good (fun ts n σ => exprP ts n k lv σ)) ∧ (∀ lv x, Good (fun ts n σ => climbP ts n k lv x σ)) ∧ Good (fun ts n σ => unaryP ts n k σ) ∧ Good (fun ts n σ => primaryP ts n k σ) ∧ Good (fun ts n σ => placeP ts n k σ) := by
 induction k with
 | zero =>
  refine ⟨fun lv => ?_, fun lv x => ?_, ?_, ?_, ?_⟩
  · exact Good.congr (fun ts n σ => by rw [exprP]; rfl) (Good.ret (Nd.mk 0 0 [] []))
  · exact Good.congr (fun ts n σ => by rw [climbP]; rfl) (Good.ret x)
  · exact Good.congr (fun ts n σ => by rw [unaryP]; rfl) (Good.ret (Nd.mk 0 0 [] []))
  · exact Good.congr (fun ts n σ => by rw [primaryP]; rfl) (Good.ret (Nd.mk 0 0 [] []))
  · exact Good.congr (fun ts n σ => by rw [placeP]; rfl) (Good.ret (Nd.mk 0 0 [] []))
 | succ k ih =>
  obtain ⟨iE, iC, iU, iP, iL⟩ := ih; refine ⟨fun lv => ?_, fun lv x => ?_, ?_, ?_, ?_⟩
  · exact Good.congr (fun ts n σ => by rw [exprP]; rfl) (Good.bind iU (fun x => iC lv x))
  · refine Good.congr (q := rdP (fun _ t => match binOf t with | none => false | some op => !decide (level op < lv)) (fun _ t => match binOf t with | none => retP x | some op => bindP (fun ts n σ => exprP ts n k (level op + 1) σ) (fun y ts n σ => climbP ts n k lv (.mk op 0 [] [x, y]) σ)) (fun _ _ => retP x)) (fun ts n σ => ?_) (Good.rd (by simp only [bin_nil0]) (fun _ t => ?_) (fun _ _ => Good.ret _))
    · rw [climbP]
      unfold rdP
      cases ho : binOf (peekP ts σ).text with
      | none => simp only [ho]; rfl
      | some op =>
       by_cases hl : level op < lv
       · simp only [ho, hl, decide_true, Bool.not_true, if_true, Bool.false_eq_true, if_false]; rfl
       · simp only [ho, hl, decide_false, Bool.not_false, if_true, if_false]; rfl
    · cases binOf t with
      | none => exact Good.ret _
      | some op => exact Good.bind (iE _) (fun y => iC lv _)
  · refine Good.congr (fun ts n σ => by rw [unaryP]; rfl) (Good.rd (c := fun _ t => decide (t = [45])) (by decide) (fun _ _ => Good.map (fun x => .mk 6 0 [] [x]) iU) (fun _ _ => Good.rd (c := fun _ t => decide (t = [33])) (by decide) (fun _ _ => Good.map (fun x => .mk 7 0 [] [x]) iU) (fun _ _ => iP)))
  · refine Good.congr (q := teP (fun k _ => decide (k = 2)) (bindP (fun ts n σ => numberP ts n 0 9223372036854775807 σ) (fun x => retP (Nd.mk 1 x [] []))) (
     rdP (fun _ t => decide (t = [116, 111, 112])) (fun _ _ => bindP (expP [40]) (fun _ => bindP (fun ts n σ => nameP ts n σ) (fun m => bindP (expP [41]) (fun _ => retP (Nd.mk 4 0 m [])))))
      (fun _ _ => rdP (fun _ t => decide (t = [115, 105, 122, 101])) (fun _ _ => bindP (expP [40]) (fun _ => bindP (fun ts n σ => nameP ts n σ) (fun m => bindP (expP [41]) (fun _ => retP (Nd.mk 5 0 m [])))))
      (fun _ _ => rdP (fun _ t => decide (t = [40])) (fun _ _ => bindP (fun ts n σ => exprP ts n k 1 σ) (fun x => bindP (expP [41]) (fun _ => retP x))) (fun _ _ ts n σ => placeP ts n k σ))))) (fun ts n σ => ?_) ?_
    · rw [primaryP]
      simp only [exp_at]
      unfold teP
      by_cases hk : (peekP ts σ).kind = 2
      · have hk' : decide ((peekP ts σ).kind = 2) = true := by simp [hk]
        exact (if_pos hk).trans (Eq.symm (if_pos hk'))
      · have hk' : ¬ decide ((peekP ts σ).kind = 2) = true := by simp [hk]
        exact (if_neg hk).trans (Eq.symm (if_neg hk'))
    · exact Good.te (Good.bind (good_number _ _) (fun x => Good.ret _))
       (Good.rd (by decide) (fun _ _ => Good.bind (good_exp (by decide)) (fun _ => Good.bind good_name (fun _ => Good.bind (good_exp (by decide)) (fun _ => Good.ret _))))
        (fun _ _ => Good.rd (by decide) (fun _ _ => Good.bind (good_exp (by decide)) (fun _ => Good.bind good_name (fun _ => Good.bind (good_exp (by decide)) (fun _ => Good.ret _))))
        (fun _ _ => Good.rd (by decide) (fun _ _ => Good.bind (iE 1) (fun _ => Good.bind (good_exp (by decide)) (fun _ => Good.ret _))) (fun _ _ => iL))))
  · refine Good.congr (q := bindP (fun ts n σ => nameP ts n σ) (fun m => rdP (fun _ t => decide (t = [91])) (fun _ _ => bindP (fun ts n σ => exprP ts n k 1 σ) (fun x => bindP (expP [93]) (fun _ => retP (Nd.mk 3 0 m [x])))) (fun _ _ => retP (Nd.mk 2 0 m [])))) (fun ts n σ => ?_) ?_
    · rw [placeP]
      simp only [exp_at]
      rfl
    · exact Good.bind good_name (fun m => Good.rd (by decide) (fun _ _ => Good.bind (iE 1) (fun _ => Good.bind (good_exp (by decide)) (fun _ => Good.ret _))) (fun _ _ => Good.ret _))
theorem good_expr (k : Nat) (lv : Int) : Good (fun ts n σ => exprP ts n k lv σ) := (good_exprs k).1 lv
theorem good_place (k : Nat) : Good (fun ts n σ => placeP ts n k σ) := (good_exprs k).2.2.2.2
theorem good_arg : Good (fun ts n σ => argP ts n σ) := Good.map (fun m => Nd.mk 2 0 m []) good_name
theorem good_args (k : Nat) : ∀ acc, Good (fun ts n σ => argsP ts n k acc σ) := by
 induction k with
 | zero => intro acc; exact Good.congr (fun ts n σ => by rw [argsP]; rfl) (Good.ret acc)
 | succ k ih =>
  intro acc; refine Good.congr (q := rdP (fun _ t => decide (t = [44])) (fun _ _ => fullP (decide (acc.length = 8)) (fun _ t => isName t) (bindP (fun ts n σ => argP ts n σ) (fun a ts n σ => argsP ts n k (acc ++ [a]) σ))) (fun _ _ => retP acc)) (fun ts n σ => ?_)
   (Good.rd (by decide) (fun _ _ => Good.full (by decide) (Good.bind good_arg (fun a => ih _))) (fun _ _ => Good.ret _))
  rw [argsP]
  unfold rdP fullP bindP
  by_cases h : hasP ts σ [44] = true
  · have h' : decide ((peekP ts σ).text = [44]) = true := h
    rw [if_pos h, if_pos h']; dsimp only
    by_cases h8 : acc.length = 8 ∧ isName (peekP ts (nextP σ)).text = true
    · rw [if_pos h8, if_pos (by simp [h8])]
    · rw [if_neg h8, if_neg (by simpa using h8)]
  · have h' : ¬ decide ((peekP ts σ).text = [44]) = true := h
    rw [if_neg h, if_neg h']; rfl
def callC (k : Nat) (kind : Int) : Pr Nd := bindP (fun ts n σ => nameP ts n σ) (fun m => bindP (expP [40]) (fun _ => rdP (fun _ t => decide (t = [41])) (fun _ _ => retP (Nd.mk kind 0 m [])) (fun _ _ => bindP (fun ts n σ => argP ts n σ) (fun a => bindP (fun ts n σ => argsP ts n k [a] σ) (fun r => bindP (expP [41]) (fun _ => retP (Nd.mk kind 0 m r)))))))
theorem callC_at (k : Nat) (kind : Int) (ts : List Tok) (n : Int) (σ : PS) : callP ts n k kind σ = callC k kind ts n (nextP σ) := by
 unfold callP
 simp only [exp_at]
 rfl
theorem good_call (k : Nat) (kind : Int) : Good (callC k kind) := Good.bind good_name (fun m => Good.bind (good_exp (by decide)) (fun _ => Good.rd (by decide) (fun _ _ => Good.ret _) (fun _ _ => Good.bind good_arg (fun a => Good.bind (good_args k _) (fun r => Good.bind (good_exp (by decide)) (fun _ => Good.ret _))))))
theorem good_update (k : Nat) : Good (fun ts n σ => updateP ts n k σ) := by
 refine Good.congr (q := bindP (fun ts n σ => placeP ts n k σ) (fun p => rdP (fun _ t => decide (t = [60, 61, 62])) (fun _ _ => bindP (fun ts n σ => placeP ts n k σ) (fun y => retP (Nd.mk 43 0 [] [p, y]))) (fun _ _ => rdP (fun _ t => !decide (updKind t = 0)) (fun _ t => bindP (fun ts n σ => exprP ts n k 1 σ) (fun y => retP (Nd.mk (updKind t) 0 [] [p, y]))) (fun _ _ => unP (Nd.mk 0 0 [] []))))) (fun ts n σ => ?_)
  (Good.bind (good_place k) (fun p => Good.rd (by decide) (fun _ _ => Good.bind (good_place k) (fun _ => Good.ret _)) (fun _ _ => Good.rd (by decide) (fun _ t => Good.bind (good_expr k 1) (fun _ => Good.ret _)) (fun _ _ => Good.un _))))
 unfold updateP bindP rdP
 dsimp only
 by_cases h : hasP ts (placeP ts n k σ).2 [60, 61, 62] = true
 · have h' : decide ((peekP ts (placeP ts n k σ).2).text = [60, 61, 62]) = true := h
   rw [if_pos h, if_pos h']; rfl
 · have h' : ¬ decide ((peekP ts (placeP ts n k σ).2).text = [60, 61, 62]) = true := h
   rw [if_neg h, if_neg h']
   by_cases hu : updKind (peekP ts (placeP ts n k σ).2).text = 0
   · rw [if_pos hu, if_neg (by simp [hu])]; rfl
   · rw [if_neg hu, if_pos (by simp [hu])]; rfl
def stackC (k : Nat) (kind : Int) : Pr Nd := bindP (fun ts n σ => placeP ts n k σ) (fun p => bindP (expP [44]) (fun _ => bindP (fun ts n σ => nameP ts n σ) (fun m => retP (Nd.mk kind 0 m [p]))))
theorem stackC_at (k : Nat) (kind : Int) (ts : List Tok) (n : Int) (σ : PS) : stackP ts n k kind σ = stackC k kind ts n (nextP σ) := by
 unfold stackP
 simp only [exp_at]
 rfl
theorem good_stack (k : Nat) (kind : Int) : Good (stackC k kind) := Good.bind (good_place k) (fun p => Good.bind (good_exp (by decide)) (fun _ => Good.bind good_name (fun _ => Good.ret _)))
def tapeC (k : Nat) (kind : Int) : Pr Nd := bindP (fun ts n σ => placeP ts n k σ) (fun p => retP (Nd.mk kind 0 [] [p]))
theorem tapeC_at (k : Nat) (kind : Int) (ts : List Tok) (n : Int) (σ : PS) : tapeP ts n k kind σ = tapeC k kind ts n (nextP σ) := rfl
theorem good_tape (k : Nat) (kind : Int) : Good (tapeC k kind) := Good.bind (good_place k) (fun p => Good.ret _)
def branchC (k : Nat) (kind : Int) (mid last : List UInt8) : Pr Nd := bindP (fun ts n σ => exprP ts n k 1 σ) (fun a => bindP (fun ts n σ => blockP ts n k σ) (fun x => bindP (expP mid) (fun _ => bindP (fun ts n σ => blockP ts n k σ) (fun y => bindP (expP last) (fun _ => bindP (fun ts n σ => exprP ts n k 1 σ) (fun e => retP (Nd.mk kind 0 [] [a, x, y, e])))))))
theorem branchC_at (k : Nat) (kind : Int) (mid last : List UInt8) (ts : List Tok) (n : Int) (σ : PS) : branchesP ts n (k + 1) kind mid last σ = branchC k kind mid last ts n (nextP σ) := by
 rw [branchesP]; simp only [exp_at]
 rfl
def localC (k : Nat) : Pr Nd := rdP (fun _ t => decide (t = [115, 116, 97, 99, 107])) (fun _ _ => bindP (fun ts n σ => nameP ts n σ) (fun m => bindP (fun ts n σ => blockP ts n k σ) (fun x => retP (Nd.mk 55 0 m [x]))))
 (fun _ _ => bindP (fun ts n σ => nameP ts n σ) (fun m => bindP (expP [61]) (fun _ => bindP (fun ts n σ => exprP ts n k 1 σ) (fun a => bindP (fun ts n σ => blockP ts n k σ) (fun x => bindP (expP [100, 101, 108, 111, 99, 97, 108]) (fun _ => bindP (fun ts n σ => exprP ts n k 1 σ) (fun e => retP (Nd.mk 54 0 m [a, x, e]))))))))
theorem localC_at (k : Nat) (ts : List Tok) (n : Int) (σ : PS) : localP ts n (k + 1) σ = localC k ts n (nextP σ) := by
 rw [localP]; simp only [exp_at]
 rfl
def eqT (u : List UInt8) : Int → List UInt8 → Bool := fun _ t => decide (t = u)
def stmtC (B : Int → List UInt8 → List UInt8 → Pr Nd) (L : Pr Nd) (k : Nat) : Pr Nd :=
 rdP (eqT [112, 117, 115, 104]) (fun _ _ => stackC k 44) fun _ _ => rdP (eqT [112, 111, 112]) (fun _ _ => stackC k 45) fun _ _ => rdP (eqT [114, 101, 97, 100]) (fun _ _ => tapeC k 46) fun _ _ => rdP (eqT [117, 110, 114, 101, 97, 100]) (fun _ _ => tapeC k 47) fun _ _ =>
 rdP (eqT [119, 114, 105, 116, 101]) (fun _ _ => tapeC k 48) fun _ _ => rdP (eqT [117, 110, 119, 114, 105, 116, 101]) (fun _ _ => tapeC k 49) fun _ _ => rdP (eqT [99, 97, 108, 108]) (fun _ _ => callC k 50) fun _ _ => rdP (eqT [117, 110, 99, 97, 108, 108]) (fun _ _ => callC k 51) fun _ _ =>
 rdP (eqT [105, 102]) (fun _ _ => B 52 [101, 108, 115, 101] [102, 105]) fun _ _ => rdP (eqT [102, 114, 111, 109]) (fun _ _ => B 53 [108, 111, 111, 112] [117, 110, 116, 105, 108]) fun _ _ => rdP (eqT [108, 111, 99, 97, 108]) (fun _ _ => L) fun _ _ ts n σ => updateP ts n k σ
theorem good_stmtC {B : Int → List UInt8 → List UInt8 → Pr Nd} {L : Pr Nd} (hB : ∀ kd mid last, mid ≠ [] → last ≠ [] → Good (B kd mid last)) (hL : Good L) (k : Nat) : Good (stmtC B L k) :=
 Good.rd (by decide) (fun _ _ => good_stack _ _) fun _ _ => Good.rd (by decide) (fun _ _ => good_stack _ _) fun _ _ => Good.rd (by decide) (fun _ _ => good_tape _ _) fun _ _ => Good.rd (by decide) (fun _ _ => good_tape _ _) fun _ _ =>
 Good.rd (by decide) (fun _ _ => good_tape _ _) fun _ _ => Good.rd (by decide) (fun _ _ => good_tape _ _) fun _ _ => Good.rd (by decide) (fun _ _ => good_call _ _) fun _ _ => Good.rd (by decide) (fun _ _ => good_call _ _) fun _ _ =>
 Good.rd (by decide) (fun _ _ => hB _ _ _ (by decide) (by decide)) fun _ _ => Good.rd (by decide) (fun _ _ => hB _ _ _ (by decide) (by decide)) fun _ _ => Good.rd (by decide) (fun _ _ => hL) fun _ _ => good_update k
theorem rd_eq {α : Type} {u : List UInt8} {a b : α × PS} {y z : Pr α} {ts : List Tok} {n : Int} {σ : PS} (h1 : a = y ts n (nextP σ)) (h2 : b = z ts n σ) : (if (peekP ts σ).text = u then a else b) = rdP (eqT u) (fun _ _ => y) (fun _ _ => z) ts n σ := by
 subst h1 h2
 unfold rdP eqT
 by_cases h : (peekP ts σ).text = u
 · rw [if_pos h, if_pos (by simp [h])]
 · rw [if_neg h, if_neg (by simp [h])]
theorem stmtC_at (k : Nat) (ts : List Tok) (n : Int) (σ : PS) : stmtP ts n (k + 2) σ = stmtC (branchC k) (localC k) (k + 1) ts n σ := by
 rw [stmtP]
 exact rd_eq (stackC_at _ _ _ _ _) (rd_eq (stackC_at _ _ _ _ _) (rd_eq (tapeC_at _ _ _ _ _) (rd_eq (tapeC_at _ _ _ _ _) (rd_eq (tapeC_at _ _ _ _ _) (rd_eq (tapeC_at _ _ _ _ _) (rd_eq (callC_at _ _ _ _ _) (rd_eq (callC_at _ _ _ _ _) (rd_eq (branchC_at _ _ _ _ _ _ _) (rd_eq (branchC_at _ _ _ _ _ _ _) (rd_eq (localC_at _ _ _ _) rfl))))))))))
theorem te_eq {α : Type} {u : List UInt8} {a b : α × PS} {y z : Pr α} {ts : List Tok} {n : Int} {σ : PS} (h1 : a = y ts n σ) (h2 : b = z ts n σ) : (if (peekP ts σ).text = u then a else b) = teP (eqT u) y z ts n σ := by
 subst h1 h2
 unfold teP eqT
 by_cases h : (peekP ts σ).text = u
 · rw [if_pos h, if_pos (by simp [h])]
 · rw [if_neg h, if_neg (by simp [h])]
theorem good_stmt1 : Good (fun ts n σ => stmtP ts n 1 σ) := by
 refine Good.congr (q := rdP (eqT [112, 117, 115, 104]) (fun _ _ => stackC 0 44) fun _ _ => rdP (eqT [112, 111, 112]) (fun _ _ => stackC 0 45) fun _ _ => rdP (eqT [114, 101, 97, 100]) (fun _ _ => tapeC 0 46) fun _ _ => rdP (eqT [117, 110, 114, 101, 97, 100]) (fun _ _ => tapeC 0 47) fun _ _ =>
  rdP (eqT [119, 114, 105, 116, 101]) (fun _ _ => tapeC 0 48) fun _ _ => rdP (eqT [117, 110, 119, 114, 105, 116, 101]) (fun _ _ => tapeC 0 49) fun _ _ => rdP (eqT [99, 97, 108, 108]) (fun _ _ => callC 0 50) fun _ _ => rdP (eqT [117, 110, 99, 97, 108, 108]) (fun _ _ => callC 0 51) fun _ _ =>
  teP (eqT [105, 102]) (retP (Nd.mk 0 0 [] [])) (teP (eqT [102, 114, 111, 109]) (retP (Nd.mk 0 0 [] [])) (teP (eqT [108, 111, 99, 97, 108]) (retP (Nd.mk 0 0 [] [])) fun ts n σ => updateP ts n 0 σ))) (fun ts n σ => ?_)
  (Good.rd (by decide) (fun _ _ => good_stack _ _) fun _ _ => Good.rd (by decide) (fun _ _ => good_stack _ _) fun _ _ => Good.rd (by decide) (fun _ _ => good_tape _ _) fun _ _ => Good.rd (by decide) (fun _ _ => good_tape _ _) fun _ _ =>
  Good.rd (by decide) (fun _ _ => good_tape _ _) fun _ _ => Good.rd (by decide) (fun _ _ => good_tape _ _) fun _ _ => Good.rd (by decide) (fun _ _ => good_call _ _) fun _ _ => Good.rd (by decide) (fun _ _ => good_call _ _) fun _ _ =>
  Good.te (Good.ret _) (Good.te (Good.ret _) (Good.te (Good.ret _) (good_update 0))))
 rw [stmtP]
 exact rd_eq (stackC_at _ _ _ _ _) (rd_eq (stackC_at _ _ _ _ _) (rd_eq (tapeC_at _ _ _ _ _) (rd_eq (tapeC_at _ _ _ _ _) (rd_eq (tapeC_at _ _ _ _ _) (rd_eq (tapeC_at _ _ _ _ _) (rd_eq (callC_at _ _ _ _ _) (rd_eq (callC_at _ _ _ _ _) (te_eq (by rw [branchesP]; rfl) (te_eq (by rw [branchesP]; rfl) (te_eq (by rw [localP]; rfl) rfl))))))))))
def stmtsC (S : Pr Nd) (k : Nat) (acc : List Nd) : Pr (List Nd) := rdP (eqT [125]) (fun _ _ => retP acc) (fun _ _ => bindP S (fun x => bindP (expP [59]) (fun _ ts n σ => stmtsP ts n k (acc ++ [x]) σ)))
theorem stmtsC_at (k : Nat) (acc : List Nd) (ts : List Tok) (n : Int) (σ : PS) : stmtsP ts n (k + 1) acc σ = erP (retP acc) (stmtsC (fun ts n σ => stmtP ts n k σ) k acc) ts n σ := by
 rw [stmtsP]; simp only [exp_at]
 rfl
theorem blockC_at (k : Nat) (ts : List Tok) (n : Int) (σ : PS) : blockP ts n (k + 1) σ = bindP (expP [123]) (fun _ => bindP (fun ts n σ => stmtsP ts n k [] σ) (fun l => retP (Nd.mk 57 0 [] l))) ts n σ := by
 rw [blockP]; simp only [exp_at]
 rfl
theorem good_stmts (k : Nat) : Good (fun ts n σ => stmtP ts n k σ) ∧ (∀ kd mid last, mid ≠ [] → last ≠ [] → Good (branchC k kd mid last)) ∧ Good (localC k) ∧ Good (fun ts n σ => blockP ts n k σ) ∧ (∀ acc, Good (fun ts n σ => stmtsP ts n k acc σ)) ∧ (∀ acc, GE (fun ts n σ => stmtsP ts n k acc σ)) := by
 induction k using Nat.strongRecOn with
 | _ k ih =>
  have hS : Good (fun ts n σ => stmtP ts n k σ) := by
   rcases k with _ | _ | k
   · exact Good.congr (fun ts n σ => by rw [stmtP]; rfl) (Good.ret (Nd.mk 0 0 [] []))
   · exact good_stmt1
   · obtain ⟨-, hB, hL, -⟩ := ih k (by omega)
     exact Good.congr (fun ts n σ => stmtC_at k ts n σ) (good_stmtC hB hL _)
  have hT : ∀ acc, Good (fun ts n σ => stmtsP ts n k acc σ) := by
   intro acc
   rcases k with _ | k
   · exact Good.congr (fun ts n σ => by rw [stmtsP]; rfl) (Good.ret acc)
   · obtain ⟨iS, -, -, -, iT, -⟩ := ih k (by omega)
     exact Good.congr (fun ts n σ => stmtsC_at k acc ts n σ) (Good.er (Good.ret _) (Good.rd (by decide) (fun _ _ => Good.ret _) (fun _ _ => Good.bind iS (fun x => Good.bind (good_exp (by decide)) (fun _ => iT _)))))
  have hG : ∀ acc, GE (fun ts n σ => stmtsP ts n k acc σ) := by
   intro acc
   rcases k with _ | k
   · exact GE.congr (fun ts n σ => by rw [stmtsP]; rfl) (GE.ret acc)
   · obtain ⟨iS, -, -, -, iT, iG⟩ := ih k (by omega)
     have g2 : ∀ x, Good (bindP (expP [59]) (fun _ ts n σ => stmtsP ts n k (acc ++ [x]) σ)) := fun x => Good.bind (good_exp (by decide)) (fun _ => iT _)
     have e2 : ∀ x, FE (bindP (expP [59]) (fun _ ts n σ => stmtsP ts n k (acc ++ [x]) σ)) := fun x => FE.bindL (fe_exp (by decide)) (fun _ => iT _)
     have l2 : ∀ x, GE (bindP (expP [59]) (fun _ ts n σ => stmtsP ts n k (acc ++ [x]) σ)) := fun x => GE.bindL (ge_exp (by decide)) (fun _ => iT _) (fun _ => iG _)
     have f1 := FE.bind iS g2 e2; refine GE.congr (fun ts n σ => stmtsC_at k acc ts n σ) (GE.er (Good.ret _) (Good.rd (by decide) (fun _ _ => Good.ret _) (fun _ _ => Good.bind iS g2)) (GE.ret _) ?_ (FE.rd (by decide) f1))
     exact GE.rd (by decide) (fun _ _ => Good.ret _) (fun _ _ => Good.bind iS g2) (fun _ _ => GE.ret _) (fun _ _ => GE.bind iS g2 l2 e2) f1
  have hK : Good (fun ts n σ => blockP ts n k σ) := by
   rcases k with _ | k
   · exact Good.congr (fun ts n σ => by rw [blockP]; rfl) (Good.ret (Nd.mk 57 0 [] []))
   · obtain ⟨-, -, -, -, iT, -⟩ := ih k (by omega)
     exact Good.congr (fun ts n σ => blockC_at k ts n σ) (Good.bind (good_exp (by decide)) (fun _ => Good.bind (iT _) (fun _ => Good.ret _)))
  refine ⟨hS, fun kd mid last hm hl => ?_, ?_, hK, hT, hG⟩
  · exact Good.bind (good_expr k 1) (fun a => Good.bind hK (fun x => Good.bind (good_exp hm) (fun _ => Good.bind hK (fun y => Good.bind (good_exp hl) (fun _ => Good.bind (good_expr k 1) (fun e => Good.ret _))))))
  · exact Good.rd (by decide) (fun _ _ => Good.bind good_name (fun m => Good.bind hK (fun x => Good.ret _))) (fun _ _ => Good.bind good_name (fun m => Good.bind (good_exp (by decide)) (fun _ => Good.bind (good_expr k 1) (fun a => Good.bind hK (fun x => Good.bind (good_exp (by decide)) (fun _ => Good.bind (good_expr k 1) (fun e => Good.ret _)))))))
theorem good_block (k : Nat) : Good (fun ts n σ => blockP ts n k σ) := (good_stmts k).2.2.2.1
theorem fe_block (k : Nat) : FE (fun ts n σ => blockP ts n (k + 1) σ) := FE.congr (fun ts n σ => blockC_at k ts n σ) (FE.bindL (fe_exp (by decide)) (fun _ => Good.bind ((good_stmts k).2.2.2.2.1 _) (fun _ => Good.ret _)))
theorem ge_block (k : Nat) : GE (fun ts n σ => blockP ts n (k + 1) σ) := GE.congr (fun ts n σ => blockC_at k ts n σ) (GE.bindL (ge_exp (by decide)) (fun _ => Good.bind ((good_stmts k).2.2.2.2.1 _) (fun _ => Good.ret _)) (fun _ => GE.bindL ((good_stmts k).2.2.2.2.2 _) (fun _ => Good.ret _) (fun _ => GE.ret _)))
end Bk
namespace Bk
open Go
theorem body_at (k : Nat) (ts : List Tok) (n : Int) (σ : PS) : (bodyP ts n k σ).2 = limitP (blockP ts n k σ).1 (peekP ts σ).pos (blockP ts n k σ).2 := rfl
theorem limit_err {x : Nd} {o : Int} {σ : PS} (h : σ.err ≠ 0) : limitP x o σ = σ := by unfold limitP; rw [if_pos h]
theorem fe_body (k : Nat) : FE (fun ts n σ => bodyP ts n (k + 1) σ) := fun ts n σ h => by
 show (bodyP ts n (k + 1) σ).2 = _
 have := fe_block k ts n σ h; simp only at this; rw [body_at, this, limit_err unexp_err]
theorem ge_body (k : Nat) : GE (fun ts n σ => bodyP ts n (k + 1) σ) := fun ts us n m c Q S σ τ q => by
 rcases S.syn σ τ q with d | s
 · have hE := d.stepE (n := n) (good_block (k + 1)) (good_block (k + 1)) (fe_block k)
   exact Or.inr (hE.le (limit_le hE.w) (limit_le hE.v))
 · rcases ge_block k ts us n m c Q S σ τ q with ⟨e, q1⟩ | hE
   · simp only at e q1
     refine Or.inl ⟨e, ?_⟩
     show Q (limitP (blockP ts n (k + 1) σ).1 _ _) (limitP (blockP us m (k + 1) τ).1 _ _)
     rw [e]
     exact s.lim _ _ _ q1
   · exact Or.inr (hE.le (limit_le hE.w) (limit_le hE.v))
theorem good_body (k : Nat) : Good (fun ts n σ => bodyP ts n k σ) := by
 rcases k with _ | k
 · refine Good.congr (q := retP (Nd.mk 57 0 [] [])) (fun ts n σ => ?_) (Good.ret _)
   unfold bodyP
   rw [blockP]
   unfold limitP retP
   split
   · rfl
   · have h1 : ¬ 80 < (Nd.mk 57 0 [] []).depth := by decide
     have h2 : ¬ 2000 < (Nd.mk 57 0 [] []).size := by decide
     exact congrArg (Prod.mk _) ((if_neg h1).trans (if_neg h2))
 · exact ⟨fun ts n σ h => bodyP_le h, fun ts n σ h => Or.inr (fe_body k ts n σ h), fun ts us n m c Q S σ τ q => (ge_body k ts us n m c Q S σ τ q).rd⟩
theorem good_decl : Good (fun ts n σ => declP ts n σ) := by
 refine Good.congr (q := rdP (eqT [105, 110, 116]) (fun _ _ => bindP (fun ts n σ => nameP ts n σ) (fun m => retP ⟨m, 1, 0⟩)) fun _ _ => rdP (eqT [115, 116, 97, 99, 107]) (fun _ _ => bindP (fun ts n σ => nameP ts n σ) (fun m => retP ⟨m, 3, 0⟩)) fun _ _ =>
  rdP (eqT [97, 114, 114, 97, 121]) (fun _ _ => bindP (fun ts n σ => nameP ts n σ) (fun m => bindP (expP [91]) (fun _ => bindP (fun ts n σ => numberP ts n 1 16 σ) (fun r => bindP (expP [93]) (fun _ => retP ⟨m, 2, r⟩))))) fun _ _ => unP ⟨[], 0, 0⟩) (fun ts n σ => ?_)
  (Good.rd (by decide) (fun _ _ => Good.bind good_name (fun m => Good.ret _)) fun _ _ => Good.rd (by decide) (fun _ _ => Good.bind good_name (fun m => Good.ret _)) fun _ _ =>
   Good.rd (by decide) (fun _ _ => Good.bind good_name (fun m => Good.bind (good_exp (by decide)) (fun _ => Good.bind (good_number 1 16) (fun r => Good.bind (good_exp (by decide)) (fun _ => Good.ret _))))) fun _ _ => Good.un _)
 unfold declP
 simp only [exp_at]
 rfl
def dclT : Int → List UInt8 → Bool := fun _ t => decide (t = [105, 110, 116]) || decide (t = [97, 114, 114, 97, 121]) || decide (t = [115, 116, 97, 99, 107])
theorem good_params (k : Nat) : ∀ acc, Good (fun ts n σ => paramsP ts n k acc σ) := by
 induction k with
 | zero => intro acc; exact Good.congr (fun ts n σ => by rw [paramsP]; rfl) (Good.ret acc)
 | succ k ih =>
  intro acc; refine Good.congr (q := rdP (eqT [44]) (fun _ _ => fullP (decide (acc.length = 8)) dclT (bindP (fun ts n σ => declP ts n σ) (fun a ts n σ => paramsP ts n k (acc ++ [a]) σ))) (fun _ _ => retP acc)) (fun ts n σ => ?_)
   (Good.rd (by decide) (fun _ _ => Good.full (by decide) (Good.bind good_decl (fun a => ih _))) (fun _ _ => Good.ret _))
  rw [paramsP]
  unfold rdP fullP bindP
  by_cases h : hasP ts σ [44] = true
  · have h' : eqT [44] (peekP ts σ).kind (peekP ts σ).text = true := h
    rw [if_pos h, if_pos h']; dsimp only
    by_cases h8 : acc.length = 8 ∧ atDeclP ts (nextP σ) = true
    · have h9 : (decide (acc.length = 8) && dclT (peekP ts (nextP σ)).kind (peekP ts (nextP σ)).text) = true := by simp only [Bool.and_eq_true, decide_eq_true_eq]; exact h8
      rw [if_pos h8, if_pos h9]
    · have h9 : ¬ (decide (acc.length = 8) && dclT (peekP ts (nextP σ)).kind (peekP ts (nextP σ)).text) = true := by simp only [Bool.and_eq_true, decide_eq_true_eq]; exact h8
      rw [if_neg h8, if_neg h9]
  · have h' : ¬ eqT [44] (peekP ts σ).kind (peekP ts σ).text = true := h
    rw [if_neg h, if_neg h']; rfl
theorem good_procQ (k : Nat) : Good (fun ts n σ => procQ ts n k σ) := by
 refine Good.congr (q := rdP (eqT [41]) (fun _ _ => retP []) (fun _ _ => bindP (fun ts n σ => declP ts n σ) (fun d => bindP (fun ts n σ => paramsP ts n k [d] σ) (fun r => bindP (expP [41]) (fun _ => retP r))))) (fun ts n σ => ?_)
  (Good.rd (by decide) (fun _ _ => Good.ret _) (fun _ _ => Good.bind good_decl (fun d => Good.bind (good_params k _) (fun r => Good.bind (good_exp (by decide)) (fun _ => Good.ret _)))))
 unfold procQ
 simp only [exp_at]
 rfl
theorem good_proc (k : Nat) : Good (fun ts n σ => procP ts n k σ) := by
 refine Good.congr (q := bindP (expP [112, 114, 111, 99]) (fun _ => bindP (fun ts n σ => nameP ts n σ) (fun m => bindP (expP [40]) (fun _ => bindP (fun ts n σ => procQ ts n k σ) (fun q => bindP (fun ts n σ => bodyP ts n k σ) (fun b => retP ⟨m, q, b⟩)))))) (fun ts n σ => ?_)
  (Good.bind (good_exp (by decide)) (fun _ => Good.bind good_name (fun m => Good.bind (good_exp (by decide)) (fun _ => Good.bind (good_procQ k) (fun q => Good.bind (good_body k) (fun b => Good.ret _))))))
 rw [procP_at]; simp only [exp_at]
 rfl
theorem good_vars (k : Nat) : ∀ acc, Good (fun ts n σ => varsP ts n k acc σ) := by
 induction k with
 | zero => intro acc; exact Good.congr (fun ts n σ => by rw [varsP]; rfl) (Good.ret acc)
 | succ k ih =>
  intro acc; refine Good.congr (q := teP dclT (fullP (decide (acc.length = 32)) dclT (bindP (fun ts n σ => declP ts n σ) (fun a ts n σ => varsP ts n k (acc ++ [a]) σ))) (retP acc)) (fun ts n σ => ?_)
   (Good.te (Good.full (by decide) (Good.bind good_decl (fun a => ih _))) (Good.ret _))
  rw [varsP]
  unfold teP fullP bindP
  dsimp only
  by_cases h : atDeclP ts σ = true
  · have h' : dclT (peekP ts σ).kind (peekP ts σ).text = true := h
    rw [if_pos h, if_pos h', h']
    by_cases h8 : acc.length = 32
    · rw [if_pos h8, if_pos (by simp [h8])]
    · rw [if_neg h8, if_neg (by simpa using h8)]
  · have h' : ¬ dclT (peekP ts σ).kind (peekP ts σ).text = true := h
    rw [if_neg h, if_neg h']; rfl
theorem good_procs (k : Nat) : ∀ acc, Good (fun ts n σ => procsP ts n k acc σ) := by
 induction k with
 | zero => intro acc; exact Good.congr (fun ts n σ => by rw [procsP]; rfl) (Good.ret acc)
 | succ k ih =>
  intro acc; refine Good.congr (q := teP (eqT [112, 114, 111, 99]) (fullP (decide (acc.length = 64)) (eqT [112, 114, 111, 99]) (bindP (fun ts n σ => procP ts n k σ) (fun a ts n σ => procsP ts n k (acc ++ [a]) σ))) (retP acc)) (fun ts n σ => ?_)
   (Good.te (Good.full (by decide) (Good.bind (good_proc k) (fun a => ih _))) (Good.ret _))
  rw [procsP]
  unfold teP fullP bindP
  dsimp only
  by_cases h : hasP ts σ [112, 114, 111, 99] = true
  · have h' : eqT [112, 114, 111, 99] (peekP ts σ).kind (peekP ts σ).text = true := h
    rw [if_pos h, if_pos h', h']
    by_cases h8 : acc.length = 64
    · rw [if_pos h8, if_pos (by simp [h8])]
    · rw [if_neg h8, if_neg (by simpa using h8)]
  · have h' : ¬ eqT [112, 114, 111, 99] (peekP ts σ).kind (peekP ts σ).text = true := h
    rw [if_neg h, if_neg h']; rfl
def progC (k : Nat) : Pr PG := bindP (fun ts n σ => varsP ts n k [] σ) (fun v => bindP (fun ts n σ => procsP ts n k [] σ) (fun p => bindP (expP [109, 97, 105, 110]) (fun _ => bindP (fun ts n σ => bodyP ts n k σ) (fun b => retP ⟨v, p, b⟩))))
theorem progC_at (k : Nat) (ts : List Tok) (n : Int) (σ : PS) : programP ts n k σ = progC k ts n σ := by
 unfold programP
 simp only [exp_at]
 rfl
theorem good_program (k : Nat) : Good (fun ts n σ => programP ts n k σ) := Good.congr (fun ts n σ => progC_at k ts n σ) (Good.bind (good_vars k _) (fun v => Good.bind (good_procs k _) (fun p => Good.bind (good_exp (by decide)) (fun _ => Good.bind (good_body k) (fun b => Good.ret _)))))
theorem ge_program (k : Nat) : GE (fun ts n σ => programP ts n (k + 1) σ) := by
 have g4 : ∀ (v : List VD) (p : List PD), Good (bindP (fun ts n σ => bodyP ts n (k + 1) σ) (fun b => retP (⟨v, p, b⟩ : PG))) := fun v p => Good.bind (good_body _) (fun b => Good.ret _)
 have l4 : ∀ (v : List VD) (p : List PD), GE (bindP (fun ts n σ => bodyP ts n (k + 1) σ) (fun b => retP (⟨v, p, b⟩ : PG))) := fun v p => GE.bindL (ge_body k) (fun b => Good.ret _) (fun b => GE.ret _)
 have g3 : ∀ (v : List VD) (p : List PD), Good (bindP (expP [109, 97, 105, 110]) (fun _ => bindP (fun ts n σ => bodyP ts n (k + 1) σ) (fun b => retP (⟨v, p, b⟩ : PG)))) := fun v p => Good.bind (good_exp (by decide)) (fun _ => g4 v p)
 have l3 : ∀ (v : List VD) (p : List PD), GE (bindP (expP [109, 97, 105, 110]) (fun _ => bindP (fun ts n σ => bodyP ts n (k + 1) σ) (fun b => retP (⟨v, p, b⟩ : PG)))) := fun v p => GE.bindL (ge_exp (by decide)) (fun _ => g4 v p) (fun _ => l4 v p)
 have f3 : ∀ (v : List VD) (p : List PD), FE (bindP (expP [109, 97, 105, 110]) (fun _ => bindP (fun ts n σ => bodyP ts n (k + 1) σ) (fun b => retP (⟨v, p, b⟩ : PG)))) := fun v p => FE.bindL (fe_exp (by decide)) (fun _ => g4 v p)
 refine GE.congr (fun ts n σ => progC_at (k + 1) ts n σ) (GE.bind (good_vars _ _) (fun v => Good.bind (good_procs _ _) (fun p => g3 v p)) (fun v => GE.bind (good_procs _ _) (fun p => g3 v p) (fun p => l3 v p) (fun p => f3 v p)) (fun v => FE.bind (good_procs _ _) (fun p => g3 v p) (fun p => f3 v p)))
def TokEq (ts us : List Tok) : Prop := ts.map (fun t => (t.kind, t.text)) = us.map (fun t => (t.kind, t.text))
theorem TokEq.len {ts us : List Tok} (h : TokEq ts us) : ts.length = us.length := by simpa using congrArg List.length h
theorem TokEq.get {ts us : List Tok} (h : TokEq ts us) (i : Nat) : (ts.getD i Tok.zero).kind = (us.getD i Tok.zero).kind ∧ (ts.getD i Tok.zero).text = (us.getD i Tok.zero).text := by
 have hl := h.len
 by_cases hi : i < ts.length
 · have := congrArg (fun l => l[i]?) h
   simp only [List.getElem?_map] at this; rw [List.getElem?_eq_getElem hi, List.getElem?_eq_getElem (by omega)] at this; rw [List.getD_eq_getElem?_getD, List.getD_eq_getElem?_getD, List.getElem?_eq_getElem hi, List.getElem?_eq_getElem (by omega)]
   simpa using this
 · rw [List.getD_eq_getElem?_getD, List.getD_eq_getElem?_getD, List.getElem?_eq_none (by omega), List.getElem?_eq_none (by omega)]
   exact ⟨rfl, rfl⟩
theorem fail_same {σ τ : PS} {o p e : Int} (h1 : σ.at_ = τ.at_) (h2 : σ.err = τ.err) : (failP σ o e).at_ = (failP τ p e).at_ ∧ (failP σ o e).err = (failP τ p e).err := by
 unfold failP
 rw [h2]
 split
 · exact ⟨h1, rfl⟩
 · exact ⟨h1, h2⟩
theorem sim_layout {ts us : List Tok} (n m : Int) (h : TokEq ts us) : Sim ts us n m (ts.length + 1) (fun σ τ => σ.at_ = τ.at_ ∧ σ.err = τ.err ∧ σ.at_ ≤ ts.length) where
 wf := fun σ τ q => ⟨q.2.2, by rw [← h.len, ← q.1]; exact q.2.2⟩
 syn := fun σ τ q => by
  right
  obtain ⟨h1, h2, h3⟩ := q
  have hp : (peekP ts σ).kind = (peekP us τ).kind ∧ (peekP ts σ).text = (peekP us τ).text := by
   unfold peekP
   rw [h1, h2, h.len]
   split
   · exact ⟨rfl, rfl⟩
   · exact h.get _
  refine ⟨hp.1, hp.2, by rw [h2], fun i _ => ⟨by simp [nextP, h1], h2, i.2⟩, ?_, fun i _ => ?_, fun i _ => ?_, fun x σ' τ' q' => ?_⟩
  · unfold unexpP
    rw [h1, h.len]
    split
    · have := fail_same (o := (ts.getD τ.at_ Tok.zero).pos) (p := (us.getD τ.at_ Tok.zero).pos) (e := 3) h1 h2
      exact ⟨this.1, this.2, by rw [fail_at, ← h.len]; exact h3⟩
    · have := fail_same (o := n) (p := m) (e := 4) h1 h2
      exact ⟨this.1, this.2, by rw [fail_at, ← h.len]; exact h3⟩
  · have := fail_same (o := (peekP ts σ).pos) (p := (peekP us τ).pos) (e := 5) h1 h2
    exact ⟨this.1, this.2, by rw [fail_at]; exact h3⟩
  · have := fail_same (σ := nextP σ) (τ := nextP τ) (o := (peekP ts σ).pos) (p := (peekP us τ).pos) (e := 2) (by simp [nextP, h1]) h2
    exact ⟨this.1, this.2, by rw [fail_at]; exact i.2⟩
  · obtain ⟨k1, k2, k3⟩ := q'
    unfold limitP
    rw [k2]
    split
    · exact ⟨k1, k2, k3⟩
    · split
      · have := fail_same (o := (peekP ts σ).pos) (p := (peekP us τ).pos) (e := 19) k1 k2
        exact ⟨this.1, this.2, by rw [fail_at]; exact k3⟩
      · split
        · have := fail_same (o := (peekP ts σ).pos) (p := (peekP us τ).pos) (e := 5) k1 k2
          exact ⟨this.1, this.2, by rw [fail_at]; exact k3⟩
        · exact ⟨k1, k2, k3⟩
theorem getD_take {ts us : List Tok} {c i : Nat} (h : ts.take c = us.take c) (hi : i < c) : ts.getD i Tok.zero = us.getD i Tok.zero := by
 have := congrArg (fun l => l[i]?) h; simp only [List.getElem?_take, if_pos hi] at this; rw [List.getD_eq_getElem?_getD, List.getD_eq_getElem?_getD, this]
theorem sim_cut {ts us : List Tok} (n m : Int) {c : Nat} (h : ts.take c = us.take c) (h1 : c ≤ ts.length) (h2 : c ≤ us.length) : Sim ts us n m c (fun σ τ => σ = τ ∧ σ.at_ ≤ ts.length ∧ σ.at_ ≤ us.length) where
 wf := fun σ τ q => ⟨q.2.1, by rw [← q.1]; exact q.2.2⟩
 syn := fun σ τ q => by
  obtain ⟨rfl, q1, q2⟩ := q
  by_cases he : σ.err = 0
  · by_cases hc : σ.at_ < c
    · right
      have hp : peekP ts σ = peekP us σ := by
       unfold peekP
       rw [if_neg (by rintro (h | h); exact h he; omega), if_neg (by rintro (h | h); exact h he; omega), getD_take h hc]
      refine ⟨by rw [hp], by rw [hp], Iff.rfl, fun i j => ⟨rfl, i.2, j.2⟩, ?_, fun i j => ⟨by rw [hp], by rw [fail_at]; exact q1, by rw [fail_at]; exact q2⟩, fun i j => ⟨by rw [hp], by rw [fail_at]; exact i.2, by rw [fail_at]; exact j.2⟩, fun x σ' τ' q' => ?_⟩
      · refine ⟨?_, by rw [unexp_at]; exact q1, by rw [unexp_at]; exact q2⟩
        unfold unexpP
        rw [if_pos (by omega), if_pos (by omega), getD_take h hc]
      · obtain ⟨rfl, k1, k2⟩ := q'
        exact ⟨by rw [hp], (limit_le k1).wf, (limit_le k2).wf⟩
    · left
      exact ⟨by omega, by omega, q1, q2, fun _ => Or.inl he⟩
  · right
    have hp : peekP ts σ = peekP us σ := by rw [peek_err he, peek_err he]
    refine ⟨by rw [hp], by rw [hp], Iff.rfl, fun i j => absurd i.1 he, ?_, fun i j => absurd i.1 he, fun i j => absurd i.1 he, fun x σ' τ' q' => ?_⟩
    · rw [(unexp_le q1).err he, (unexp_le q2).err he]
      exact ⟨rfl, q1, q2⟩
    · obtain ⟨rfl, k1, k2⟩ := q'
      exact ⟨by rw [hp], (limit_le k1).wf, (limit_le k2).wf⟩
theorem REq.symm {α : Type} {a b : α × PS} (h : REq a b) : REq b a := ⟨h.err.symm, h.off.symm, fun e => ⟨(h.ok (by rw [h.err]; exact e)).1.symm, (h.ok (by rw [h.err]; exact e)).2.symm⟩⟩
theorem program_fuel {ts : List Tok} {n : Int} (hd : DigitKinds ts) {k k' : Nat} {σ : PS} (h : σ.at_ ≤ ts.length) (hk : 4 * mS ts σ + 9 ≤ k) (hk' : 4 * mS ts σ + 9 ≤ k') : REq (programP ts n k σ) (programP ts n k' σ) := by
 have a := program_eq (n := n) hd h hk (k' := 12 * mS ts σ + 17) (Nat.le_refl _); have b := (program_eq (n := n) hd h hk' (k' := 12 * mS ts σ + 17) (Nat.le_refl _)).symm
 exact ⟨a.err.trans b.err, a.off.trans b.off, fun e => ⟨(a.ok e).1.trans (b.ok (by rw [← a.err]; exact e)).1, (a.ok e).2.trans (b.ok (by rw [← a.err]; exact e)).2⟩⟩
end Bk
namespace Bk
open Go
section
variable {ts : List Tok} {n : Int}
theorem limit_ok {x : Nd} {off : Int} {σ : PS} (h : (limitP x off σ).err = 0) : σ.err = 0 ∧ x.depth ≤ 80 ∧ x.size ≤ 2000 := by
 unfold limitP at h
 split at h
 · exact absurd h (by assumption)
 · rename_i h0
   have h0' : σ.err = 0 := by simpa using h0
   split at h
   · exact absurd h (fail_err (by decide))
   · split at h
     · exact absurd h (fail_err (by decide))
     · exact ⟨h0', by omega, by omega⟩
theorem vars_small (k : Nat) : ∀ (acc : List VD) (σ : PS), σ.at_ ≤ ts.length → (varsP ts n k acc σ).2.err = 0 → acc.length ≤ 32 → (varsP ts n k acc σ).1.length ≤ 32 := by
 induction k with
 | zero => intro acc σ h he ha; rw [varsP]; exact ha
 | succ k ih =>
  intro acc σ h he ha; rw [varsP] at he ⊢
  split at he
  · rename_i hd
    rw [if_pos hd]; simp only at he ⊢
    by_cases h32 : acc.length = 32
    · rw [if_pos h32] at he
      have l0 := fail_le (ts := ts) h (peekP ts σ).pos 5; have l1 := decl_le (n := n) l0.wf
      exact absurd ((l1.trans (vars_le k _ _ l1.wf)).ok he) (fail_err (by decide))
    · rw [if_neg h32] at he ⊢
      have l1 := decl_le (n := n) h
      exact ih _ _ l1.wf he (by simp only [List.length_append, List.length_cons, List.length_nil]; omega)
  · rename_i hd
    rw [if_neg hd]; exact ha
theorem params_small (k : Nat) : ∀ (acc : List VD) (σ : PS), σ.at_ ≤ ts.length → (paramsP ts n k acc σ).2.err = 0 → acc.length ≤ 8 → (paramsP ts n k acc σ).1.length ≤ 8 := by
 induction k with
 | zero => intro acc σ h he ha; rw [paramsP]; exact ha
 | succ k ih =>
  intro acc σ h he ha; rw [paramsP] at he ⊢
  split at he
  · rename_i hc
    rw [if_pos hc]; simp only at he ⊢; have l0 := next_le (has_in h hc (by decide))
    by_cases h8 : acc.length = 8 ∧ atDeclP ts (nextP σ) = true
    · rw [if_pos h8] at he
      have l1 := fail_le (ts := ts) l0.wf (peekP ts (nextP σ)).pos 5; have l2 := decl_le (n := n) l1.wf
      exact absurd ((l2.trans (params_le k _ _ l2.wf)).ok he) (fail_err (by decide))
    · rw [if_neg h8] at he ⊢
      have l2 := decl_le (n := n) l0.wf
      by_cases h9 : acc.length = 8
      · have hd : atDeclP ts (nextP σ) = false := by
         cases hh : atDeclP ts (nextP σ)
         · rfl
         · exact absurd ⟨h9, hh⟩ h8
        have hx : (declP ts n (nextP σ)).2.err ≠ 0 := by
         simp only [atDeclP, Bool.or_eq_false_iff] at hd
         unfold declP
         rw [if_neg (by simp [hd.1.1]), if_neg (by simp [hd.2]), if_neg (by simp [hd.1.2])]
         exact unexp_err
        exact absurd ((params_le k _ _ l2.wf).ok he) hx
      · exact ih _ _ l2.wf he (by simp only [List.length_append, List.length_cons, List.length_nil]; omega)
  · rename_i hc
    rw [if_neg hc]; exact ha
theorem procP_small {k : Nat} {σ : PS} (h : σ.at_ ≤ ts.length) (he : (procP ts n k σ).2.err = 0) : (procP ts n k σ).1.params.length ≤ 8 ∧ (procP ts n k σ).1.body.size ≤ 2000 := by
 rw [procP_at] at he ⊢; simp only at he ⊢; have l1 := expect_le (n := n) (t := [112, 114, 111, 99]) h (by decide); have l2 := l1.trans (name_le (n := n) l1.wf); have l3 := l2.trans (expect_le (n := n) (t := [40]) l2.wf (by decide))
 generalize expectP ts n (nameP ts n (expectP ts n σ [112, 114, 111, 99])).2 [40] = σ1 at *
 have lq := procQ_le (n := n) (k := k) l3.wf
 unfold bodyP at he ⊢
 simp only at he ⊢; have hl := limit_ok he; refine ⟨?_, hl.2.2⟩; have hb := ((stmt_inv (ts := ts) (n := n) k).2.2.2.1 _ lq.wf).ok hl.1
 unfold procQ at hb ⊢
 split at hb
 · rename_i hc; rw [if_pos hc]; exact Nat.zero_le _
 · rename_i hc
   rw [if_neg hc]; simp only at hb ⊢; have ld := decl_le (n := n) l3.wf; have lp := params_le (n := n) k [(declP ts n σ1).1] _ ld.wf
   exact params_small k _ _ ld.wf ((expect_le (n := n) (t := [41]) lp.wf (by decide)).ok hb) (by simp)
theorem procs_small (k : Nat) : ∀ (acc : List PD) (σ : PS), σ.at_ ≤ ts.length → (procsP ts n k acc σ).2.err = 0 → acc.length ≤ 64 → (∀ p ∈ acc, p.params.length ≤ 8 ∧ p.body.size ≤ 2000) →
 (procsP ts n k acc σ).1.length ≤ 64 ∧ ∀ p ∈ (procsP ts n k acc σ).1, p.params.length ≤ 8 ∧ p.body.size ≤ 2000 := by
 induction k with
 | zero => intro acc σ h he ha hp; rw [procsP]; exact ⟨ha, hp⟩
 | succ k ih =>
  intro acc σ h he ha hp; rw [procsP] at he ⊢
  split at he
  · rename_i hd
    rw [if_pos hd]; simp only at he ⊢
    by_cases h64 : acc.length = 64
    · rw [if_pos h64] at he
      have l0 := fail_le (ts := ts) h (peekP ts σ).pos 5; have l1 := procP_le (n := n) (k := k) l0.wf
      exact absurd ((l1.trans (procs_le k _ _ l1.wf)).ok he) (fail_err (by decide))
    · rw [if_neg h64] at he ⊢
      have l1 := procP_le (n := n) (k := k) h; refine ih _ _ l1.wf he (by simp only [List.length_append, List.length_cons, List.length_nil]; omega) (fun p hm => ?_)
      rcases List.mem_append.1 hm with hm | hm
      · exact hp p hm
      · have : p = (procP ts n k σ).1 := by simpa using hm
        rw [this]
        exact procP_small h ((procs_le k _ _ l1.wf).ok he)
  · rename_i hd
    rw [if_neg hd]; exact ⟨ha, hp⟩
theorem finish_ok {σ : PS} (h : (finishP ts n σ).err = 0) : σ.err = 0 ∧ ¬ σ.at_ < ts.length := by
 unfold finishP at h
 split at h
 · exact absurd h unexp_err
 · exact ⟨h, by assumption⟩
theorem program_small {k : Nat} {σ : PS} (h : σ.at_ ≤ ts.length) (he : (programP ts n k σ).2.err = 0) :
 (programP ts n k σ).1.vars.length ≤ 32 ∧ (programP ts n k σ).1.procs.length ≤ 64 ∧ (∀ p ∈ (programP ts n k σ).1.procs, p.params.length ≤ 8 ∧ p.body.size ≤ 2000) ∧ (programP ts n k σ).1.main.size ≤ 2000 := by
 unfold programP at he ⊢
 simp only at he ⊢; have l1 := vars_le (n := n) k [] σ h; have l2 := procs_le (n := n) k [] _ l1.wf; have l3 := expect_le (n := n) (t := [109, 97, 105, 110]) l2.wf (by decide)
 unfold bodyP at he ⊢
 simp only at he ⊢; have hl := limit_ok he; have h3 := ((stmt_inv (ts := ts) (n := n) k).2.2.2.1 _ l3.wf).ok hl.1; have h2 := l3.ok h3; have h1 := l2.ok h2; have hp := procs_small k _ _ l1.wf h2 (by simp) (by simp)
 exact ⟨vars_small k _ _ h h1 (by simp), hp.1, hp.2, hl.2.2⟩
end
theorem parseProgram_small (s : List UInt8) : (parseProgram s).1.vars.length ≤ 32 ∧ (parseProgram s).1.procs.length ≤ 64 ∧ (∀ p ∈ (parseProgram s).1.procs, p.params.length ≤ 8 ∧ p.body.size ≤ 2000) ∧ (parseProgram s).1.main.size ≤ 2000 := by
 unfold parseProgram
 simp only
 split
 · exact ⟨by simp, by simp, by simp, by show zeroNd.size ≤ 2000; decide⟩
 · rename_i h
   have h' := (finish_ok (by simpa using h)).1
   exact program_small (Nat.zero_le _) h'
end Bk
namespace Bk
open Go
def pre (acc : List Tok) (r : List Tok × Option Nat) : List Tok × Option Nat := match r.2 with
 | none => (acc ++ r.1, none)
 | some p => ([], some p)
theorem pre_pre (a b : List Tok) (r : List Tok × Option Nat) : pre a (pre b r) = pre (a ++ b) r := by
 rcases r with ⟨l, _ | p⟩ <;> simp [pre]
theorem lexGo_acc (s : List UInt8) : ∀ (k p : Nat) (acc : List Tok), lexGo k s p acc = pre acc (lexGo k s p [])
 | 0, p, acc => by simp [lexGo, pre]
 | k + 1, p, acc => by
  rw [lexGo, lexGo]
  split
  · split
    · simp [pre]
    · rw [lexGo_acc s k _ (acc ++ _), lexGo_acc s k _ ([] ++ _), pre_pre]
      simp
  · simp [pre]
theorem lexGo_fuel (s : List UInt8) : ∀ (k k' p : Nat) (acc : List Tok), s.length - p < k → s.length - p < k' → lexGo k s p acc = lexGo k' s p acc
 | 0, _, _, _, h, _ => by omega
 | _, 0, _, _, _, h => by omega
 | k + 1, k' + 1, p, acc, h, h' => by
  rw [lexGo, lexGo]
  split
  · split
    · rfl
    · exact lexGo_fuel s k k' _ _ (by omega) (by omega)
  · rfl
def lexFrom (s : List UInt8) (p : Nat) : List Tok × Option Nat := lexGo (s.length + 1) s p []
def tokAt (s : List UInt8) (p : Nat) : Tok := ⟨((firstTok (s.drop p)).1 : Nat), (s.drop p).take (firstTok (s.drop p)).2, (p : Int)⟩
theorem lexFrom_end {s : List UInt8} {p : Nat} (h : s.length ≤ p) : lexFrom s p = ([], none) := by
 unfold lexFrom; rw [lexGo, if_neg (by omega)]
theorem lexFrom_err {s : List UInt8} {p : Nat} (h : p < s.length) (h0 : (firstTok (s.drop p)).2 = 0) : lexFrom s p = ([], some p) := by
 unfold lexFrom; rw [lexGo, if_pos h, if_pos h0]
theorem lexFrom_step {s : List UInt8} {p : Nat} (h : p < s.length) (h0 : (firstTok (s.drop p)).2 ≠ 0) : lexFrom s p = pre [tokAt s p] (lexFrom s (p + (firstTok (s.drop p)).2)) := by
 unfold lexFrom
 rw [lexGo, if_pos h, if_neg h0, lexGo_acc]; rw [lexGo_fuel s s.length (s.length + 1) _ _ (by omega) (by omega)]
 rfl
def solidR (r : List Tok × Option Nat) : List Tok × Option Nat := match r.2 with
 | none => (solidT r.1, none)
 | some p => ([], some p)
def solidFrom (s : List UInt8) (p : Nat) : List Tok × Option Nat := solidR (lexFrom s p)
theorem solidR_pre (t : Tok) (r : List Tok × Option Nat) : solidR (pre [t] r) = if t.kind ≠ 4 ∧ t.kind ≠ 5 then pre [t] (solidR r) else solidR r := by
 rcases r with ⟨l, _ | p⟩
 · by_cases h : t.kind ≠ 4 ∧ t.kind ≠ 5
   · simp [pre, solidR, solidT, List.filter_cons, h]
   · rw [if_neg h]
     have : (decide (t.kind ≠ 4) && decide (t.kind ≠ 5)) = false := by
      simp only [Bool.and_eq_false_iff, decide_eq_false_iff_not]; omega
     simp only [pre, solidR, solidT, List.singleton_append, List.filter_cons, this]
     simp
 · simp [pre, solidR]
theorem solidFrom_end {s : List UInt8} {p : Nat} (h : s.length ≤ p) : solidFrom s p = ([], none) := by
 unfold solidFrom; rw [lexFrom_end h]; rfl
theorem solidFrom_err {s : List UInt8} {p : Nat} (h : p < s.length) (h0 : (firstTok (s.drop p)).2 = 0) : solidFrom s p = ([], some p) := by
 unfold solidFrom; rw [lexFrom_err h h0]; rfl
theorem solidFrom_tok {s : List UInt8} {p : Nat} (h : p < s.length) (h0 : (firstTok (s.drop p)).2 ≠ 0) (h4 : (firstTok (s.drop p)).1 ≠ 4) (h5 : (firstTok (s.drop p)).1 ≠ 5) :
 solidFrom s p = pre [tokAt s p] (solidFrom s (p + (firstTok (s.drop p)).2)) := by
 unfold solidFrom; rw [lexFrom_step h h0, solidR_pre, if_pos]
 constructor <;> simp only [tokAt] <;> omega
theorem solidFrom_skip {s : List UInt8} {p : Nat} (h : p < s.length) (h0 : (firstTok (s.drop p)).2 ≠ 0) (h4 : (firstTok (s.drop p)).1 = 4 ∨ (firstTok (s.drop p)).1 = 5) :
 solidFrom s p = solidFrom s (p + (firstTok (s.drop p)).2) := by
 unfold solidFrom; rw [lexFrom_step h h0, solidR_pre, if_neg]
 simp only [tokAt]; omega
theorem drop_at {s : List UInt8} {p : Nat} (h : p < s.length) : s.drop p = s[p] :: s.drop (p + 1) := List.drop_eq_getElem_cons h
theorem blank_parts {c : UInt8} (h : blank c = true) : letter c = false ∧ digit c = false ∧ c ≠ 35 := by
 simp only [blank, Bool.or_eq_true, decide_eq_true_eq] at h; refine ⟨?_, ?_, ?_⟩
 · simp only [letter, Bool.and_eq_false_iff, decide_eq_false_iff_not]; omega
 · simp only [digit, Bool.and_eq_false_iff, decide_eq_false_iff_not]; omega
 · rintro rfl; exact absurd h (by decide)
theorem firstTok_blank {c : UInt8} {r : List UInt8} (h : blank c = true) : firstTok (c :: r) = (4, 1 + span blank r) := by
 obtain ⟨h1, h2, -⟩ := blank_parts h
 simp [firstTok, h, h1, h2, span, List.takeWhile_cons]; omega
theorem firstTok_hash {r : List UInt8} : firstTok (35 :: r) = (5, 1 + span notLf r) := by
 have h1 : letter 35 = false := by decide
 have h2 : digit 35 = false := by decide
 have h3 : blank 35 = false := by decide
 have h4 : notLf 35 = true := by decide
 simp [firstTok, h1, h2, h3, h4, span, List.takeWhile_cons]; omega
theorem span_zero {p : UInt8 → Bool} {s : List UInt8} (h : ∀ c ∈ s.head?, p c = false) : span p s = 0 := by
 cases s with
 | nil => rfl
 | cons c r => simp [span, List.takeWhile_cons, h c (by simp)]
theorem solidFrom_blank {s : List UInt8} {p : Nat} (h : p < s.length) (hb : blank s[p] = true) : solidFrom s p = solidFrom s (p + 1) := by
 have e : firstTok (s.drop p) = (4, 1 + span blank (s.drop (p + 1))) := by rw [drop_at h]; exact firstTok_blank hb
 rw [solidFrom_skip h (by rw [e]; simp) (by rw [e]; simp), e]
 by_cases h1 : p + 1 < s.length
 · by_cases h2 : blank s[p + 1] = true
   · have e2 : firstTok (s.drop (p + 1)) = (4, 1 + span blank (s.drop (p + 1 + 1))) := by rw [drop_at h1]; exact firstTok_blank h2
     rw [solidFrom_skip h1 (by rw [e2]; simp) (by rw [e2]; simp), e2]
     have : span blank (s.drop (p + 1)) = 1 + span blank (s.drop (p + 1 + 1)) := by
      rw [drop_at h1]; simp only [span, List.takeWhile_cons, h2, if_true, List.length_cons]; omega
     rw [this]
     congr 1; omega
   · rw [span_zero (s := s.drop (p + 1))]
     rw [drop_at h1]; intro c hc; simp only [List.head?_cons, Option.mem_def, Option.some.injEq] at hc; rw [← hc]; simpa using h2
 · rw [span_zero (s := s.drop (p + 1))]
   rw [List.drop_eq_nil_of_le (by omega)]; simp
theorem solidFrom_hash {s : List UInt8} {p : Nat} (h : p < s.length) (hb : s[p] = 35) : solidFrom s p = solidFrom s (p + span notLf (s.drop p)) := by
 have e : firstTok (s.drop p) = (5, 1 + span notLf (s.drop (p + 1))) := by rw [drop_at h, hb]; exact firstTok_hash
 have e2 : span notLf (s.drop p) = 1 + span notLf (s.drop (p + 1)) := by
  rw [drop_at h, hb]
  have h4 : notLf 35 = true := by decide
  simp [span, List.takeWhile_cons, h4]; omega
 rw [solidFrom_skip h (by rw [e]; simp) (by rw [e]; simp), e, e2]
def signsL : List (List UInt8) := [[60, 61, 62], [58, 61], [43, 61], [45, 61], [94, 61], [61, 61], [33, 61], [60, 61], [62, 61], [38, 38], [124, 124], [43], [45], [42], [47], [37], [38], [124], [94], [33], [61], [60], [62], [40], [41], [123], [125], [91], [93], [59], [44]]
def pickLen (L : List (List UInt8)) (s : List UInt8) : Nat := ((L.find? (·.isPrefixOf s)).map List.length).getD 0
theorem prefix_take {x s : List UInt8} : x.isPrefixOf s = true ↔ x = s.take x.length := by
 rw [List.isPrefixOf_iff_prefix, List.prefix_iff_eq_take]
end Bk
namespace Bk
open Go
def Tok.sh (d : Nat) (t : Tok) : Tok := ⟨t.kind, t.text, t.pos + d⟩
def shR (d : Nat) (r : List Tok × Option Nat) : List Tok × Option Nat := (r.1.map (Tok.sh d), r.2.map (· + d))
theorem shR_pre (d : Nat) (t : Tok) (r : List Tok × Option Nat) : shR d (pre [t] r) = pre [t.sh d] (shR d r) := by
 obtain ⟨l, e⟩ := r
 cases e <;> simp [shR, pre]
theorem shR_add (a b : Nat) (r : List Tok × Option Nat) : shR a (shR b r) = shR (b + a) r := by
 obtain ⟨l, e⟩ := r
 cases e <;> simp [shR, Tok.sh, Int.add_assoc, Nat.add_assoc]
theorem drop_shift (a u : List UInt8) (p : Nat) : (a ++ u).drop (a.length + p) = u.drop p := by
 rw [List.drop_append]; simp
theorem solidFrom_shift (a u : List UInt8) : ∀ (m p : Nat), u.length - p ≤ m → solidFrom (a ++ u) (a.length + p) = shR a.length (solidFrom u p) := by
 intro m
 induction m with
 | zero =>
  intro p h
  rw [solidFrom_end (by simp; omega), solidFrom_end (by omega)]; rfl
 | succ m ih =>
  intro p h
  by_cases hp : p < u.length
  · have hl : a.length + p < (a ++ u).length := by simp; omega
    have hd := drop_shift a u p
    by_cases h0 : (firstTok (u.drop p)).2 = 0
    · rw [solidFrom_err hl (by rw [hd]; exact h0), solidFrom_err hp h0]
      simp [shR, Nat.add_comm]
    · have hi := ih (p + (firstTok (u.drop p)).2) (by omega)
      by_cases h4 : (firstTok (u.drop p)).1 = 4 ∨ (firstTok (u.drop p)).1 = 5
      · rw [solidFrom_skip hl (by rw [hd]; exact h0) (by rw [hd]; exact h4), solidFrom_skip hp h0 h4, hd, Nat.add_assoc]
        exact hi
      · have h4' : (firstTok (u.drop p)).1 ≠ 4 ∧ (firstTok (u.drop p)).1 ≠ 5 := ⟨fun e => h4 (Or.inl e), fun e => h4 (Or.inr e)⟩
        rw [solidFrom_tok hl (by rw [hd]; exact h0) (by rw [hd]; exact h4'.1) (by rw [hd]; exact h4'.2), solidFrom_tok hp h0 h4'.1 h4'.2, hd, Nat.add_assoc, hi, shR_pre]
        congr 2
        unfold tokAt Tok.sh
        rw [hd]
        simp [Int.add_comm]
  · rw [solidFrom_end (by simp; omega), solidFrom_end (by omega)]; rfl
theorem solidFrom_cons (c : UInt8) (u : List UInt8) (p : Nat) : solidFrom (c :: u) (1 + p) = shR 1 (solidFrom u p) := solidFrom_shift [c] u _ p (Nat.le_refl _)
def sepC (c : UInt8) : Prop := blank c = true ∨ c = 35
theorem sep_not {c : UInt8} (h : sepC c) : wordish c = false ∧ digit c = false ∧ singles.contains c = false ∧ c ≠ 58 ∧ c ≠ 61 ∧ c ≠ 62 ∧ c ≠ 38 ∧ c ≠ 124 := by
 rcases h with h | rfl
 · have : c.toNat = 32 ∨ c.toNat = 9 ∨ c.toNat = 13 ∨ c.toNat = 10 := by
    simp only [blank, Bool.or_eq_true, decide_eq_true_eq] at h; omega
   have : c = 32 ∨ c = 9 ∨ c = 13 ∨ c = 10 := by
    rcases this with h | h | h | h
    · exact Or.inl (UInt8.toNat_inj.1 h)
    · exact Or.inr (Or.inl (UInt8.toNat_inj.1 h))
    · exact Or.inr (Or.inr (Or.inl (UInt8.toNat_inj.1 h)))
    · exact Or.inr (Or.inr (Or.inr (UInt8.toNat_inj.1 h)))
   rcases this with rfl | rfl | rfl | rfl <;> decide
 · decide
theorem span_sep {p : UInt8 → Bool} {c : UInt8} (h : p c = false) (r u : List UInt8) : span p (r ++ c :: u) = span p r := by
 unfold span
 induction r with
 | nil => simp [h]
 | cons x r ih =>
  simp only [List.cons_append, List.takeWhile_cons]
  split
  · simp [ih]
  · rfl
theorem pairs_second {c d : UInt8} (h : pairs.contains [c, d] = true) : d = 61 ∨ d = 38 ∨ d = 124 := by
 simp only [pairs, List.contains_cons, List.contains_nil, Bool.or_false, Bool.or_eq_true, beq_iff_eq, List.cons.injEq, and_true] at h
 rcases h with ⟨_, rfl⟩ | ⟨_, rfl⟩ | ⟨_, rfl⟩ | ⟨_, rfl⟩ | ⟨_, rfl⟩ | ⟨_, rfl⟩ | ⟨_, rfl⟩ | ⟨_, rfl⟩ | ⟨_, rfl⟩ | ⟨_, rfl⟩ <;> simp
theorem signLen_sep {c : UInt8} (h : sepC c) (r u : List UInt8) (hr : r ≠ []) : signLen (r ++ c :: u) = signLen r := by
 obtain ⟨-, -, -, h58, h61, h62, h38, h124⟩ := sep_not h
 cases r with
 | nil => exact absurd rfl hr
 | cons x r =>
  cases r with
  | nil =>
   have hp : pairs.contains [x, c] = false := by
    cases hh : pairs.contains [x, c]
    · rfl
    · rcases pairs_second hh with e | e | e
      · exact absurd e h61
      · exact absurd e h38
      · exact absurd e h124
   have hp1 : pairs.contains [x] = false := by
    cases hh : pairs.contains [x]
    · rfl
    · simp [pairs] at hh
   have h3 : List.isPrefixOf [60, 61, 62] ([x] ++ c :: u) = false := by
    simp only [List.cons_append, List.nil_append, List.isPrefixOf]
    have : (61 == c) = false := by simpa using fun e : 61 = c => h61 e.symm
    simp [this]
   have h31 : List.isPrefixOf [60, 61, 62] [x] = false := by simp [List.isPrefixOf]
   unfold signLen
   rw [h3, h31]; simp only [List.cons_append, List.nil_append, List.take_succ_cons, List.take_zero, List.take_nil, hp, hp1]
   rfl
  | cons y r =>
   have h3 : List.isPrefixOf [60, 61, 62] ((x :: y :: r) ++ c :: u) = List.isPrefixOf [60, 61, 62] (x :: y :: r) := by
    cases r with
    | nil =>
     simp only [List.cons_append, List.nil_append, List.isPrefixOf]
     have : (62 == c) = false := by simpa using fun e : 62 = c => h62 e.symm
     simp [this]
    | cons z r => simp [List.isPrefixOf]
   unfold signLen
   rw [h3]
   rfl
theorem firstTok_sep {c : UInt8} (h : sepC c) (x : UInt8) (r u : List UInt8) (hb : blank x = false) (hx : x ≠ 35) : firstTok ((x :: r) ++ c :: u) = firstTok (x :: r) := by
 obtain ⟨hw, hd, -⟩ := sep_not h; have e1 := span_sep hw (x :: r) u; have e2 := span_sep hd (x :: r) u; have e3 := signLen_sep h (x :: r) u (by simp); simp only [List.cons_append] at e1 e2 e3 ⊢; simp only [firstTok, e1, e2, e3, hb, hx, if_false]
 simp
theorem pre_nil' {s : List UInt8} {p : Nat} : pre [] (solidFrom s p) = solidFrom s p := by
 unfold solidFrom
 generalize lexFrom s p = r
 obtain ⟨l, e⟩ := r
 cases e <;> simp [pre, solidR]
theorem solidFrom_then {c : UInt8} (h : sepC c) (hc : c = 10) (s u : List UInt8) : ∀ (m p : Nat), s.length - p ≤ m → p ≤ s.length → (solidFrom s p).2 = none → solidFrom (s ++ c :: u) p = pre (solidFrom s p).1 (solidFrom (s ++ c :: u) s.length) := by
 intro m
 induction m with
 | zero =>
  intro p hm hp he
  obtain rfl : p = s.length := by omega
  rw [solidFrom_end (Nat.le_refl _)]
  exact pre_nil'.symm
 | succ m ih =>
  intro p hm hp he
  by_cases hlt : p < s.length
  · have hl : p < (s ++ c :: u).length := by simp; omega
    have hg : (s ++ c :: u)[p] = s[p] := by rw [List.getElem_append_left hlt]
    have hd : (s ++ c :: u).drop p = s.drop p ++ c :: u := by rw [List.drop_append_of_le_length (by omega)]
    by_cases hb : blank s[p] = true
    · rw [solidFrom_blank hl (by rw [hg]; exact hb)]
      rw [solidFrom_blank hlt hb] at he ⊢
      exact ih (p + 1) (by omega) hlt he
    · by_cases h35 : s[p] = 35
      · rw [solidFrom_hash hl (by rw [hg]; exact h35), hd, span_sep (by subst hc; decide)]
        rw [solidFrom_hash hlt h35] at he ⊢
        have hs1 : 1 ≤ span notLf (s.drop p) := by
         rw [drop_at hlt]
         have : notLf s[p] = true := by rw [h35]; decide
         unfold span
         rw [List.takeWhile_cons, if_pos this]
         simp
        have hs2 : span notLf (s.drop p) ≤ s.length - p := by
         have := takeWhile_len notLf (s.drop p)
         unfold span
         simpa using this
        exact ih _ (by omega) (by omega) he
      · have hft : firstTok ((s ++ c :: u).drop p) = firstTok (s.drop p) := by
         rw [hd, drop_at hlt]
         exact firstTok_sep h _ _ _ (by simpa using hb) h35
        have hle := firstTok_le (s.drop p); simp only [List.length_drop] at hle
        by_cases h0 : (firstTok (s.drop p)).2 = 0
        · rw [solidFrom_err hlt h0] at he; cases he
        · have hk : (firstTok (s.drop p)).1 ≠ 4 ∧ (firstTok (s.drop p)).1 ≠ 5 := by
           have hb' : blank s[p] = false := by simpa using hb
           rw [drop_at hlt]; simp only [firstTok, hb', h35, if_false, Bool.false_eq_true]
           split
           · exact by constructor <;> simp
           · split
             · exact by constructor <;> simp
             · exact by constructor <;> simp
          rw [solidFrom_tok hl (by rw [hft]; exact h0) (by rw [hft]; exact hk.1) (by rw [hft]; exact hk.2), hft]; rw [solidFrom_tok hlt h0 hk.1 hk.2] at he ⊢
          have he' : (solidFrom s (p + (firstTok (s.drop p)).2)).2 = none := by
           generalize solidFrom s (p + (firstTok (s.drop p)).2) = q at *
           obtain ⟨l, e⟩ := q
           cases e
           · rfl
           · simp [pre] at he
          rw [ih _ (by omega) (by omega) he']
          have ht : tokAt (s ++ c :: u) p = tokAt s p := by
           unfold tokAt
           rw [hft, hd, List.take_append_of_le_length (by simp; omega)]
          rw [ht, pre_pre]
          congr 1
          generalize solidFrom s (p + (firstTok (s.drop p)).2) = q at *
          obtain ⟨l, e⟩ := q; simp only at he'; subst he'
          simp [pre]
  · obtain rfl : p = s.length := by omega
    rw [solidFrom_end (Nat.le_refl _)]
    exact pre_nil'.symm
end Bk
namespace Bk
open Go
theorem startOk {s : List UInt8} (h : ¬ 65536 < s.length) (h1 : (solidFrom s 0).2 = none) : startP s = ((solidFrom s 0).1, ⟨0, 0, 0⟩) := by
 unfold solidFrom lexFrom at *
 unfold startP lexT
 rw [if_neg h]
 generalize lexGo (s.length + 1) s 0 [] = r at *
 obtain ⟨l, e⟩ := r
 cases e with
 | none => rfl
 | some q => simp [solidR] at h1
theorem startBad {s : List UInt8} {q : Nat} (h : ¬ 65536 < s.length) (h1 : (solidFrom s 0).2 = some q) : startP s = ([], ⟨0, q, 3⟩) := by
 unfold solidFrom lexFrom at *
 unfold startP lexT
 rw [if_neg h]
 generalize lexGo (s.length + 1) s 0 [] = r at *
 obtain ⟨l, e⟩ := r
 cases e with
 | none => simp [solidR] at h1
 | some q => simp only [solidR, Option.some.injEq] at h1; subst h1; rfl
theorem startErr {s : List UInt8} (h : ¬ 65536 < s.length) : (lexT s).2.2 = 0 ↔ (solidFrom s 0).2 = none := by
 have e : (startP s).2.err = (lexT s).2.2 := rfl; rw [← e]
 cases h1 : (solidFrom s 0).2 with
 | none => rw [startOk h h1]; simp
 | some q => rw [startBad h h1]; simp
theorem span_take {p : UInt8 → Bool} : ∀ (u : List UInt8) (e : Nat), span p u ≤ e → span p (u.take e) = span p u
 | [], e, _ => by simp
 | c :: r, 0, h => by simp only [List.take_zero]; have : span p [] = 0 := rfl; omega
 | c :: r, e + 1, h => by
  have ih := span_take (p := p) r e
  unfold span at *
  simp only [List.take_succ_cons, List.takeWhile_cons] at *
  split
  · rename_i hc
    rw [if_pos hc] at h; simp only [List.length_cons] at h ⊢; rw [ih (by omega)]
  · rfl
theorem take_two {u : List UInt8} {e : Nat} (h : 2 ≤ e) : (u.take e).take 2 = u.take 2 := by rw [List.take_take, Nat.min_eq_left h]
theorem pairs_one (c : UInt8) : pairs.contains [c] = false := by
 cases hh : pairs.contains [c]
 · rfl
 · simp [pairs] at hh
theorem signLen_take {u : List UInt8} {e : Nat} (h0 : signLen u ≠ 0) (h : signLen u ≤ e) : signLen (u.take e) = signLen u := by
 unfold signLen at *
 by_cases h3 : List.isPrefixOf [60, 61, 62] u = true
 · rw [if_pos h3] at h ⊢
   rw [if_pos]; rw [prefix_take] at h3 ⊢; rw [List.take_take]; have : min ([60, 61, 62] : List UInt8).length e = ([60, 61, 62] : List UInt8).length := Nat.min_eq_left h
   rw [this]; exact h3
 · have h3' : ¬ List.isPrefixOf [60, 61, 62] (u.take e) = true := by
    intro hp; rw [List.isPrefixOf_iff_prefix] at hp
    exact h3 (List.isPrefixOf_iff_prefix.2 (hp.trans (List.take_prefix _ _)))
   rw [if_neg h3] at h h0 ⊢; rw [if_neg h3']
   by_cases h2 : pairs.contains (u.take 2) = true
   · rw [if_pos h2] at h ⊢
     rw [take_two h, if_pos h2]
   · rw [if_neg h2] at h h0 ⊢
     split at h
     · rename_i hs
       have hh : (u.take e).head? = u.head? := by
        cases u with
        | nil => simp
        | cons c r => obtain ⟨e, rfl⟩ : ∃ j, e = j + 1 := ⟨e - 1, by omega⟩; simp
       rw [hh, if_pos hs]
       have : ¬ pairs.contains ((u.take e).take 2) = true := by
        by_cases h1 : 2 ≤ e
        · rw [take_two h1]; exact h2
        · obtain rfl : e = 1 := by omega
          cases u with
          | nil => simp [pairs]
          | cons c r => simpa using pairs_one c
       rw [if_neg this]
     · rename_i hs
       rw [if_neg hs] at h0; exact absurd rfl h0
theorem firstTok_take {u : List UInt8} {e : Nat} (h0 : (firstTok u).2 ≠ 0) (h : (firstTok u).2 ≤ e) : firstTok (u.take e) = firstTok u := by
 cases u with
 | nil => simp
 | cons c r =>
  obtain ⟨e, rfl⟩ : ∃ j, e = j + 1 := ⟨e - 1, by omega⟩
  have e1 : ∀ p : UInt8 → Bool, span p (c :: r) ≤ e + 1 → span p (c :: r.take e) = span p (c :: r) := fun p hp => span_take (c :: r) (e + 1) hp
  have e2 : signLen (c :: r) ≠ 0 → signLen (c :: r) ≤ e + 1 → signLen (c :: r.take e) = signLen (c :: r) := fun a b => signLen_take (u := c :: r) (e := e + 1) a b
  simp only [List.take_succ_cons]; simp only [firstTok] at h h0 ⊢
  split
  · rename_i hc; rw [if_pos hc] at h; rw [e1 _ h]
  · rename_i hc
    rw [if_neg hc] at h h0
    split
    · rename_i hc; rw [if_pos hc] at h; rw [e1 _ h]
    · rename_i hc
      rw [if_neg hc] at h h0
      split
      · rename_i hc; rw [if_pos hc] at h; rw [e1 _ h]
      · rename_i hc
        rw [if_neg hc] at h h0
        split
        · rename_i hc; rw [if_pos hc] at h; rw [e1 _ h]
        · rename_i hc
          rw [if_neg hc] at h h0; rw [e2 h0 h]
theorem drop_take' (s : List UInt8) (p q : Nat) : (s.take q).drop p = (s.drop p).take (q - p) := by rw [List.drop_take]
theorem tokAt_take {s : List UInt8} {p q : Nat} (h0 : (firstTok (s.drop p)).2 ≠ 0) (h : p + (firstTok (s.drop p)).2 ≤ q) : tokAt (s.take q) p = tokAt s p := by
 unfold tokAt
 rw [drop_take', firstTok_take h0 (by omega), List.take_take, Nat.min_eq_left (by omega)]
theorem solidFrom_step {s : List UInt8} {p : Nat} {l : List Tok} (hp : p < s.length) (h : solidFrom s p = (l, none)) :
 (firstTok (s.drop p)).2 ≠ 0 ∧ (((firstTok (s.drop p)).1 = 4 ∨ (firstTok (s.drop p)).1 = 5) ∧ solidFrom s (p + (firstTok (s.drop p)).2) = (l, none) ∨
  ((firstTok (s.drop p)).1 ≠ 4 ∧ (firstTok (s.drop p)).1 ≠ 5) ∧ ∃ l', l = tokAt s p :: l' ∧ solidFrom s (p + (firstTok (s.drop p)).2) = (l', none)) := by
 by_cases h0 : (firstTok (s.drop p)).2 = 0
 · rw [solidFrom_err hp h0] at h; cases h
 · refine ⟨h0, ?_⟩
   by_cases h4 : (firstTok (s.drop p)).1 = 4 ∨ (firstTok (s.drop p)).1 = 5
   · left
     rw [solidFrom_skip hp h0 h4] at h
     exact ⟨h4, h⟩
   · right
     have h4' : (firstTok (s.drop p)).1 ≠ 4 ∧ (firstTok (s.drop p)).1 ≠ 5 := ⟨fun e => h4 (Or.inl e), fun e => h4 (Or.inr e)⟩; rw [solidFrom_tok hp h0 h4'.1 h4'.2] at h; refine ⟨h4', ?_⟩
     generalize solidFrom s (p + (firstTok (s.drop p)).2) = r at *
     obtain ⟨l', e⟩ := r
     cases e with
     | none => simp only [pre, List.singleton_append, Prod.mk.injEq, and_true] at h; exact ⟨l', h.symm, rfl⟩
     | some q => simp [pre] at h
structure CutAt (s : List UInt8) (p : Nat) (l : List Tok) (i : Nat) (q : Nat) : Prop where
 pos : (l.getD i Tok.zero).pos = (q : Int)
 le : p ≤ q
 ne : (l.getD i Tok.zero).text ≠ []
 text : (l.getD i Tok.zero).text = (s.drop q).take (l.getD i Tok.zero).text.length
 first : firstTok (s.drop q) = ((l.getD i Tok.zero).kind.toNat, (l.getD i Tok.zero).text.length)
 kind : (l.getD i Tok.zero).kind = (((firstTok (s.drop q)).1 : Nat) : Int)
 solid : (firstTok (s.drop q)).1 ≠ 4 ∧ (firstTok (s.drop q)).1 ≠ 5
 len : q + (l.getD i Tok.zero).text.length ≤ s.length
 before : solidFrom (s.take q) p = (l.take i, none)
 behind : solidFrom (s.take (q + (l.getD i Tok.zero).text.length)) p = (l.take (i + 1), none)
theorem solid_cut (s : List UInt8) : ∀ (m p : Nat) (l : List Tok), s.length - p ≤ m → p ≤ s.length → solidFrom s p = (l, none) → ∀ i, i < l.length → ∃ q, CutAt s p l i q := by
 intro m
 induction m with
 | zero =>
  intro p l hm hp h i hi; rw [solidFrom_end (by omega)] at h
  cases h; simp at hi
 | succ m ih =>
  intro p l hm hp h i hi
  by_cases hlt : p < s.length
  · obtain ⟨h0, hs⟩ := solidFrom_step hlt h
    have hle := firstTok_le (s.drop p); simp only [List.length_drop] at hle
    have cut : ∀ q, p + (firstTok (s.drop p)).2 ≤ q → q ≤ s.length → p < (s.take q).length ∧ firstTok ((s.take q).drop p) = firstTok (s.drop p) := fun q h1 h2 =>
     ⟨by simp only [List.length_take]; omega, by rw [drop_take', firstTok_take h0 (by omega)]⟩
    rcases hs with ⟨h4, h'⟩ | ⟨h4, l', rfl, h'⟩
    · obtain ⟨q, C⟩ := ih _ l (by omega) (by omega) h' i hi
      have hq := C.le; have hl := C.len; refine ⟨q, C.pos, by omega, C.ne, C.text, C.first, C.kind, C.solid, C.len, ?_, ?_⟩
      · obtain ⟨c1, c2⟩ := cut q hq (by omega)
        rw [solidFrom_skip c1 (by rw [c2]; exact h0) (by rw [c2]; exact h4), c2]
        exact C.before
      · obtain ⟨c1, c2⟩ := cut (q + (l.getD i Tok.zero).text.length) (by omega) hl
        rw [solidFrom_skip c1 (by rw [c2]; exact h0) (by rw [c2]; exact h4), c2]
        exact C.behind
    · cases i with
      | zero =>
       have ht : (tokAt s p).text.length = (firstTok (s.drop p)).2 := by
        simp only [tokAt, List.length_take, List.length_drop]; omega
       refine ⟨p, rfl, Nat.le_refl _, ?_, ?_, ?_, rfl, h4, ?_, ?_, ?_⟩
       · intro e
         have e' : (tokAt s p).text.length = 0 := by
          have : (tokAt s p).text = [] := e
          rw [this]; rfl
         omega
       · show (tokAt s p).text = (s.drop p).take (tokAt s p).text.length
         rw [ht]; rfl
       · show firstTok (s.drop p) = ((tokAt s p).kind.toNat, (tokAt s p).text.length)
         rw [ht]; rfl
       · show p + (tokAt s p).text.length ≤ s.length
         omega
       · rw [solidFrom_end (by simp only [List.length_take]; omega)]; rfl
       · show solidFrom (s.take (p + (tokAt s p).text.length)) p = _
         rw [ht]; obtain ⟨c1, c2⟩ := cut (p + (firstTok (s.drop p)).2) (Nat.le_refl _) (by omega); rw [solidFrom_tok c1 (by rw [c2]; exact h0) (by rw [c2]; exact h4.1) (by rw [c2]; exact h4.2), c2, tokAt_take h0 (Nat.le_refl _), solidFrom_end (by simp only [List.length_take]; omega)]
         rfl
      | succ i =>
       obtain ⟨q, C⟩ := ih _ l' (by omega) (by omega) h' i (by simpa using hi); have hq := C.le; have hl := C.len; refine ⟨q, C.pos, by omega, C.ne, C.text, C.first, C.kind, C.solid, C.len, ?_, ?_⟩
       · obtain ⟨c1, c2⟩ := cut q hq (by omega)
         rw [solidFrom_tok c1 (by rw [c2]; exact h0) (by rw [c2]; exact h4.1) (by rw [c2]; exact h4.2), c2, tokAt_take h0 hq, C.before]
         rfl
       · obtain ⟨c1, c2⟩ := cut (q + (l'.getD i Tok.zero).text.length) (by omega) hl
         show solidFrom (s.take (q + (l'.getD i Tok.zero).text.length)) p = _
         rw [solidFrom_tok c1 (by rw [c2]; exact h0) (by rw [c2]; exact h4.1) (by rw [c2]; exact h4.2), c2, tokAt_take h0 (by omega), C.behind]
         rfl
  · obtain rfl : p = s.length := by omega
    rw [solidFrom_end (Nat.le_refl _)] at h
    cases h; simp at hi
theorem cut_inj {s : List UInt8} {l : List Tok} {i j : Nat} (h : solidFrom s 0 = (l, none)) (hi : i < l.length) (hj : j < l.length) (e : (l.getD i Tok.zero).pos = (l.getD j Tok.zero).pos) : i = j := by
 obtain ⟨q, C⟩ := solid_cut s s.length 0 l (by omega) (by omega) h i hi; obtain ⟨r, D⟩ := solid_cut s s.length 0 l (by omega) (by omega) h j hj
 have hqr : q = r := by have := C.pos; have := D.pos; omega
 subst hqr; have hb := C.before; rw [D.before] at hb
 have hl : (l.take j).length = (l.take i).length := by
  have := congrArg (fun x => x.1.length) hb
  simpa using this
 simp only [List.length_take] at hl
 omega
end Bk
