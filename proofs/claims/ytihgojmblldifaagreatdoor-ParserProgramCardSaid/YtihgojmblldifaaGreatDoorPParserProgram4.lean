/- The statement ParserProgram holds: texts that its proof needs. No condition beyond the row's own. (Part 4 of 7.) -/
import Derived.Test.YtihgojmblldifaaGreatDoorPParserProgram3
set_option linter.unusedSimpArgs false
set_option linter.unusedVariables false
namespace Bk
open Go Go.RowKit Go.Proofs
attribute [local irreducible] Go.Calls
section
variable {P : Program} {n : Nat} {ops : Array Oper} {Q : Exit → Act → World → Prop} {rest : List Oper} {l : Sl} {w : World} {tab : Tab} {ty : TypeId} {pos : String} {after : Array Edge}
theorem lw_mapput {x y z : Operand} {t kt e sz1 sz2 r : Nat} {k : List UInt8} {v : Value} {kvs : List (List UInt8 × Value)} (T : TabOk P tab) (ht : lookT tab t = some (.map kt e, sz1)) (hkt : lookT tab kt = some (.str, sz2)) (hx : ev l x = some (.map (some r))) (hy : ev l y = some (str k)) (hz : ev l z = some v) (hm : MapIs w r kvs)
 (kk : ∀ w1, MapIs w1 r (setS kvs k v) → Fr (· = r) w w1 → LW P n ops Q rest l w1) : LW P n ops Q (⟨none, .mapUpdate t x y z, ty, pos, after, none⟩ :: rest) l w := by
 refine lw_does0 (K := MapPut w r (setS kvs k v)) ?_ (fun v w1 h => by cases v with | none => exact kk w1 h.1 h.2.1 | some _ => exact h.elim)
 unfold Does
 intro a dst pos after g next Q ha _ hn; obtain ⟨w1, h1, h2, h3, h4⟩ := run_mapUpdate (P := P) (k := k) (v := v) T ht hkt hm
 have e1 : (execOp a.eval ⟨dst, .mapUpdate t x y z, ty, pos, after, g⟩).run P w = .ok .skip w1 := by
  simp only [execOp, ha.ev hx, ha.ev hy, ha.ev hz, Sem.run_bind, h1, Result.andThen, Sem.run_pure]
 unfold Oper.wp
 rw [e1]
 exact hn w1 ⟨h2, h3, h4⟩
theorem lw_makeMap {t d : Nat} (hd : Nat.blt d n = true) (k : ∀ r w1, r = w.heap.size → MapIs w1 r [] → Ext w w1 → w1.heap.size = r + 1 → LW P n ops Q rest ((d, .map (some r)) :: l) w1) : LW P n ops Q (⟨some d, .makeMap t none, ty, pos, after, none⟩ :: rest) l w :=
 lw_does does_makeMap hd (fun v w1 ⟨r, h1, h2, h3, h4, h5⟩ => by subst h1; exact k r w1 h2 h3 h4 h5) (fun _ h => h)
end
def u8Shape : Shape Int where
 sz := 1
 rep := fun _ _ v cs => cs = [.int .u8 v]
 len := fun h => by rw [h]; rfl
 one := fun h => by rw [h]; rfl
 mono := fun h _ _ => h
 lt := fun h => h
def ops8 (j : Nat) : List Int := (List.range j).map fun (i : Nat) => (8 : Int) + (i : Int)
theorem ops8_snoc (j : Nat) : ops8 (j + 1) = ops8 j ++ [8 + (j : Int)] := by simp [ops8, List.range_succ]
theorem ops8_len (j : Nat) : (ops8 j).length = j := by simp [ops8]
def OpsR (w : World) : Ending → World → Prop := fun e w' => ∃ b k, e = .returned (.slice (some ⟨b, 0, none⟩) 16 k) ∧ w.heap.size ≤ b ∧ b < w'.heap.size ∧ Row w' ⟨b, 0, none⟩ ((ops8 16).map (.int .u8 ·)) ∧ Ext w w'
theorem OpsR.ret {w : World} {e : Ending} {w' : World} (h : OpsR w e w') : ∃ v, e = .returned v := by
 obtain ⟨_, _, h, -⟩ := h
 exact ⟨_, h⟩
set_option maxRecDepth 100000 in
set_option maxHeartbeats 2000000 in
theorem Operators_c (w : World) : Calls Tryz.prog 65 #[] w (OpsR w) := by
 have X := Ext.refl w; refine calls_in (args := []) Tryz.func65 Tryz.ntmps65 rfl rfl ?_
 focus
  refine cS (cA rfl rfl (cN (cA rfl rfl (cT (cw_seq (cS (cA rfl rfl (cT (cw_block ?_))))))))); rotate_left 1
 refine cw_loop (ι := Nat × Option Addr × Nat) (fun x => [(1, .slice x.2.1 (ops8 x.1).length x.2.2), (2, .int .u8 (8 + (x.1 : Int)))])
  (fun x w' => OwnL u8Shape w' w.heap.size 5 (.slice x.2.1 (ops8 x.1).length x.2.2) (ops8 x.1) ∧ Ext w w' ∧ x.1 ≤ 16) (fun x => 16 - x.1) (0, none, 0) (by (refine sub_cons rfl ?_; refine sub_cons rfl ?_; exact sub_nil)) ⟨OwnL.nil, X, Nat.zero_le _⟩ ?_
 rintro ⟨j, a, cap⟩ w1 ⟨hown, X, hj⟩; simp only at hown hj; have hsz := X.size; have hl := ops8_len j; refine CW.sub (m := [(1, .slice a (ops8 j).length cap), (2, .int .u8 (8 + (j : Int)))]) ?_ (by (refine sub_cons rfl ?_; refine sub_cons rfl ?_; exact sub_nil))
 by_cases hlt : j < 16
 · have hsn := ops8_snoc j
   focus
    refine cw_seq (cS (cM rfl rfl (lw_pure (pur_leq rfl rfl) rfl (cT ?_)))); refine cw_yes rfl (by omega) ?_; refine cw_skip (qw_then (cw_seq (cw_block (cw_region (cM rfl rfl (cM rfl rfl ?_)))))); (refine lw_does (does_slice' [_] tabOk zOk rfl rfl rfl rfl rfl rfl rfl rfl rfl) rfl ?_ (fun _ h => h); rintro _ wa2 ⟨ba1, rfl, na3, ta4⟩); clear ta4; have ha5 := na3.blk; have xa6 := na3.ext; have pa7 := na3.pos; have za8 := na3.size; clear na3; replace hown := hown.ext xa6; replace X := X.ext xa6; clear xa6; refine lw_appendL (sh := u8Shape) (z := 8 + (j : Int)) tabOk zOk rfl rfl rfl rfl (by kernel_rfl) rfl rfl rfl hown (Blk.row (by assumption)) rfl (by omega) (by omega) rfl ?_; rintro ga9 cap'a10 wa11 ha12 fa13; have za14 := fa13.size; clear ha5 hown; replace X := X.fr fa13 (by omega); clear fa13; refine cA rfl rfl (lw_nil (qw_block_norm (qw_then (cw_region (cM rfl rfl ?_))))); refine lw_pure (pur_add rfl rfl (u8_wrap _ (by omega) (by omega))) rfl ?_; refine cA rfl rfl (lw_nil ?_); rotate_left 1
   refine qw_round (j + 1, some ⟨_, 0, none⟩, _) ?_ ⟨by rw [hsn]; assumption, X, by simp only; omega⟩ (by simp only; omega); refine sub_cons' rfl (by rw [hsn]) (sub_cons' rfl ?_ sub_nil)
   simp only [Value.int.injEq, true_and]; omega
 · have : j = 16 := by omega
   subst this
   focus
    refine cw_seq (cS (cM rfl rfl (lw_pure (pur_leq rfl rfl) rfl (cT ?_)))); refine cw_no rfl (by decide) ?_; refine cw_exit (qw_then_exit (qw_then_exit (qw_block_exit (qw_then (cS (cM rfl rfl (cA rfl rfl (cT (cw_ret (qw_ret1 rfl rfl ?_)))))))))); rotate_left 1
   obtain ⟨g, cap', hv, hg, hall⟩ := hown.rows (by decide); simp only [Value.slice.injEq] at hv; obtain ⟨rfl, -, -⟩ := hv
   have hrow : Row w1 ⟨g, 0, none⟩ ((ops8 16).map (.int .u8 ·)) := fun i v hi => by
    rw [List.getElem?_map, Option.map_eq_some_iff] at hi; obtain ⟨x, hx, rfl⟩ := hi; obtain ⟨cs, hr, rfl⟩ := hall i x hx; have := hr.at0 rfl
    have e : (⟨g, 0, none⟩ : Addr).add i = ⟨g, i * u8Shape.sz, none⟩ := by
     have : u8Shape.sz = 1 := rfl
     unfold Addr.add; by_cases h0 : i = 0 <;> simp [h0, this]
    rw [e]; exact this
   exact ⟨g, cap, by rw [ops8_len], hg, hown.lt rfl, hrow, X⟩
set_option maxRecDepth 100000 in
set_option maxHeartbeats 1000000 in
theorem finish_c (c : PC) (σ : PS) (w : World) (hP : PP c σ w) :
 Calls Tryz.prog 26 #[.pointer (some ⟨c.pb, 0, none⟩)] w fun r w' => r = .returned (.tuple #[]) ∧ PP c (finishP c.ts c.n σ) w' ∧ Fr (· = c.pb) w w' := by
 have X := Fr.refl (· = c.pb) w; have hpb := hP.pbB; have hB := hP.B
 by_cases h : σ.at_ < c.ts.length
 · rw [show finishP c.ts c.n σ = unexpP c.ts c.n σ from by simp [finishP, h]]
   refine calls_in Tryz.func26 Tryz.ntmps26 rfl rfl ?_
   focus
    refine cw_seq ?_; (refine cw_tdraw (fun wz => Ext w wz) 9 (.pure 0 (.pure 1 (.pure 2 (.pure 3 (.pure 4 (.pure 5 (.pure 6 (.pure 7 (.pure 8 .tail))))))))) mixed (by kernel_rfl) (panicOk_then panicOk_body) ?_; intro w1 x2 _); have qs3 : (fun wz => Ext w wz) w1 := x2; simp only at qs3; have d_hP := hP; have z4 := x2.size; replace hP := hP.ext x2; replace X := X.ext x2; clear x2; refine ⟨qs3, ?_⟩; refine tw_pure rfl (pur_move rfl) rfl (tw_pure rfl (pur_nilCheck rfl) rfl (tw_pure rfl (pur_fieldAddr tabOk rfl rfl rfl) rfl (tw_pure rfl (pur_load tabOk rfl rfl rfl (fun wz hz => Blk.cell (Blk.ext (PP.blk d_hP) hz) rfl)) rfl (tw_pure rfl (pur_move rfl) rfl (tw_pure rfl (pur_nilCheck rfl) rfl (tw_pure rfl (pur_fieldAddr0 tabOk rfl rfl rfl) rfl (tw_pure rfl (pur_load tabOk rfl rfl rfl (fun wz hz => Blk.cell (Blk.ext (PP.blk d_hP) hz) rfl)) rfl (tw_pure rfl (pur_len_slice tabOk rfl rfl) rfl ?_)))))))); clear qs3 d_hP; refine tw_tail rfl (lw_pure (pur_lss rfl rfl) rfl (cT ?_)); refine cw_yes rfl (by omega) ?_; refine cw_region (cM rfl rfl ?_); refine cC (by kernel_rfl) rfl (unexpected_c _ _ _ (by assumption)) rfl ?_; rintro _ w7 ⟨⟨⟩, ⟨h5, f6⟩⟩; have z8 := f6.size; clear hP; replace X := X.fr f6 (by omega); clear f6; refine lw_nil (qw_end0 rfl ?_); rotate_left 1
   exact ⟨rfl, by assumption, X⟩
 · rw [show finishP c.ts c.n σ = σ from by simp [finishP, h]]
   refine calls_in Tryz.func26 Tryz.ntmps26 rfl rfl ?_
   focus
    refine cw_seq ?_; (refine cw_tdraw (fun wz => Ext w wz) 9 (.pure 0 (.pure 1 (.pure 2 (.pure 3 (.pure 4 (.pure 5 (.pure 6 (.pure 7 (.pure 8 .tail))))))))) mixed (by kernel_rfl) (panicOk_then panicOk_body) ?_; intro wa1 xa2 _); have qsa3 : (fun wz => Ext w wz) wa1 := xa2; simp only at qsa3; have d_hP := hP; have za4 := xa2.size; replace hP := hP.ext xa2; replace X := X.ext xa2; clear xa2; refine ⟨qsa3, ?_⟩; refine tw_pure rfl (pur_move rfl) rfl (tw_pure rfl (pur_nilCheck rfl) rfl (tw_pure rfl (pur_fieldAddr tabOk rfl rfl rfl) rfl (tw_pure rfl (pur_load tabOk rfl rfl rfl (fun wz hz => Blk.cell (Blk.ext (PP.blk d_hP) hz) rfl)) rfl (tw_pure rfl (pur_move rfl) rfl (tw_pure rfl (pur_nilCheck rfl) rfl (tw_pure rfl (pur_fieldAddr0 tabOk rfl rfl rfl) rfl (tw_pure rfl (pur_load tabOk rfl rfl rfl (fun wz hz => Blk.cell (Blk.ext (PP.blk d_hP) hz) rfl)) rfl (tw_pure rfl (pur_len_slice tabOk rfl rfl) rfl ?_)))))))); clear qsa3 d_hP; refine tw_tail rfl (lw_pure (pur_lss rfl rfl) rfl (cT ?_)); refine cw_no rfl (by omega) ?_; refine cw_skip (qw_end0 rfl ?_); rotate_left 1
   exact ⟨rfl, by assumption, X⟩
def wholeT (t : Nd) (σ : PS) : Nd × Int × Int := if σ.err ≠ 0 then (zeroNd, σ.off, σ.err) else (t, 0, 0)
def WholeR (w : World) (pb : Nat) (S : Nat → Prop) (r : Nd × Int × Int) : Ending → World → Prop := fun e w' => ∃ a k, e = .returned (.tuple #[r.1.val a k, .int .i64 r.2.1, .int .i64 r.2.2]) ∧ r.1.sits S w' a ∧ Fr (· = pb) w w'
theorem WholeR.ret {w : World} {pb : Nat} {S : Nat → Prop} {r : Nd × Int × Int} {e : Ending} {w' : World} (h : WholeR w pb S r e w') : ∃ v, e = .returned v := by
 obtain ⟨_, _, h, -⟩ := h
 exact ⟨_, h⟩
set_option maxRecDepth 100000 in
set_option maxHeartbeats 1000000 in
theorem whole_c (c : PC) (σ : PS) (t : Nd) (S : Nat → Prop) (a : Option Addr) (k : Nat) (w : World) (hP : PP c σ w) (hz : t.size ≤ 1000000000) (hs : t.sits S w a) (hS : ∀ b, S b → b ≠ c.pb ∧ b < w.heap.size) :
 Calls Tryz.prog 40 #[.pointer (some ⟨c.pb, 0, none⟩), t.val a k] w (WholeR w c.pb S (wholeT t (limitP t 0 σ))) := by
 have X := Fr.refl (· = c.pb) w; have hpb := hP.pbB; have hB := hP.B
 by_cases h : (limitP t 0 σ).err = 0
 · rw [show wholeT t (limitP t 0 σ) = (t, 0, 0) from by simp [wholeT, h]]
   refine calls_in Tryz.func40 Tryz.ntmps40 rfl rfl ?_
   focus
    refine cS ?_; (refine lw_box' [_, _, _, _] rfl rfl rfl ?_; intro b1 w2 n3); have h4 := n3.blk; have x5 := n3.ext; have p6 := n3.pos; have z7 := n3.size; clear n3; replace hP := hP.ext x5; replace hs := Nd.sits.ext hs x5; replace X := X.ext x5; clear x5; (refine lw_alloc' [_, _, _, _] zOk rfl rfl ?_; intro b8 w9 n10); have h12 := n10.blk; have x13 := n10.ext; have p14 := n10.pos; have z15 := n10.size; clear n10; replace h4 := h4.ext x13; replace hP := hP.ext x13; replace hs := Nd.sits.ext hs x13; replace X := X.ext x13; clear x13; refine cA rfl rfl (cA rfl rfl (cN (cM rfl rfl (lw_loads_b' [_, _, _, _] tabOk rfl rfl rfl h4 rfl rfl rfl ?_)))); refine cC (by kernel_rfl) rfl (limit_c _ _ _ _ _ _ _ _ (by assumption) (by omega) (by assumption)) rfl ?_; rintro _ w18 ⟨⟨⟩, ⟨h16, f17⟩⟩; have z19 := f17.size; replace h12 := h12.fr f17 (by omega); replace h4 := h4.fr f17 (by omega); clear hP; replace hs := Nd.sits.fr hs f17 (fun k hk e => by have := hS k hk; omega); replace X := X.fr f17 (by omega); clear f17; refine cT (cw_seq (cS (cM rfl rfl (lw_pure (pur_nilCheck rfl) rfl (lw_pure (pur_fieldAddr tabOk rfl rfl rfl) rfl (lw_load_b tabOk rfl rfl rfl (PP.blk h16) rfl rfl (lw_pure (pur_neq rfl rfl) rfl (cT ?_)))))))); refine cw_no rfl (by omega) ?_; refine cw_skip (qw_then (cS (lw_loads_b' [_, _, _, _] tabOk rfl rfl rfl h4 rfl rfl rfl ?_))); (refine lw_store' [_, _, _, _] [_, _, _, _] tabOk rfl rfl rfl rfl rfl rfl h12 rfl rfl ?_; intro w20 n21); have h24 := n21.blk; have f22 := n21.fr; have z23 := n21.size
    clear n21 h12; replace h16 := h16.fr f22 (by omega); replace h4 := h4.fr f22 (by omega); replace hs := Nd.sits.fr hs f22 (fun k hk e => by have := hS k hk; omega); replace X := X.fr f22 (by omega); clear f22; refine cA rfl rfl (cA rfl rfl (cT (cw_ret (qw_retc3 rfl tabOk rfl rfl rfl h24 rfl rfl rfl ?_)))); rotate_left 1
   exact ⟨_, _, rfl, by assumption, X⟩
 · rw [show wholeT t (limitP t 0 σ) = (zeroNd, (limitP t 0 σ).off, (limitP t 0 σ).err) from by simp [wholeT, h]]
   refine calls_in Tryz.func40 Tryz.ntmps40 rfl rfl ?_
   focus
    refine cS ?_; (refine lw_box' [_, _, _, _] rfl rfl rfl ?_; intro ba1 wa2 na3); have ha4 := na3.blk; have xa5 := na3.ext; have pa6 := na3.pos; have za7 := na3.size; clear na3; replace hP := hP.ext xa5; replace hs := Nd.sits.ext hs xa5; replace X := X.ext xa5; clear xa5; (refine lw_alloc' [_, _, _, _] zOk rfl rfl ?_; intro ba8 wa9 na10); have ha12 := na10.blk; have xa13 := na10.ext; have pa14 := na10.pos; have za15 := na10.size; clear na10; replace ha4 := ha4.ext xa13; replace hP := hP.ext xa13; replace hs := Nd.sits.ext hs xa13; replace X := X.ext xa13; clear xa13; refine cA rfl rfl (cA rfl rfl (cN (cM rfl rfl (lw_loads_b' [_, _, _, _] tabOk rfl rfl rfl ha4 rfl rfl rfl ?_)))); refine cC (by kernel_rfl) rfl (limit_c _ _ _ _ _ _ _ _ (by assumption) (by omega) (by assumption)) rfl ?_; rintro _ wa18 ⟨⟨⟩, ⟨ha16, fa17⟩⟩; have za19 := fa17.size; replace ha12 := ha12.fr fa17 (by omega); replace ha4 := ha4.fr fa17 (by omega); clear hP; replace hs := Nd.sits.fr hs fa17 (fun k hk e => by have := hS k hk; omega); replace X := X.fr fa17 (by omega); clear fa17; refine cT (cw_seq (cS (cM rfl rfl (lw_pure (pur_nilCheck rfl) rfl (lw_pure (pur_fieldAddr tabOk rfl rfl rfl) rfl (lw_load_b tabOk rfl rfl rfl (PP.blk ha16) rfl rfl (lw_pure (pur_neq rfl rfl) rfl (cT ?_)))))))); refine cw_yes rfl (by assumption) ?_; refine cw_seq ?_; (refine cw_tdraw (fun wz => Fr (fun x => x = ba8) wa18 wz) 11 (.pure 0 (.pure 1 (.pure 2 (.pure 3 (.pure 4 (.pure 5 (.pure 6 (.pure 7 (.pure 8 (.fork 9 (.pure 10 .tail) .none)))))))))) mixed (by kernel_rfl) (panicOk_then (panicOk_then panicOk_body)) ?_; intro wa20 xa21 _)
    have qsa22 : (fun wz => Fr (fun x => x = ba8) wa18 wz) wa20 := Fr.of_ext xa21; simp only at qsa22; have d_ha16 := ha16; have d_ha12 := ha12; have d_ha4 := ha4; have d_hs := hs; have za23 := xa21.size; replace ha16 := ha16.ext xa21; replace ha12 := ha12.ext xa21; replace ha4 := ha4.ext xa21; replace hs := Nd.sits.ext hs xa21; replace X := X.ext xa21; clear xa21; refine ⟨qsa22, ?_⟩; refine tw_pure rfl (pur_build' [_, _, _, _] tabOk zOk rfl rfl rfl rfl) rfl (tw_pure rfl (pur_move rfl) rfl (tw_pure rfl (pur_nilCheck rfl) rfl (tw_pure rfl (pur_fieldAddr tabOk rfl rfl rfl) rfl ?_))); refine tw_pure rfl (pur_load tabOk rfl rfl rfl (fun wz hz => Blk.cell (Blk.fr (PP.blk d_ha16) hz (by omega)) rfl)) rfl ?_; refine tw_pure rfl (pur_move rfl) rfl (tw_pure rfl (pur_nilCheck rfl) rfl (tw_pure rfl (pur_fieldAddr tabOk rfl rfl rfl) rfl ?_)); refine tw_pure rfl (pur_load tabOk rfl rfl rfl (fun wz hz => Blk.cell (Blk.fr (PP.blk d_ha16) hz (by omega)) rfl)) rfl ?_; (refine tw_store [_, _, _, _] [_, _, _, _] rfl tabOk rfl rfl rfl rfl rfl rfl ha12 rfl rfl ?_ tw_none; intro wa24 na25); have ha28 := na25.blk; have fa26 := na25.fr; have za27 := na25.size; clear na25 ha12; replace qsa22 := qsa22.fr fa26 (by omega); replace ha16 := ha16.fr fa26 (by omega); replace ha4 := ha4.fr fa26 (by omega); replace hs := Nd.sits.fr hs fa26 (fun k hk e => by have := hS k hk; omega); replace X := X.fr fa26 (by omega); clear fa26; refine ⟨qsa22, ?_⟩; refine tw_pure rfl (pur_assign rfl) rfl ?_; clear d_ha16 d_ha12 d_ha4 d_hs qsa22
    refine tw_tail rfl (cA rfl rfl (cT (cw_ret (qw_then_ret (qw_retc3 rfl tabOk rfl rfl rfl ha28 rfl rfl rfl ?_))))); rotate_left 1
   exact ⟨_, _, rfl, sits_nil, X⟩
end Bk
namespace Bk
open Go Go.RowKit Go.Proofs
attribute [local irreducible] Go.Calls
theorem setS_bin (j : Nat) (h : j < 16) : setS (binMap.take j) (symbol (8 + (j : Int))) (.int .u8 (8 + (j : Int))) = binMap.take (j + 1) := by
 have : j = 0 ∨ j = 1 ∨ j = 2 ∨ j = 3 ∨ j = 4 ∨ j = 5 ∨ j = 6 ∨ j = 7 ∨ j = 8 ∨ j = 9 ∨ j = 10 ∨ j = 11 ∨ j = 12 ∨ j = 13 ∨ j = 14 ∨ j = 15 := by omega
 rcases this with rfl | rfl | rfl | rfl | rfl | rfl | rfl | rfl | rfl | rfl | rfl | rfl | rfl | rfl | rfl | rfl <;> rfl
def StartR (s : List UInt8) (w : World) : Ending → World → Prop := fun e w' => ∃ c : PC, e = .returned (.pointer (some ⟨c.pb, 0, none⟩)) ∧ (c.ts = (startP s).1 ∧ c.n = s.length ∧ w.heap.size ≤ c.pb) ∧ PP c (startP s).2 w' ∧ Ext w w' ∧ c.B ≤ w'.heap.size
theorem StartR.ret {s : List UInt8} {w : World} {e : Ending} {w' : World} (h : StartR s w e w') : ∃ v, e = .returned v := by
 obtain ⟨_, h, -⟩ := h
 exact ⟨_, h⟩
theorem Syms.lt {w : World} (h : Syms w) : 0 < w.heap.size := cell_lt (h.sym 0 (by omega))
theorem Errs.lt {w : World} (h : Errs w) : 3 < w.heap.size := by
 obtain ⟨te, pe, h⟩ := h.ex
 exact cell_lt h
set_option maxRecDepth 100000 in
set_option maxHeartbeats 4000000 in
theorem start_c (s : List UInt8) (w : World) (hs : s.length ≤ 1000000) (hS : Syms w) (hE : Errs w) : Calls Tryz.prog 24 #[str s] w (StartR s w) := by
 have X := Ext.refl w; have hg1 := hS.lt; have hg2 := hE.lt; have hl1 := lexT_len s; refine calls_in Tryz.func24 Tryz.ntmps24 rfl rfl ?_
 focus
  refine cS (cA rfl rfl (cN (cM rfl rfl ?_))); refine cR (by kernel_rfl) rfl (Lex_c _ _ (by omega)) (fun _ _ h => h.ret) rfl ?_; rintro _ w5 ⟨a1, ⟨k2, ⟨⟨⟩, ⟨h3, x4⟩⟩⟩⟩; have z6 := x4.size; replace hS := hS.ext x4; replace hE := hE.ext x4; replace X := X.ext x4; clear x4; refine cM rfl rfl (lw_pure (pur_extract rfl rfl) rfl (lw_pure (pur_extract rfl rfl) rfl (lw_pure (pur_extract rfl rfl) rfl (cA rfl rfl (cA rfl rfl (cA rfl rfl (cN (cM rfl rfl ?_)))))))); refine cR (by kernel_rfl) rfl (Solid_c _ _ _ _ _ (by omega) (by assumption) (by intro b h; exact h.2)) (fun _ _ h => h.ret) rfl ?_; rintro _ w11 ⟨a7, ⟨k8, ⟨⟨⟩, ⟨h9, x10⟩⟩⟩⟩; have z12 := x10.size; replace h3 := h3.ext x10; replace hS := hS.ext x10; replace hE := hE.ext x10; replace X := X.ext x10; clear x10; refine cM rfl rfl (lw_pure (pur_len_s tabOk rfl rfl) rfl (lw_makeMap rfl ?_)); rintro r13 w14 rfl h15 x16 h17; have z18 := x16.size; replace h9 := h9.ext x16; replace h3 := h3.ext x16; replace hS := hS.ext x16; replace hE := hE.ext x16; replace X := X.ext x16; clear x16; refine cM rfl rfl (cM rfl rfl (lw_pure (pur_build' [_, _, _, _, _, _] tabOk zOk rfl rfl rfl rfl) rfl ?_)); (refine lw_box' [_, _, _, _, _, _] rfl rfl rfl ?_; intro b19 w20 n21); have h22 := n21.blk; have x23 := n21.ext; have p24 := n21.pos; have z25 := n21.size; clear n21; replace h15 := h15.ext x23; replace h9 := h9.ext x23; replace h3 := h3.ext x23; replace hS := hS.ext x23; replace hE := hE.ext x23; replace X := X.ext x23; clear x23; refine cA rfl rfl (cT (cw_seq (cS ?_)))
  refine cR (by kernel_rfl) rfl (Operators_c _) (fun _ _ h => h.ret) rfl ?_; rintro _ w32 ⟨b26, ⟨k27, ⟨⟨⟩, ⟨h28, ⟨h29, ⟨h30, x31⟩⟩⟩⟩⟩⟩; have z33 := x31.size; replace h22 := h22.ext x31; replace h15 := h15.ext x31; replace h9 := h9.ext x31; replace h3 := h3.ext x31; replace hS := hS.ext x31; replace hE := hE.ext x31; replace X := X.ext x31; clear x31; refine lw_pure (pur_len_slice tabOk rfl rfl) rfl (cM rfl rfl (cT (cw_block ?_))); rotate_left 1
 generalize hr : w11.heap.size = r at *
 refine cw_loop (ι := Nat) (fun j => [(6, .pointer (some ⟨b19, 0, none⟩)), (24, .slice (some ⟨b26, 0, none⟩) 16 k27), (25, .int .i64 16), (26, .int .i64 j)])
  (fun j w' => j ≤ 16 ∧ MapIs w' r (binMap.take j) ∧ Row w' ⟨b26, 0, none⟩ ((ops8 16).map (.int .u8 ·)) ∧ Blk w' b19 [.slice a7 (solidT (lexT s).1).length k8, .int .i64 0, .int .i64 s.length, .map (some r), .int .i64 (lexT s).2.1, .int .i64 (lexT s).2.2] ∧
   Toks (fun b => w5.heap.size ≤ b ∧ b < r) w' (solidT (lexT s).1) a7 ∧ Syms w' ∧ Errs w' ∧ Ext w w' ∧ w32.heap.size ≤ w'.heap.size) (fun j => 16 - j) 0 (by (refine sub_cons rfl ?_; refine sub_cons rfl ?_; refine sub_cons rfl ?_; refine sub_cons rfl ?_; exact sub_nil)) ⟨Nat.zero_le _, h15, h30, h22, h9, hS, hE, X, Nat.le_refl _⟩ ?_
 rintro j w1 ⟨hj, hM, hrow, hb, hT, hS, hE, X, hz⟩; clear h15 h30 h22 h9 h3
 by_cases hlt : j < 16
 · have hr1 : Row w1 ⟨b26, 0 + j * 1, none⟩ [.int .u8 (8 + (j : Int))] := by
    have h1 := hrow.sub j 1
    have e : (((ops8 16).map (.int .u8 ·)).drop j).take 1 = [Value.int .u8 (8 + (j : Int))] := by
     have : j = 0 ∨ j = 1 ∨ j = 2 ∨ j = 3 ∨ j = 4 ∨ j = 5 ∨ j = 6 ∨ j = 7 ∨ j = 8 ∨ j = 9 ∨ j = 10 ∨ j = 11 ∨ j = 12 ∨ j = 13 ∨ j = 14 ∨ j = 15 := by omega
     rcases this with rfl | rfl | rfl | rfl | rfl | rfl | rfl | rfl | rfl | rfl | rfl | rfl | rfl | rfl | rfl | rfl <;> rfl
    rw [e] at h1
    rw [Nat.mul_one]; exact h1
   have hset := setS_bin j hlt
   focus
    refine cS (lw_pure (pur_lss rfl rfl) rfl (cT (cw_seq ?_))); refine cw_yes rfl (by omega) ?_; refine cw_skip (qw_then (cw_seq (cw_block (cS ?_)))); refine lw_pure (pur_indexAddr tabOk rfl rfl rfl rfl (by omega) (by omega)) rfl ?_; refine lw_load_r0 tabOk rfl rfl rfl hr1 rfl rfl (cA rfl rfl (cT ?_)); (refine cw_tdraw (fun wz => Ext w1 wz) 7 (.pure 0 (.pure 1 (.pure 2 (.pure 3 (.pure 4 (.pure 6 (.fork 5 .tail .none))))))) mixed (by kernel_rfl) (panicOk_block (panicOk_then (panicOk_then (panicOk_block (panicOk_then panicOk_body))))) ?_; intro wa1 xa2 _); have qsa3 : (fun wz => Ext w1 wz) wa1 := xa2; simp only at qsa3; have d_hM := hM; have d_hrow := hrow; have d_hb := hb; have d_hT := hT; have d_hS := hS; have d_hE := hE; have d_hr1 := hr1; have za4 := xa2.size; replace hM := hM.ext xa2; replace hrow := hrow.ext xa2; replace hb := hb.ext xa2; replace hT := hT.ext xa2; replace hS := hS.ext xa2; replace hE := hE.ext xa2; replace X := X.ext xa2; replace hr1 := hr1.ext xa2; clear xa2; refine ⟨qsa3, ?_⟩; refine tw_pure rfl (pur_move rfl) rfl (tw_pure rfl (pur_nilCheck rfl) rfl (tw_pure rfl (pur_fieldAddr tabOk rfl rfl rfl) rfl (tw_pure rfl (pur_load tabOk rfl rfl rfl (fun wz hz => Blk.cell (Blk.ext d_hb hz) rfl)) rfl (tw_pure rfl (pur_move rfl) rfl (tw_pure rfl (pur_move rfl) rfl ?_))))); refine tw_does rfl (does_call (by kernel_rfl) rfl (arith_Symbol_s _ _ (by omega) (by omega) (by assumption)) (fun _ _ h => ⟨_, h.1⟩)) rfl ?_ (fun _ h => h) tw_none; rintro _ wa5 ⟨⟨⟩, rfl⟩; refine ⟨qsa3, ?_⟩
    clear qsa3 d_hM d_hrow d_hb d_hT d_hS d_hE d_hr1; refine tw_tail rfl (lw_mapput tabOk rfl rfl rfl rfl rfl hM ?_); rintro wa6 ha7 fa8; have za9 := fa8.size; clear hM; replace hrow := Row.fr hrow fa8 (by simp only; omega); replace hb := hb.fr fa8 (by omega); replace hT := hT.fr fa8 (by omega); replace hS := hS.fr fa8 (by omega); replace hE := hE.fr fa8 (by omega); replace X := X.fr fa8 (by omega); replace hr1 := Row.fr hr1 fa8 (by simp only; omega); clear fa8; refine lw_nil (qw_block_norm (qw_then (cw_region ?_))); refine lw_pure (pur_add rfl rfl (IntWalk.i64_in _ (by omega))) rfl ?_; refine cM rfl rfl (lw_nil ?_); rotate_left 1
   refine qw_round (j + 1) (by (refine sub_cons rfl ?_; refine sub_cons rfl ?_; refine sub_cons rfl ?_; refine sub_cons rfl ?_; exact sub_nil)) ⟨by omega, by rw [← hset]; assumption, hrow, hb, hT, hS, hE, X, by omega⟩ (by omega)
 · have : j = 16 := by omega
   subst this
   focus
    refine cS (lw_pure (pur_lss rfl rfl) rfl (cT (cw_seq ?_))); refine cw_no rfl (by decide) ?_; refine cw_exit (qw_then_exit (qw_then_exit (qw_block_exit (qw_then (cS (cM rfl rfl (cA rfl rfl (cT (cw_ret (qw_ret1 rfl rfl ?_)))))))))); rotate_left 1
   have hsz := X.size; refine ⟨⟨b19, w1.heap.size, solidT (lexT s).1, s.length, a7, k8, r⟩, rfl, ⟨rfl, rfl, by simp only; omega⟩, ?_, X, Nat.le_refl _⟩; refine ⟨hb, hT.wide (fun b h => ⟨by simp only; omega, by simp only; omega⟩), hM, by simp only; omega, by simp only; omega, by simp only; omega, Nat.le_refl _, Nat.zero_le _, ?_, fun t ht => ?_, fun t ht => (solid_ok s t ht).num, hE, by simp only; omega⟩
   · exact Nat.le_trans (start_len s) hs
   · exact Nat.le_trans (solid_ok s t ht).len hs
end Bk
namespace Bk
open Go Go.RowKit Go.Proofs
attribute [local irreducible] Go.Calls
theorem fuel_ok {c : PC} {s : List UInt8} (h : c.ts = (startP s).1) (σ : PS) : 4 * mS c.ts σ + 20 ≤ fuelP s := by
 have h1 := start_len s
 have h2 : mS c.ts σ ≤ c.ts.length := by unfold mS; split <;> omega
 rw [h] at h2
 unfold fuelP
 rw [h]
 omega
def ParseR (w : World) (r : Nd × Int × Int) : Ending → World → Prop := fun e w' => ∃ a k, e = .returned (.tuple #[r.1.val a k, .int .i64 r.2.1, .int .i64 r.2.2]) ∧ r.1.sits (w.heap.size ≤ ·) w' a ∧ Ext w w'
theorem ParseR.ret {w : World} {r : Nd × Int × Int} {e : Ending} {w' : World} (h : ParseR w r e w') : ∃ v, e = .returned v := by
 obtain ⟨_, _, h, -⟩ := h
 exact ⟨_, h⟩
def ParsePR (w : World) (r : PG × Int × Int) : Ending → World → Prop := fun e w' => ∃ va vc pa pc ma mc, e = .returned (.tuple #[.agg (r.1.cells va vc pa pc ma mc).toArray, .int .i64 r.2.1, .int .i64 r.2.2]) ∧ r.1.sits (w.heap.size ≤ ·) w' va pa ma ∧ Ext w w'
theorem ParsePR.ret {w : World} {r : PG × Int × Int} {e : Ending} {w' : World} (h : ParsePR w r e w') : ∃ v, e = .returned v := by
 obtain ⟨_, _, _, _, _, _, h, -⟩ := h
 exact ⟨_, h⟩
theorem PG.sits.wide {S S' : Nat → Prop} {w : World} {g : PG} {va pa ma : Option Addr} (h : g.sits S w va pa ma) (hs : ∀ b, S b → S' b) : g.sits S' w va pa ma := ⟨h.vars.wide hs, h.procs.wide hs, h.main.wide hs⟩
theorem parseExpr_whole (s : List UInt8) (c : PC) (h1 : c.ts = (startP s).1) (h2 : c.n = s.length) : parseExpr s = wholeT (exprP c.ts c.n (fuelP s) 1 (startP s).2).1 (limitP (exprP c.ts c.n (fuelP s) 1 (startP s).2).1 0 (finishP c.ts c.n (exprP c.ts c.n (fuelP s) 1 (startP s).2).2)) := by
 unfold parseExpr wholeT
 rw [h1, h2]
set_option maxRecDepth 100000 in
set_option maxHeartbeats 4000000 in
theorem Expr_p (s : List UInt8) (w : World) (hs : s.length ≤ 1000000) (hS : Syms w) (hE : Errs w) : Calls Tryz.prog 12 #[str s] w (ParseR w (parseExpr s)) := by
 have X := Ext.refl w; refine calls_in Tryz.func12 Tryz.ntmps12 rfl rfl ?_
 focus
  refine cS ?_; (refine lw_alloc' [_, _, _, _] zOk rfl rfl ?_; intro b1 w2 n3); have h5 := n3.blk; have x6 := n3.ext; have p7 := n3.pos; have z8 := n3.size; clear n3; replace hS := hS.ext x6; replace hE := hE.ext x6; replace X := X.ext x6; clear x6; refine cA rfl rfl (cA rfl rfl (cN (cM rfl rfl ?_))); refine cR (by kernel_rfl) rfl (start_c s _ hs (by assumption) (by assumption)) (fun _ _ h => h.ret) rfl ?_; rintro _ w16 ⟨c9, ⟨⟨⟩, ⟨⟨h10, ⟨h11, h12⟩⟩, ⟨h13, ⟨x14, h15⟩⟩⟩⟩⟩; have z17 := x14.size; replace h5 := h5.ext x14; replace hS := hS.ext x14; replace hE := hE.ext x14; replace X := X.ext x14; clear x14; refine cA rfl rfl (cN (cM rfl rfl ?_)); rotate_left 1
 have hf := fuel_ok h10 (startP s).2; have hat := h13.at_; have hlen := h13.len; have hpb := h13.pbB; have hB := h13.B; rw [parseExpr_whole s c9 h10 h11]; have hle := expr_le (n := c9.n) (k := fuelP s) (lv := 1) hat; have hsz := exprs_size (n := c9.n) (k := fuelP s) (lv := 1) hat; have hwf := hle.wf
 have hsz2 : (exprP c9.ts c9.n (fuelP s) 1 (startP s).2).1.size ≤ 1000000000 := by omega
 focus
  refine cR (by kernel_rfl) rfl ((exprs_c c9 (fuelP s)).expr _ _ _ (by assumption) (by omega) (by decide) (by decide)) (fun _ _ h => h.ret) rfl ?_; rintro _ wa6 ⟨aa1, ⟨ka2, ⟨⟨⟩, ⟨ha3, ⟨ha4, fa5⟩⟩⟩⟩⟩; have za7 := fa5.size; clear h13; replace h5 := h5.fr fa5 (by omega); replace hS := hS.fr fa5 (by omega); clear hE; replace X := X.fr fa5 (by omega); clear fa5; (refine lw_alloc' [_, _, _, _] zOk rfl rfl ?_; intro ba8 wa9 na10); (refine lw_init' [_, _, _, _] tabOk rfl rfl rfl rfl rfl rfl na10 rfl ?_; clear na10; clear wa9; intro wa11 na10); have ha12 := na10.blk; have xa13 := na10.ext; have pa14 := na10.pos; have za15 := na10.size; clear na10; replace ha3 := Nd.sits.ext ha3 xa13; replace ha4 := ha4.ext xa13; replace h5 := h5.ext xa13; replace hS := hS.ext xa13; replace X := X.ext xa13; clear xa13; refine cN (cM rfl rfl ?_); refine cC (by kernel_rfl) rfl (finish_c _ _ _ (by assumption)) rfl ?_; rintro _ wa18 ⟨⟨⟩, ⟨ha16, fa17⟩⟩; have za19 := fa17.size; replace ha12 := ha12.fr fa17 (by omega); replace ha3 := Nd.sits.fr ha3 fa17 (by omega); clear ha4; replace h5 := h5.fr fa17 (by omega); replace hS := hS.fr fa17 (by omega); replace X := X.fr fa17 (by omega); clear fa17; refine cN (cM rfl rfl (lw_loads_b' [_, _, _, _] tabOk rfl rfl rfl ha12 rfl rfl rfl ?_)); refine cR (by kernel_rfl) rfl (whole_c _ _ _ _ _ _ _ (by assumption) (by assumption) (by assumption) (by intro b h; exact ⟨by omega, by omega⟩)) (fun _ _ h => h.ret) rfl ?_; rintro _ wa24 ⟨aa20, ⟨ka21, ⟨⟨⟩, ⟨ha22, fa23⟩⟩⟩⟩; have za25 := fa23.size
  clear ha16; replace ha12 := ha12.fr fa23 (by omega); replace ha3 := Nd.sits.fr ha3 fa23 (by omega); replace h5 := h5.fr fa23 (by omega); replace hS := hS.fr fa23 (by omega); replace X := X.fr fa23 (by omega); clear fa23; refine lw_pure (pur_extract rfl rfl) rfl (lw_pure (pur_extract rfl rfl) rfl (lw_pure (pur_extract rfl rfl) rfl ?_)); (refine lw_store' [_, _, _, _] [_, _, _, _] tabOk rfl rfl rfl rfl rfl rfl h5 rfl rfl ?_; intro wa26 na27); have ha30 := na27.blk; have fa28 := na27.fr; have za29 := na27.size; clear na27 h5; replace ha22 := Nd.sits.fr ha22 fa28 (by omega); replace ha12 := ha12.fr fa28 (by omega); replace ha3 := Nd.sits.fr ha3 fa28 (by omega); clear hS; replace X := X.fr fa28 (by omega); clear fa28; refine cA rfl rfl (cA rfl rfl (cT (cw_ret (qw_retc3 rfl tabOk rfl rfl rfl ha30 rfl rfl rfl ?_)))); rotate_left 1
 exact ⟨_, _, rfl, Nd.sits.wide (by assumption) (fun b h => by omega), X⟩
section
variable {ts : List Tok} {n : Int}
end
set_option maxRecDepth 100000 in
set_option maxHeartbeats 4000000 in
theorem Program_p (s : List UInt8) (w : World) (hs : s.length ≤ 1000000) (hS : Syms w) (hE : Errs w) : Calls Tryz.prog 9 #[str s] w (ParsePR w (parseProgram s)) := by
 have X := Ext.refl w; refine calls_in Tryz.func9 Tryz.ntmps9 rfl rfl ?_
 focus
  refine cS ?_; (refine lw_alloc' [_, _, _, _, _, _] zOk rfl rfl ?_; intro b1 w2 n3); have h5 := n3.blk; have x6 := n3.ext; have p7 := n3.pos; have z8 := n3.size; clear n3; replace hS := hS.ext x6; replace hE := hE.ext x6; replace X := X.ext x6; clear x6; refine cA rfl rfl (cA rfl rfl (cN (cM rfl rfl ?_))); refine cR (by kernel_rfl) rfl (start_c s _ hs (by assumption) (by assumption)) (fun _ _ h => h.ret) rfl ?_; rintro _ w16 ⟨c9, ⟨⟨⟩, ⟨⟨h10, ⟨h11, h12⟩⟩, ⟨h13, ⟨x14, h15⟩⟩⟩⟩⟩; have z17 := x14.size; replace h5 := h5.ext x14; replace hS := hS.ext x14; replace hE := hE.ext x14; replace X := X.ext x14; clear x14; refine cA rfl rfl (cN (cM rfl rfl ?_)); rotate_left 1
 have hf := fuel_ok h10 (startP s).2; have hat := h13.at_; have hlen := h13.len; have hpb := h13.pbB; have hB := h13.B
 have hpe : parseProgram s = if (finishP c9.ts c9.n (programP c9.ts c9.n (fuelP s) (startP s).2).2).err ≠ 0 then (⟨[], [], zeroNd⟩, (finishP c9.ts c9.n (programP c9.ts c9.n (fuelP s) (startP s).2).2).off, (finishP c9.ts c9.n (programP c9.ts c9.n (fuelP s) (startP s).2).2).err) else ((programP c9.ts c9.n (fuelP s) (startP s).2).1, 0, 0) := by
  unfold parseProgram
  rw [h10, h11]
 rw [hpe]
 by_cases he : (finishP c9.ts c9.n (programP c9.ts c9.n (fuelP s) (startP s).2).2).err = 0
 · rw [if_neg (fun h => h he)]
   focus
    refine cR (by kernel_rfl) rfl (program_c c9 (fuelP s) _ _ (by assumption) (by omega)) (fun _ _ h => h.ret) rfl ?_; rintro _ wa10 ⟨vaa1, ⟨vca2, ⟨paa3, ⟨pca4, ⟨maa5, ⟨mca6, ⟨⟨⟩, ⟨ha7, ⟨ha8, fa9⟩⟩⟩⟩⟩⟩⟩⟩⟩; have za11 := fa9.size; clear h13; replace h5 := h5.fr fa9 (by omega); replace hS := hS.fr fa9 (by omega); clear hE; replace X := X.fr fa9 (by omega); clear fa9; (refine lw_alloc' [_, _, _, _, _, _] zOk rfl rfl ?_; intro ba12 wa13 na14); (refine lw_init' [_, _, _, _, _, _] tabOk rfl rfl rfl rfl rfl rfl na14 rfl ?_; clear na14; clear wa13; intro wa15 na14); have ha16 := na14.blk; have xa17 := na14.ext; have pa18 := na14.pos; have za19 := na14.size; clear na14; replace ha7 := PG.sits.ext ha7 xa17; replace ha8 := ha8.ext xa17; replace h5 := h5.ext xa17; replace hS := hS.ext xa17; replace X := X.ext xa17; clear xa17; refine cN (cM rfl rfl ?_); refine cC (by kernel_rfl) rfl (finish_c _ _ _ (by assumption)) rfl ?_; rintro _ wa22 ⟨⟨⟩, ⟨ha20, fa21⟩⟩; have za23 := fa21.size; replace ha16 := ha16.fr fa21 (by omega); replace ha7 := PG.sits.fr ha7 fa21 (by omega); clear ha8; replace h5 := h5.fr fa21 (by omega); replace hS := hS.fr fa21 (by omega); replace X := X.fr fa21 (by omega); clear fa21; refine cT (cw_seq (cS (cM rfl rfl (lw_pure (pur_nilCheck rfl) rfl (lw_pure (pur_fieldAddr tabOk rfl rfl rfl) rfl (lw_load_b tabOk rfl rfl rfl (PP.blk ha20) rfl rfl (lw_pure (pur_neq rfl rfl) rfl (cT ?_)))))))); refine cw_no rfl (by omega) ?_; refine cw_skip (qw_then (cS (lw_loads_b' [_, _, _, _, _, _] tabOk rfl rfl rfl ha16 rfl rfl rfl ?_)))
    (refine lw_store' [_, _, _, _, _, _] [_, _, _, _, _, _] tabOk rfl rfl rfl rfl rfl rfl h5 rfl rfl ?_; intro wa24 na25); have ha28 := na25.blk; have fa26 := na25.fr; have za27 := na25.size; clear na25 h5 ha20; replace ha16 := ha16.fr fa26 (by omega); replace ha7 := PG.sits.fr ha7 fa26 (by omega); clear hS; replace X := X.fr fa26 (by omega); clear fa26; refine cA rfl rfl (cA rfl rfl (cT (cw_ret (qw_retc3 rfl tabOk rfl rfl rfl ha28 rfl rfl rfl ?_)))); rotate_left 1
   exact ⟨_, _, _, _, _, _, rfl, PG.sits.wide (by assumption) (fun b h => by omega), X⟩
 · rw [if_pos he]
   focus
    refine cR (by kernel_rfl) rfl (program_c c9 (fuelP s) _ _ (by assumption) (by omega)) (fun _ _ h => h.ret) rfl ?_; rintro _ wb10 ⟨vab1, ⟨vcb2, ⟨pab3, ⟨pcb4, ⟨mab5, ⟨mcb6, ⟨⟨⟩, ⟨hb7, ⟨hb8, fb9⟩⟩⟩⟩⟩⟩⟩⟩⟩; have zb11 := fb9.size; clear h13; replace h5 := h5.fr fb9 (by omega); replace hS := hS.fr fb9 (by omega); clear hE; replace X := X.fr fb9 (by omega); clear fb9; (refine lw_alloc' [_, _, _, _, _, _] zOk rfl rfl ?_; intro bb12 wb13 nb14); (refine lw_init' [_, _, _, _, _, _] tabOk rfl rfl rfl rfl rfl rfl nb14 rfl ?_; clear nb14; clear wb13; intro wb15 nb14); have hb16 := nb14.blk; have xb17 := nb14.ext; have pb18 := nb14.pos; have zb19 := nb14.size; clear nb14; replace hb7 := PG.sits.ext hb7 xb17; replace hb8 := hb8.ext xb17; replace h5 := h5.ext xb17; replace hS := hS.ext xb17; replace X := X.ext xb17; clear xb17; refine cN (cM rfl rfl ?_); refine cC (by kernel_rfl) rfl (finish_c _ _ _ (by assumption)) rfl ?_; rintro _ wb22 ⟨⟨⟩, ⟨hb20, fb21⟩⟩; have zb23 := fb21.size; replace hb16 := hb16.fr fb21 (by omega); replace hb7 := PG.sits.fr hb7 fb21 (by omega); clear hb8; replace h5 := h5.fr fb21 (by omega); replace hS := hS.fr fb21 (by omega); replace X := X.fr fb21 (by omega); clear fb21; refine cT (cw_seq (cS (cM rfl rfl (lw_pure (pur_nilCheck rfl) rfl (lw_pure (pur_fieldAddr tabOk rfl rfl rfl) rfl (lw_load_b tabOk rfl rfl rfl (PP.blk hb20) rfl rfl (lw_pure (pur_neq rfl rfl) rfl (cT ?_)))))))); refine cw_yes rfl (by assumption) ?_; refine cw_seq ?_; (refine cw_tdraw (fun wz => Fr (fun x => x = b1) wb22 wz) 11 (.pure 0 (.pure 1 (.pure 2 (.pure 3 (.pure 4 (.pure 5 (.pure 6 (.pure 7 (.pure 8 (.fork 9 (.pure 10 .tail) .none)))))))))) mixed (by kernel_rfl) (panicOk_then (panicOk_then panicOk_body)) ?_; intro wb24 xb25 _)
    have qsb26 : (fun wz => Fr (fun x => x = b1) wb22 wz) wb24 := Fr.of_ext xb25; simp only at qsb26; have d_hb20 := hb20; have d_hb16 := hb16; have d_hb7 := hb7; have d_h5 := h5; have d_hS := hS; have zb27 := xb25.size; replace hb20 := hb20.ext xb25; replace hb16 := hb16.ext xb25; replace hb7 := PG.sits.ext hb7 xb25; replace h5 := h5.ext xb25; replace hS := hS.ext xb25; replace X := X.ext xb25; clear xb25; refine ⟨qsb26, ?_⟩; refine tw_pure rfl (pur_build' [_, _, _, _, _, _] tabOk zOk rfl rfl rfl rfl) rfl (tw_pure rfl (pur_move rfl) rfl (tw_pure rfl (pur_nilCheck rfl) rfl (tw_pure rfl (pur_fieldAddr tabOk rfl rfl rfl) rfl ?_))); refine tw_pure rfl (pur_load tabOk rfl rfl rfl (fun wz hz => Blk.cell (Blk.fr (PP.blk d_hb20) hz (by omega)) rfl)) rfl ?_; refine tw_pure rfl (pur_move rfl) rfl (tw_pure rfl (pur_nilCheck rfl) rfl (tw_pure rfl (pur_fieldAddr tabOk rfl rfl rfl) rfl ?_)); refine tw_pure rfl (pur_load tabOk rfl rfl rfl (fun wz hz => Blk.cell (Blk.fr (PP.blk d_hb20) hz (by omega)) rfl)) rfl ?_; (refine tw_store [_, _, _, _, _, _] [_, _, _, _, _, _] rfl tabOk rfl rfl rfl rfl rfl rfl h5 rfl rfl ?_ tw_none; intro wb28 nb29); have hb32 := nb29.blk; have fb30 := nb29.fr; have zb31 := nb29.size; clear nb29 h5; replace qsb26 := qsb26.fr fb30 (by omega); clear hb20; replace hb16 := hb16.fr fb30 (by omega); replace hb7 := PG.sits.fr hb7 fb30 (by omega); clear hS; replace X := X.fr fb30 (by omega); clear fb30; refine ⟨qsb26, ?_⟩; refine tw_pure rfl (pur_assign rfl) rfl ?_; clear d_hb20 d_hb16 d_hb7 d_h5 d_hS qsb26
    refine tw_tail rfl (cA rfl rfl (cT (cw_ret (qw_then_ret (qw_retc3 rfl tabOk rfl rfl rfl hb32 rfl rfl rfl ?_))))); rotate_left 1
   exact ⟨_, _, _, _, _, _, rfl, ⟨Or.inl rfl, Or.inl rfl, sits_nil⟩, X⟩
end Bk
namespace Bk
open Go Go.RowKit Go.Proofs
attribute [local irreducible] Go.Calls
def Two (w : World) (k x y : Int) : Ending → World → Prop := fun e w' => ∃ kb ko c x1 x2 x3 y1 y2 y3, e = .returned (.tuple #[.agg #[.int .u8 k, .int .i64 0, str [], .slice (some ⟨kb, ko, none⟩) 2 c], .int .i64 0, .int .i64 0]) ∧ Row w' ⟨kb, ko + 0 * 4, none⟩ [.int .u8 x, x1, x2, x3] ∧ Row w' ⟨kb, ko + 1 * 4, none⟩ [.int .u8 y, y1, y2, y3] ∧ Ext w w'
theorem Two.ret {w : World} {k x y : Int} {e : Ending} {w' : World} (h : Two w k x y e w') : ∃ v, e = .returned v := by
 obtain ⟨_, _, _, _, _, _, _, _, _, h, -⟩ := h
 exact ⟨_, h⟩
theorem aw1_p (w : World) (hS : Syms w) (hE : Errs w) : Calls Tryz.prog 12 #[str [49, 32, 45, 32, 50, 32, 45, 32, 51, 32, 42, 32, 120]] w (Two w 9 9 10) := by
 have := Expr_p [49, 32, 45, 32, 50, 32, 45, 32, 51, 32, 42, 32, 120] w (by decide) hS hE; rw [aw1] at this; refine this.mono ?_; rintro e w' ⟨a, k, rfl, hs, x⟩; simp only [Nd.sits] at hs; obtain ⟨b, o, rfl, -, hk⟩ := kidRows hs (by simp); obtain ⟨a0, c0, r0, -⟩ := hk 0 _ rfl; obtain ⟨a1, c1, r1, -⟩ := hk 1 _ rfl
 exact ⟨b, o, k, _, _, _, _, _, _, rfl, r0, r1, x⟩
theorem aw2_p (w : World) (hS : Syms w) (hE : Errs w) : Calls Tryz.prog 12 #[str [49, 32, 43]] w (ParseR w (zeroNd, 3, 4)) := by
 have := Expr_p [49, 32, 43] w (by decide) hS hE
 rw [aw2] at this; exact this
theorem aw3_p (w : World) (hS : Syms w) (hE : Errs w) : Calls Tryz.prog 12 #[str [49, 32, 50]] w (ParseR w (zeroNd, 2, 3)) := by
 have := Expr_p [49, 32, 50] w (by decide) hS hE
 rw [aw3] at this; exact this
def OneS (w : World) (x : Int) : Ending → World → Prop := fun e w' => ∃ va vc pa pc kb ko c x1 x2 x3, e = .returned (.tuple #[.agg #[.slice va 0 vc, .slice pa 0 pc, .int .u8 57, .int .i64 0, str [], .slice (some ⟨kb, ko, none⟩) 1 c], .int .i64 0, .int .i64 0]) ∧ Row w' ⟨kb, ko + 0 * 4, none⟩ [.int .u8 x, x1, x2, x3] ∧ Ext w w'
theorem OneS.ret {w : World} {x : Int} {e : Ending} {w' : World} (h : OneS w x e w') : ∃ v, e = .returned v := by
 obtain ⟨_, _, _, _, _, _, _, _, _, _, h, -⟩ := h
 exact ⟨_, h⟩
theorem aw4_p (w : World) (hS : Syms w) (hE : Errs w) : Calls Tryz.prog 9 #[str [109, 97, 105, 110, 32, 123, 32, 120, 32, 43, 61, 32, 49, 59, 32, 125]] w (OneS w 40) := by
 have := Program_p [109, 97, 105, 110, 32, 123, 32, 120, 32, 43, 61, 32, 49, 59, 32, 125] w (by decide) hS hE; rw [aw4] at this; refine this.mono ?_; rintro e w' ⟨va, vc, pa, pc, ma, mc, rfl, hs, x⟩; have hm := hs.main; simp only [Nd.sits] at hm; obtain ⟨b, o, rfl, -, hk⟩ := kidRows hm (by simp); obtain ⟨a0, c0, r0, -⟩ := hk 0 _ rfl
 exact ⟨va, vc, pa, pc, b, o, mc, _, _, _, rfl, r0, x⟩
theorem aw5_p (w : World) (hS : Syms w) (hE : Errs w) : Calls Tryz.prog 9 #[str [109, 97, 105, 110, 32, 123, 32, 120, 32, 43, 61, 32, 49, 32, 125]] w (ParsePR w (⟨[], [], zeroNd⟩, 14, 3)) := by
 have := Program_p [109, 97, 105, 110, 32, 123, 32, 120, 32, 43, 61, 32, 49, 32, 125] w (by decide) hS hE
 rw [aw5] at this; exact this
set_option maxRecDepth 100000 in
set_option maxHeartbeats 4000000 in
theorem awake4_c (w : World) (hS : Syms w) (hE : Errs w) : Calls Tryz.prog 8 #[] w fun e w' => e = .returned (.bool true) ∧ Ext w w' := by
 have X := Ext.refl w; refine calls_in (args := []) Tryz.func8 Tryz.ntmps8 rfl rfl ?_
 focus
  refine cS (cA rfl rfl (cN ?_)); refine cR (by kernel_rfl) rfl (aw1_p _ (by assumption) (by assumption)) (fun _ _ h => h.ret) rfl ?_; rintro _ w13 ⟨kb1, ⟨ko2, ⟨c3, ⟨x14, ⟨x25, ⟨x36, ⟨y17, ⟨y28, ⟨y39, ⟨⟨⟩, ⟨h10, ⟨h11, x12⟩⟩⟩⟩⟩⟩⟩⟩⟩⟩⟩⟩; have z14 := x12.size; replace hS := hS.ext x12; replace hE := hE.ext x12; replace X := X.ext x12; clear x12; refine cM rfl rfl (lw_pure (pur_extract rfl rfl) rfl (lw_pure (pur_extract rfl rfl) rfl (lw_pure (pur_extract rfl rfl) rfl ?_))); (refine lw_alloc' [_, _, _, _] zOk rfl rfl ?_; intro b15 w16 n17); (refine lw_init' [_, _, _, _] tabOk rfl rfl rfl rfl rfl rfl n17 rfl ?_; clear n17; clear w16; intro w18 n17); have h19 := n17.blk; have x20 := n17.ext; have p21 := n17.pos; have z22 := n17.size; clear n17; replace h10 := h10.ext x20; replace h11 := h11.ext x20; replace hS := hS.ext x20; replace hE := hE.ext x20; replace X := X.ext x20; clear x20; refine cA rfl rfl (cA rfl rfl (cN ?_)); refine cR (by kernel_rfl) rfl (aw2_p _ (by assumption) (by assumption)) (fun _ _ h => h.ret) rfl ?_; rintro _ w27 ⟨a23, ⟨k24, ⟨⟨⟩, ⟨h25, x26⟩⟩⟩⟩; have z28 := x26.size; replace h19 := h19.ext x26; replace h10 := h10.ext x26; replace h11 := h11.ext x26; replace hS := hS.ext x26; replace hE := hE.ext x26; replace X := X.ext x26; clear x26; refine cM rfl rfl (lw_pure (pur_extract rfl rfl) rfl (lw_pure (pur_extract rfl rfl) rfl (lw_pure (pur_extract rfl rfl) rfl ?_))); (refine lw_alloc' [_, _, _, _] zOk rfl rfl ?_; intro b29 w30 n31); (refine lw_init' [_, _, _, _] tabOk rfl rfl rfl rfl rfl rfl n31 rfl ?_; clear n31; clear w30; intro w32 n31)
  have h33 := n31.blk; dsimp only at h33; have x34 := n31.ext; have p35 := n31.pos; have z36 := n31.size; clear n31; replace h25 := Nd.sits.ext h25 x34; replace h19 := h19.ext x34; replace h10 := h10.ext x34; replace h11 := h11.ext x34; replace hS := hS.ext x34; replace hE := hE.ext x34; replace X := X.ext x34; clear x34; refine cA rfl rfl (cA rfl rfl (cN ?_)); refine cR (by kernel_rfl) rfl (aw3_p _ (by assumption) (by assumption)) (fun _ _ h => h.ret) rfl ?_; rintro _ w41 ⟨a37, ⟨k38, ⟨⟨⟩, ⟨h39, x40⟩⟩⟩⟩; have z42 := x40.size; replace h33 := h33.ext x40; replace h25 := Nd.sits.ext h25 x40; replace h19 := h19.ext x40; replace h10 := h10.ext x40; replace h11 := h11.ext x40; replace hS := hS.ext x40; replace hE := hE.ext x40; replace X := X.ext x40; clear x40; refine cM rfl rfl (lw_pure (pur_extract rfl rfl) rfl (lw_pure (pur_extract rfl rfl) rfl (lw_pure (pur_extract rfl rfl) rfl ?_))); (refine lw_alloc' [_, _, _, _] zOk rfl rfl ?_; intro b43 w44 n45); (refine lw_init' [_, _, _, _] tabOk rfl rfl rfl rfl rfl rfl n45 rfl ?_; clear n45; clear w44; intro w46 n45); have h47 := n45.blk; dsimp only at h47; have x48 := n45.ext; have p49 := n45.pos; have z50 := n45.size; clear n45; replace h39 := Nd.sits.ext h39 x48; replace h33 := h33.ext x48; replace h25 := Nd.sits.ext h25 x48; replace h19 := h19.ext x48; replace h10 := h10.ext x48; replace h11 := h11.ext x48; replace hS := hS.ext x48; replace hE := hE.ext x48; replace X := X.ext x48; clear x48; refine cA rfl rfl (cA rfl rfl (cN ?_)); refine cR (by kernel_rfl) rfl (aw4_p _ (by assumption) (by assumption)) (fun _ _ h => h.ret) rfl ?_
  rintro _ w63 ⟨va51, ⟨vc52, ⟨pa53, ⟨pc54, ⟨kb55, ⟨ko56, ⟨c57, ⟨x158, ⟨x259, ⟨x360, ⟨⟨⟩, ⟨h61, x62⟩⟩⟩⟩⟩⟩⟩⟩⟩⟩⟩⟩; have z64 := x62.size; replace h47 := h47.ext x62; replace h39 := Nd.sits.ext h39 x62; replace h33 := h33.ext x62; replace h25 := Nd.sits.ext h25 x62; replace h19 := h19.ext x62; replace h10 := h10.ext x62; replace h11 := h11.ext x62; replace hS := hS.ext x62; replace hE := hE.ext x62; replace X := X.ext x62; clear x62; refine cM rfl rfl (lw_pure (pur_extract rfl rfl) rfl (lw_pure (pur_extract rfl rfl) rfl (lw_pure (pur_extract rfl rfl) rfl ?_))); (refine lw_alloc' [_, _, _, _, _, _] zOk rfl rfl ?_; intro b65 w66 n67); (refine lw_init' [_, _, _, _, _, _] tabOk rfl rfl rfl rfl rfl rfl n67 rfl ?_; clear n67; clear w66; intro w68 n67); have h69 := n67.blk; have x70 := n67.ext; have p71 := n67.pos; have z72 := n67.size; clear n67; replace h61 := h61.ext x70; replace h47 := h47.ext x70; replace h39 := Nd.sits.ext h39 x70; replace h33 := h33.ext x70; replace h25 := Nd.sits.ext h25 x70; replace h19 := h19.ext x70; replace h10 := h10.ext x70; replace h11 := h11.ext x70; replace hS := hS.ext x70; replace hE := hE.ext x70; replace X := X.ext x70; clear x70; refine cA rfl rfl (cA rfl rfl (cN ?_)); refine cR (by kernel_rfl) rfl (aw5_p _ (by assumption) (by assumption)) (fun _ _ h => h.ret) rfl ?_; rintro _ w81 ⟨va73, ⟨vc74, ⟨pa75, ⟨pc76, ⟨ma77, ⟨mc78, ⟨⟨⟩, ⟨h79, x80⟩⟩⟩⟩⟩⟩⟩⟩; have z82 := x80.size; replace h69 := h69.ext x80; replace h61 := h61.ext x80; replace h47 := h47.ext x80; replace h39 := Nd.sits.ext h39 x80
  replace h33 := h33.ext x80; replace h25 := Nd.sits.ext h25 x80; replace h19 := h19.ext x80; replace h10 := h10.ext x80; replace h11 := h11.ext x80; replace hS := hS.ext x80; replace hE := hE.ext x80; replace X := X.ext x80; clear x80; refine cM rfl rfl (lw_pure (pur_extract rfl rfl) rfl (lw_pure (pur_extract rfl rfl) rfl (lw_pure (pur_extract rfl rfl) rfl ?_))); (refine lw_alloc' [_, _, _, _, _, _] zOk rfl rfl ?_; intro b83 w84 n85); (refine lw_init' [_, _, _, _, _, _] tabOk rfl rfl rfl rfl rfl rfl n85 rfl ?_; clear n85; clear w84; intro w86 n85); have h87 := n85.blk; dsimp only at h87; have x88 := n85.ext; have p89 := n85.pos; have z90 := n85.size; clear n85; replace h79 := PG.sits.ext h79 x88; replace h69 := h69.ext x88; replace h61 := h61.ext x88; replace h47 := h47.ext x88; replace h39 := Nd.sits.ext h39 x88; replace h33 := h33.ext x88; replace h25 := Nd.sits.ext h25 x88; replace h19 := h19.ext x88; replace h10 := h10.ext x88; replace h11 := h11.ext x88; replace hS := hS.ext x88; replace hE := hE.ext x88; replace X := X.ext x88; clear x88; refine cA rfl rfl (cA rfl rfl (cN (cM rfl rfl (lw_pure (pur_eql rfl rfl) rfl (cM rfl rfl ?_))))); refine lw_on rfl rfl rfl (gd_tt (by decide)) ?_; refine lw_pure (pur_fieldAddr0 tabOk rfl rfl rfl) rfl ?_; refine lw_on rfl rfl rfl (gd_tt (by decide)) ?_; refine lw_load_b tabOk rfl rfl rfl h19 rfl rfl ?_; refine lw_on rfl rfl rfl (gd_tt (by decide)) ?_; refine lw_pure (pur_eql rfl rfl) rfl ?_; refine lw_pure (pur_pick_yes rfl rfl (by decide)) rfl ?_
  refine cM rfl rfl ?_; refine lw_on rfl rfl rfl (gd_tt (by decide)) ?_; refine lw_pure (pur_fieldAddr tabOk rfl rfl rfl) rfl ?_; refine lw_on rfl rfl rfl (gd_tt (by decide)) ?_; refine lw_load_b tabOk rfl rfl rfl h19 rfl rfl ?_; refine lw_on rfl rfl rfl (gd_tt (by decide)) ?_; refine lw_pure (pur_len_slice tabOk rfl rfl) rfl ?_; refine lw_on rfl rfl rfl (gd_tt (by decide)) ?_; refine lw_pure (pur_eql rfl rfl) rfl ?_; refine lw_pure (pur_pick_yes rfl rfl (by decide)) rfl ?_; refine cM rfl rfl ?_; refine lw_on rfl rfl rfl (gd_tt (by decide)) ?_; refine lw_pure (pur_fieldAddr tabOk rfl rfl rfl) rfl ?_; refine lw_on rfl rfl rfl (gd_tt (by decide)) ?_; refine lw_load_b tabOk rfl rfl rfl h19 rfl rfl ?_; refine lw_on rfl rfl rfl (gd_tt (by decide)) ?_; refine lw_pure (pur_indexAddr tabOk rfl rfl rfl rfl (by omega) (by omega)) rfl ?_; refine lw_on rfl rfl rfl (gd_tt (by decide)) ?_; refine lw_pure (pur_fieldAddr0 tabOk rfl rfl rfl) rfl ?_; refine lw_on rfl rfl rfl (gd_tt (by decide)) ?_; refine lw_load_r tabOk rfl rfl rfl h10 rfl rfl ?_; refine lw_on rfl rfl rfl (gd_tt (by decide)) ?_; refine lw_pure (pur_eql rfl rfl) rfl ?_; refine lw_pure (pur_pick_yes rfl rfl (by decide)) rfl ?_; refine cM rfl rfl ?_; refine lw_on rfl rfl rfl (gd_tt (by decide)) ?_; refine lw_pure (pur_fieldAddr tabOk rfl rfl rfl) rfl ?_; refine lw_on rfl rfl rfl (gd_tt (by decide)) ?_; refine lw_load_b tabOk rfl rfl rfl h19 rfl rfl ?_; refine lw_on rfl rfl rfl (gd_tt (by decide)) ?_; refine lw_pure (pur_indexAddr tabOk rfl rfl rfl rfl (by omega) (by omega)) rfl ?_
  refine lw_on rfl rfl rfl (gd_tt (by decide)) ?_; refine lw_pure (pur_fieldAddr0 tabOk rfl rfl rfl) rfl ?_; refine lw_on rfl rfl rfl (gd_tt (by decide)) ?_; refine lw_load_r0 tabOk rfl rfl rfl h11 rfl rfl ?_; refine lw_on rfl rfl rfl (gd_tt (by decide)) ?_; refine lw_pure (pur_eql rfl rfl) rfl ?_; refine lw_pure (pur_pick_yes rfl rfl (by decide)) rfl ?_; refine cM rfl rfl ?_; refine lw_on rfl rfl rfl (gd_tt (by decide)) ?_; refine cM rfl rfl ?_; refine lw_on rfl rfl rfl (gd_tt (by decide)) ?_; refine lw_pure (pur_eql rfl rfl) rfl ?_; refine lw_pure (pur_pick_yes rfl rfl (by decide)) rfl ?_; refine cM rfl rfl ?_; refine lw_on rfl rfl rfl (gd_tt (by decide)) ?_; refine cM rfl rfl ?_; refine lw_on rfl rfl rfl (gd_tt (by decide)) ?_; refine lw_pure (pur_eql rfl rfl) rfl ?_; refine lw_pure (pur_pick_yes rfl rfl (by decide)) rfl ?_; refine cM rfl rfl ?_; refine lw_on rfl rfl rfl (gd_tt (by decide)) ?_; refine cM rfl rfl ?_; refine lw_on rfl rfl rfl (gd_tt (by decide)) ?_; refine lw_pure (pur_eql rfl rfl) rfl ?_; refine lw_pure (pur_pick_yes rfl rfl (by decide)) rfl ?_; refine cM rfl rfl ?_; refine lw_on rfl rfl rfl (gd_tt (by decide)) ?_; refine cM rfl rfl ?_; refine lw_on rfl rfl rfl (gd_tt (by decide)) ?_; refine lw_pure (pur_eql rfl rfl) rfl ?_; refine lw_pure (pur_pick_yes rfl rfl (by decide)) rfl ?_; refine cM rfl rfl ?_; refine lw_on rfl rfl rfl (gd_tt (by decide)) ?_; refine cM rfl rfl ?_; refine lw_on rfl rfl rfl (gd_tt (by decide)) ?_; refine lw_pure (pur_eql rfl rfl) rfl ?_
  refine lw_pure (pur_pick_yes rfl rfl (by decide)) rfl ?_; refine cM rfl rfl ?_; refine lw_on rfl rfl rfl (gd_tt (by decide)) ?_; refine lw_pure (pur_fieldAddr tabOk rfl rfl rfl) rfl ?_; refine lw_on rfl rfl rfl (gd_tt (by decide)) ?_; refine lw_pure (pur_fieldAddr tabOk rfl rfl rfl) rfl ?_; refine lw_on rfl rfl rfl (gd_tt (by decide)) ?_; refine lw_load_b tabOk rfl rfl rfl h69 rfl rfl ?_; refine lw_on rfl rfl rfl (gd_tt (by decide)) ?_; refine lw_pure (pur_len_slice tabOk rfl rfl) rfl ?_; refine lw_on rfl rfl rfl (gd_tt (by decide)) ?_; refine lw_pure (pur_eql rfl rfl) rfl ?_; refine lw_pure (pur_pick_yes rfl rfl (by decide)) rfl ?_; refine cM rfl rfl ?_; refine lw_on rfl rfl rfl (gd_tt (by decide)) ?_; refine lw_pure (pur_fieldAddr tabOk rfl rfl rfl) rfl ?_; refine lw_on rfl rfl rfl (gd_tt (by decide)) ?_; refine lw_pure (pur_fieldAddr tabOk rfl rfl rfl) rfl ?_; refine lw_on rfl rfl rfl (gd_tt (by decide)) ?_; refine lw_load_b tabOk rfl rfl rfl h69 rfl rfl ?_; refine lw_on rfl rfl rfl (gd_tt (by decide)) ?_; refine lw_pure (pur_indexAddr tabOk rfl rfl rfl rfl (by omega) (by omega)) rfl ?_; refine lw_on rfl rfl rfl (gd_tt (by decide)) ?_; refine lw_pure (pur_fieldAddr0 tabOk rfl rfl rfl) rfl ?_; refine lw_on rfl rfl rfl (gd_tt (by decide)) ?_; refine lw_load_r tabOk rfl rfl rfl h61 rfl rfl ?_; refine lw_on rfl rfl rfl (gd_tt (by decide)) ?_; refine lw_pure (pur_eql rfl rfl) rfl ?_; refine lw_pure (pur_pick_yes rfl rfl (by decide)) rfl ?_; refine cM rfl rfl ?_; refine lw_on rfl rfl rfl (gd_tt (by decide)) ?_
  refine cM rfl rfl ?_; refine lw_on rfl rfl rfl (gd_tt (by decide)) ?_; refine lw_pure (pur_eql rfl rfl) rfl ?_; refine lw_pure (pur_pick_yes rfl rfl (by decide)) rfl ?_; refine cM rfl rfl ?_; refine lw_on rfl rfl rfl (gd_tt (by decide)) ?_; refine cM rfl rfl ?_; refine lw_on rfl rfl rfl (gd_tt (by decide)) ?_; refine lw_pure (pur_eql rfl rfl) rfl ?_; refine lw_pure (pur_pick_yes rfl rfl (by decide)) rfl ?_; refine cA rfl rfl (cT (cw_ret (qw_ret1 rfl rfl ?_))); rotate_left 1
 exact ⟨rfl, X⟩
end Bk
namespace Bk
open Go Go.RowKit Go.Proofs
attribute [local irreducible] Go.Calls
theorem rpeek_off {ts : List Tok} {σ : PS} (h : σ.err ≠ 0 ∨ σ.at_ = ts.length) : peekP ts σ = Tok.zero := by unfold peekP; rw [if_pos h]
theorem rpeek_is {ts : List Tok} {σ : PS} (h : ¬ (σ.err ≠ 0 ∨ σ.at_ = ts.length)) (hl : σ.at_ < ts.length) : peekP ts σ = ts[σ.at_] := by unfold peekP; rw [if_neg h]; simp [hl]
structure RC where
 pb : Nat
 B : Nat
 ts : List Tok
 n : Int
 a : Option Addr
 cap : Nat
abbrev Tok.rcells (t : Tok) : List Value := [str t.text, .int .i64 t.pos]
def RTokAt (w : World) (b o : Nat) (t : Tok) : Prop := Row w ⟨b, o, none⟩ t.rcells
abbrev RC.cells (c : RC) (σ : PS) : List Value := [.slice c.a c.ts.length c.cap, .int .i64 σ.at_, .int .i64 c.n, .int .i64 σ.err, .int .i64 σ.off]
def refName (s : List UInt8) : Bool := decide (s ≠ []) && decide (s.length ≤ 16) && (s.head?.map letter).getD false && !keyword s
structure RP (c : RC) (σ : PS) (w : World) : Prop where
 blk : Blk w c.pb (c.cells σ)
 toks : Arr (fun b => b < c.B ∧ b ≠ c.pb) 2 RTokAt w c.ts c.a
 pbB : c.pb < c.B
 B : c.B ≤ w.heap.size
 at_ : σ.at_ ≤ c.ts.length
 len : c.ts.length ≤ 1000000
 tok : ∀ t ∈ c.ts, t.text.length ≤ 1000000
 nm : ∀ t ∈ c.ts, refName t.text = isName t.text
 num : ∀ t ∈ c.ts, startsDigit t.text = true → ∀ x ∈ t.text, digit x = true
theorem RP.ext {c : RC} {σ : PS} {w w' : World} (h : RP c σ w) (x : Ext w w') : RP c σ w' :=
 ⟨h.blk.ext x, h.toks.mono (fun _ h => h) (fun _ _ _ _ _ h => Row.ext h x), h.pbB, Nat.le_trans h.B x.size, h.at_, h.len, h.tok, h.nm, h.num⟩
theorem RP.fr {c : RC} {σ : PS} {S : Nat → Prop} {w w' : World} (h : RP c σ w) (x : Fr S w w') (hs : ∀ k, S k → c.B ≤ k) : RP c σ w' :=
 ⟨h.blk.fr x (fun e => by have := hs _ e; have := h.pbB; omega), h.toks.mono (fun _ h => h) (fun b _ _ _ hb h => Row.fr h x (fun e => by have h1 := hs _ e; have h2 := hb.1; have h3 : c.B ≤ b := h1; omega)), h.pbB, Nat.le_trans h.B x.size, h.at_, h.len, h.tok, h.nm, h.num⟩
theorem RP.put {c : RC} {σ σ' : PS} {w w' : World} (h : RP c σ w) (p : Put w w' c.pb (c.cells σ')) (ha : σ'.at_ ≤ c.ts.length) : RP c σ' w' :=
 ⟨p.blk, h.toks.mono (fun _ h => h) (fun b _ _ _ hb h => Row.fr h p.fr (fun e => hb.2 e)), h.pbB, Nat.le_trans h.B p.fr.size, ha, h.len, h.tok, h.nm, h.num⟩
section
variable {P : Program} {n : Nat} {ops : Array Oper} {Q : Exit → Act → World → Prop} {rest : List Oper} {l : Sl} {w : World} {tab : Tab} {ty : TypeId} {pos : String} {after : Array Edge}
theorem lw_rp {c : RC} {σ σ' : PS} {x y : Operand} {t sz o : Nat} {s : Sk} {v : Value} (T : TabOk P tab) (ht : lookT tab t = some (s, sz)) (hsz : sz = 1) (hx : ev l x = some (.pointer (some ⟨c.pb, o, none⟩))) (hy : ev l y = some v) (hv : v.cells = #[v]) (h1 : Value.one v = true) (hP : RP c σ w) (ho : Nat.ble (o + 1) 5 = true)
 (he : (c.cells σ).set o v = c.cells σ') (ha : σ'.at_ ≤ c.ts.length) (k : ∀ w1, RP c σ' w1 → Fr (· = c.pb) w w1 → LW P n ops Q rest l w1) : LW P n ops Q (⟨none, .store t x y, ty, pos, after, none⟩ :: rest) l w :=
 lw_store T ht hx hy (us := [v]) hv (by simp [hsz]) (by simp [h1]) hP.blk (by simpa using ho) (fun w1 p => by
  have e : setMany (c.cells σ) o [v] = c.cells σ' := by simp only [setMany]; exact he
  rw [e] at p
  exact k w1 (hP.put p ha) p.fr)
theorem lw_rp_at {c : RC} {σ : PS} {x y : Operand} {t sz : Nat} {s : Sk} (T : TabOk P tab) (ht : lookT tab t = some (s, sz)) (hsz : sz = 1) (hx : ev l x = some (.pointer (some ⟨c.pb, 1, none⟩))) (hy : ev l y = some (.int .i64 ((σ.at_ : Int) + 1))) (hP : RP c σ w) (ha : σ.at_ < c.ts.length)
 (k : ∀ w1, RP c (nextP σ) w1 → Fr (· = c.pb) w w1 → LW P n ops Q rest l w1) : LW P n ops Q (⟨none, .store t x y, ty, pos, after, none⟩ :: rest) l w :=
 lw_rp (σ' := nextP σ) T ht hsz hx hy rfl rfl hP rfl rfl ha k
theorem lw_rp_err {c : RC} {σ : PS} {x y : Operand} {t sz : Nat} {s : Sk} {v : Int} (T : TabOk P tab) (ht : lookT tab t = some (s, sz)) (hsz : sz = 1) (hx : ev l x = some (.pointer (some ⟨c.pb, 3, none⟩))) (hy : ev l y = some (.int .i64 v)) (hP : RP c σ w)
 (k : ∀ w1, RP c ⟨σ.at_, σ.off, v⟩ w1 → Fr (· = c.pb) w w1 → LW P n ops Q rest l w1) : LW P n ops Q (⟨none, .store t x y, ty, pos, after, none⟩ :: rest) l w :=
 lw_rp (σ' := ⟨σ.at_, σ.off, v⟩) T ht hsz hx hy rfl rfl hP rfl rfl hP.at_ k
theorem lw_rp_off {c : RC} {σ : PS} {x y : Operand} {t sz : Nat} {s : Sk} {v : Int} (T : TabOk P tab) (ht : lookT tab t = some (s, sz)) (hsz : sz = 1) (hx : ev l x = some (.pointer (some ⟨c.pb, 4, none⟩))) (hy : ev l y = some (.int .i64 v)) (hP : RP c σ w)
 (k : ∀ w1, RP c ⟨σ.at_, v, σ.err⟩ w1 → Fr (· = c.pb) w w1 → LW P n ops Q rest l w1) : LW P n ops Q (⟨none, .store t x y, ty, pos, after, none⟩ :: rest) l w :=
 lw_rp (σ' := ⟨σ.at_, v, σ.err⟩) T ht hsz hx hy rfl rfl hP rfl rfl hP.at_ k
end
set_option maxRecDepth 100000 in
set_option maxHeartbeats 1000000 in
theorem rpeek_c (c : RC) (σ : PS) (w : World) (hP : RP c σ w) :
 Calls Tryz.prog 30 #[.pointer (some ⟨c.pb, 0, none⟩)] w fun e w' => e = .returned (str (peekP c.ts σ).text) ∧ Ext w w' := by
 have hat := hP.at_; have X := Ext.refl w
 by_cases h : σ.err ≠ 0 ∨ σ.at_ = c.ts.length
 · rw [rpeek_off h]
   by_cases he : σ.err = 0
   · have ha : σ.at_ = c.ts.length := h.resolve_left (fun e => e he)
     refine calls_in Tryz.func30 Tryz.ntmps30 rfl rfl ?_
     focus
      refine cS (cA rfl rfl (cT (cw_seq (cw_seq ?_)))); (refine cw_tdraw (fun wz => Ext w wz) 15 (.pure 0 (.pure 1 (.pure 2 (.pure 3 (.pure 4 (.pure 5 (.pure 6 (.pure 7 (.pure 8 (.pure 9 (.pure 10 (.pure 11 (.pure 12 (.pure 13 (.pure 14 .tail))))))))))))))) mixed (by kernel_rfl) (panicOk_then (panicOk_then panicOk_body)) ?_; intro w1 x2 _); have qs3 : (fun wz => Ext w wz) w1 := x2; simp only at qs3; have d_hP := hP; have z4 := x2.size; replace hP := hP.ext x2; replace X := X.ext x2; clear x2; refine ⟨qs3, ?_⟩; refine tw_pure rfl (pur_move rfl) rfl (tw_pure rfl (pur_nilCheck rfl) rfl (tw_pure rfl (pur_fieldAddr tabOk rfl rfl rfl) rfl (tw_pure rfl (pur_load tabOk rfl rfl rfl (fun wz hz => Blk.cell (Blk.ext (RP.blk d_hP) hz) rfl)) rfl (tw_pure rfl (pur_neq rfl rfl) rfl (tw_pure rfl (pur_move rfl) rfl ?_))))); refine tw_on rfl rfl rfl rfl (gd_ff (by omega)) (pur_move rfl) rfl ?_; refine tw_on rfl rfl rfl rfl (gd_ff (by omega)) (pur_nilCheck rfl) rfl ?_; refine tw_on rfl rfl rfl rfl (gd_ff (by omega)) (pur_fieldAddr tabOk rfl rfl rfl) rfl ?_; refine tw_on rfl rfl rfl rfl (gd_ff (by omega)) (pur_load tabOk rfl rfl rfl (fun wz hz => Blk.cell (Blk.ext (RP.blk d_hP) hz) rfl)) rfl ?_; refine tw_on rfl rfl rfl rfl (gd_ff (by omega)) (pur_move rfl) rfl ?_; refine tw_on rfl rfl rfl rfl (gd_ff (by omega)) (pur_nilCheck rfl) rfl ?_; refine tw_on rfl rfl rfl rfl (gd_ff (by omega)) (pur_fieldAddr0 tabOk rfl rfl rfl) rfl ?_; refine tw_on rfl rfl rfl rfl (gd_ff (by omega)) (pur_load tabOk rfl rfl rfl (fun wz hz => Blk.cell (Blk.ext (RP.blk d_hP) hz) rfl)) rfl ?_
      refine tw_on rfl rfl rfl rfl (gd_ff (by omega)) (pur_len_slice tabOk rfl rfl) rfl ?_; clear qs3 d_hP; refine tw_tail rfl ?_; refine lw_on rfl rfl rfl (gd_ff (by omega)) ?_; refine lw_pure (pur_geq rfl rfl) rfl ?_; refine lw_pure (pur_pick_no rfl rfl (by omega)) rfl ?_; refine cT ?_; refine cw_yes rfl (by omega) ?_; refine cS (cA rfl rfl (cT (cw_ret (qw_then_ret (qw_ret1 rfl rfl ?_))))); rotate_left 1
     exact ⟨rfl, X⟩
   · refine calls_in Tryz.func30 Tryz.ntmps30 rfl rfl ?_
     focus
      refine cS (cA rfl rfl (cT (cw_seq (cw_seq ?_)))); (refine cw_tdraw (fun wz => Ext w wz) 15 (.pure 0 (.pure 1 (.pure 2 (.pure 3 (.pure 4 (.pure 5 (.pure 6 (.pure 7 (.pure 8 (.pure 9 (.pure 10 (.pure 11 (.pure 12 (.pure 13 (.pure 14 .tail))))))))))))))) mixed (by kernel_rfl) (panicOk_then (panicOk_then panicOk_body)) ?_; intro wa1 xa2 _); have qsa3 : (fun wz => Ext w wz) wa1 := xa2; simp only at qsa3; have d_hP := hP; have za4 := xa2.size; replace hP := hP.ext xa2; replace X := X.ext xa2; clear xa2; refine ⟨qsa3, ?_⟩; refine tw_pure rfl (pur_move rfl) rfl (tw_pure rfl (pur_nilCheck rfl) rfl (tw_pure rfl (pur_fieldAddr tabOk rfl rfl rfl) rfl (tw_pure rfl (pur_load tabOk rfl rfl rfl (fun wz hz => Blk.cell (Blk.ext (RP.blk d_hP) hz) rfl)) rfl (tw_pure rfl (pur_neq rfl rfl) rfl (tw_pure rfl (pur_move rfl) rfl ?_))))); refine tw_off rfl rfl rfl rfl (gd_ft (by assumption)) rfl ?_; refine tw_off rfl rfl rfl rfl (gd_ft (by assumption)) rfl ?_; refine tw_off rfl rfl rfl rfl (gd_ft (by assumption)) rfl ?_; refine tw_off rfl rfl rfl rfl (gd_ft (by assumption)) rfl ?_; refine tw_off rfl rfl rfl rfl (gd_ft (by assumption)) rfl ?_; refine tw_off rfl rfl rfl rfl (gd_ft (by assumption)) rfl ?_; refine tw_off rfl rfl rfl rfl (gd_ft (by assumption)) rfl ?_; refine tw_off rfl rfl rfl rfl (gd_ft (by assumption)) rfl ?_; refine tw_off rfl rfl rfl rfl (gd_ft (by assumption)) rfl ?_; clear qsa3 d_hP; refine tw_tail rfl ?_; refine lw_off rfl rfl rfl (gd_ft (by assumption)) rfl ?_; refine lw_pure (pur_pick_yes rfl rfl (by assumption)) rfl ?_
      refine cT (cw_cond_t rfl (cS (cA rfl rfl (cT (cw_ret (qw_then_ret (qw_ret1 rfl rfl ?_))))))); rotate_left 1
     exact ⟨rfl, X⟩
 · have he : σ.err = 0 := Decidable.byContradiction fun e => h (Or.inl e)
   have hlt : σ.at_ < c.ts.length := by have : σ.at_ ≠ c.ts.length := fun e => h (Or.inr e); omega
   rw [rpeek_is h hlt]; obtain ⟨tb, to, hta, -, hrow⟩ := hP.toks.get (by omega); have hr : Row w ⟨tb, to + σ.at_ * 2, none⟩ c.ts[σ.at_].rcells := hrow σ.at_ _ (List.getElem?_eq_getElem hlt); clear hrow; refine calls_in Tryz.func30 Tryz.ntmps30 rfl rfl ?_
   focus
    refine cS (cA rfl rfl (cT (cw_seq (cw_seq ?_)))); (refine cw_tdraw (fun wz => Ext w wz) 15 (.pure 0 (.pure 1 (.pure 2 (.pure 3 (.pure 4 (.pure 5 (.pure 6 (.pure 7 (.pure 8 (.pure 9 (.pure 10 (.pure 11 (.pure 12 (.pure 13 (.pure 14 .tail))))))))))))))) mixed (by kernel_rfl) (panicOk_then (panicOk_then panicOk_body)) ?_; intro wb1 xb2 _); have qsb3 : (fun wz => Ext w wz) wb1 := xb2; simp only at qsb3; have d_hP := hP; have d_hr := hr; have zb4 := xb2.size; replace hP := hP.ext xb2; replace X := X.ext xb2; replace hr := hr.ext xb2; clear xb2; refine ⟨qsb3, ?_⟩; refine tw_pure rfl (pur_move rfl) rfl (tw_pure rfl (pur_nilCheck rfl) rfl (tw_pure rfl (pur_fieldAddr tabOk rfl rfl rfl) rfl (tw_pure rfl (pur_load tabOk rfl rfl rfl (fun wz hz => Blk.cell (Blk.ext (RP.blk d_hP) hz) rfl)) rfl (tw_pure rfl (pur_neq rfl rfl) rfl (tw_pure rfl (pur_move rfl) rfl ?_))))); refine tw_on rfl rfl rfl rfl (gd_ff (by omega)) (pur_move rfl) rfl ?_; refine tw_on rfl rfl rfl rfl (gd_ff (by omega)) (pur_nilCheck rfl) rfl ?_; refine tw_on rfl rfl rfl rfl (gd_ff (by omega)) (pur_fieldAddr tabOk rfl rfl rfl) rfl ?_; refine tw_on rfl rfl rfl rfl (gd_ff (by omega)) (pur_load tabOk rfl rfl rfl (fun wz hz => Blk.cell (Blk.ext (RP.blk d_hP) hz) rfl)) rfl ?_; refine tw_on rfl rfl rfl rfl (gd_ff (by omega)) (pur_move rfl) rfl ?_; refine tw_on rfl rfl rfl rfl (gd_ff (by omega)) (pur_nilCheck rfl) rfl ?_; refine tw_on rfl rfl rfl rfl (gd_ff (by omega)) (pur_fieldAddr0 tabOk rfl rfl rfl) rfl ?_; refine tw_on rfl rfl rfl rfl (gd_ff (by omega)) (pur_load tabOk rfl rfl rfl (fun wz hz => Blk.cell (Blk.ext (RP.blk d_hP) hz) rfl)) rfl ?_
    refine tw_on rfl rfl rfl rfl (gd_ff (by omega)) (pur_len_slice tabOk rfl rfl) rfl ?_; clear qsb3 d_hP d_hr; refine tw_tail rfl ?_; refine lw_on rfl rfl rfl (gd_ff (by omega)) ?_; refine lw_pure (pur_geq rfl rfl) rfl ?_; refine lw_pure (pur_pick_no rfl rfl (by omega)) rfl ?_; refine cT ?_; refine cw_no rfl (by omega) ?_; refine cw_skip (qw_then (cw_seq ?_)); (refine cw_tdraw (fun wz => Ext wb1 wz) 8 (.pure 0 (.pure 1 (.pure 2 (.pure 3 (.pure 4 (.pure 5 (.pure 6 (.pure 7 .tail)))))))) mixed (by kernel_rfl) (panicOk_then panicOk_body) ?_; intro wb5 xb6 _); have qsb7 : (fun wz => Ext wb1 wz) wb5 := xb6; simp only at qsb7; have d_hP := hP; have d_hr := hr; have zb8 := xb6.size; replace hP := hP.ext xb6; replace X := X.ext xb6; replace hr := hr.ext xb6; clear xb6; refine ⟨qsb7, ?_⟩; refine tw_pure rfl (pur_move rfl) rfl (tw_pure rfl (pur_nilCheck rfl) rfl (tw_pure rfl (pur_fieldAddr0 tabOk rfl rfl rfl) rfl (tw_pure rfl (pur_load tabOk rfl rfl rfl (fun wz hz => Blk.cell (Blk.ext (RP.blk d_hP) hz) rfl)) rfl (tw_pure rfl (pur_move rfl) rfl (tw_pure rfl (pur_nilCheck rfl) rfl (tw_pure rfl (pur_fieldAddr tabOk rfl rfl rfl) rfl (tw_pure rfl (pur_load tabOk rfl rfl rfl (fun wz hz => Blk.cell (Blk.ext (RP.blk d_hP) hz) rfl)) rfl ?_))))))); clear qsb7 d_hP d_hr; refine tw_tail rfl ?_; refine lw_pure (pur_indexAddr_eq tabOk rfl rfl rfl (by assumption) rfl (by omega) (by omega)) rfl ?_; refine lw_pure (pur_fieldAddr0 tabOk rfl rfl rfl) rfl (lw_load_r0 tabOk rfl rfl rfl hr rfl rfl (cA rfl rfl (cT (cw_ret (qw_ret1 rfl rfl ?_)))))
    rotate_left 1
   exact ⟨rfl, X⟩
set_option maxRecDepth 100000 in
set_option maxHeartbeats 1000000 in
theorem rpos_c (c : RC) (σ : PS) (w : World) (hP : RP c σ w) :
 Calls Tryz.prog 32 #[.pointer (some ⟨c.pb, 0, none⟩)] w fun e w' => e = .returned (.int .i64 (posR c.ts c.n σ)) ∧ Ext w w' := by
 have hat := hP.at_; have X := Ext.refl w
 by_cases hlt : σ.at_ < c.ts.length
 · rw [show posR c.ts c.n σ = (c.ts[σ.at_]).pos from by unfold posR; rw [if_neg (by omega)]; simp [hlt]]
   obtain ⟨tb, to, hta, -, hrow⟩ := hP.toks.get (by omega); have hr : Row w ⟨tb, to + σ.at_ * 2, none⟩ c.ts[σ.at_].rcells := hrow σ.at_ _ (List.getElem?_eq_getElem hlt); clear hrow; refine calls_in Tryz.func32 Tryz.ntmps32 rfl rfl ?_
   focus
    refine cS (cA rfl rfl (cT (cw_seq (cw_seq ?_)))); (refine cw_tdraw (fun wz => Ext w wz) 9 (.pure 0 (.pure 1 (.pure 2 (.pure 3 (.pure 4 (.pure 5 (.pure 6 (.pure 7 (.pure 8 .tail))))))))) mixed (by kernel_rfl) (panicOk_then (panicOk_then panicOk_body)) ?_; intro w1 x2 _); have qs3 : (fun wz => Ext w wz) w1 := x2; simp only at qs3; have d_hP := hP; have d_hr := hr; have z4 := x2.size; replace hP := hP.ext x2; replace X := X.ext x2; replace hr := hr.ext x2; clear x2; refine ⟨qs3, ?_⟩; refine tw_pure rfl (pur_move rfl) rfl (tw_pure rfl (pur_nilCheck rfl) rfl (tw_pure rfl (pur_fieldAddr tabOk rfl rfl rfl) rfl (tw_pure rfl (pur_load tabOk rfl rfl rfl (fun wz hz => Blk.cell (Blk.ext (RP.blk d_hP) hz) rfl)) rfl (tw_pure rfl (pur_move rfl) rfl (tw_pure rfl (pur_nilCheck rfl) rfl (tw_pure rfl (pur_fieldAddr0 tabOk rfl rfl rfl) rfl (tw_pure rfl (pur_load tabOk rfl rfl rfl (fun wz hz => Blk.cell (Blk.ext (RP.blk d_hP) hz) rfl)) rfl (tw_pure rfl (pur_len_slice tabOk rfl rfl) rfl ?_)))))))); clear qs3 d_hP d_hr; refine tw_tail rfl (lw_pure (pur_geq rfl rfl) rfl (cT ?_)); refine cw_no rfl (by omega) ?_; refine cw_skip (qw_then (cw_seq ?_)); (refine cw_tdraw (fun wz => Ext w1 wz) 8 (.pure 0 (.pure 1 (.pure 2 (.pure 3 (.pure 4 (.pure 5 (.pure 6 (.pure 7 .tail)))))))) mixed (by kernel_rfl) (panicOk_then panicOk_body) ?_; intro w5 x6 _); have qs7 : (fun wz => Ext w1 wz) w5 := x6; simp only at qs7; have d_hP := hP; have d_hr := hr; have z8 := x6.size; replace hP := hP.ext x6; replace X := X.ext x6
    replace hr := hr.ext x6; clear x6; refine ⟨qs7, ?_⟩; refine tw_pure rfl (pur_move rfl) rfl (tw_pure rfl (pur_nilCheck rfl) rfl (tw_pure rfl (pur_fieldAddr0 tabOk rfl rfl rfl) rfl (tw_pure rfl (pur_load tabOk rfl rfl rfl (fun wz hz => Blk.cell (Blk.ext (RP.blk d_hP) hz) rfl)) rfl (tw_pure rfl (pur_move rfl) rfl (tw_pure rfl (pur_nilCheck rfl) rfl (tw_pure rfl (pur_fieldAddr tabOk rfl rfl rfl) rfl (tw_pure rfl (pur_load tabOk rfl rfl rfl (fun wz hz => Blk.cell (Blk.ext (RP.blk d_hP) hz) rfl)) rfl ?_))))))); clear qs7 d_hP d_hr; refine tw_tail rfl ?_; refine lw_pure (pur_indexAddr_eq tabOk rfl rfl rfl (by assumption) rfl (by omega) (by omega)) rfl ?_; refine lw_pure (pur_fieldAddr tabOk rfl rfl rfl) rfl (lw_load_r tabOk rfl rfl rfl hr rfl rfl (cA rfl rfl (cT (cw_ret (qw_ret1 rfl rfl ?_))))); rotate_left 1
   exact ⟨rfl, X⟩
 · rw [show posR c.ts c.n σ = c.n from by unfold posR; rw [if_pos (by omega)]]
   refine calls_in Tryz.func32 Tryz.ntmps32 rfl rfl ?_
   focus
    refine cS (cA rfl rfl (cT (cw_seq (cw_seq ?_)))); (refine cw_tdraw (fun wz => Ext w wz) 9 (.pure 0 (.pure 1 (.pure 2 (.pure 3 (.pure 4 (.pure 5 (.pure 6 (.pure 7 (.pure 8 .tail))))))))) mixed (by kernel_rfl) (panicOk_then (panicOk_then panicOk_body)) ?_; intro wa1 xa2 _); have qsa3 : (fun wz => Ext w wz) wa1 := xa2; simp only at qsa3; have d_hP := hP; have za4 := xa2.size; replace hP := hP.ext xa2; replace X := X.ext xa2; clear xa2; refine ⟨qsa3, ?_⟩; refine tw_pure rfl (pur_move rfl) rfl (tw_pure rfl (pur_nilCheck rfl) rfl (tw_pure rfl (pur_fieldAddr tabOk rfl rfl rfl) rfl (tw_pure rfl (pur_load tabOk rfl rfl rfl (fun wz hz => Blk.cell (Blk.ext (RP.blk d_hP) hz) rfl)) rfl (tw_pure rfl (pur_move rfl) rfl (tw_pure rfl (pur_nilCheck rfl) rfl (tw_pure rfl (pur_fieldAddr0 tabOk rfl rfl rfl) rfl (tw_pure rfl (pur_load tabOk rfl rfl rfl (fun wz hz => Blk.cell (Blk.ext (RP.blk d_hP) hz) rfl)) rfl (tw_pure rfl (pur_len_slice tabOk rfl rfl) rfl ?_)))))))); clear qsa3 d_hP; refine tw_tail rfl (lw_pure (pur_geq rfl rfl) rfl (cT ?_)); refine cw_yes rfl (by omega) ?_; refine cS (cM rfl rfl (lw_pure (pur_nilCheck rfl) rfl (lw_pure (pur_fieldAddr tabOk rfl rfl rfl) rfl (lw_load_b tabOk rfl rfl rfl (RP.blk hP) rfl rfl (cA rfl rfl (cT (cw_ret (qw_then_ret (qw_ret1 rfl rfl ?_))))))))); rotate_left 1
   exact ⟨rfl, X⟩
set_option maxRecDepth 100000 in
set_option maxHeartbeats 1000000 in
theorem rfail_c (c : RC) (σ : PS) (e off : Int) (w : World) (hP : RP c σ w) :
 Calls Tryz.prog 31 #[.pointer (some ⟨c.pb, 0, none⟩), .int .i64 e, .int .i64 off] w fun r w' => r = .returned (.tuple #[]) ∧ RP c (failP σ off e) w' ∧ Fr (· = c.pb) w w' := by
 have X := Fr.refl (· = c.pb) w
 by_cases he : σ.err = 0
 · rw [show failP σ off e = ⟨σ.at_, off, e⟩ from by simp [failP, he]]
   refine calls_in Tryz.func31 Tryz.ntmps31 rfl rfl ?_
   focus
    refine cS (cM rfl rfl (lw_pure (pur_nilCheck rfl) rfl (lw_pure (pur_fieldAddr tabOk rfl rfl rfl) rfl (lw_load_b tabOk rfl rfl rfl (RP.blk hP) rfl rfl (lw_pure (pur_eql rfl rfl) rfl (cT ?_)))))); refine cw_yes rfl (by assumption) ?_; refine cS (cM rfl rfl (cM rfl rfl (lw_pure (pur_nilCheck rfl) rfl (lw_pure (pur_fieldAddr tabOk rfl rfl rfl) rfl (lw_rp_err tabOk rfl rfl rfl rfl hP ?_))))); rintro w1 h2 f3; have z4 := f3.size; clear hP; replace X := X.fr f3 (by omega); clear f3; refine cT (cw_region (cM rfl rfl (cM rfl rfl (lw_pure (pur_nilCheck rfl) rfl (lw_pure (pur_fieldAddr tabOk rfl rfl rfl) rfl ?_))))); refine lw_rp_off tabOk rfl rfl rfl rfl (by assumption) ?_; rintro w5 h6 f7; have z8 := f7.size; clear h2; replace X := X.fr f7 (by omega); clear f7; refine lw_nil (qw_end0 rfl ?_); rotate_left 1
   exact ⟨rfl, by assumption, X⟩
 · rw [show failP σ off e = σ from by simp [failP, he]]
   refine calls_in Tryz.func31 Tryz.ntmps31 rfl rfl ?_
   focus
    refine cS (cM rfl rfl (lw_pure (pur_nilCheck rfl) rfl (lw_pure (pur_fieldAddr tabOk rfl rfl rfl) rfl (lw_load_b tabOk rfl rfl rfl (RP.blk hP) rfl rfl (lw_pure (pur_eql rfl rfl) rfl (cT ?_)))))); refine cw_no rfl (by assumption) ?_; refine cw_skip (qw_end0 rfl ?_); rotate_left 1
   exact ⟨rfl, hP, X⟩
theorem posR_in {ts : List Tok} {n : Int} {σ : PS} (h : σ.at_ < ts.length) : posR ts n σ = (ts.getD σ.at_ Tok.zero).pos := by unfold posR; rw [if_neg (by omega)]
set_option maxRecDepth 100000 in
set_option maxHeartbeats 1000000 in
theorem rwrong_c (c : RC) (σ : PS) (w : World) (hP : RP c σ w) :
 Calls Tryz.prog 42 #[.pointer (some ⟨c.pb, 0, none⟩)] w fun r w' => r = .returned (.tuple #[]) ∧ RP c (unexpP c.ts c.n σ) w' ∧ Fr (· = c.pb) w w' := by
 have X := Fr.refl (· = c.pb) w
 by_cases hlt : σ.at_ < c.ts.length
 · rw [show unexpP c.ts c.n σ = failP σ (posR c.ts c.n σ) 3 from by rw [posR_in hlt]; simp [unexpP, hlt]]
   refine calls_in Tryz.func42 Tryz.ntmps42 rfl rfl ?_
   focus
    refine cw_seq ?_; (refine cw_tdraw (fun wz => Ext w wz) 9 (.pure 0 (.pure 1 (.pure 2 (.pure 3 (.pure 4 (.pure 5 (.pure 6 (.pure 7 (.pure 8 .tail))))))))) mixed (by kernel_rfl) (panicOk_then panicOk_body) ?_; intro w1 x2 _); have qs3 : (fun wz => Ext w wz) w1 := x2; simp only at qs3; have d_hP := hP; have z4 := x2.size; replace hP := hP.ext x2; replace X := X.ext x2; clear x2; refine ⟨qs3, ?_⟩; refine tw_pure rfl (pur_move rfl) rfl (tw_pure rfl (pur_nilCheck rfl) rfl (tw_pure rfl (pur_fieldAddr tabOk rfl rfl rfl) rfl (tw_pure rfl (pur_load tabOk rfl rfl rfl (fun wz hz => Blk.cell (Blk.ext (RP.blk d_hP) hz) rfl)) rfl (tw_pure rfl (pur_move rfl) rfl (tw_pure rfl (pur_nilCheck rfl) rfl (tw_pure rfl (pur_fieldAddr0 tabOk rfl rfl rfl) rfl (tw_pure rfl (pur_load tabOk rfl rfl rfl (fun wz hz => Blk.cell (Blk.ext (RP.blk d_hP) hz) rfl)) rfl (tw_pure rfl (pur_len_slice tabOk rfl rfl) rfl ?_)))))))); clear qs3 d_hP; refine tw_tail rfl (lw_pure (pur_geq rfl rfl) rfl (cT ?_)); refine cw_no rfl (by omega) ?_; refine cw_region (cM rfl rfl (cM rfl rfl ?_)); refine cC (by kernel_rfl) rfl (rpos_c _ _ _ (by assumption)) rfl ?_; rintro _ w6 ⟨⟨⟩, x5⟩; have z7 := x5.size; replace hP := hP.ext x5; replace X := X.ext x5; clear x5; refine cC (by kernel_rfl) rfl (rfail_c _ _ _ _ _ (by assumption)) rfl ?_; rintro _ w10 ⟨⟨⟩, ⟨h8, f9⟩⟩; have z11 := f9.size; clear hP; replace X := X.fr f9 (by omega); clear f9; refine lw_nil (qw_end0 rfl ?_); rotate_left 1
   exact ⟨rfl, by assumption, X⟩
 · rw [show unexpP c.ts c.n σ = failP σ c.n 4 from by simp [unexpP, hlt]]
   refine calls_in Tryz.func42 Tryz.ntmps42 rfl rfl ?_
   focus
    refine cw_seq ?_; (refine cw_tdraw (fun wz => Ext w wz) 9 (.pure 0 (.pure 1 (.pure 2 (.pure 3 (.pure 4 (.pure 5 (.pure 6 (.pure 7 (.pure 8 .tail))))))))) mixed (by kernel_rfl) (panicOk_then panicOk_body) ?_; intro wa1 xa2 _); have qsa3 : (fun wz => Ext w wz) wa1 := xa2; simp only at qsa3; have d_hP := hP; have za4 := xa2.size; replace hP := hP.ext xa2; replace X := X.ext xa2; clear xa2; refine ⟨qsa3, ?_⟩; refine tw_pure rfl (pur_move rfl) rfl (tw_pure rfl (pur_nilCheck rfl) rfl (tw_pure rfl (pur_fieldAddr tabOk rfl rfl rfl) rfl (tw_pure rfl (pur_load tabOk rfl rfl rfl (fun wz hz => Blk.cell (Blk.ext (RP.blk d_hP) hz) rfl)) rfl (tw_pure rfl (pur_move rfl) rfl (tw_pure rfl (pur_nilCheck rfl) rfl (tw_pure rfl (pur_fieldAddr0 tabOk rfl rfl rfl) rfl (tw_pure rfl (pur_load tabOk rfl rfl rfl (fun wz hz => Blk.cell (Blk.ext (RP.blk d_hP) hz) rfl)) rfl (tw_pure rfl (pur_len_slice tabOk rfl rfl) rfl ?_)))))))); clear qsa3 d_hP; refine tw_tail rfl (lw_pure (pur_geq rfl rfl) rfl (cT ?_)); refine cw_yes rfl (by omega) ?_; refine cw_region (cM rfl rfl (cM rfl rfl (lw_pure (pur_nilCheck rfl) rfl (lw_pure (pur_fieldAddr tabOk rfl rfl rfl) rfl (lw_load_b tabOk rfl rfl rfl (RP.blk hP) rfl rfl ?_))))); refine cC (by kernel_rfl) rfl (rfail_c _ _ _ _ _ (by assumption)) rfl ?_; rintro _ wa7 ⟨⟨⟩, ⟨ha5, fa6⟩⟩; have za8 := fa6.size; clear hP; replace X := X.fr fa6 (by omega); clear fa6; refine lw_nil (qw_end0 rfl ?_); rotate_left 1
   exact ⟨rfl, by assumption, X⟩
set_option maxRecDepth 100000 in
set_option maxHeartbeats 1000000 in
theorem rhas_c (c : RC) (σ : PS) (t : List UInt8) (w : World) (hP : RP c σ w) (ht : t ≠ []) :
 Calls Tryz.prog 35 #[.pointer (some ⟨c.pb, 0, none⟩), str t] w fun r w' => r = .returned (.bool (hasP c.ts σ t)) ∧ RP c (acceptP c.ts σ t) w' ∧ Fr (· = c.pb) w w' := by
 have X := Fr.refl (· = c.pb) w; have hl := hP.len
 by_cases h : (peekP c.ts σ).text = t
 · have h1 : hasP c.ts σ t = true := by simp [hasP, h]
   rw [show acceptP c.ts σ t = nextP σ from by simp [acceptP, h1], h1]; obtain ⟨h2, h3⟩ := has_in hP.at_ h1 ht; refine calls_in Tryz.func35 Tryz.ntmps35 rfl rfl ?_
   focus
    refine cS (cA rfl rfl (cT (cw_seq (cS (cM rfl rfl (lw_pure (pur_nilCheck rfl) rfl (lw_pure (pur_fieldAddr tabOk rfl rfl rfl) rfl (lw_load_b tabOk rfl rfl rfl (RP.blk hP) rfl rfl (lw_pure (pur_neq rfl rfl) rfl (cM rfl rfl ?_)))))))))); refine lw_on rfl rfl rfl (gd_ff (by omega)) ?_; refine cM rfl rfl ?_; refine lw_on rfl rfl rfl (gd_ff (by omega)) ?_; refine cC (by kernel_rfl) rfl (rpeek_c _ _ _ (by assumption)) rfl ?_; rintro _ w2 ⟨⟨⟩, x1⟩; have z3 := x1.size; replace hP := hP.ext x1; replace X := X.ext x1; clear x1; refine lw_on rfl rfl rfl (gd_ff (by omega)) ?_; refine cM rfl rfl ?_; refine lw_on rfl rfl rfl (gd_ff (by omega)) ?_; refine lw_pure (pur_sneq rfl rfl) rfl ?_; refine lw_pure (pur_pick_no rfl rfl (by omega)) rfl ?_; refine cT ?_; refine cw_no rfl (not_not_intro (by assumption)) ?_; refine cw_skip (qw_then (cS (cM rfl rfl (cM rfl rfl (lw_pure (pur_nilCheck rfl) rfl (lw_pure (pur_fieldAddr tabOk rfl rfl rfl) rfl (lw_load_b tabOk rfl rfl rfl (RP.blk hP) rfl rfl ?_))))))); refine lw_pure (pur_add rfl rfl (IntWalk.i64_in _ (by omega))) rfl ?_; refine lw_pure (pur_nilCheck rfl) rfl (lw_pure (pur_fieldAddr tabOk rfl rfl rfl) rfl ?_); refine lw_rp_at tabOk rfl rfl rfl rfl (by assumption) h3 ?_; rintro w4 h5 f6; have z7 := f6.size; clear hP; replace X := X.fr f6 (by omega); clear f6; refine cN (cA rfl rfl (cT (cw_ret (qw_ret1 rfl rfl ?_)))); rotate_left 1
   exact ⟨rfl, by assumption, X⟩
 · have h1 : hasP c.ts σ t = false := by simp [hasP, h]
   rw [show acceptP c.ts σ t = σ from by simp [acceptP, h1], h1]
   by_cases h0 : σ.err = 0
   · refine calls_in Tryz.func35 Tryz.ntmps35 rfl rfl ?_
     focus
      refine cS (cA rfl rfl (cT (cw_seq (cS (cM rfl rfl (lw_pure (pur_nilCheck rfl) rfl (lw_pure (pur_fieldAddr tabOk rfl rfl rfl) rfl (lw_load_b tabOk rfl rfl rfl (RP.blk hP) rfl rfl (lw_pure (pur_neq rfl rfl) rfl (cM rfl rfl ?_)))))))))); refine lw_on rfl rfl rfl (gd_ff (by omega)) ?_; refine cM rfl rfl ?_; refine lw_on rfl rfl rfl (gd_ff (by omega)) ?_; refine cC (by kernel_rfl) rfl (rpeek_c _ _ _ (by assumption)) rfl ?_; rintro _ wa2 ⟨⟨⟩, xa1⟩; have za3 := xa1.size; replace hP := hP.ext xa1; replace X := X.ext xa1; clear xa1; refine lw_on rfl rfl rfl (gd_ff (by omega)) ?_; refine cM rfl rfl ?_; refine lw_on rfl rfl rfl (gd_ff (by omega)) ?_; refine lw_pure (pur_sneq rfl rfl) rfl ?_; refine lw_pure (pur_pick_no rfl rfl (by omega)) rfl ?_; refine cT ?_; refine cw_yes rfl (by assumption) ?_; refine cS (cA rfl rfl (cT (cw_ret (qw_then_ret (qw_ret1 rfl rfl ?_))))); rotate_left 1
     exact ⟨rfl, by assumption, X⟩
   · refine calls_in Tryz.func35 Tryz.ntmps35 rfl rfl ?_
     focus
      refine cS (cA rfl rfl (cT (cw_seq (cS (cM rfl rfl (lw_pure (pur_nilCheck rfl) rfl (lw_pure (pur_fieldAddr tabOk rfl rfl rfl) rfl (lw_load_b tabOk rfl rfl rfl (RP.blk hP) rfl rfl (lw_pure (pur_neq rfl rfl) rfl (cM rfl rfl ?_)))))))))); refine lw_off rfl rfl rfl (gd_ft (by assumption)) rfl ?_; refine lw_off rfl rfl rfl (gd_ft (by assumption)) rfl ?_; refine lw_off rfl rfl rfl (gd_ft (by assumption)) rfl ?_; refine lw_off rfl rfl rfl (gd_ft (by assumption)) rfl ?_; refine lw_pure (pur_pick_yes rfl rfl (by assumption)) rfl ?_; refine cT (cw_cond_t rfl (cS (cA rfl rfl (cT (cw_ret (qw_then_ret (qw_ret1 rfl rfl ?_))))))); rotate_left 1
     exact ⟨rfl, by assumption, X⟩
theorem rhas_t (c : RC) (σ : PS) (t : List UInt8) (w : World) (hP : RP c σ w) (ht : t ≠ []) (h : hasP c.ts σ t = true) :
 Calls Tryz.prog 35 #[.pointer (some ⟨c.pb, 0, none⟩), str t] w fun r w' => r = .returned (.bool true) ∧ RP c (nextP σ) w' ∧ Fr (· = c.pb) w w' := by
 have := rhas_c c σ t w hP ht; rw [show acceptP c.ts σ t = nextP σ from by simp [acceptP, h], h] at this
 exact this
theorem rhas_f (c : RC) (σ : PS) (t : List UInt8) (w : World) (hP : RP c σ w) (ht : t ≠ []) (h : hasP c.ts σ t = false) :
 Calls Tryz.prog 35 #[.pointer (some ⟨c.pb, 0, none⟩), str t] w fun r w' => r = .returned (.bool false) ∧ RP c σ w' ∧ Fr (· = c.pb) w w' := by
 have := rhas_c c σ t w hP ht; rw [show acceptP c.ts σ t = σ from by simp [acceptP, h], h] at this
 exact this
set_option maxRecDepth 100000 in
set_option maxHeartbeats 1000000 in
theorem rtake_c (c : RC) (σ : PS) (t : List UInt8) (w : World) (hP : RP c σ w) (ht : t ≠ []) :
 Calls Tryz.prog 34 #[.pointer (some ⟨c.pb, 0, none⟩), str t] w fun r w' => r = .returned (.tuple #[]) ∧ RP c (expectP c.ts c.n σ t) w' ∧ Fr (· = c.pb) w w' := by
 have X := Fr.refl (· = c.pb) w; have hl := hP.len
 by_cases h0 : σ.err = 0
 · by_cases h : (peekP c.ts σ).text = t
   · have h1 : hasP c.ts σ t = true := by simp [hasP, h]
     rw [show expectP c.ts c.n σ t = nextP σ from by simp [expectP, h1]]; obtain ⟨h2, h3⟩ := has_in hP.at_ h1 ht; refine calls_in Tryz.func34 Tryz.ntmps34 rfl rfl ?_
     focus
      refine cw_seq (cS (cM rfl rfl (lw_pure (pur_nilCheck rfl) rfl (lw_pure (pur_fieldAddr tabOk rfl rfl rfl) rfl (lw_load_b tabOk rfl rfl rfl (RP.blk hP) rfl rfl (lw_pure (pur_neq rfl rfl) rfl (cT ?_))))))); refine cw_no rfl (by omega) ?_; refine cw_skip (qw_then (cw_seq (cS (cM rfl rfl ?_)))); refine cC (by kernel_rfl) rfl (rpeek_c _ _ _ (by assumption)) rfl ?_; rintro _ w2 ⟨⟨⟩, x1⟩; have z3 := x1.size; replace hP := hP.ext x1; replace X := X.ext x1; clear x1; refine cM rfl rfl (lw_pure (pur_sneq rfl rfl) rfl (cT ?_)); refine cw_no rfl (not_not_intro (by assumption)) ?_; refine cw_skip (qw_then (cw_region (cM rfl rfl (cM rfl rfl (lw_pure (pur_nilCheck rfl) rfl (lw_pure (pur_fieldAddr tabOk rfl rfl rfl) rfl (lw_load_b tabOk rfl rfl rfl (RP.blk hP) rfl rfl ?_))))))); refine lw_pure (pur_add rfl rfl (IntWalk.i64_in _ (by omega))) rfl ?_; refine lw_pure (pur_nilCheck rfl) rfl (lw_pure (pur_fieldAddr tabOk rfl rfl rfl) rfl ?_); refine lw_rp_at tabOk rfl rfl rfl rfl (by assumption) h3 ?_; rintro w4 h5 f6; have z7 := f6.size; clear hP; replace X := X.fr f6 (by omega); clear f6; refine lw_nil (qw_end0 rfl ?_); rotate_left 1
     exact ⟨rfl, by assumption, X⟩
   · have h1 : hasP c.ts σ t = false := by simp [hasP, h]
     rw [show expectP c.ts c.n σ t = unexpP c.ts c.n σ from by simp [expectP, h1]]; refine calls_in Tryz.func34 Tryz.ntmps34 rfl rfl ?_
     focus
      refine cw_seq (cS (cM rfl rfl (lw_pure (pur_nilCheck rfl) rfl (lw_pure (pur_fieldAddr tabOk rfl rfl rfl) rfl (lw_load_b tabOk rfl rfl rfl (RP.blk hP) rfl rfl (lw_pure (pur_neq rfl rfl) rfl (cT ?_))))))); refine cw_no rfl (by omega) ?_; refine cw_skip (qw_then (cw_seq (cS (cM rfl rfl ?_)))); refine cC (by kernel_rfl) rfl (rpeek_c _ _ _ (by assumption)) rfl ?_; rintro _ wa2 ⟨⟨⟩, xa1⟩; have za3 := xa1.size; replace hP := hP.ext xa1; replace X := X.ext xa1; clear xa1; refine cM rfl rfl (lw_pure (pur_sneq rfl rfl) rfl (cT ?_)); refine cw_yes rfl (by assumption) ?_; refine cS (cM rfl rfl ?_); refine cC (by kernel_rfl) rfl (rwrong_c _ _ _ (by assumption)) rfl ?_; rintro _ wa6 ⟨⟨⟩, ⟨ha4, fa5⟩⟩; have za7 := fa5.size; clear hP; replace X := X.fr fa5 (by omega); clear fa5; refine cT (cw_ret (qw_then_ret (qw_ret0 rfl ?_))); rotate_left 1
     exact ⟨rfl, by assumption, X⟩
 · have h1 : hasP c.ts σ t = false := by
    unfold hasP
    rw [rpeek_off (Or.inl h0)]
    exact decide_eq_false (fun e => ht e.symm)
   have h2 : expectP c.ts c.n σ t = σ := by
    simp only [expectP, h1, Bool.false_eq_true, if_false, unexpP]
    split <;> simp [failP, h0]
   rw [h2]; refine calls_in Tryz.func34 Tryz.ntmps34 rfl rfl ?_
   focus
    refine cw_seq (cS (cM rfl rfl (lw_pure (pur_nilCheck rfl) rfl (lw_pure (pur_fieldAddr tabOk rfl rfl rfl) rfl (lw_load_b tabOk rfl rfl rfl (RP.blk hP) rfl rfl (lw_pure (pur_neq rfl rfl) rfl (cT ?_))))))); refine cw_yes rfl (by assumption) ?_; refine cw_ret (qw_then_ret (qw_ret0 rfl ?_)); rotate_left 1
   exact ⟨rfl, by assumption, X⟩
end Bk
namespace Bk
open Go Go.RowKit Go.Proofs
attribute [local irreducible] Go.Calls
theorem Row.nth {w : World} {b j : Nat} {l : List (List UInt8)} (h : Row w ⟨b, 0, none⟩ (l.map str)) (hj : j < l.length) : Row w ⟨b, 0 + j * 1, none⟩ [str l[j]] := by
 have h1 := h.sub j 1
 have e : ((l.map str).drop j).take 1 = [str l[j]] := by
  rw [List.drop_eq_getElem_cons (by simpa using hj)]; simp
 rw [e] at h1
 rw [Nat.mul_one]; exact h1
set_option maxRecDepth 100000 in
set_option maxHeartbeats 1000000 in
theorem rletter_c (c : UInt8) (w : World) : Calls Tryz.prog 109 #[.int .u8 c.toNat] w fun e w' => e = .returned (.bool (letter c)) ∧ w = w' := by
 by_cases h1 : 97 ≤ c.toNat
 · by_cases h2 : c.toNat ≤ 122
   · rw [show letter c = true from by simp [letter, h1, h2]]
     have h3 : ((c.toNat : Nat) : Int) ≤ 122 := by omega
     refine calls_in Tryz.func109 Tryz.ntmps109 rfl rfl ?_
     focus
      refine cS (cA rfl rfl (cN (cM rfl rfl (lw_pure (pur_geq rfl rfl) rfl (cM rfl rfl ?_))))); refine lw_on rfl rfl rfl (gd_tt (by omega)) ?_; refine cM rfl rfl ?_; refine lw_on rfl rfl rfl (gd_tt (by omega)) ?_; refine lw_pure (pur_leq rfl rfl) rfl ?_; refine lw_pure (pur_pick_yes rfl rfl (by omega)) rfl ?_; refine cA rfl rfl (cT (cw_ret (qw_ret1 rfl rfl ?_))); rotate_left 1
     exact ⟨by rw [decide_eq_true h3], rfl⟩
   · rw [show letter c = false from by simp [letter, h2]]
     have h3 : ¬ ((c.toNat : Nat) : Int) ≤ 122 := by omega
     refine calls_in Tryz.func109 Tryz.ntmps109 rfl rfl ?_
     focus
      refine cS (cA rfl rfl (cN (cM rfl rfl (lw_pure (pur_geq rfl rfl) rfl (cM rfl rfl ?_))))); refine lw_on rfl rfl rfl (gd_tt (by omega)) ?_; refine cM rfl rfl ?_; refine lw_on rfl rfl rfl (gd_tt (by omega)) ?_; refine lw_pure (pur_leq rfl rfl) rfl ?_; refine lw_pure (pur_pick_yes rfl rfl (by omega)) rfl ?_; refine cA rfl rfl (cT (cw_ret (qw_ret1 rfl rfl ?_))); rotate_left 1
     exact ⟨by rw [decide_eq_false h3], rfl⟩
 · rw [show letter c = false from by simp [letter, h1]]
   refine calls_in Tryz.func109 Tryz.ntmps109 rfl rfl ?_
   focus
    refine cS (cA rfl rfl (cN (cM rfl rfl (lw_pure (pur_geq rfl rfl) rfl (cM rfl rfl ?_))))); refine lw_off rfl rfl rfl (gd_tf (by omega)) rfl ?_; refine lw_off rfl rfl rfl (gd_tf (by omega)) rfl ?_; refine lw_pure (pur_pick_no rfl rfl (by omega)) rfl ?_; refine cA rfl rfl (cT (cw_ret (qw_ret1 rfl rfl ?_))); rotate_left 1
   exact ⟨rfl, rfl⟩
set_option maxRecDepth 100000 in
set_option maxHeartbeats 1000000 in
theorem rdigit_c (c : UInt8) (w : World) : Calls Tryz.prog 110 #[.int .u8 c.toNat] w fun e w' => e = .returned (.bool (digit c)) ∧ w = w' := by
 by_cases h1 : 48 ≤ c.toNat
 · by_cases h2 : c.toNat ≤ 57
   · rw [show digit c = true from by simp [digit, h1, h2]]
     have h3 : ((c.toNat : Nat) : Int) ≤ 57 := by omega
     refine calls_in Tryz.func110 Tryz.ntmps110 rfl rfl ?_
     focus
      refine cS (cA rfl rfl (cN (cM rfl rfl (lw_pure (pur_geq rfl rfl) rfl (cM rfl rfl ?_))))); refine lw_on rfl rfl rfl (gd_tt (by omega)) ?_; refine cM rfl rfl ?_; refine lw_on rfl rfl rfl (gd_tt (by omega)) ?_; refine lw_pure (pur_leq rfl rfl) rfl ?_; refine lw_pure (pur_pick_yes rfl rfl (by omega)) rfl ?_; refine cA rfl rfl (cT (cw_ret (qw_ret1 rfl rfl ?_))); rotate_left 1
     exact ⟨by rw [decide_eq_true h3], rfl⟩
   · rw [show digit c = false from by simp [digit, h2]]
     have h3 : ¬ ((c.toNat : Nat) : Int) ≤ 57 := by omega
     refine calls_in Tryz.func110 Tryz.ntmps110 rfl rfl ?_
     focus
      refine cS (cA rfl rfl (cN (cM rfl rfl (lw_pure (pur_geq rfl rfl) rfl (cM rfl rfl ?_))))); refine lw_on rfl rfl rfl (gd_tt (by omega)) ?_; refine cM rfl rfl ?_; refine lw_on rfl rfl rfl (gd_tt (by omega)) ?_; refine lw_pure (pur_leq rfl rfl) rfl ?_; refine lw_pure (pur_pick_yes rfl rfl (by omega)) rfl ?_; refine cA rfl rfl (cT (cw_ret (qw_ret1 rfl rfl ?_))); rotate_left 1
     exact ⟨by rw [decide_eq_false h3], rfl⟩
 · rw [show digit c = false from by simp [digit, h1]]
   refine calls_in Tryz.func110 Tryz.ntmps110 rfl rfl ?_
   focus
    refine cS (cA rfl rfl (cN (cM rfl rfl (lw_pure (pur_geq rfl rfl) rfl (cM rfl rfl ?_))))); refine lw_off rfl rfl rfl (gd_tf (by omega)) rfl ?_; refine lw_off rfl rfl rfl (gd_tf (by omega)) rfl ?_; refine lw_pure (pur_pick_no rfl rfl (by omega)) rfl ?_; refine cA rfl rfl (cT (cw_ret (qw_ret1 rfl rfl ?_))); rotate_left 1
   exact ⟨rfl, rfl⟩
set_option maxRecDepth 100000 in
set_option maxHeartbeats 1000000 in
theorem rwords_c (w : World) : Calls Tryz.prog 112 #[] w fun e w' => ∃ b, e = .returned (.slice (some ⟨b, 0, none⟩) 23 23) ∧ Row w' ⟨b, 0, none⟩ (keywords.map str) ∧ Ext w w' := by
 have X := Ext.refl w; refine calls_in (args := []) Tryz.func112 Tryz.ntmps112 rfl rfl ?_
 focus
  refine cS (cA rfl rfl (cN ?_)); (refine lw_does (does_slice' [_, _, _, _, _, _, _, _, _, _, _, _, _, _, _, _, _, _, _, _, _, _, _] tabOk zOk rfl rfl rfl rfl rfl rfl rfl rfl rfl) rfl ?_ (fun _ h => h); rintro _ w2 ⟨b1, rfl, n3, t4⟩); clear t4; have h5 := n3.blk; have x6 := n3.ext; have p7 := n3.pos; have z8 := n3.size; clear n3; replace X := X.ext x6; clear x6; refine cA rfl rfl (cT (cw_ret (qw_ret1 rfl rfl ?_))); rotate_left 1
 exact ⟨_, rfl, Blk.row (by assumption), X⟩
def idxF : List (List UInt8) → List UInt8 → Nat → Int
 | [], _, _ => -1
 | x :: r, s, i => if x = s then (i : Int) else idxF r s (i + 1)
theorem idxF_drop {l : List (List UInt8)} {s : List UInt8} {j : Nat} (h : j < l.length) : idxF (l.drop j) s j = if l[j] = s then (j : Int) else idxF (l.drop (j + 1)) s (j + 1) := by
 rw [List.drop_eq_getElem_cons h, idxF]
set_option maxRecDepth 100000 in
set_option maxHeartbeats 1000000 in
theorem rindex_c (l : List (List UInt8)) (s : List UInt8) (b cap : Nat) (w : World) (hl : l.length ≤ 1000) (hr : Row w ⟨b, 0, none⟩ (l.map str)) :
 Calls Tryz.prog 75 #[.slice (some ⟨b, 0, none⟩) l.length cap, str s] w fun e w' => e = .returned (.int .i64 (idxF l s 0)) ∧ w = w' := by
 refine calls_in Tryz.func75 Tryz.ntmps75 rfl rfl ?_
 focus
  refine cS (cA rfl rfl (cT (cw_seq (cS (cA rfl rfl (cT (cw_block ?_))))))); rotate_left 1
 refine cw_loop (ι := Nat) (fun j => [(0, .slice (some ⟨b, 0, none⟩) l.length cap), (1, str s), (5, .int .i64 j)]) (fun j w' => w = w' ∧ j ≤ l.length ∧ idxF l s 0 = idxF (l.drop j) s j) (fun j => l.length - j) 0 (by (refine sub_cons rfl ?_; refine sub_cons rfl ?_; refine sub_cons rfl ?_; exact sub_nil)) ⟨rfl, Nat.zero_le _, rfl⟩ ?_; rintro j _ ⟨rfl, hj, he⟩
 by_cases hlt : j < l.length
 · rw [idxF_drop hlt] at he
   have hrj := hr.nth hlt
   have HR := Lib.hid hr; clear hr
   by_cases hx : l[j] = s
   · rw [if_pos hx] at he
     rw [he]
     focus
      refine cw_seq (cS (cM rfl rfl (cM rfl rfl (lw_pure (pur_len_slice tabOk rfl rfl) rfl (lw_pure (pur_lss rfl rfl) rfl (cT ?_)))))); refine cw_yes rfl (by omega) ?_; refine cw_skip (qw_then (cw_seq (cw_block (cS (cM rfl rfl (cM rfl rfl ?_)))))); refine lw_pure (pur_indexAddr tabOk rfl rfl rfl rfl (by omega) (by omega)) rfl ?_; refine lw_load_r0 tabOk rfl rfl rfl hrj rfl rfl (cM rfl rfl (lw_pure (pur_seql rfl rfl) rfl (cT ?_))); refine cw_yes rfl (by assumption) ?_; refine cS (cM rfl rfl (cA rfl rfl (cT (cw_ret (qw_block_ret (qw_then_ret (qw_then_ret (qw_block_ret (qw_then_ret (qw_ret1 rfl rfl ?_)))))))))); rotate_left 1
     exact ⟨rfl, rfl⟩
   · rw [if_neg hx] at he
     focus
      refine cw_seq (cS (cM rfl rfl (cM rfl rfl (lw_pure (pur_len_slice tabOk rfl rfl) rfl (lw_pure (pur_lss rfl rfl) rfl (cT ?_)))))); refine cw_yes rfl (by omega) ?_; refine cw_skip (qw_then (cw_seq (cw_block (cS (cM rfl rfl (cM rfl rfl ?_)))))); refine lw_pure (pur_indexAddr tabOk rfl rfl rfl rfl (by omega) (by omega)) rfl ?_; refine lw_load_r0 tabOk rfl rfl rfl hrj rfl rfl (cM rfl rfl (lw_pure (pur_seql rfl rfl) rfl (cT ?_))); refine cw_no rfl (by assumption) ?_; refine cw_skip (qw_block_norm (qw_then (cw_region (cM rfl rfl ?_)))); refine lw_pure (pur_add rfl rfl (IntWalk.i64_in _ (by omega))) rfl ?_; refine cA rfl rfl (lw_nil ?_); rotate_left 1
     exact qw_round (j + 1) (by (refine sub_cons rfl ?_; refine sub_cons rfl ?_; refine sub_cons rfl ?_; exact sub_nil)) ⟨rfl, by omega, he⟩ (by omega)
 · rw [List.drop_eq_nil_of_le (by omega), idxF] at he
   rw [he]
   focus
    refine cw_seq (cS (cM rfl rfl (cM rfl rfl (lw_pure (pur_len_slice tabOk rfl rfl) rfl (lw_pure (pur_lss rfl rfl) rfl (cT ?_)))))); refine cw_no rfl (by omega) ?_; refine cw_exit (qw_then_exit (qw_then_exit (qw_block_exit (qw_then (cS (cA rfl rfl (cT (cw_ret (qw_ret1 rfl rfl ?_))))))))); rotate_left 1
   exact ⟨rfl, rfl⟩
theorem keyword_iff (s : List UInt8) : keyword s = true ↔ s ∈ keywords := by simp [keyword]
set_option maxRecDepth 100000 in
set_option maxHeartbeats 1000000 in
theorem rIsName_c (s : List UInt8) (w : World) (hl : s.length ≤ 1000000000) :
 Calls Tryz.prog 77 #[str s] w fun e w' => e = .returned (.bool (refName s)) ∧ Ext w w' := by
 have X := Ext.refl w
 cases s with
 | nil =>
  rw [show refName [] = false from rfl]; refine calls_in Tryz.func77 Tryz.ntmps77 rfl rfl ?_
  focus
   refine cS (cA rfl rfl (cT (cw_seq (cS (cM rfl rfl (lw_pure (pur_len_s tabOk rfl rfl) rfl (lw_pure (pur_eql rfl rfl) rfl (cM rfl rfl ?_)))))))); refine lw_off rfl rfl rfl (gd_ft (by decide)) rfl ?_; refine lw_off rfl rfl rfl (gd_ft (by decide)) rfl ?_; refine lw_off rfl rfl rfl (gd_ft (by decide)) rfl ?_; refine lw_pure (pur_pick_yes rfl rfl (by decide)) rfl ?_; refine cM rfl rfl (lw_off rfl rfl rfl (rfl) rfl (lw_off rfl rfl rfl (rfl) rfl (lw_off rfl rfl rfl (rfl) rfl (lw_off rfl rfl rfl (rfl) rfl (lw_pure (pur_pick_t rfl rfl rfl) rfl (cT (cw_cond_t rfl (cS (cA rfl rfl (cT (cw_ret ?_))))))))))); refine qw_then_ret (qw_ret1 rfl rfl ?_); rotate_left 1
  exact ⟨rfl, X⟩
 | cons c r =>
  have hc0 : (c :: r)[(0 : Int).toNat]? = some c := rfl
  have hpos : 0 < (c :: r).length := by simp
  simp only [List.length_cons] at hl
  by_cases h16 : 16 < (c :: r).length
  · rw [show refName (c :: r) = false from by simp only [refName, decide_eq_false (show ¬ (c :: r).length ≤ 16 by omega)]; simp]
    refine calls_in Tryz.func77 Tryz.ntmps77 rfl rfl ?_
    focus
     refine cS (cA rfl rfl (cT (cw_seq (cS (cM rfl rfl (lw_pure (pur_len_s tabOk rfl rfl) rfl (lw_pure (pur_eql rfl rfl) rfl (cM rfl rfl ?_)))))))); refine lw_on rfl rfl rfl (gd_ff (by omega)) ?_; refine cM rfl rfl ?_; refine lw_on rfl rfl rfl (gd_ff (by omega)) ?_; refine lw_pure (pur_len_s tabOk rfl rfl) rfl ?_; refine lw_on rfl rfl rfl (gd_ff (by omega)) ?_; refine lw_pure (pur_gtr rfl rfl) rfl ?_; refine lw_pure (pur_pick_no rfl rfl (by omega)) rfl ?_; refine cM rfl rfl ?_; refine lw_off rfl rfl rfl (gd_ft (by omega)) rfl ?_; refine lw_off rfl rfl rfl (gd_ft (by omega)) rfl ?_; refine lw_off rfl rfl rfl (gd_ft (by omega)) rfl ?_; refine lw_off rfl rfl rfl (gd_ft (by omega)) rfl ?_; refine lw_pure (pur_pick_yes rfl rfl (by omega)) rfl ?_; refine cT (cw_cond_t rfl (cS (cA rfl rfl (cT (cw_ret (qw_then_ret (qw_ret1 rfl rfl ?_))))))); rotate_left 1
    exact ⟨rfl, X⟩
  · cases hlt : letter c
    · rw [show refName (c :: r) = false from by simp [refName, hlt]]
      refine calls_in Tryz.func77 Tryz.ntmps77 rfl rfl ?_
      focus
       refine cS (cA rfl rfl (cT (cw_seq (cS (cM rfl rfl (lw_pure (pur_len_s tabOk rfl rfl) rfl (lw_pure (pur_eql rfl rfl) rfl (cM rfl rfl ?_)))))))); refine lw_on rfl rfl rfl (gd_ff (by omega)) ?_; refine cM rfl rfl ?_; refine lw_on rfl rfl rfl (gd_ff (by omega)) ?_; refine lw_pure (pur_len_s tabOk rfl rfl) rfl ?_; refine lw_on rfl rfl rfl (gd_ff (by omega)) ?_; refine lw_pure (pur_gtr rfl rfl) rfl ?_; refine lw_pure (pur_pick_no rfl rfl (by omega)) rfl ?_; refine cM rfl rfl ?_; refine lw_on rfl rfl rfl (gd_ff (by omega)) ?_; refine cM rfl rfl ?_; refine lw_on rfl rfl rfl (gd_ff (by omega)) ?_; refine lw_pure (pur_sindex tabOk rfl rfl rfl (by omega) (by assumption)) rfl ?_; refine lw_on rfl rfl rfl (gd_ff (by omega)) ?_; refine cC (by kernel_rfl) rfl (rletter_c _ _) rfl ?_; rintro _ wb1 ⟨⟨⟩, rfl⟩; refine lw_on rfl rfl rfl (gd_ff (by omega)) ?_; refine lw_pure (pur_not rfl) rfl ?_; refine lw_pure (pur_pick_no rfl rfl (by omega)) rfl ?_; refine cT ?_; refine cw_nt rfl (by assumption) ?_; refine cS (cA rfl rfl (cT (cw_ret (qw_then_ret (qw_ret1 rfl rfl ?_))))); rotate_left 1
      exact ⟨rfl, X⟩
    · have hrn : refName (c :: r) = !keyword (c :: r) := by
       simp only [List.length_cons] at h16; simp only [refName, List.head?_cons, Option.map_some, Option.getD_some, hlt, List.length_cons]
       rw [decide_eq_true (show r.length + 1 ≤ 16 by omega)]; simp
      rw [hrn]; have HK := Lib.hid (keyword_iff (c :: r))
      have h16' : (c :: r).length ≤ 16 := by omega
      refine calls_in Tryz.func77 Tryz.ntmps77 rfl rfl ?_
      focus
       refine cS (cA rfl rfl (cT (cw_seq (cS (cM rfl rfl (lw_pure (pur_len_s tabOk rfl rfl) rfl (lw_pure (pur_eql rfl rfl) rfl (cM rfl rfl ?_)))))))); refine lw_on rfl rfl rfl (gd_ff (by omega)) ?_; refine cM rfl rfl ?_; refine lw_on rfl rfl rfl (gd_ff (by omega)) ?_; refine lw_pure (pur_len_s tabOk rfl rfl) rfl ?_; refine lw_on rfl rfl rfl (gd_ff (by omega)) ?_; refine lw_pure (pur_gtr rfl rfl) rfl ?_; refine lw_pure (pur_pick_no rfl rfl (by omega)) rfl ?_; refine cM rfl rfl ?_; refine lw_on rfl rfl rfl (gd_ff (by omega)) ?_; refine cM rfl rfl ?_; refine lw_on rfl rfl rfl (gd_ff (by omega)) ?_; refine lw_pure (pur_sindex tabOk rfl rfl rfl (by omega) (by assumption)) rfl ?_; refine lw_on rfl rfl rfl (gd_ff (by omega)) ?_; refine cC (by kernel_rfl) rfl (rletter_c _ _) rfl ?_; rintro _ wc1 ⟨⟨⟩, rfl⟩; refine lw_on rfl rfl rfl (gd_ff (by omega)) ?_; refine lw_pure (pur_not rfl) rfl ?_; refine lw_pure (pur_pick_no rfl rfl (by omega)) rfl ?_; refine cT ?_; refine cw_nf rfl (by assumption) ?_; refine cw_skip (qw_then (cS ?_)); refine lw_does (does_call (by kernel_rfl) rfl (rwords_c _) (fun _ _ ⟨_, h⟩ => ⟨_, h.1⟩)) rfl ?_ (fun _ h => h); rintro _ wc5 ⟨bc2, ⟨⟨⟩, ⟨hc3, xc4⟩⟩⟩; have zc6 := xc4.size; replace X := X.ext xc4; clear xc4; refine cA rfl rfl (cT (cw_seq (cS (cA rfl rfl (cT (cw_block ?_)))))); rotate_left 1
      have hkl : keywords.length = 23 := rfl; refine cw_loop (ι := Nat) (fun j => [(0, str (c :: r)), (3, .slice (some ⟨bc2, 0, none⟩) 23 23), (4, .int .i64 j)]) (fun j w' => wc5 = w' ∧ j ≤ 23 ∧ ∀ i (hi : i < keywords.length), i < j → keywords[i] ≠ c :: r) (fun j => 23 - j) 0 (by (refine sub_cons rfl ?_; refine sub_cons rfl ?_; refine sub_cons rfl ?_; exact sub_nil)) ⟨rfl, Nat.zero_le _, fun i _ h => by omega⟩ ?_; rintro j _ ⟨rfl, hj, hall⟩
      have HA := Lib.hid hall; clear hall
      by_cases hlt2 : j < 23
      · have hrj := hc3.nth (j := j) (by rw [hkl]; exact hlt2)
        have HR := Lib.hid hc3; clear hc3
        by_cases hx : keywords[j] = c :: r
        · have hk : keyword (c :: r) = true := HK.out.2 (by rw [← hx]; exact List.getElem_mem _)
          rw [hk]
          focus
           refine cw_seq (cS (cM rfl rfl (cM rfl rfl (lw_pure (pur_len_slice tabOk rfl rfl) rfl (lw_pure (pur_lss rfl rfl) rfl (cT ?_)))))); refine cw_yes rfl (by omega) ?_; refine cw_skip (qw_then (cw_seq (cw_block (cS (cM rfl rfl (cM rfl rfl ?_)))))); refine lw_pure (pur_indexAddr tabOk rfl rfl rfl rfl (by omega) (by omega)) rfl ?_; refine lw_load_r0 tabOk rfl rfl rfl hrj rfl rfl (cM rfl rfl (lw_pure (pur_seql rfl rfl) rfl (cT ?_))); refine cw_yes rfl (by assumption) ?_; refine cS (cA rfl rfl (cT (cw_ret (qw_block_ret (qw_then_ret (qw_then_ret (qw_block_ret (qw_then_ret (qw_ret1 rfl rfl ?_))))))))); rotate_left 1
          exact ⟨rfl, X⟩
        · focus
           refine cw_seq (cS (cM rfl rfl (cM rfl rfl (lw_pure (pur_len_slice tabOk rfl rfl) rfl (lw_pure (pur_lss rfl rfl) rfl (cT ?_)))))); refine cw_yes rfl (by omega) ?_; refine cw_skip (qw_then (cw_seq (cw_block (cS (cM rfl rfl (cM rfl rfl ?_)))))); refine lw_pure (pur_indexAddr tabOk rfl rfl rfl rfl (by omega) (by omega)) rfl ?_; refine lw_load_r0 tabOk rfl rfl rfl hrj rfl rfl (cM rfl rfl (lw_pure (pur_seql rfl rfl) rfl (cT ?_))); refine cw_no rfl (by assumption) ?_; refine cw_skip (qw_block_norm (qw_then (cw_region (cM rfl rfl ?_)))); refine lw_pure (pur_add rfl rfl (IntWalk.i64_in _ (by omega))) rfl ?_; refine cA rfl rfl (lw_nil ?_); rotate_left 1
          refine qw_round (j + 1) (by (refine sub_cons rfl ?_; refine sub_cons rfl ?_; refine sub_cons rfl ?_; exact sub_nil)) ⟨rfl, by omega, fun i hi h => ?_⟩ (by omega)
          by_cases e : i = j
          · subst e; exact hx
          · exact HA.out i hi (by omega)
      · have hk : keyword (c :: r) = false := by
         cases h : keyword (c :: r)
         · rfl
         · obtain ⟨i, hi, he⟩ := List.mem_iff_getElem.1 (HK.out.1 h)
           exact absurd he (HA.out i hi (by omega))
        rw [hk]
        focus
         refine cw_seq (cS (cM rfl rfl (cM rfl rfl (lw_pure (pur_len_slice tabOk rfl rfl) rfl (lw_pure (pur_lss rfl rfl) rfl (cT ?_)))))); refine cw_no rfl (by omega) ?_; refine cw_exit (qw_then_exit (qw_then_exit (qw_block_exit (qw_then (cS (cA rfl rfl (cT (cw_ret (qw_ret1 rfl rfl ?_))))))))); rotate_left 1
        exact ⟨rfl, X⟩
def opTexts : List (List UInt8) := [[43], [45], [42], [47], [37], [38], [124], [94], [61, 61], [33, 61], [60], [60, 61], [62], [62, 61], [38, 38], [124, 124]]
def opLevels : List Int := [7, 7, 8, 8, 8, 5, 3, 4, 6, 6, 6, 6, 6, 6, 2, 1]
theorem opT (j : Nat) (h : j < opTexts.length) : opTexts[j] = symbol (8 + (j : Int)) ∧ opLevels.getD j 0 = level (8 + (j : Int)) ∧ binOf (symbol (8 + (j : Int))) = some (8 + (j : Int)) := by
 have h' : j < 16 := h
 have : j = 0 ∨ j = 1 ∨ j = 2 ∨ j = 3 ∨ j = 4 ∨ j = 5 ∨ j = 6 ∨ j = 7 ∨ j = 8 ∨ j = 9 ∨ j = 10 ∨ j = 11 ∨ j = 12 ∨ j = 13 ∨ j = 14 ∨ j = 15 := by omega
 rcases this with rfl | rfl | rfl | rfl | rfl | rfl | rfl | rfl | rfl | rfl | rfl | rfl | rfl | rfl | rfl | rfl <;> exact ⟨rfl, rfl, rfl⟩
theorem binOf_none {s : List UInt8} (h : ∀ j (hj : j < opTexts.length), opTexts[j] ≠ s) : binOf s = none := by
 unfold binOf
 rw [List.find?_eq_none]; intro k hk; simp only [decide_eq_true_eq]; intro e
 have hb : 8 ≤ k ∧ k ≤ 23 := by
  simp only [List.mem_cons, List.not_mem_nil, or_false] at hk
  omega
 have hj : (k - 8).toNat < opTexts.length := by show (k - 8).toNat < 16; omega
 have := (opT (k - 8).toNat hj).1; rw [show (8 : Int) + ((k - 8).toNat : Int) = k by omega] at this
 exact h _ hj (this.trans e)
def opPair (s : List UInt8) : Int × Int := match binOf s with
 | none => (0, 0)
 | some op => (op, level op)
theorem Row.nthI {w : World} {b j : Nat} {l : List Int} (h : Row w ⟨b, 0, none⟩ (l.map (.int .i64 ·))) (hj : j < l.length) : Row w ⟨b, 0 + j * 1, none⟩ [.int .i64 (l.getD j 0)] := by
 have h1 := h.sub j 1
 have e : ((l.map (Value.int .i64 ·)).drop j).take 1 = [.int .i64 (l.getD j 0)] := by
  rw [List.drop_eq_getElem_cons (by simpa using hj)]; simp [hj]
 rw [e] at h1
 rw [Nat.mul_one]; exact h1
set_option maxRecDepth 100000 in
set_option maxHeartbeats 1000000 in
theorem roperator_c (s : List UInt8) (w : World) :
 Calls Tryz.prog 83 #[str s] w fun e w' => e = .returned (.tuple #[.int .u8 (opPair s).1, .int .i64 (opPair s).2]) ∧ Ext w w' := by
 have X := Ext.refl w; refine calls_in Tryz.func83 Tryz.ntmps83 rfl rfl ?_
 focus
  refine cS (cA rfl rfl (cA rfl rfl (cN ?_))); (refine lw_does (does_slice' [_, _, _, _, _, _, _, _, _, _, _, _, _, _, _, _] tabOk zOk rfl rfl rfl rfl rfl rfl rfl rfl rfl) rfl ?_ (fun _ h => h); rintro _ w2 ⟨b1, rfl, n3, t4⟩); clear t4; have h5 := n3.blk; have x6 := n3.ext; have p7 := n3.pos; have z8 := n3.size; clear n3; replace X := X.ext x6; clear x6; refine cA rfl rfl (cN ?_); (refine lw_does (does_slice' [_, _, _, _, _, _, _, _, _, _, _, _, _, _, _, _] tabOk zOk rfl rfl rfl rfl rfl rfl rfl rfl rfl) rfl ?_ (fun _ h => h); rintro _ w10 ⟨b9, rfl, n11, t12⟩); clear t12; have h13 := n11.blk; have x14 := n11.ext; have p15 := n11.pos; have z16 := n11.size; clear n11; replace h5 := h5.ext x14; replace X := X.ext x14; clear x14; refine cA rfl rfl (cT (cw_seq (cS (cA rfl rfl (cT (cw_block ?_)))))); rotate_left 1
 have hT : Row w10 ⟨b1, 0, none⟩ (opTexts.map str) := h5.row; have hL : Row w10 ⟨b9, 0, none⟩ (opLevels.map (.int .i64 ·)) := h13.row; clear h5 h13; have hkl : opTexts.length = 16 := rfl; refine cw_loop (ι := Nat) (fun j => [(0, str s), (4, .slice (some ⟨b1, 0, none⟩) 16 16), (5, .slice (some ⟨b9, 0, none⟩) 16 16), (6, .int .i64 j)]) (fun j w' => w10 = w' ∧ j ≤ 16 ∧ ∀ i (hi : i < opTexts.length), i < j → opTexts[i] ≠ s) (fun j => 16 - j) 0 (by (refine sub_cons rfl ?_; refine sub_cons rfl ?_; refine sub_cons rfl ?_; refine sub_cons rfl ?_; exact sub_nil)) ⟨rfl, Nat.zero_le _, fun i _ h => by omega⟩ ?_; rintro j _ ⟨rfl, hj, hall⟩
 have HA := Lib.hid hall; clear hall
 by_cases hlt : j < 16
 · have hrj := hT.nth (j := j) (by rw [hkl]; exact hlt)
   have hlj := hL.nthI (j := j) (show j < opLevels.length from hlt); obtain ⟨o1, o2, o3⟩ := opT j hlt; rw [o2] at hlj
   have HT := Lib.hid hT; clear hT
   have HL := Lib.hid hL; clear hL
   by_cases hx : opTexts[j] = s
   · have hop : opPair s = (8 + (j : Int), level (8 + (j : Int))) := by
      unfold opPair
      rw [← hx, o1, o3]
     rw [hop]; clear o2 o3 hop
     focus
      refine cw_seq (cS (cM rfl rfl (cM rfl rfl (lw_pure (pur_len_slice tabOk rfl rfl) rfl (lw_pure (pur_lss rfl rfl) rfl (cT ?_)))))); refine cw_yes rfl (by omega) ?_; refine cw_skip (qw_then (cw_seq (cw_block (cS (cM rfl rfl (cM rfl rfl ?_)))))); refine lw_pure (pur_indexAddr tabOk rfl rfl rfl rfl (by omega) (by omega)) rfl ?_; refine lw_load_r0 tabOk rfl rfl rfl hrj rfl rfl (cM rfl rfl (lw_pure (pur_seql rfl rfl) rfl (cT ?_))); refine cw_yes rfl (by assumption) ?_; refine cw_seq ?_; (refine cw_tdraw (fun wz => Ext w10 wz) 8 (.pure 0 (.pure 1 (.pure 2 (.pure 3 (.pure 4 (.pure 5 (.pure 6 (.pure 7 .tail)))))))) mixed (by kernel_rfl) (panicOk_then (panicOk_block (panicOk_then (panicOk_then (panicOk_block (panicOk_then panicOk_body)))))) ?_; intro wa1 xa2 _); have qsa3 : (fun wz => Ext w10 wz) wa1 := xa2; simp only at qsa3; have d_hrj := hrj; have d_hlj := hlj; have za4 := xa2.size; replace X := X.ext xa2; replace hrj := hrj.ext xa2; replace hlj := hlj.ext xa2; clear xa2; refine ⟨qsa3, ?_⟩; refine tw_pure rfl (pur_move rfl) rfl ?_; refine tw_pure rfl (pur_conv tabOk rfl rfl rfl (u8_wrap _ (by omega) (by omega))) rfl ?_; refine tw_pure rfl (pur_add rfl rfl (u8_wrap _ (by omega) (by omega))) rfl ?_; refine tw_pure rfl (pur_move rfl) rfl (tw_pure rfl (pur_move rfl) rfl ?_); refine tw_pure rfl (pur_indexAddr tabOk rfl rfl rfl rfl (by omega) (by omega)) rfl ?_; refine tw_pure rfl (pur_load tabOk rfl rfl rfl (fun wz hz => Row.at0 (Row.ext d_hlj hz) rfl)) rfl (tw_pure rfl (pur_assign rfl) rfl ?_)
      clear qsa3 d_hrj d_hlj; refine tw_tail rfl (cA rfl rfl (cT (cw_ret (qw_block_ret (qw_then_ret (qw_then_ret (qw_block_ret (qw_then_ret (qw_ret2 rfl rfl rfl ?_))))))))); rotate_left 1
     exact ⟨rfl, X⟩
   · focus
      refine cw_seq (cS (cM rfl rfl (cM rfl rfl (lw_pure (pur_len_slice tabOk rfl rfl) rfl (lw_pure (pur_lss rfl rfl) rfl (cT ?_)))))); refine cw_yes rfl (by omega) ?_; refine cw_skip (qw_then (cw_seq (cw_block (cS (cM rfl rfl (cM rfl rfl ?_)))))); refine lw_pure (pur_indexAddr tabOk rfl rfl rfl rfl (by omega) (by omega)) rfl ?_; refine lw_load_r0 tabOk rfl rfl rfl hrj rfl rfl (cM rfl rfl (lw_pure (pur_seql rfl rfl) rfl (cT ?_))); refine cw_no rfl (by assumption) ?_; refine cw_skip (qw_block_norm (qw_then (cw_region (cM rfl rfl ?_)))); refine lw_pure (pur_add rfl rfl (IntWalk.i64_in _ (by omega))) rfl ?_; refine cA rfl rfl (lw_nil ?_); rotate_left 1
     refine qw_round (j + 1) (by (refine sub_cons rfl ?_; refine sub_cons rfl ?_; refine sub_cons rfl ?_; refine sub_cons rfl ?_; exact sub_nil)) ⟨rfl, by omega, fun i hi h => ?_⟩ (by omega)
     by_cases e : i = j
     · subst e; exact hx
     · exact HA.out i hi (by omega)
 · have hop : opPair s = (0, 0) := by
    unfold opPair
    rw [binOf_none (fun i hi => HA.out i hi (by rw [hkl] at hi; omega))]
   rw [hop]
   focus
    refine cw_seq (cS (cM rfl rfl (cM rfl rfl (lw_pure (pur_len_slice tabOk rfl rfl) rfl (lw_pure (pur_lss rfl rfl) rfl (cT ?_)))))); refine cw_no rfl (by omega) ?_; refine cw_exit (qw_then_exit (qw_then_exit (qw_block_exit (qw_then (cS (cA rfl rfl (cA rfl rfl (cT (cw_ret (qw_ret2 rfl rfl rfl ?_)))))))))); rotate_left 1
   exact ⟨rfl, X⟩
theorem rpeek_len {c : RC} {σ : PS} {w : World} (hP : RP c σ w) : (peekP c.ts σ).text.length ≤ 1000000 := by
 by_cases h : σ.err ≠ 0 ∨ σ.at_ = c.ts.length
 · rw [rpeek_off h]; simp [Tok.zero]
 · have hlt : σ.at_ < c.ts.length := by have : σ.at_ ≠ c.ts.length := fun e => h (Or.inr e); have := hP.at_; omega
   rw [rpeek_is h hlt]
   exact hP.tok _ (List.getElem_mem hlt)
theorem rpeek_name {c : RC} {σ : PS} {w : World} (hP : RP c σ w) : refName (peekP c.ts σ).text = isName (peekP c.ts σ).text := by
 by_cases h : σ.err ≠ 0 ∨ σ.at_ = c.ts.length
 · rw [rpeek_off h]; rfl
 · have hlt : σ.at_ < c.ts.length := by have : σ.at_ ≠ c.ts.length := fun e => h (Or.inr e); have := hP.at_; omega
   rw [rpeek_is h hlt]
   exact hP.nm _ (List.getElem_mem hlt)
theorem rpeek_num {c : RC} {σ : PS} {w : World} (hP : RP c σ w) (hd : startsDigit (peekP c.ts σ).text = true) : ∀ x ∈ (peekP c.ts σ).text, digit x = true := by
 by_cases h : σ.err ≠ 0 ∨ σ.at_ = c.ts.length
 · rw [rpeek_off h]; simp [Tok.zero]
 · have hlt : σ.at_ < c.ts.length := by have : σ.at_ ≠ c.ts.length := fun e => h (Or.inr e); have := hP.at_; omega
   rw [rpeek_is h hlt] at hd ⊢
   exact hP.num _ (List.getElem_mem hlt) hd
set_option maxRecDepth 100000 in
set_option maxHeartbeats 1000000 in
theorem rname_c (c : RC) (σ : PS) (w : World) (hP : RP c σ w) :
 Calls Tryz.prog 33 #[.pointer (some ⟨c.pb, 0, none⟩)] w fun r w' => r = .returned (str (nameP c.ts c.n σ).1) ∧ RP c (nameP c.ts c.n σ).2 w' ∧ Fr (· = c.pb) w w' := by
 have X := Fr.refl (· = c.pb) w; have hl := hP.len; have hpl := rpeek_len hP; have hpb := hP.pbB; have hB := hP.B; have hrn := rpeek_name hP
 by_cases h0 : σ.err = 0
 · cases h : isName (peekP c.ts σ).text
   · rw [h] at hrn
     rw [show nameP c.ts c.n σ = ([], unexpP c.ts c.n σ) from by simp [nameP, h]]; refine calls_in Tryz.func33 Tryz.ntmps33 rfl rfl ?_
     focus
      refine cS (cA rfl rfl (cT (cw_seq (cS (cM rfl rfl (lw_pure (pur_nilCheck rfl) rfl (lw_pure (pur_fieldAddr tabOk rfl rfl rfl) rfl (lw_load_b tabOk rfl rfl rfl (RP.blk hP) rfl rfl (lw_pure (pur_neq rfl rfl) rfl (cT ?_)))))))))); refine cw_no rfl (by omega) ?_; refine cw_skip (qw_then (cS (cM rfl rfl ?_))); refine cC (by kernel_rfl) rfl (rpeek_c _ _ _ (by assumption)) rfl ?_; rintro _ w2 ⟨⟨⟩, x1⟩; have z3 := x1.size; replace hP := hP.ext x1; replace X := X.ext x1; clear x1; refine cA rfl rfl (cT (cw_seq (cS (cM rfl rfl ?_)))); refine cC (by kernel_rfl) rfl (rIsName_c _ _ (by omega)) rfl ?_; rintro _ w5 ⟨⟨⟩, x4⟩; have z6 := x4.size; replace hP := hP.ext x4; replace X := X.ext x4; clear x4; refine lw_pure (pur_not rfl) rfl (cT ?_); refine cw_nt rfl (by assumption) ?_; refine cS (cM rfl rfl ?_); refine cC (by kernel_rfl) rfl (rwrong_c _ _ _ (by assumption)) rfl ?_; rintro _ w9 ⟨⟨⟩, ⟨h7, f8⟩⟩; have z10 := f8.size; clear hP; replace X := X.fr f8 (by omega); clear f8; refine cN (cA rfl rfl (cT (cw_ret (qw_then_ret (qw_ret1 rfl rfl ?_))))); rotate_left 1
     exact ⟨rfl, by assumption, X⟩
   · rw [h] at hrn
     rw [show nameP c.ts c.n σ = ((peekP c.ts σ).text, nextP σ) from by simp [nameP, h]]; obtain ⟨h2, h3⟩ := peek_in hP.at_ (Or.inl (isName_ne h)); refine calls_in Tryz.func33 Tryz.ntmps33 rfl rfl ?_
     focus
      refine cS (cA rfl rfl (cT (cw_seq (cS (cM rfl rfl (lw_pure (pur_nilCheck rfl) rfl (lw_pure (pur_fieldAddr tabOk rfl rfl rfl) rfl (lw_load_b tabOk rfl rfl rfl (RP.blk hP) rfl rfl (lw_pure (pur_neq rfl rfl) rfl (cT ?_)))))))))); refine cw_no rfl (by omega) ?_; refine cw_skip (qw_then (cS (cM rfl rfl ?_))); refine cC (by kernel_rfl) rfl (rpeek_c _ _ _ (by assumption)) rfl ?_; rintro _ wa2 ⟨⟨⟩, xa1⟩; have za3 := xa1.size; replace hP := hP.ext xa1; replace X := X.ext xa1; clear xa1; refine cA rfl rfl (cT (cw_seq (cS (cM rfl rfl ?_)))); refine cC (by kernel_rfl) rfl (rIsName_c _ _ (by omega)) rfl ?_; rintro _ wa5 ⟨⟨⟩, xa4⟩; have za6 := xa4.size; replace hP := hP.ext xa4; replace X := X.ext xa4; clear xa4; refine lw_pure (pur_not rfl) rfl (cT ?_); refine cw_nf rfl (by assumption) ?_; refine cw_skip (qw_then (cS (cM rfl rfl (cM rfl rfl (lw_pure (pur_nilCheck rfl) rfl (lw_pure (pur_fieldAddr tabOk rfl rfl rfl) rfl (lw_load_b tabOk rfl rfl rfl (RP.blk hP) rfl rfl ?_))))))); refine lw_pure (pur_add rfl rfl (IntWalk.i64_in _ (by omega))) rfl ?_; refine lw_pure (pur_nilCheck rfl) rfl (lw_pure (pur_fieldAddr tabOk rfl rfl rfl) rfl ?_); refine lw_rp_at tabOk rfl rfl rfl rfl (by assumption) h3 ?_; rintro wa7 ha8 fa9; have za10 := fa9.size; clear hP; replace X := X.fr fa9 (by omega); clear fa9; refine cN (cM rfl rfl (cA rfl rfl (cT (cw_ret (qw_ret1 rfl rfl ?_))))); rotate_left 1
     exact ⟨rfl, by assumption, X⟩
 · have h1 : nameP c.ts c.n σ = ([], σ) := by
    have hz : isName (peekP c.ts σ).text = false := by rw [rpeek_off (Or.inl h0)]; rfl
    have hu : unexpP c.ts c.n σ = σ := by
     simp only [unexpP]
     split <;> simp [failP, h0]
    simp [nameP, hz, hu]
   rw [h1]; refine calls_in Tryz.func33 Tryz.ntmps33 rfl rfl ?_
   focus
    refine cS (cA rfl rfl (cT (cw_seq (cS (cM rfl rfl (lw_pure (pur_nilCheck rfl) rfl (lw_pure (pur_fieldAddr tabOk rfl rfl rfl) rfl (lw_load_b tabOk rfl rfl rfl (RP.blk hP) rfl rfl (lw_pure (pur_neq rfl rfl) rfl (cT ?_)))))))))); refine cw_yes rfl (by assumption) ?_; refine cS (cA rfl rfl (cT (cw_ret (qw_then_ret (qw_ret1 rfl rfl ?_))))); rotate_left 1
   exact ⟨rfl, by assumption, X⟩
end Bk
namespace Bk
open Go
def pre (acc : List Tok) (r : List Tok × Option Nat) : List Tok × Option Nat := match r.2 with
 | none => (acc ++ r.1, none)
 | some p => ([], some p)
theorem pre_pre (a b : List Tok) (r : List Tok × Option Nat) : pre a (pre b r) = pre (a ++ b) r := by
 rcases r with ⟨l, _ | p⟩ <;> simp [pre]
theorem lexGo_acc (s : List UInt8) : ∀ (k p : Nat) (acc : List Tok), lexGo k s p acc = pre acc (lexGo k s p [])
 | 0, p, acc => by simp [lexGo, pre]
 | k + 1, p, acc => by
  rw [lexGo, lexGo]
  split
  · split
    · simp [pre]
    · rw [lexGo_acc s k _ (acc ++ _), lexGo_acc s k _ ([] ++ _), pre_pre]
      simp
  · simp [pre]
theorem lexGo_fuel (s : List UInt8) : ∀ (k k' p : Nat) (acc : List Tok), s.length - p < k → s.length - p < k' → lexGo k s p acc = lexGo k' s p acc
 | 0, _, _, _, h, _ => by omega
 | _, 0, _, _, _, h => by omega
 | k + 1, k' + 1, p, acc, h, h' => by
  rw [lexGo, lexGo]
  split
  · split
    · rfl
    · exact lexGo_fuel s k k' _ _ (by omega) (by omega)
  · rfl
def lexFrom (s : List UInt8) (p : Nat) : List Tok × Option Nat := lexGo (s.length + 1) s p []
def tokAt (s : List UInt8) (p : Nat) : Tok := ⟨((firstTok (s.drop p)).1 : Nat), (s.drop p).take (firstTok (s.drop p)).2, (p : Int)⟩
theorem lexFrom_end {s : List UInt8} {p : Nat} (h : s.length ≤ p) : lexFrom s p = ([], none) := by
 unfold lexFrom; rw [lexGo, if_neg (by omega)]
theorem lexFrom_err {s : List UInt8} {p : Nat} (h : p < s.length) (h0 : (firstTok (s.drop p)).2 = 0) : lexFrom s p = ([], some p) := by
 unfold lexFrom; rw [lexGo, if_pos h, if_pos h0]
theorem lexFrom_step {s : List UInt8} {p : Nat} (h : p < s.length) (h0 : (firstTok (s.drop p)).2 ≠ 0) : lexFrom s p = pre [tokAt s p] (lexFrom s (p + (firstTok (s.drop p)).2)) := by
 unfold lexFrom
 rw [lexGo, if_pos h, if_neg h0, lexGo_acc]; rw [lexGo_fuel s s.length (s.length + 1) _ _ (by omega) (by omega)]
 rfl
def solidR (r : List Tok × Option Nat) : List Tok × Option Nat := match r.2 with
 | none => (solidT r.1, none)
 | some p => ([], some p)
def solidFrom (s : List UInt8) (p : Nat) : List Tok × Option Nat := solidR (lexFrom s p)
theorem solidR_pre (t : Tok) (r : List Tok × Option Nat) : solidR (pre [t] r) = if t.kind ≠ 4 ∧ t.kind ≠ 5 then pre [t] (solidR r) else solidR r := by
 rcases r with ⟨l, _ | p⟩
 · by_cases h : t.kind ≠ 4 ∧ t.kind ≠ 5
   · simp [pre, solidR, solidT, List.filter_cons, h]
   · rw [if_neg h]
     have : (decide (t.kind ≠ 4) && decide (t.kind ≠ 5)) = false := by
      simp only [Bool.and_eq_false_iff, decide_eq_false_iff_not]; omega
     simp only [pre, solidR, solidT, List.singleton_append, List.filter_cons, this]
     simp
 · simp [pre, solidR]
theorem solidFrom_end {s : List UInt8} {p : Nat} (h : s.length ≤ p) : solidFrom s p = ([], none) := by
 unfold solidFrom; rw [lexFrom_end h]; rfl
theorem solidFrom_err {s : List UInt8} {p : Nat} (h : p < s.length) (h0 : (firstTok (s.drop p)).2 = 0) : solidFrom s p = ([], some p) := by
 unfold solidFrom; rw [lexFrom_err h h0]; rfl
theorem solidFrom_tok {s : List UInt8} {p : Nat} (h : p < s.length) (h0 : (firstTok (s.drop p)).2 ≠ 0) (h4 : (firstTok (s.drop p)).1 ≠ 4) (h5 : (firstTok (s.drop p)).1 ≠ 5) :
 solidFrom s p = pre [tokAt s p] (solidFrom s (p + (firstTok (s.drop p)).2)) := by
 unfold solidFrom; rw [lexFrom_step h h0, solidR_pre, if_pos]
 constructor <;> simp only [tokAt] <;> omega
theorem solidFrom_skip {s : List UInt8} {p : Nat} (h : p < s.length) (h0 : (firstTok (s.drop p)).2 ≠ 0) (h4 : (firstTok (s.drop p)).1 = 4 ∨ (firstTok (s.drop p)).1 = 5) :
 solidFrom s p = solidFrom s (p + (firstTok (s.drop p)).2) := by
 unfold solidFrom; rw [lexFrom_step h h0, solidR_pre, if_neg]
 simp only [tokAt]; omega
theorem drop_at {s : List UInt8} {p : Nat} (h : p < s.length) : s.drop p = s[p] :: s.drop (p + 1) := List.drop_eq_getElem_cons h
theorem blank_parts {c : UInt8} (h : blank c = true) : letter c = false ∧ digit c = false ∧ c ≠ 35 := by
 simp only [blank, Bool.or_eq_true, decide_eq_true_eq] at h; refine ⟨?_, ?_, ?_⟩
 · simp only [letter, Bool.and_eq_false_iff, decide_eq_false_iff_not]; omega
 · simp only [digit, Bool.and_eq_false_iff, decide_eq_false_iff_not]; omega
 · rintro rfl; exact absurd h (by decide)
theorem firstTok_blank {c : UInt8} {r : List UInt8} (h : blank c = true) : firstTok (c :: r) = (4, 1 + span blank r) := by
 obtain ⟨h1, h2, -⟩ := blank_parts h
 simp [firstTok, h, h1, h2, span, List.takeWhile_cons]; omega
theorem firstTok_hash {r : List UInt8} : firstTok (35 :: r) = (5, 1 + span notLf r) := by
 have h1 : letter 35 = false := by decide
 have h2 : digit 35 = false := by decide
 have h3 : blank 35 = false := by decide
 have h4 : notLf 35 = true := by decide
 simp [firstTok, h1, h2, h3, h4, span, List.takeWhile_cons]; omega
theorem span_zero {p : UInt8 → Bool} {s : List UInt8} (h : ∀ c ∈ s.head?, p c = false) : span p s = 0 := by
 cases s with
 | nil => rfl
 | cons c r => simp [span, List.takeWhile_cons, h c (by simp)]
theorem solidFrom_blank {s : List UInt8} {p : Nat} (h : p < s.length) (hb : blank s[p] = true) : solidFrom s p = solidFrom s (p + 1) := by
 have e : firstTok (s.drop p) = (4, 1 + span blank (s.drop (p + 1))) := by rw [drop_at h]; exact firstTok_blank hb
 rw [solidFrom_skip h (by rw [e]; simp) (by rw [e]; simp), e]
 by_cases h1 : p + 1 < s.length
 · by_cases h2 : blank s[p + 1] = true
   · have e2 : firstTok (s.drop (p + 1)) = (4, 1 + span blank (s.drop (p + 1 + 1))) := by rw [drop_at h1]; exact firstTok_blank h2
     rw [solidFrom_skip h1 (by rw [e2]; simp) (by rw [e2]; simp), e2]
     have : span blank (s.drop (p + 1)) = 1 + span blank (s.drop (p + 1 + 1)) := by
      rw [drop_at h1]; simp only [span, List.takeWhile_cons, h2, if_true, List.length_cons]; omega
     rw [this]
     congr 1; omega
   · rw [span_zero (s := s.drop (p + 1))]
     rw [drop_at h1]; intro c hc; simp only [List.head?_cons, Option.mem_def, Option.some.injEq] at hc; rw [← hc]; simpa using h2
 · rw [span_zero (s := s.drop (p + 1))]
   rw [List.drop_eq_nil_of_le (by omega)]; simp
theorem solidFrom_hash {s : List UInt8} {p : Nat} (h : p < s.length) (hb : s[p] = 35) : solidFrom s p = solidFrom s (p + span notLf (s.drop p)) := by
 have e : firstTok (s.drop p) = (5, 1 + span notLf (s.drop (p + 1))) := by rw [drop_at h, hb]; exact firstTok_hash
 have e2 : span notLf (s.drop p) = 1 + span notLf (s.drop (p + 1)) := by
  rw [drop_at h, hb]
  have h4 : notLf 35 = true := by decide
  simp [span, List.takeWhile_cons, h4]; omega
 rw [solidFrom_skip h (by rw [e]; simp) (by rw [e]; simp), e, e2]
def signsL : List (List UInt8) := [[60, 61, 62], [58, 61], [43, 61], [45, 61], [94, 61], [61, 61], [33, 61], [60, 61], [62, 61], [38, 38], [124, 124], [43], [45], [42], [47], [37], [38], [124], [94], [33], [61], [60], [62], [40], [41], [123], [125], [91], [93], [59], [44]]
def pickLen (L : List (List UInt8)) (s : List UInt8) : Nat := ((L.find? (·.isPrefixOf s)).map List.length).getD 0
theorem pickLen_append (A B : List (List UInt8)) (s : List UInt8) (hA : ∀ x ∈ A, x ≠ []) : pickLen (A ++ B) s = if pickLen A s = 0 then pickLen B s else pickLen A s := by
 unfold pickLen
 rw [List.find?_append]
 cases h : A.find? (·.isPrefixOf s) with
 | none => simp
 | some x =>
  have := hA x (List.mem_of_find?_eq_some h)
  simp [this]
theorem prefix_take {x s : List UInt8} : x.isPrefixOf s = true ↔ x = s.take x.length := by
 rw [List.isPrefixOf_iff_prefix, List.prefix_iff_eq_take]
theorem pickLen_same (m : Nat) (s : List UInt8) : ∀ L : List (List UInt8), (∀ x ∈ L, x.length = m) → pickLen L s = if L.contains (s.take m) then m else 0
 | [], _ => by simp [pickLen]
 | x :: r, h => by
  have hx := h x (by simp); have ih := pickLen_same m s r (fun y hy => h y (by simp [hy]))
  unfold pickLen at ih ⊢
  rw [List.find?_cons]
  by_cases e : x.isPrefixOf s = true
  · rw [e]
    have := prefix_take.1 e; rw [hx] at this
    simp [← this, hx]
  · have e' : x.isPrefixOf s = false := Bool.eq_false_iff.2 e
    rw [e']
    have : ¬ s.take m = x := fun q => e (prefix_take.2 (by rw [hx]; exact q.symm))
    rw [ih]
    simp [this]
theorem signs_split : signsL = [[60, 61, 62]] ++ (pairs ++ singles.map fun c => [c]) := by decide
theorem pickLen_signs (s : List UInt8) : pickLen signsL s = signLen s := by
 rw [signs_split, pickLen_append _ _ _ (by decide), pickLen_append _ _ _ (by decide), pickLen_same 2 s pairs (by decide), pickLen_same 1 s (singles.map fun c => [c]) (by decide)]
 unfold signLen
 have h1 : pickLen [[60, 61, 62]] s = if List.isPrefixOf [60, 61, 62] s then 3 else 0 := by
  unfold pickLen
  cases h : List.isPrefixOf [60, 61, 62] s <;> simp [List.find?_cons, h]
 have h2 : (singles.map fun c => [c]).contains (s.take 1) = (s.head?.map (singles.contains ·)).getD false := by
  cases s with
  | nil => decide
  | cons c r => simp [List.contains_eq_any_beq, Bool.eq_iff_iff]
 rw [h1, h2]
 cases List.isPrefixOf [60, 61, 62] s
 · simp only [Bool.false_eq_true, if_false, if_true]
   cases pairs.contains (s.take 2) <;> simp
 · simp
theorem pickLen_snoc (A : List (List UInt8)) (x s : List UInt8) (hA : ∀ y ∈ A, y ≠ []) : pickLen (A ++ [x]) s = if pickLen A s = 0 then (if x.isPrefixOf s then x.length else 0) else pickLen A s := by
 rw [pickLen_append _ _ _ hA]
 congr 1
 unfold pickLen
 cases h : x.isPrefixOf s <;> simp [List.find?_cons, h]
end Bk
namespace Bk
open Go Go.RowKit Go.Proofs
attribute [local irreducible] Go.Calls
set_option maxRecDepth 100000 in
set_option maxHeartbeats 1000000 in
theorem rsigns_c (w : World) : Calls Tryz.prog 111 #[] w fun e w' => ∃ b, e = .returned (.slice (some ⟨b, 0, none⟩) 31 31) ∧ Row w' ⟨b, 0, none⟩ (signsL.map str) ∧ Ext w w' := by
 have X := Ext.refl w; refine calls_in (args := []) Tryz.func111 Tryz.ntmps111 rfl rfl ?_
 focus
  refine cS (cA rfl rfl (cN ?_)); (refine lw_does (does_slice' [_, _, _, _, _, _, _, _, _, _, _, _, _, _, _, _, _, _, _, _, _, _, _, _, _, _, _, _, _, _, _] tabOk zOk rfl rfl rfl rfl rfl rfl rfl rfl rfl) rfl ?_ (fun _ h => h); rintro _ w2 ⟨b1, rfl, n3, t4⟩); clear t4; have h5 := n3.blk; have x6 := n3.ext; have p7 := n3.pos; have z8 := n3.size; clear n3; replace X := X.ext x6; clear x6; refine cA rfl rfl (cT (cw_ret (qw_ret1 rfl rfl ?_))); rotate_left 1
 exact ⟨_, rfl, Blk.row (by assumption), X⟩
def rtokShape : Shape Tok where
 sz := 2
 rep := fun _ _ v cs => cs = v.rcells
 len := fun h => by rw [h]; rfl
 one := fun h => by rw [h]; rfl
 mono := fun h _ _ => h
 lt := fun h => h
def RToks (S : Nat → Prop) (w : World) (l : List Tok) (a : Option Addr) : Prop := Arr S 2 RTokAt w l a
theorem RToks.lt2 {S : Nat → Prop} {w : World} {l : List Tok} {a : Option Addr} (h : RToks S w l a) : RToks (fun b => S b ∧ b < w.heap.size) w l a := by
 rcases h with h | ⟨b, o, h1, h2, h3⟩
 · exact Or.inl h
 · cases l with
   | nil => exact Or.inl rfl
   | cons v r => exact Or.inr ⟨b, o, h1, ⟨h2, cell_lt (Row.at0 (h3 0 v rfl) rfl)⟩, h3⟩
theorem OwnL.rtoks {w : World} {B e : Nat} {a : Option Addr} {len cap : Nat} {xs : List Tok} {S : Nat → Prop} (h : OwnL rtokShape w B e (.slice a len cap) xs) (hS : ∀ b, B ≤ b → S b) : RToks S w xs a := by
 by_cases hx : xs = []
 · exact Or.inl hx
 · obtain ⟨g, cap', hv, hg, hall⟩ := h.rows hx
   simp only [Value.slice.injEq] at hv; obtain ⟨rfl, -, -⟩ := hv; refine Or.inr ⟨g, 0, rfl, hS g hg, fun i x hi => ?_⟩; obtain ⟨cs, hr, rfl⟩ := hall i x hi
   simpa [rtokShape, RTokAt] using hr
def RTokR (w : World) (r : List Tok × Option Nat) : Ending → World → Prop := fun e w' => ∃ a k, e = .returned (.tuple #[.slice a r.1.length k, .int .i64 (r.2.getD 0), .bool r.2.isNone]) ∧ RToks (fun b => w.heap.size ≤ b ∧ b < w'.heap.size) w' r.1 a ∧ Ext w w'
theorem RTokR.ret {w : World} {r : List Tok × Option Nat} {e : Ending} {w' : World} (h : RTokR w r e w') : ∃ v, e = .returned v := by
 obtain ⟨_, _, h, -⟩ := h
 exact ⟨_, h⟩
theorem pre_solid (s : List UInt8) (p : Nat) : pre [] (solidFrom s p) = solidFrom s p := by
 unfold solidFrom
 rcases lexFrom s p with ⟨l, _ | q⟩ <;> simp [solidR, pre]
theorem span_at {f : UInt8 → Bool} {s : List UInt8} {p : Nat} (h : p < s.length) : span f (s.drop p) = if f s[p] then 1 + span f (s.drop (p + 1)) else 0 := by
 rw [drop_at h]; unfold span; rw [List.takeWhile_cons]; split <;> simp; omega
theorem span_le {f : UInt8 → Bool} {s : List UInt8} {p : Nat} : span f (s.drop p) ≤ s.length - p := by
 have := takeWhile_len f (s.drop p); rw [List.length_drop] at this
 exact this
theorem span_over {f : UInt8 → Bool} {s : List UInt8} {p : Nat} (h : s.length ≤ p) : span f (s.drop p) = 0 := by
 rw [List.drop_eq_nil_of_le h]; rfl
theorem step_tok {s : List UInt8} {p k n : Nat} {acc : List Tok} (h : p < s.length) (hf : firstTok (s.drop p) = (k, n)) (h0 : n ≠ 0) (h4 : k ≠ 4) (h5 : k ≠ 5) (he : solidFrom s 0 = pre acc (solidFrom s p)) :
 solidFrom s 0 = pre (acc ++ [⟨(k : Int), (s.drop p).take n, (p : Int)⟩]) (solidFrom s (p + n)) := by
 have e := solidFrom_tok h (by rw [hf]; exact h0) (by rw [hf]; exact h4) (by rw [hf]; exact h5); rw [he, e, pre_pre, tokAt, hf]
theorem pickLen_more {A B : List (List UInt8)} {s : List UInt8} (hA : ∀ x ∈ A, x ≠ []) (h : pickLen A s ≠ 0) : pickLen (A ++ B) s = pickLen A s := by
 rw [pickLen_append _ _ _ hA, if_neg h]
theorem signs_ne : ∀ x ∈ signsL, x ≠ [] := by decide
theorem signs_take (j : Nat) : ∀ x ∈ signsL.take j, x ≠ [] := fun x hx => signs_ne x (List.mem_of_mem_take hx)
theorem pick_next {j : Nat} {s : List UInt8} (hj : j < signsL.length) (h0 : pickLen (signsL.take j) s = 0) : pickLen (signsL.take (j + 1)) s = if (signsL[j]).isPrefixOf s then (signsL[j]).length else 0 := by
 rw [List.take_add_one, List.getElem?_eq_getElem hj]
 show pickLen (signsL.take j ++ [signsL[j]]) s = _
 rw [pickLen_snoc _ _ _ (signs_take j), if_pos h0]
theorem pick_all {j : Nat} {s : List UInt8} (h0 : pickLen (signsL.take j) s ≠ 0) : pickLen (signsL.take j) s = signLen s := by
 rw [← pickLen_signs]
 conv => rhs; rw [← List.take_append_drop j signsL]
 exact (pickLen_more (signs_take j) h0).symm
set_option maxRecDepth 100000 in
set_option maxHeartbeats 4000000 in
theorem rTokens_c (s : List UInt8) (w : World) (hs : s.length ≤ 1000000) : Calls Tryz.prog 74 #[str s] w (RTokR w (solidFrom s 0)) := by
 have X := Ext.refl w; refine calls_in Tryz.func74 Tryz.ntmps74 rfl rfl ?_
 focus
  refine cS (cA rfl rfl (cA rfl rfl (cA rfl rfl (cN (cA rfl rfl (cT (cw_seq (cS (cA rfl rfl (cT (cw_block ?_))))))))))); rotate_left 1
 refine cw_loop (ι := Nat × List Tok × Option Addr × Nat) (fun x => [(0, str s), (5, .slice x.2.2.1 x.2.1.length x.2.2.2), (6, .int .i64 x.1)])
  (fun x w' => OwnL rtokShape w' w.heap.size 105 (.slice x.2.2.1 x.2.1.length x.2.2.2) x.2.1 ∧ Ext w w' ∧ x.1 ≤ s.length ∧ x.2.1.length ≤ x.1 ∧ solidFrom s 0 = pre x.2.1 (solidFrom s x.1)) (fun x => s.length - x.1) (0, [], none, 0) (by (refine sub_cons rfl ?_; refine sub_cons rfl ?_; refine sub_cons rfl ?_; exact sub_nil)) ⟨OwnL.nil, X, Nat.zero_le _, Nat.le_refl _, (pre_solid s 0).symm⟩ ?_
 rintro ⟨p, acc, a, cap⟩ w1 ⟨hown, X, hp, hacc, he⟩; simp only at hown hp hacc he; refine CW.sub (m := [(0, str s), (5, .slice a acc.length cap), (6, .int .i64 p)]) ?_ (by (refine sub_cons rfl ?_; refine sub_cons rfl ?_; refine sub_cons rfl ?_; exact sub_nil))
 by_cases hlt : p < s.length
 · have hcp : s[(p : Int).toNat]? = some s[p] := List.getElem?_eq_getElem hlt
   by_cases hb : blank s[p] = true
   · rw [solidFrom_blank hlt hb] at he
     have HE := Lib.hid he; clear he
     generalize s[p] = c at hcp hb
     simp only [blank, Bool.or_eq_true, decide_eq_true_eq] at hb
     rcases hb with ((hb | hb) | hb) | hb
     · focus
        refine cw_seq (cS (cM rfl rfl (cM rfl rfl (lw_pure (pur_len_s tabOk rfl rfl) rfl (lw_pure (pur_lss rfl rfl) rfl (cT ?_)))))); refine cw_yes rfl (by omega) ?_; refine cw_skip (qw_then (cw_block (cS (cM rfl rfl (cM rfl rfl ?_))))); refine lw_pure (pur_sindex tabOk rfl rfl rfl (by omega) (by assumption)) rfl ?_; refine cA rfl rfl (cT (cw_seq (cS (cM rfl rfl (lw_pure (pur_eql rfl rfl) rfl (cM rfl rfl ?_)))))); refine lw_off rfl rfl rfl (gd_ft (by omega)) rfl ?_; refine lw_off rfl rfl rfl (gd_ft (by omega)) rfl ?_; refine lw_pure (pur_pick_yes rfl rfl (by omega)) rfl ?_; refine cM rfl rfl (lw_off rfl rfl rfl (rfl) rfl (lw_off rfl rfl rfl (rfl) rfl (lw_pure (pur_pick_t rfl rfl rfl) rfl (cM rfl rfl (lw_off rfl rfl rfl (rfl) rfl (lw_off rfl rfl rfl (rfl) rfl (lw_pure (pur_pick_t rfl rfl rfl) rfl (cT (cw_cond_t rfl (cS (cM rfl rfl ?_))))))))))); refine lw_pure (pur_add rfl rfl (IntWalk.i64_in _ (by omega))) rfl ?_; refine cA rfl rfl (cT (cw_exit (qw_then_exit (qw_block_exit ?_)))); rotate_left 1
       exact qw_round (p + 1, acc, a, cap) (by (refine sub_cons rfl ?_; refine sub_cons rfl ?_; refine sub_cons rfl ?_; exact sub_nil)) ⟨by assumption, X, by simp only; omega, by simp only; omega, HE.out⟩ (by simp only; omega)
     · focus
        refine cw_seq (cS (cM rfl rfl (cM rfl rfl (lw_pure (pur_len_s tabOk rfl rfl) rfl (lw_pure (pur_lss rfl rfl) rfl (cT ?_)))))); refine cw_yes rfl (by omega) ?_; refine cw_skip (qw_then (cw_block (cS (cM rfl rfl (cM rfl rfl ?_))))); refine lw_pure (pur_sindex tabOk rfl rfl rfl (by omega) (by assumption)) rfl ?_; refine cA rfl rfl (cT (cw_seq (cS (cM rfl rfl (lw_pure (pur_eql rfl rfl) rfl (cM rfl rfl ?_)))))); refine lw_on rfl rfl rfl (gd_ff (by omega)) ?_; refine cM rfl rfl ?_; refine lw_on rfl rfl rfl (gd_ff (by omega)) ?_; refine lw_pure (pur_eql rfl rfl) rfl ?_; refine lw_pure (pur_pick_no rfl rfl (by omega)) rfl ?_; refine cM rfl rfl ?_; refine lw_off rfl rfl rfl (gd_ft (by omega)) rfl ?_; refine lw_off rfl rfl rfl (gd_ft (by omega)) rfl ?_; refine lw_pure (pur_pick_yes rfl rfl (by omega)) rfl ?_; refine cM rfl rfl (lw_off rfl rfl rfl (rfl) rfl (lw_off rfl rfl rfl (rfl) rfl (lw_pure (pur_pick_t rfl rfl rfl) rfl (cT (cw_cond_t rfl (cS (cM rfl rfl ?_))))))); refine lw_pure (pur_add rfl rfl (IntWalk.i64_in _ (by omega))) rfl ?_; refine cA rfl rfl (cT (cw_exit (qw_then_exit (qw_block_exit ?_)))); rotate_left 1
       exact qw_round (p + 1, acc, a, cap) (by (refine sub_cons rfl ?_; refine sub_cons rfl ?_; refine sub_cons rfl ?_; exact sub_nil)) ⟨by assumption, X, by simp only; omega, by simp only; omega, HE.out⟩ (by simp only; omega)
     · focus
        refine cw_seq (cS (cM rfl rfl (cM rfl rfl (lw_pure (pur_len_s tabOk rfl rfl) rfl (lw_pure (pur_lss rfl rfl) rfl (cT ?_)))))); refine cw_yes rfl (by omega) ?_; refine cw_skip (qw_then (cw_block (cS (cM rfl rfl (cM rfl rfl ?_))))); refine lw_pure (pur_sindex tabOk rfl rfl rfl (by omega) (by assumption)) rfl ?_; refine cA rfl rfl (cT (cw_seq (cS (cM rfl rfl (lw_pure (pur_eql rfl rfl) rfl (cM rfl rfl ?_)))))); refine lw_on rfl rfl rfl (gd_ff (by omega)) ?_; refine cM rfl rfl ?_; refine lw_on rfl rfl rfl (gd_ff (by omega)) ?_; refine lw_pure (pur_eql rfl rfl) rfl ?_; refine lw_pure (pur_pick_no rfl rfl (by omega)) rfl ?_; refine cM rfl rfl ?_; refine lw_on rfl rfl rfl (gd_ff (by omega)) ?_; refine cM rfl rfl ?_; refine lw_on rfl rfl rfl (gd_ff (by omega)) ?_; refine lw_pure (pur_eql rfl rfl) rfl ?_; refine lw_pure (pur_pick_no rfl rfl (by omega)) rfl ?_; refine cM rfl rfl ?_; refine lw_off rfl rfl rfl (gd_ft (by omega)) rfl ?_; refine lw_off rfl rfl rfl (gd_ft (by omega)) rfl ?_; refine lw_pure (pur_pick_yes rfl rfl (by omega)) rfl ?_; refine cT (cw_cond_t rfl (cS (cM rfl rfl ?_))); refine lw_pure (pur_add rfl rfl (IntWalk.i64_in _ (by omega))) rfl ?_; refine cA rfl rfl (cT (cw_exit (qw_then_exit (qw_block_exit ?_)))); rotate_left 1
       exact qw_round (p + 1, acc, a, cap) (by (refine sub_cons rfl ?_; refine sub_cons rfl ?_; refine sub_cons rfl ?_; exact sub_nil)) ⟨by assumption, X, by simp only; omega, by simp only; omega, HE.out⟩ (by simp only; omega)
     · focus
        refine cw_seq (cS (cM rfl rfl (cM rfl rfl (lw_pure (pur_len_s tabOk rfl rfl) rfl (lw_pure (pur_lss rfl rfl) rfl (cT ?_)))))); refine cw_yes rfl (by omega) ?_; refine cw_skip (qw_then (cw_block (cS (cM rfl rfl (cM rfl rfl ?_))))); refine lw_pure (pur_sindex tabOk rfl rfl rfl (by omega) (by assumption)) rfl ?_; refine cA rfl rfl (cT (cw_seq (cS (cM rfl rfl (lw_pure (pur_eql rfl rfl) rfl (cM rfl rfl ?_)))))); refine lw_on rfl rfl rfl (gd_ff (by omega)) ?_; refine cM rfl rfl ?_; refine lw_on rfl rfl rfl (gd_ff (by omega)) ?_; refine lw_pure (pur_eql rfl rfl) rfl ?_; refine lw_pure (pur_pick_no rfl rfl (by omega)) rfl ?_; refine cM rfl rfl ?_; refine lw_on rfl rfl rfl (gd_ff (by omega)) ?_; refine cM rfl rfl ?_; refine lw_on rfl rfl rfl (gd_ff (by omega)) ?_; refine lw_pure (pur_eql rfl rfl) rfl ?_; refine lw_pure (pur_pick_no rfl rfl (by omega)) rfl ?_; refine cM rfl rfl ?_; refine lw_on rfl rfl rfl (gd_ff (by omega)) ?_; refine cM rfl rfl ?_; refine lw_on rfl rfl rfl (gd_ff (by omega)) ?_; refine lw_pure (pur_eql rfl rfl) rfl ?_; refine lw_pure (pur_pick_no rfl rfl (by omega)) rfl ?_; refine cT ?_; refine cw_yes rfl (by omega) ?_; refine cS (cM rfl rfl ?_); refine lw_pure (pur_add rfl rfl (IntWalk.i64_in _ (by omega))) rfl ?_; refine cA rfl rfl (cT (cw_exit (qw_then_exit (qw_block_exit ?_)))); rotate_left 1
       exact qw_round (p + 1, acc, a, cap) (by (refine sub_cons rfl ?_; refine sub_cons rfl ?_; refine sub_cons rfl ?_; exact sub_nil)) ⟨by assumption, X, by simp only; omega, by simp only; omega, HE.out⟩ (by simp only; omega)
   · have hnb : s[p].toNat ≠ 32 ∧ s[p].toNat ≠ 9 ∧ s[p].toNat ≠ 13 ∧ s[p].toNat ≠ 10 := by
      simp only [blank, Bool.or_eq_true, decide_eq_true_eq] at hb; omega
     obtain ⟨n1, n2, n3, n4⟩ := hnb
     by_cases h35 : s[p] = 35
     · have h35n : s[p].toNat = 35 := by rw [h35]; rfl
       rw [solidFrom_hash hlt h35] at he
       have hsp : span notLf (s.drop p) = 1 + span notLf (s.drop (p + 1)) := by rw [span_at hlt, if_pos]; rw [h35]; decide
       have hle := span_le (f := notLf) (s := s) (p := p)
       have HE := Lib.hid he; clear he hb h35
       focus
        refine cw_seq (cS (cM rfl rfl (cM rfl rfl (lw_pure (pur_len_s tabOk rfl rfl) rfl (lw_pure (pur_lss rfl rfl) rfl (cT ?_)))))); refine cw_yes rfl (by omega) ?_; refine cw_skip (qw_then (cw_block (cS (cM rfl rfl (cM rfl rfl ?_))))); refine lw_pure (pur_sindex tabOk rfl rfl rfl (by omega) (by assumption)) rfl ?_; refine cA rfl rfl (cT (cw_seq (cS (cM rfl rfl (lw_pure (pur_eql rfl rfl) rfl (cM rfl rfl ?_)))))); refine lw_on rfl rfl rfl (gd_ff (by omega)) ?_; refine cM rfl rfl ?_; refine lw_on rfl rfl rfl (gd_ff (by omega)) ?_; refine lw_pure (pur_eql rfl rfl) rfl ?_; refine lw_pure (pur_pick_no rfl rfl (by omega)) rfl ?_; refine cM rfl rfl ?_; refine lw_on rfl rfl rfl (gd_ff (by omega)) ?_; refine cM rfl rfl ?_; refine lw_on rfl rfl rfl (gd_ff (by omega)) ?_; refine lw_pure (pur_eql rfl rfl) rfl ?_; refine lw_pure (pur_pick_no rfl rfl (by omega)) rfl ?_; refine cM rfl rfl ?_; refine lw_on rfl rfl rfl (gd_ff (by omega)) ?_; refine cM rfl rfl ?_; refine lw_on rfl rfl rfl (gd_ff (by omega)) ?_; refine lw_pure (pur_eql rfl rfl) rfl ?_; refine lw_pure (pur_pick_no rfl rfl (by omega)) rfl ?_; refine cT ?_; refine cw_no rfl (by omega) ?_; refine cw_skip (qw_then (cw_seq (cS (cM rfl rfl (lw_pure (pur_eql rfl rfl) rfl (cT ?_)))))); refine cw_yes rfl (by omega) ?_; refine cw_seq (cw_block ?_); rotate_left 1
       refine cw_loop (ι := Nat) (fun j => [(0, str s), (5, .slice a acc.length cap), (6, .int .i64 (p + j : Nat))]) (fun j w' => w1 = w' ∧ p + j ≤ s.length ∧ span notLf (s.drop p) = j + span notLf (s.drop (p + j))) (fun j => s.length - (p + j)) 0 (by (refine sub_cons rfl ?_; refine sub_cons rfl ?_; refine sub_cons rfl ?_; exact sub_nil)) ⟨rfl, by omega, by simp⟩ ?_; rintro j _ ⟨rfl, hj, hej⟩; refine CW.sub (m := [(0, str s), (5, .slice a acc.length cap), (6, .int .i64 (p + j : Nat))]) ?_ (by (refine sub_cons rfl ?_; refine sub_cons rfl ?_; refine sub_cons rfl ?_; exact sub_nil)); clear hcp n1 n2 n3 n4 h35n
       by_cases hlj : p + j < s.length
       · have hcj : s[((p + j : Nat) : Int).toNat]? = some s[p + j] := List.getElem?_eq_getElem hlj
         have hsj := span_at (f := notLf) hlj
         by_cases hn : s[p + j].toNat = 10
         · rw [if_neg (by simp [notLf, hn])] at hsj
           focus
            refine cw_seq (cS (cM rfl rfl (cM rfl rfl (lw_pure (pur_len_s tabOk rfl rfl) rfl (lw_pure (pur_lss rfl rfl) rfl (cM rfl rfl ?_)))))); refine lw_on rfl rfl rfl (gd_tt (by omega)) ?_; refine cM rfl rfl ?_; refine lw_on rfl rfl rfl (gd_tt (by omega)) ?_; refine cM rfl rfl ?_; refine lw_on rfl rfl rfl (gd_tt (by omega)) ?_; refine lw_pure (pur_sindex tabOk rfl rfl rfl (by omega) (by assumption)) rfl ?_; refine lw_on rfl rfl rfl (gd_tt (by omega)) ?_; refine lw_pure (pur_neq rfl rfl) rfl ?_; refine lw_pure (pur_pick_yes rfl rfl (by omega)) rfl ?_; refine cT ?_; refine cw_no rfl (by omega) ?_; refine cw_exit (qw_then_exit (qw_then_exit (qw_block_exit (qw_then (cw_exit (qw_then_exit (qw_block_exit ?_))))))); rotate_left 1
           exact qw_round (p + j, acc, a, cap) (by (refine sub_cons rfl ?_; refine sub_cons rfl ?_; refine sub_cons rfl ?_; exact sub_nil)) ⟨by assumption, X, by simp only; omega, by simp only; omega, by rw [HE.out, hej, hsj]; rfl⟩ (by simp only; omega)
         · rw [if_pos (by simp [notLf, hn])] at hsj
           focus
            refine cw_seq (cS (cM rfl rfl (cM rfl rfl (lw_pure (pur_len_s tabOk rfl rfl) rfl (lw_pure (pur_lss rfl rfl) rfl (cM rfl rfl ?_)))))); refine lw_on rfl rfl rfl (gd_tt (by omega)) ?_; refine cM rfl rfl ?_; refine lw_on rfl rfl rfl (gd_tt (by omega)) ?_; refine cM rfl rfl ?_; refine lw_on rfl rfl rfl (gd_tt (by omega)) ?_; refine lw_pure (pur_sindex tabOk rfl rfl rfl (by omega) (by assumption)) rfl ?_; refine lw_on rfl rfl rfl (gd_tt (by omega)) ?_; refine lw_pure (pur_neq rfl rfl) rfl ?_; refine lw_pure (pur_pick_yes rfl rfl (by omega)) rfl ?_; refine cT ?_; refine cw_yes rfl (by omega) ?_; refine cw_skip (qw_then (cw_block (cw_region (cM rfl rfl ?_)))); refine lw_pure (pur_add rfl rfl (IntWalk.i64_in _ (by omega))) rfl ?_; refine cA rfl rfl (lw_nil (qw_block_norm ?_)); rotate_left 1
           exact qw_round (j + 1) (by (refine sub_cons rfl ?_; refine sub_cons rfl ?_; refine sub_cons rfl ?_; exact sub_nil)) ⟨rfl, by omega, by rw [hej, hsj]; simp only [Nat.add_assoc]⟩ (by omega)
       · have hsj := span_over (f := notLf) (s := s) (p := p + j) (by omega)
         focus
          refine cw_seq (cS (cM rfl rfl (cM rfl rfl (lw_pure (pur_len_s tabOk rfl rfl) rfl (lw_pure (pur_lss rfl rfl) rfl (cM rfl rfl ?_)))))); refine lw_off rfl rfl rfl (gd_tf (by omega)) rfl ?_; refine lw_off rfl rfl rfl (gd_tf (by omega)) rfl ?_; refine lw_off rfl rfl rfl (gd_tf (by omega)) rfl ?_; refine lw_off rfl rfl rfl (gd_tf (by omega)) rfl ?_; refine lw_pure (pur_pick_no rfl rfl (by omega)) rfl ?_; refine cT (cw_cond_f rfl (cw_exit (qw_then_exit (qw_then_exit (qw_block_exit (qw_then (cw_exit (qw_then_exit (qw_block_exit ?_))))))))); rotate_left 1
         exact qw_round (p + j, acc, a, cap) (by (refine sub_cons rfl ?_; refine sub_cons rfl ?_; refine sub_cons rfl ?_; exact sub_nil)) ⟨by assumption, X, by simp only; omega, by simp only; omega, by rw [HE.out, hej, hsj]; rfl⟩ (by simp only; omega)
     · have n5 : s[p].toNat ≠ 35 := fun e => h35 (UInt8.toNat_inj.1 e)
       have hb0 : blank s[p] = false := by simpa using hb
       cases hl : letter s[p]
       · cases hd : digit s[p]
         · have hft : firstTok (s.drop p) = (3, signLen (s.drop p)) := by
            rw [drop_at hlt]; simp [firstTok, hl, hd, hb0, h35]
           have hle := signLen_le (s.drop p); have hdl : (s.drop p).length = s.length - p := List.length_drop; rw [hdl] at hle; have HS := Lib.hid (fun h0 => step_tok hlt hft h0 (by decide) (by decide) he); have HZ := Lib.hid (fun h0 : signLen (s.drop p) = 0 => show solidFrom s 0 = ([], some p) from by rw [he, solidFrom_err hlt (by rw [hft]; exact h0)]; rfl); clear he hb h35 hb0 hft
           focus
            refine cw_seq (cS (cM rfl rfl (cM rfl rfl (lw_pure (pur_len_s tabOk rfl rfl) rfl (lw_pure (pur_lss rfl rfl) rfl (cT ?_)))))); refine cw_yes rfl (by omega) ?_; refine cw_skip (qw_then (cw_block (cS (cM rfl rfl (cM rfl rfl ?_))))); refine lw_pure (pur_sindex tabOk rfl rfl rfl (by omega) (by assumption)) rfl ?_; refine cA rfl rfl (cT (cw_seq (cS (cM rfl rfl (lw_pure (pur_eql rfl rfl) rfl (cM rfl rfl ?_)))))); refine lw_on rfl rfl rfl (gd_ff (by omega)) ?_; refine cM rfl rfl ?_; refine lw_on rfl rfl rfl (gd_ff (by omega)) ?_; refine lw_pure (pur_eql rfl rfl) rfl ?_; refine lw_pure (pur_pick_no rfl rfl (by omega)) rfl ?_; refine cM rfl rfl ?_; refine lw_on rfl rfl rfl (gd_ff (by omega)) ?_; refine cM rfl rfl ?_; refine lw_on rfl rfl rfl (gd_ff (by omega)) ?_; refine lw_pure (pur_eql rfl rfl) rfl ?_; refine lw_pure (pur_pick_no rfl rfl (by omega)) rfl ?_; refine cM rfl rfl ?_; refine lw_on rfl rfl rfl (gd_ff (by omega)) ?_; refine cM rfl rfl ?_; refine lw_on rfl rfl rfl (gd_ff (by omega)) ?_; refine lw_pure (pur_eql rfl rfl) rfl ?_; refine lw_pure (pur_pick_no rfl rfl (by omega)) rfl ?_; refine cT ?_; refine cw_no rfl (by omega) ?_; refine cw_skip (qw_then (cw_seq (cS (cM rfl rfl (lw_pure (pur_eql rfl rfl) rfl (cT ?_)))))); refine cw_no rfl (by omega) ?_; refine cw_skip (qw_then (cS (cM rfl rfl (cA rfl rfl (cT (cw_seq (cS (cM rfl rfl ?_)))))))); refine cC (by kernel_rfl) rfl (rletter_c _ _) rfl ?_; rintro _ wi1 ⟨⟨⟩, rfl⟩; refine cT ?_; refine cw_bf rfl (by assumption) ?_
            refine cS (cM rfl rfl ?_); refine cC (by kernel_rfl) rfl (rdigit_c _ _) rfl ?_; rintro _ wi2 ⟨⟨⟩, rfl⟩; refine cT ?_; refine cw_bf rfl (by assumption) ?_; refine cS ?_; refine lw_does (does_call (by kernel_rfl) rfl (rsigns_c _) (fun _ _ ⟨_, h⟩ => ⟨_, h.1⟩)) rfl ?_ (fun _ h => h); rintro _ wi6 ⟨bi3, ⟨⟨⟩, ⟨hi4, xi5⟩⟩⟩; have zi7 := xi5.size; replace hown := hown.ext xi5; replace X := X.ext xi5; clear xi5; refine cA rfl rfl (cT (cw_seq (cS (cA rfl rfl (cT (cw_block ?_)))))); rotate_left 1
           have hkl : signsL.length = 31 := rfl; refine cw_loop (ι := Nat × Nat) (fun x => [(0, str s), (5, .slice a acc.length cap), (6, .int .i64 p), (8, .int .i64 ((p : Int) + (x.2 : Int))), (9, .slice (some ⟨bi3, 0, none⟩) 31 31), (10, .int .i64 x.1)]) (fun x w' => Row w' ⟨bi3, 0, none⟩ (signsL.map str) ∧ OwnL rtokShape w' w.heap.size 105 (.slice a acc.length cap) acc ∧ Ext w w' ∧ x.1 ≤ 31 ∧ x.2 = pickLen (signsL.take x.1) (s.drop p)) (fun x => 31 - x.1) (0, 0) (by (refine sub_cons rfl ?_; refine sub_cons rfl ?_; refine sub_cons rfl ?_; refine sub_cons rfl ?_; refine sub_cons rfl ?_; refine sub_cons rfl ?_; exact sub_nil)) ⟨hi4, hown, X, by omega, rfl⟩ ?_; clear hi4 hown X zi7; rintro ⟨j, m⟩ wj ⟨hr, hown, X, hj, hm⟩; simp only at hj hm hr hown X; have X1 := Ext.refl wj; refine CW.sub (m := [(0, str s), (5, .slice a acc.length cap), (6, .int .i64 p), (8, .int .i64 ((p : Int) + (m : Int))), (9, .slice (some ⟨bi3, 0, none⟩) 31 31), (10, .int .i64 j)]) ?_ (by (refine sub_cons rfl ?_; refine sub_cons rfl ?_; refine sub_cons rfl ?_; refine sub_cons rfl ?_; refine sub_cons rfl ?_; refine sub_cons rfl ?_; exact sub_nil)); clear hcp n1 n2 n3 n4 n5
           by_cases hm0 : m = 0
           · by_cases hlj : j < 31
             · have hrj := hr.nth (j := j) (by rw [hkl]; exact hlj)
               have HR := Lib.hid hr; clear hr
               have hpn := pick_next (j := j) (s := s.drop p) (by rw [hkl]; exact hlj) (by omega); have hxl : (signsL[j]'(by rw [hkl]; exact hlj)).length ≤ 3 := (show ∀ x ∈ signsL, x.length ≤ 3 by decide) _ (List.getElem_mem _)
               generalize hx : signsL[j]'(by rw [hkl]; exact hlj) = x at hrj hpn hxl
               subst hm0
               by_cases hfit : p + x.length ≤ s.length
               · by_cases hq : (s.drop p).take x.length = x
                 · rw [if_pos (prefix_take.2 hq.symm)] at hpn
                   focus
                    refine cw_seq (cS (cM rfl rfl (cM rfl rfl (lw_pure (pur_len_slice tabOk rfl rfl) rfl (lw_pure (pur_lss rfl rfl) rfl (cM rfl rfl ?_)))))); refine lw_on rfl rfl rfl (gd_tt (by omega)) ?_; refine cM rfl rfl ?_; refine lw_on rfl rfl rfl (gd_tt (by omega)) ?_; refine cM rfl rfl ?_; refine lw_on rfl rfl rfl (gd_tt (by omega)) ?_; refine lw_pure (pur_eql rfl rfl) rfl ?_; refine lw_pure (pur_pick_yes rfl rfl (by omega)) rfl ?_; refine cT ?_; refine cw_yes rfl (by omega) ?_; refine cw_skip (qw_then (cw_seq (cw_block (cw_seq ?_)))); (refine cw_tdraw (fun wz => Ext wj wz) 25 (.pure 0 (.pure 1 (.pure 2 (.pure 3 (.pure 4 (.pure 5 (.pure 6 (.pure 7 (.pure 8 (.pure 9 (.pure 10 (.pure 11 (.pure 12 (.pure 13 (.pure 14 (.pure 15 (.pure 16 (.pure 17 (.pure 18 (.pure 19 (.pure 20 (.pure 21 (.pure 22 (.pure 23 (.pure 24 .tail))))))))))))))))))))))))) mixed (by kernel_rfl) (panicOk_then (panicOk_block (panicOk_then (panicOk_then (panicOk_block (panicOk_then (panicOk_then (panicOk_block (panicOk_then (panicOk_block (panicOk_then panicOk_body))))))))))) ?_; intro wj1 xj2 _); have qsj3 : (fun wz => Ext wj wz) wj1 := xj2; simp only at qsj3; have d_hown := hown; have d_hrj := hrj; have zj4 := xj2.size; replace hown := hown.ext xj2; replace X := X.ext xj2; replace X1 := X1.ext xj2; replace hrj := hrj.ext xj2; clear xj2; refine ⟨qsj3, ?_⟩; refine tw_pure rfl (pur_move rfl) rfl (tw_pure rfl (pur_move rfl) rfl (tw_pure rfl (pur_move rfl) rfl ?_)); refine tw_pure rfl (pur_indexAddr tabOk rfl rfl rfl rfl (by omega) (by omega)) rfl ?_
                    refine tw_pure rfl (pur_load tabOk rfl rfl rfl (fun wz hz => Row.at0 (Row.ext d_hrj hz) rfl)) rfl (tw_pure rfl (pur_len_s tabOk rfl rfl) rfl ?_); refine tw_pure rfl (pur_add rfl rfl (IntWalk.i64_in _ (by omega))) rfl ?_; refine tw_pure rfl (pur_move rfl) rfl (tw_pure rfl (pur_len_s tabOk rfl rfl) rfl (tw_pure rfl (pur_leq rfl rfl) rfl (tw_pure rfl (pur_move rfl) rfl ?_))); refine tw_on rfl rfl rfl rfl (gd_tt (by omega)) (pur_move rfl) rfl ?_; refine tw_on rfl rfl rfl rfl (gd_tt (by omega)) (pur_move rfl) rfl ?_; refine tw_on rfl rfl rfl rfl (gd_tt (by omega)) (pur_move rfl) rfl ?_; refine tw_on rfl rfl rfl rfl (gd_tt (by omega)) (pur_move rfl) rfl ?_; refine tw_on rfl rfl rfl rfl (gd_tt (by omega)) (pur_move rfl) rfl ?_; refine tw_on rfl rfl rfl rfl (gd_tt (by omega)) (pur_indexAddr tabOk rfl rfl rfl rfl (by omega) (by omega)) rfl ?_; refine tw_on rfl rfl rfl rfl (gd_tt (by omega)) (pur_load tabOk rfl rfl rfl (fun wz hz => Row.at0 (Row.ext d_hrj hz) rfl)) rfl ?_; refine tw_on rfl rfl rfl rfl (gd_tt (by omega)) (pur_len_s tabOk rfl rfl) rfl ?_; refine tw_on rfl rfl rfl rfl (gd_tt (by omega)) (pur_add rfl rfl (IntWalk.i64_in _ (by omega))) rfl ?_; refine tw_on rfl rfl rfl rfl (gd_tt (by omega)) (pur_spartN tabOk rfl rfl rfl rfl (by omega)) rfl ?_; refine tw_on rfl rfl rfl rfl (gd_tt (by omega)) (pur_move rfl) rfl ?_; refine tw_on rfl rfl rfl rfl (gd_tt (by omega)) (pur_move rfl) rfl ?_; refine tw_on rfl rfl rfl rfl (gd_tt (by omega)) (pur_indexAddr tabOk rfl rfl rfl rfl (by omega) (by omega)) rfl ?_
                    refine tw_on rfl rfl rfl rfl (gd_tt (by omega)) (pur_load tabOk rfl rfl rfl (fun wz hz => Row.at0 (Row.ext d_hrj hz) rfl)) rfl ?_; clear qsj3 d_hown d_hrj; refine tw_tail rfl ?_; refine lw_on rfl rfl rfl (gd_tt (by omega)) ?_; refine lw_pure (pur_seql rfl rfl) rfl ?_; refine lw_pure (pur_pick_yes rfl rfl (by omega)) rfl ?_; refine cT ?_; refine cw_yes rfl (by assumption) ?_; refine cw_region (cM rfl rfl (cM rfl rfl (cM rfl rfl ?_))); refine lw_pure (pur_indexAddr tabOk rfl rfl rfl rfl (by omega) (by omega)) rfl ?_; refine lw_load_r0 tabOk rfl rfl rfl hrj rfl rfl (lw_pure (pur_len_s tabOk rfl rfl) rfl ?_); refine lw_pure (pur_add rfl rfl (IntWalk.i64_in _ (by omega))) rfl ?_; refine cA rfl rfl (lw_nil (qw_block_norm (qw_then (cw_region (cM rfl rfl ?_))))); refine lw_pure (pur_add rfl rfl (IntWalk.i64_in _ (by omega))) rfl ?_; refine cA rfl rfl (lw_nil ?_); rotate_left 1
                   exact qw_round (j + 1, x.length) (by (refine sub_cons rfl ?_; refine sub_cons rfl ?_; refine sub_cons rfl ?_; refine sub_cons rfl ?_; refine sub_cons rfl ?_; refine sub_cons rfl ?_; exact sub_nil)) ⟨HR.out.ext X1, by assumption, X, by simp only; omega, hpn.symm⟩ (by simp only; omega)
                 · rw [if_neg (fun e => hq (prefix_take.1 e).symm)] at hpn
                   focus
                    refine cw_seq (cS (cM rfl rfl (cM rfl rfl (lw_pure (pur_len_slice tabOk rfl rfl) rfl (lw_pure (pur_lss rfl rfl) rfl (cM rfl rfl ?_)))))); refine lw_on rfl rfl rfl (gd_tt (by omega)) ?_; refine cM rfl rfl ?_; refine lw_on rfl rfl rfl (gd_tt (by omega)) ?_; refine cM rfl rfl ?_; refine lw_on rfl rfl rfl (gd_tt (by omega)) ?_; refine lw_pure (pur_eql rfl rfl) rfl ?_; refine lw_pure (pur_pick_yes rfl rfl (by omega)) rfl ?_; refine cT ?_; refine cw_yes rfl (by omega) ?_; refine cw_skip (qw_then (cw_seq (cw_block (cw_seq ?_)))); (refine cw_tdraw (fun wz => Ext wj wz) 25 (.pure 0 (.pure 1 (.pure 2 (.pure 3 (.pure 4 (.pure 5 (.pure 6 (.pure 7 (.pure 8 (.pure 9 (.pure 10 (.pure 11 (.pure 12 (.pure 13 (.pure 14 (.pure 15 (.pure 16 (.pure 17 (.pure 18 (.pure 19 (.pure 20 (.pure 21 (.pure 22 (.pure 23 (.pure 24 .tail))))))))))))))))))))))))) mixed (by kernel_rfl) (panicOk_then (panicOk_block (panicOk_then (panicOk_then (panicOk_block (panicOk_then (panicOk_then (panicOk_block (panicOk_then (panicOk_block (panicOk_then panicOk_body))))))))))) ?_; intro wk1 xk2 _); have qsk3 : (fun wz => Ext wj wz) wk1 := xk2; simp only at qsk3; have d_hown := hown; have d_hrj := hrj; have zk4 := xk2.size; replace hown := hown.ext xk2; replace X := X.ext xk2; replace X1 := X1.ext xk2; replace hrj := hrj.ext xk2; clear xk2; refine ⟨qsk3, ?_⟩; refine tw_pure rfl (pur_move rfl) rfl (tw_pure rfl (pur_move rfl) rfl (tw_pure rfl (pur_move rfl) rfl ?_)); refine tw_pure rfl (pur_indexAddr tabOk rfl rfl rfl rfl (by omega) (by omega)) rfl ?_
                    refine tw_pure rfl (pur_load tabOk rfl rfl rfl (fun wz hz => Row.at0 (Row.ext d_hrj hz) rfl)) rfl (tw_pure rfl (pur_len_s tabOk rfl rfl) rfl ?_); refine tw_pure rfl (pur_add rfl rfl (IntWalk.i64_in _ (by omega))) rfl ?_; refine tw_pure rfl (pur_move rfl) rfl (tw_pure rfl (pur_len_s tabOk rfl rfl) rfl (tw_pure rfl (pur_leq rfl rfl) rfl (tw_pure rfl (pur_move rfl) rfl ?_))); refine tw_on rfl rfl rfl rfl (gd_tt (by omega)) (pur_move rfl) rfl ?_; refine tw_on rfl rfl rfl rfl (gd_tt (by omega)) (pur_move rfl) rfl ?_; refine tw_on rfl rfl rfl rfl (gd_tt (by omega)) (pur_move rfl) rfl ?_; refine tw_on rfl rfl rfl rfl (gd_tt (by omega)) (pur_move rfl) rfl ?_; refine tw_on rfl rfl rfl rfl (gd_tt (by omega)) (pur_move rfl) rfl ?_; refine tw_on rfl rfl rfl rfl (gd_tt (by omega)) (pur_indexAddr tabOk rfl rfl rfl rfl (by omega) (by omega)) rfl ?_; refine tw_on rfl rfl rfl rfl (gd_tt (by omega)) (pur_load tabOk rfl rfl rfl (fun wz hz => Row.at0 (Row.ext d_hrj hz) rfl)) rfl ?_; refine tw_on rfl rfl rfl rfl (gd_tt (by omega)) (pur_len_s tabOk rfl rfl) rfl ?_; refine tw_on rfl rfl rfl rfl (gd_tt (by omega)) (pur_add rfl rfl (IntWalk.i64_in _ (by omega))) rfl ?_; refine tw_on rfl rfl rfl rfl (gd_tt (by omega)) (pur_spartN tabOk rfl rfl rfl rfl (by omega)) rfl ?_; refine tw_on rfl rfl rfl rfl (gd_tt (by omega)) (pur_move rfl) rfl ?_; refine tw_on rfl rfl rfl rfl (gd_tt (by omega)) (pur_move rfl) rfl ?_; refine tw_on rfl rfl rfl rfl (gd_tt (by omega)) (pur_indexAddr tabOk rfl rfl rfl rfl (by omega) (by omega)) rfl ?_
                    refine tw_on rfl rfl rfl rfl (gd_tt (by omega)) (pur_load tabOk rfl rfl rfl (fun wz hz => Row.at0 (Row.ext d_hrj hz) rfl)) rfl ?_; clear qsk3 d_hown d_hrj; refine tw_tail rfl ?_; refine lw_on rfl rfl rfl (gd_tt (by omega)) ?_; refine lw_pure (pur_seql rfl rfl) rfl ?_; refine lw_pure (pur_pick_yes rfl rfl (by omega)) rfl ?_; refine cT ?_; refine cw_no rfl (by assumption) ?_; refine cw_skip (qw_block_norm (qw_then (cw_region (cM rfl rfl ?_)))); refine lw_pure (pur_add rfl rfl (IntWalk.i64_in _ (by omega))) rfl ?_; refine cA rfl rfl (lw_nil ?_); rotate_left 1
                   exact qw_round (j + 1, 0) (by (refine sub_cons rfl ?_; refine sub_cons rfl ?_; refine sub_cons rfl ?_; refine sub_cons rfl ?_; refine sub_cons rfl ?_; refine sub_cons rfl ?_; exact sub_nil)) ⟨HR.out.ext X1, by assumption, X, by simp only; omega, hpn.symm⟩ (by simp only; omega)
               · rw [if_neg (fun e => by have := (List.isPrefixOf_iff_prefix.1 e).length_le; omega)] at hpn
                 focus
                  refine cw_seq (cS (cM rfl rfl (cM rfl rfl (lw_pure (pur_len_slice tabOk rfl rfl) rfl (lw_pure (pur_lss rfl rfl) rfl (cM rfl rfl ?_)))))); refine lw_on rfl rfl rfl (gd_tt (by omega)) ?_; refine cM rfl rfl ?_; refine lw_on rfl rfl rfl (gd_tt (by omega)) ?_; refine cM rfl rfl ?_; refine lw_on rfl rfl rfl (gd_tt (by omega)) ?_; refine lw_pure (pur_eql rfl rfl) rfl ?_; refine lw_pure (pur_pick_yes rfl rfl (by omega)) rfl ?_; refine cT ?_; refine cw_yes rfl (by omega) ?_; refine cw_skip (qw_then (cw_seq (cw_block (cw_seq ?_)))); (refine cw_tdraw (fun wz => Ext wj wz) 25 (.pure 0 (.pure 1 (.pure 2 (.pure 3 (.pure 4 (.pure 5 (.pure 6 (.pure 7 (.pure 8 (.pure 9 (.pure 10 (.pure 11 (.pure 12 (.pure 13 (.pure 14 (.pure 15 (.pure 16 (.pure 17 (.pure 18 (.pure 19 (.pure 20 (.pure 21 (.pure 22 (.pure 23 (.pure 24 .tail))))))))))))))))))))))))) mixed (by kernel_rfl) (panicOk_then (panicOk_block (panicOk_then (panicOk_then (panicOk_block (panicOk_then (panicOk_then (panicOk_block (panicOk_then (panicOk_block (panicOk_then panicOk_body))))))))))) ?_; intro wl1 xl2 _); have qsl3 : (fun wz => Ext wj wz) wl1 := xl2; simp only at qsl3; have d_hown := hown; have d_hrj := hrj; have zl4 := xl2.size; replace hown := hown.ext xl2; replace X := X.ext xl2; replace X1 := X1.ext xl2; replace hrj := hrj.ext xl2; clear xl2; refine ⟨qsl3, ?_⟩; refine tw_pure rfl (pur_move rfl) rfl (tw_pure rfl (pur_move rfl) rfl (tw_pure rfl (pur_move rfl) rfl ?_)); refine tw_pure rfl (pur_indexAddr tabOk rfl rfl rfl rfl (by omega) (by omega)) rfl ?_
                  refine tw_pure rfl (pur_load tabOk rfl rfl rfl (fun wz hz => Row.at0 (Row.ext d_hrj hz) rfl)) rfl (tw_pure rfl (pur_len_s tabOk rfl rfl) rfl ?_); refine tw_pure rfl (pur_add rfl rfl (IntWalk.i64_in _ (by omega))) rfl ?_; refine tw_pure rfl (pur_move rfl) rfl (tw_pure rfl (pur_len_s tabOk rfl rfl) rfl (tw_pure rfl (pur_leq rfl rfl) rfl (tw_pure rfl (pur_move rfl) rfl ?_))); refine tw_off rfl rfl rfl rfl (gd_tf (by omega)) rfl ?_; refine tw_off rfl rfl rfl rfl (gd_tf (by omega)) rfl ?_; refine tw_off rfl rfl rfl rfl (gd_tf (by omega)) rfl ?_; refine tw_off rfl rfl rfl rfl (gd_tf (by omega)) rfl ?_; refine tw_off rfl rfl rfl rfl (gd_tf (by omega)) rfl ?_; refine tw_off rfl rfl rfl rfl (gd_tf (by omega)) rfl ?_; refine tw_off rfl rfl rfl rfl (gd_tf (by omega)) rfl ?_; refine tw_off rfl rfl rfl rfl (gd_tf (by omega)) rfl ?_; refine tw_off rfl rfl rfl rfl (gd_tf (by omega)) rfl ?_; refine tw_off rfl rfl rfl rfl (gd_tf (by omega)) rfl ?_; refine tw_off rfl rfl rfl rfl (gd_tf (by omega)) rfl ?_; refine tw_off rfl rfl rfl rfl (gd_tf (by omega)) rfl ?_; refine tw_off rfl rfl rfl rfl (gd_tf (by omega)) rfl ?_; refine tw_off rfl rfl rfl rfl (gd_tf (by omega)) rfl ?_; clear qsl3 d_hown d_hrj; refine tw_tail rfl ?_; refine lw_off rfl rfl rfl (gd_tf (by omega)) rfl ?_; refine lw_pure (pur_pick_no rfl rfl (by omega)) rfl ?_; refine cT (cw_cond_f rfl (cw_skip (qw_block_norm (qw_then (cw_region (cM rfl rfl ?_)))))); refine lw_pure (pur_add rfl rfl (IntWalk.i64_in _ (by omega))) rfl ?_
                  refine cA rfl rfl (lw_nil ?_); rotate_left 1
                 exact qw_round (j + 1, 0) (by (refine sub_cons rfl ?_; refine sub_cons rfl ?_; refine sub_cons rfl ?_; refine sub_cons rfl ?_; refine sub_cons rfl ?_; refine sub_cons rfl ?_; exact sub_nil)) ⟨HR.out.ext X1, by assumption, X, by simp only; omega, hpn.symm⟩ (by simp only; omega)
             · have hz : signLen (s.drop p) = 0 := by
                rw [← pickLen_signs, ← hm0, hm, List.take_of_length_le (by rw [hkl]; omega)]
               rw [HZ.out hz]; subst hm0
               focus
                refine cw_seq (cS (cM rfl rfl (cM rfl rfl (lw_pure (pur_len_slice tabOk rfl rfl) rfl (lw_pure (pur_lss rfl rfl) rfl (cM rfl rfl ?_)))))); refine lw_off rfl rfl rfl (gd_tf (by omega)) rfl ?_; refine lw_off rfl rfl rfl (gd_tf (by omega)) rfl ?_; refine lw_off rfl rfl rfl (gd_tf (by omega)) rfl ?_; refine lw_pure (pur_pick_no rfl rfl (by omega)) rfl ?_; refine cT (cw_cond_f rfl (cw_exit (qw_then_exit (qw_then_exit (qw_block_exit (qw_then (cS (cM rfl rfl (cM rfl rfl (lw_pure (pur_eql rfl rfl) rfl (cT ?_))))))))))); refine cw_yes rfl (by omega) ?_; refine cS (cM rfl rfl (cA rfl rfl (cA rfl rfl (cA rfl rfl (cT (cw_ret (qw_then_ret (qw_block_ret (qw_then_ret (qw_block_ret (qw_then_ret ?_))))))))))); refine qw_ret3 rfl rfl rfl rfl ?_; rotate_left 1
               exact ⟨_, _, rfl, Or.inl rfl, X⟩
           · have hml : m = signLen (s.drop p) := by rw [hm]; exact pick_all (by omega)
             by_cases hlj : j < 31
             · focus
                refine cw_seq (cS (cM rfl rfl (cM rfl rfl (lw_pure (pur_len_slice tabOk rfl rfl) rfl (lw_pure (pur_lss rfl rfl) rfl (cM rfl rfl ?_)))))); refine lw_on rfl rfl rfl (gd_tt (by omega)) ?_; refine cM rfl rfl ?_; refine lw_on rfl rfl rfl (gd_tt (by omega)) ?_; refine cM rfl rfl ?_; refine lw_on rfl rfl rfl (gd_tt (by omega)) ?_; refine lw_pure (pur_eql rfl rfl) rfl ?_; refine lw_pure (pur_pick_yes rfl rfl (by omega)) rfl ?_; refine cT ?_; refine cw_no rfl (by omega) ?_; refine cw_exit (qw_then_exit (qw_then_exit (qw_block_exit (qw_then (cS (cM rfl rfl (cM rfl rfl (lw_pure (pur_eql rfl rfl) rfl (cT ?_))))))))); refine cw_no rfl (by omega) ?_; refine cw_skip (qw_then (cS (cM rfl rfl (cM rfl rfl (cM rfl rfl (cM rfl rfl ?_)))))); refine lw_pure (pur_spartN tabOk rfl rfl rfl rfl (by omega)) rfl ?_; refine cM rfl rfl (lw_pure (pur_build' [_, _] tabOk zOk rfl rfl rfl rfl) rfl ?_); (refine lw_does (does_slice' [_, _] tabOk zOk rfl rfl rfl rfl rfl rfl rfl rfl rfl) rfl ?_ (fun _ h => h); rintro _ wn2 ⟨bn1, rfl, nn3, tn4⟩); clear tn4; have hn5 := nn3.blk; have xn6 := nn3.ext; have pn7 := nn3.pos; have zn8 := nn3.size; clear nn3; replace hr := hr.ext xn6; replace hown := hown.ext xn6; replace X := X.ext xn6; replace X1 := X1.ext xn6; clear xn6; refine lw_appendL (sh := rtokShape) (z := ⟨3, (s.drop p).take m, (p : Int)⟩) tabOk zOk rfl rfl rfl rfl (by kernel_rfl) rfl rfl rfl (by assumption) (Blk.row (by assumption)) rfl (by omega) (by have := Ext.size X; omega) rfl ?_; rintro gn9 cap'n10 wn11 hn12 fn13
                have zn14 := fn13.size; clear hn5 hr hown; replace X := X.fr fn13 (by omega); clear fn13; refine cA rfl rfl (cT (cw_region (cM rfl rfl (cA rfl rfl (lw_nil (qw_block_norm ?_)))))); rotate_left 1
               refine qw_round (p + m, acc ++ [⟨3, (s.drop p).take m, (p : Int)⟩], some ⟨_, 0, none⟩, _) (by (refine sub_cons rfl ?_; refine sub_cons rfl ?_; refine sub_cons rfl ?_; exact sub_nil)) ⟨by assumption, X, by simp only; omega, by simp only [List.length_append, List.length_cons, List.length_nil]; omega, by have := HS.out (by omega); rw [show signLen (s.drop p) = m from by omega] at this; exact this⟩ (by simp only; omega)
             · focus
                refine cw_seq (cS (cM rfl rfl (cM rfl rfl (lw_pure (pur_len_slice tabOk rfl rfl) rfl (lw_pure (pur_lss rfl rfl) rfl (cM rfl rfl ?_)))))); refine lw_off rfl rfl rfl (gd_tf (by omega)) rfl ?_; refine lw_off rfl rfl rfl (gd_tf (by omega)) rfl ?_; refine lw_off rfl rfl rfl (gd_tf (by omega)) rfl ?_; refine lw_pure (pur_pick_no rfl rfl (by omega)) rfl ?_; refine cT (cw_cond_f rfl (cw_exit (qw_then_exit (qw_then_exit (qw_block_exit (qw_then (cS (cM rfl rfl (cM rfl rfl (lw_pure (pur_eql rfl rfl) rfl (cT ?_))))))))))); refine cw_no rfl (by omega) ?_; refine cw_skip (qw_then (cS (cM rfl rfl (cM rfl rfl (cM rfl rfl (cM rfl rfl ?_)))))); refine lw_pure (pur_spartN tabOk rfl rfl rfl rfl (by omega)) rfl ?_; refine cM rfl rfl (lw_pure (pur_build' [_, _] tabOk zOk rfl rfl rfl rfl) rfl ?_); (refine lw_does (does_slice' [_, _] tabOk zOk rfl rfl rfl rfl rfl rfl rfl rfl rfl) rfl ?_ (fun _ h => h); rintro _ wo2 ⟨bo1, rfl, no3, to4⟩); clear to4; have ho5 := no3.blk; have xo6 := no3.ext; have po7 := no3.pos; have zo8 := no3.size; clear no3; replace hr := hr.ext xo6; replace hown := hown.ext xo6; replace X := X.ext xo6; replace X1 := X1.ext xo6; clear xo6; refine lw_appendL (sh := rtokShape) (z := ⟨3, (s.drop p).take m, (p : Int)⟩) tabOk zOk rfl rfl rfl rfl (by kernel_rfl) rfl rfl rfl (by assumption) (Blk.row (by assumption)) rfl (by omega) (by have := Ext.size X; omega) rfl ?_; rintro go9 cap'o10 wo11 ho12 fo13; have zo14 := fo13.size; clear ho5 hr hown; replace X := X.fr fo13 (by omega)
                clear fo13; refine cA rfl rfl (cT (cw_region (cM rfl rfl (cA rfl rfl (lw_nil (qw_block_norm ?_)))))); rotate_left 1
               refine qw_round (p + m, acc ++ [⟨3, (s.drop p).take m, (p : Int)⟩], some ⟨_, 0, none⟩, _) (by (refine sub_cons rfl ?_; refine sub_cons rfl ?_; refine sub_cons rfl ?_; exact sub_nil)) ⟨by assumption, X, by simp only; omega, by simp only [List.length_append, List.length_cons, List.length_nil]; omega, by have := HS.out (by omega); rw [show signLen (s.drop p) = m from by omega] at this; exact this⟩ (by simp only; omega)
         · have hft : firstTok (s.drop p) = (2, span digit (s.drop p)) := by rw [drop_at hlt]; simp [firstTok, hl, hd]
           have hsp : span digit (s.drop p) = 1 + span digit (s.drop (p + 1)) := by rw [span_at hlt, if_pos hd]
           have hle := span_le (f := digit) (s := s) (p := p); clear hb h35 hb0
           have HE := Lib.hid (step_tok hlt hft (by omega) (by decide) (by decide) he); clear he
           focus
            refine cw_seq (cS (cM rfl rfl (cM rfl rfl (lw_pure (pur_len_s tabOk rfl rfl) rfl (lw_pure (pur_lss rfl rfl) rfl (cT ?_)))))); refine cw_yes rfl (by omega) ?_; refine cw_skip (qw_then (cw_block (cS (cM rfl rfl (cM rfl rfl ?_))))); refine lw_pure (pur_sindex tabOk rfl rfl rfl (by omega) (by assumption)) rfl ?_; refine cA rfl rfl (cT (cw_seq (cS (cM rfl rfl (lw_pure (pur_eql rfl rfl) rfl (cM rfl rfl ?_)))))); refine lw_on rfl rfl rfl (gd_ff (by omega)) ?_; refine cM rfl rfl ?_; refine lw_on rfl rfl rfl (gd_ff (by omega)) ?_; refine lw_pure (pur_eql rfl rfl) rfl ?_; refine lw_pure (pur_pick_no rfl rfl (by omega)) rfl ?_; refine cM rfl rfl ?_; refine lw_on rfl rfl rfl (gd_ff (by omega)) ?_; refine cM rfl rfl ?_; refine lw_on rfl rfl rfl (gd_ff (by omega)) ?_; refine lw_pure (pur_eql rfl rfl) rfl ?_; refine lw_pure (pur_pick_no rfl rfl (by omega)) rfl ?_; refine cM rfl rfl ?_; refine lw_on rfl rfl rfl (gd_ff (by omega)) ?_; refine cM rfl rfl ?_; refine lw_on rfl rfl rfl (gd_ff (by omega)) ?_; refine lw_pure (pur_eql rfl rfl) rfl ?_; refine lw_pure (pur_pick_no rfl rfl (by omega)) rfl ?_; refine cT ?_; refine cw_no rfl (by omega) ?_; refine cw_skip (qw_then (cw_seq (cS (cM rfl rfl (lw_pure (pur_eql rfl rfl) rfl (cT ?_)))))); refine cw_no rfl (by omega) ?_; refine cw_skip (qw_then (cS (cM rfl rfl (cA rfl rfl (cT (cw_seq (cS (cM rfl rfl ?_)))))))); refine cC (by kernel_rfl) rfl (rletter_c _ _) rfl ?_; rintro _ wp1 ⟨⟨⟩, rfl⟩; refine cT ?_; refine cw_bf rfl (by assumption) ?_
            refine cS (cM rfl rfl ?_); refine cC (by kernel_rfl) rfl (rdigit_c _ _) rfl ?_; rintro _ wp2 ⟨⟨⟩, rfl⟩; refine cT ?_; refine cw_bt rfl (by assumption) ?_; refine cw_block ?_; rotate_left 1
           refine cw_loop (ι := Nat) (fun m => [(0, str s), (5, .slice a acc.length cap), (6, .int .i64 p), (8, .int .i64 ((p : Int) + (m : Int)))]) (fun m w' => w1 = w' ∧ p + m ≤ s.length ∧ span digit (s.drop p) = m + span digit (s.drop (p + m))) (fun m => s.length - (p + m)) 0 (by (refine sub_cons rfl ?_; refine sub_cons rfl ?_; refine sub_cons rfl ?_; refine sub_cons rfl ?_; exact sub_nil)) ⟨rfl, by omega, by simp⟩ ?_; rintro m _ ⟨rfl, hm, hem⟩; refine CW.sub (m := [(0, str s), (5, .slice a acc.length cap), (6, .int .i64 p), (8, .int .i64 ((p : Int) + (m : Int)))]) ?_ (by (refine sub_cons rfl ?_; refine sub_cons rfl ?_; refine sub_cons rfl ?_; refine sub_cons rfl ?_; exact sub_nil)); clear hcp n1 n2 n3 n4 n5
           by_cases hlm : p + m < s.length
           · have hcm : s[((p : Int) + (m : Int)).toNat]? = some s[p + m] := by rw [show ((p : Int) + (m : Int)).toNat = p + m from by omega]; exact List.getElem?_eq_getElem hlm
             have hsm := span_at (f := digit) hlm
             cases hdc : digit s[p + m]
             · rw [if_neg (by simp [hdc])] at hsm
               focus
                refine cw_seq (cS (cM rfl rfl (cM rfl rfl (lw_pure (pur_len_s tabOk rfl rfl) rfl (lw_pure (pur_lss rfl rfl) rfl (cM rfl rfl ?_)))))); refine lw_on rfl rfl rfl (gd_tt (by omega)) ?_; refine cM rfl rfl ?_; refine lw_on rfl rfl rfl (gd_tt (by omega)) ?_; refine cM rfl rfl ?_; refine lw_on rfl rfl rfl (gd_tt (by omega)) ?_; refine lw_pure (pur_sindex tabOk rfl rfl rfl (by omega) (by assumption)) rfl ?_; refine lw_on rfl rfl rfl (gd_tt (by omega)) ?_; refine cC (by kernel_rfl) rfl (rdigit_c _ _) rfl ?_; rintro _ wq1 ⟨⟨⟩, rfl⟩; refine lw_pure (pur_pick_yes rfl rfl (by omega)) rfl ?_; refine cT ?_; refine cw_bf rfl (by assumption) ?_; refine cw_exit (qw_then_exit (qw_then_exit (qw_block_exit (qw_then (cS (cM rfl rfl (cM rfl rfl (cM rfl rfl (cM rfl rfl ?_))))))))); refine lw_pure (pur_spartN tabOk rfl rfl rfl rfl (by omega)) rfl ?_; refine cM rfl rfl (lw_pure (pur_build' [_, _] tabOk zOk rfl rfl rfl rfl) rfl ?_); (refine lw_does (does_slice' [_, _] tabOk zOk rfl rfl rfl rfl rfl rfl rfl rfl rfl) rfl ?_ (fun _ h => h); rintro _ wq3 ⟨bq2, rfl, nq4, tq5⟩); clear tq5; have hq6 := nq4.blk; have xq7 := nq4.ext; have pq8 := nq4.pos; have zq9 := nq4.size; clear nq4; replace hown := hown.ext xq7; replace X := X.ext xq7; clear xq7; refine lw_appendL (sh := rtokShape) (z := ⟨2, (s.drop p).take m, (p : Int)⟩) tabOk zOk rfl rfl rfl rfl (by kernel_rfl) rfl rfl rfl (by assumption) (Blk.row (by assumption)) rfl (by omega) (by have := Ext.size X; omega) rfl ?_; rintro gq10 cap'q11 wq12 hq13 fq14
                have zq15 := fq14.size; clear hq6 hown; replace X := X.fr fq14 (by omega); clear fq14; refine cA rfl rfl (cT (cw_region (cM rfl rfl (cA rfl rfl (lw_nil (qw_block_norm ?_)))))); rotate_left 1
               refine qw_round (p + m, acc ++ [⟨2, (s.drop p).take m, (p : Int)⟩], some ⟨_, 0, none⟩, _) (by (refine sub_cons rfl ?_; refine sub_cons rfl ?_; refine sub_cons rfl ?_; exact sub_nil)) ⟨by assumption, X, by simp only; omega, by simp only [List.length_append, List.length_cons, List.length_nil]; omega, by have := HE.out; rw [show span digit (s.drop p) = m from by omega] at this; exact this⟩ (by simp only; omega)
             · rw [if_pos hdc] at hsm
               focus
                refine cw_seq (cS (cM rfl rfl (cM rfl rfl (lw_pure (pur_len_s tabOk rfl rfl) rfl (lw_pure (pur_lss rfl rfl) rfl (cM rfl rfl ?_)))))); refine lw_on rfl rfl rfl (gd_tt (by omega)) ?_; refine cM rfl rfl ?_; refine lw_on rfl rfl rfl (gd_tt (by omega)) ?_; refine cM rfl rfl ?_; refine lw_on rfl rfl rfl (gd_tt (by omega)) ?_; refine lw_pure (pur_sindex tabOk rfl rfl rfl (by omega) (by assumption)) rfl ?_; refine lw_on rfl rfl rfl (gd_tt (by omega)) ?_; refine cC (by kernel_rfl) rfl (rdigit_c _ _) rfl ?_; rintro _ wr1 ⟨⟨⟩, rfl⟩; refine lw_pure (pur_pick_yes rfl rfl (by omega)) rfl ?_; refine cT ?_; refine cw_bt rfl (by assumption) ?_; refine cw_skip (qw_then (cw_block (cw_region (cM rfl rfl ?_)))); refine lw_pure (pur_add rfl rfl (IntWalk.i64_in _ (by omega))) rfl ?_; refine cA rfl rfl (lw_nil (qw_block_norm ?_)); rotate_left 1
               exact qw_round (m + 1) (by (refine sub_cons rfl ?_; refine sub_cons rfl ?_; refine sub_cons rfl ?_; refine sub_cons rfl ?_; exact sub_nil)) ⟨rfl, by omega, by rw [hem, hsm]; simp only [Nat.add_assoc]⟩ (by omega)
           · have hsm := span_over (f := digit) (s := s) (p := p + m) (by omega)
             focus
              refine cw_seq (cS (cM rfl rfl (cM rfl rfl (lw_pure (pur_len_s tabOk rfl rfl) rfl (lw_pure (pur_lss rfl rfl) rfl (cM rfl rfl ?_)))))); refine lw_off rfl rfl rfl (gd_tf (by omega)) rfl ?_; refine lw_off rfl rfl rfl (gd_tf (by omega)) rfl ?_; refine lw_off rfl rfl rfl (gd_tf (by omega)) rfl ?_; refine lw_off rfl rfl rfl (gd_tf (by omega)) rfl ?_; refine lw_pure (pur_pick_no rfl rfl (by omega)) rfl ?_; refine cT (cw_cond_f rfl (cw_exit (qw_then_exit (qw_then_exit (qw_block_exit (qw_then (cS (cM rfl rfl (cM rfl rfl (cM rfl rfl (cM rfl rfl ?_))))))))))); refine lw_pure (pur_spartN tabOk rfl rfl rfl rfl (by omega)) rfl ?_; refine cM rfl rfl (lw_pure (pur_build' [_, _] tabOk zOk rfl rfl rfl rfl) rfl ?_); (refine lw_does (does_slice' [_, _] tabOk zOk rfl rfl rfl rfl rfl rfl rfl rfl rfl) rfl ?_ (fun _ h => h); rintro _ ws2 ⟨bs1, rfl, ns3, ts4⟩); clear ts4; have hs5 := ns3.blk; have xs6 := ns3.ext; have ps7 := ns3.pos; have zs8 := ns3.size; clear ns3; replace hown := hown.ext xs6; replace X := X.ext xs6; clear xs6; refine lw_appendL (sh := rtokShape) (z := ⟨2, (s.drop p).take m, (p : Int)⟩) tabOk zOk rfl rfl rfl rfl (by kernel_rfl) rfl rfl rfl (by assumption) (Blk.row (by assumption)) rfl (by omega) (by have := Ext.size X; omega) rfl ?_; rintro gs9 cap's10 ws11 hs12 fs13; have zs14 := fs13.size; clear hs5 hown; replace X := X.fr fs13 (by omega); clear fs13; refine cA rfl rfl (cT (cw_region (cM rfl rfl (cA rfl rfl (lw_nil (qw_block_norm ?_)))))); rotate_left 1
             refine qw_round (p + m, acc ++ [⟨2, (s.drop p).take m, (p : Int)⟩], some ⟨_, 0, none⟩, _) (by (refine sub_cons rfl ?_; refine sub_cons rfl ?_; refine sub_cons rfl ?_; exact sub_nil)) ⟨by assumption, X, by simp only; omega, by simp only [List.length_append, List.length_cons, List.length_nil]; omega, by have := HE.out; rw [show span digit (s.drop p) = m from by omega] at this; exact this⟩ (by simp only; omega)
       · have hft : firstTok (s.drop p) = (1, span wordish (s.drop p)) := by rw [drop_at hlt]; simp [firstTok, hl]
         have hsp : span wordish (s.drop p) = 1 + span wordish (s.drop (p + 1)) := by rw [span_at hlt, if_pos]; simp [wordish, hl]
         have hle := span_le (f := wordish) (s := s) (p := p); clear hb h35 hb0
         have HE := Lib.hid (step_tok hlt hft (by omega) (by decide) (by decide) he); clear he
         focus
          refine cw_seq (cS (cM rfl rfl (cM rfl rfl (lw_pure (pur_len_s tabOk rfl rfl) rfl (lw_pure (pur_lss rfl rfl) rfl (cT ?_)))))); refine cw_yes rfl (by omega) ?_; refine cw_skip (qw_then (cw_block (cS (cM rfl rfl (cM rfl rfl ?_))))); refine lw_pure (pur_sindex tabOk rfl rfl rfl (by omega) (by assumption)) rfl ?_; refine cA rfl rfl (cT (cw_seq (cS (cM rfl rfl (lw_pure (pur_eql rfl rfl) rfl (cM rfl rfl ?_)))))); refine lw_on rfl rfl rfl (gd_ff (by omega)) ?_; refine cM rfl rfl ?_; refine lw_on rfl rfl rfl (gd_ff (by omega)) ?_; refine lw_pure (pur_eql rfl rfl) rfl ?_; refine lw_pure (pur_pick_no rfl rfl (by omega)) rfl ?_; refine cM rfl rfl ?_; refine lw_on rfl rfl rfl (gd_ff (by omega)) ?_; refine cM rfl rfl ?_; refine lw_on rfl rfl rfl (gd_ff (by omega)) ?_; refine lw_pure (pur_eql rfl rfl) rfl ?_; refine lw_pure (pur_pick_no rfl rfl (by omega)) rfl ?_; refine cM rfl rfl ?_; refine lw_on rfl rfl rfl (gd_ff (by omega)) ?_; refine cM rfl rfl ?_; refine lw_on rfl rfl rfl (gd_ff (by omega)) ?_; refine lw_pure (pur_eql rfl rfl) rfl ?_; refine lw_pure (pur_pick_no rfl rfl (by omega)) rfl ?_; refine cT ?_; refine cw_no rfl (by omega) ?_; refine cw_skip (qw_then (cw_seq (cS (cM rfl rfl (lw_pure (pur_eql rfl rfl) rfl (cT ?_)))))); refine cw_no rfl (by omega) ?_; refine cw_skip (qw_then (cS (cM rfl rfl (cA rfl rfl (cT (cw_seq (cS (cM rfl rfl ?_)))))))); refine cC (by kernel_rfl) rfl (rletter_c _ _) rfl ?_; rintro _ wt1 ⟨⟨⟩, rfl⟩; refine cT ?_; refine cw_bt rfl (by assumption) ?_; refine cw_block ?_
          rotate_left 1
         refine cw_loop (ι := Nat) (fun m => [(0, str s), (5, .slice a acc.length cap), (6, .int .i64 p), (8, .int .i64 ((p : Int) + (m : Int)))]) (fun m w' => w1 = w' ∧ p + m ≤ s.length ∧ span wordish (s.drop p) = m + span wordish (s.drop (p + m))) (fun m => s.length - (p + m)) 0 (by (refine sub_cons rfl ?_; refine sub_cons rfl ?_; refine sub_cons rfl ?_; refine sub_cons rfl ?_; exact sub_nil)) ⟨rfl, by omega, by simp⟩ ?_; rintro m _ ⟨rfl, hm, hem⟩; refine CW.sub (m := [(0, str s), (5, .slice a acc.length cap), (6, .int .i64 p), (8, .int .i64 ((p : Int) + (m : Int)))]) ?_ (by (refine sub_cons rfl ?_; refine sub_cons rfl ?_; refine sub_cons rfl ?_; refine sub_cons rfl ?_; exact sub_nil)); clear hcp n1 n2 n3 n4 n5
         by_cases hlm : p + m < s.length
         · have hcm : s[((p : Int) + (m : Int)).toNat]? = some s[p + m] := by rw [show ((p : Int) + (m : Int)).toNat = p + m from by omega]; exact List.getElem?_eq_getElem hlm
           have hsm := span_at (f := wordish) hlm
           cases hlc : letter s[p + m]
           · cases hdc : digit s[p + m]
             · rw [if_neg (by simp [wordish, hlc, hdc])] at hsm
               focus
                refine cw_seq (cS (cM rfl rfl (cM rfl rfl (lw_pure (pur_len_s tabOk rfl rfl) rfl (lw_pure (pur_lss rfl rfl) rfl (cM rfl rfl ?_)))))); refine lw_on rfl rfl rfl (gd_tt (by omega)) ?_; refine cM rfl rfl ?_; refine lw_on rfl rfl rfl (gd_tt (by omega)) ?_; refine cM rfl rfl ?_; refine lw_on rfl rfl rfl (gd_tt (by omega)) ?_; refine lw_pure (pur_sindex tabOk rfl rfl rfl (by omega) (by assumption)) rfl ?_; refine lw_on rfl rfl rfl (gd_tt (by omega)) ?_; refine cC (by kernel_rfl) rfl (rletter_c _ _) rfl ?_; rintro _ wu1 ⟨⟨⟩, rfl⟩; refine lw_on rfl rfl rfl (gd_tt (by omega)) ?_; refine cM rfl rfl ?_; refine lw_on rfl rfl rfl (gb_ff (by assumption)) ?_; refine cM rfl rfl ?_; refine lw_on rfl rfl rfl (gb_ff (by assumption)) ?_; refine cM rfl rfl ?_; refine lw_on rfl rfl rfl (gb_ff (by assumption)) ?_; refine lw_pure (pur_sindex tabOk rfl rfl rfl (by omega) (by assumption)) rfl ?_; refine lw_on rfl rfl rfl (gb_ff (by assumption)) ?_; refine cC (by kernel_rfl) rfl (rdigit_c _ _) rfl ?_; rintro _ wu2 ⟨⟨⟩, rfl⟩; refine lw_on rfl rfl rfl (gd_tt (by omega)) ?_; refine lw_pure (pur_pick_f rfl rfl (by assumption)) rfl ?_; refine lw_pure (pur_pick_yes rfl rfl (by omega)) rfl ?_; refine cT ?_; refine cw_bf rfl (by assumption) ?_; refine cw_exit (qw_then_exit (qw_then_exit (qw_block_exit (qw_then (cS (cM rfl rfl (cM rfl rfl (cM rfl rfl (cM rfl rfl ?_))))))))); refine lw_pure (pur_spartN tabOk rfl rfl rfl rfl (by omega)) rfl ?_; refine cM rfl rfl (lw_pure (pur_build' [_, _] tabOk zOk rfl rfl rfl rfl) rfl ?_)
                (refine lw_does (does_slice' [_, _] tabOk zOk rfl rfl rfl rfl rfl rfl rfl rfl rfl) rfl ?_ (fun _ h => h); rintro _ wu4 ⟨bu3, rfl, nu5, tu6⟩); clear tu6; have hu7 := nu5.blk; have xu8 := nu5.ext; have pu9 := nu5.pos; have zu10 := nu5.size; clear nu5; replace hown := hown.ext xu8; replace X := X.ext xu8; clear xu8; refine lw_appendL (sh := rtokShape) (z := ⟨1, (s.drop p).take m, (p : Int)⟩) tabOk zOk rfl rfl rfl rfl (by kernel_rfl) rfl rfl rfl (by assumption) (Blk.row (by assumption)) rfl (by omega) (by have := Ext.size X; omega) rfl ?_; rintro gu11 cap'u12 wu13 hu14 fu15; have zu16 := fu15.size; clear hu7 hown; replace X := X.fr fu15 (by omega); clear fu15; refine cA rfl rfl (cT (cw_region (cM rfl rfl (cA rfl rfl (lw_nil (qw_block_norm ?_)))))); rotate_left 1
               refine qw_round (p + m, acc ++ [⟨1, (s.drop p).take m, (p : Int)⟩], some ⟨_, 0, none⟩, _) (by (refine sub_cons rfl ?_; refine sub_cons rfl ?_; refine sub_cons rfl ?_; exact sub_nil)) ⟨by assumption, X, by simp only; omega, by simp only [List.length_append, List.length_cons, List.length_nil]; omega, by have := HE.out; rw [show span wordish (s.drop p) = m from by omega] at this; exact this⟩ (by simp only; omega)
             · rw [if_pos (by simp [wordish, hlc, hdc])] at hsm
               focus
                refine cw_seq (cS (cM rfl rfl (cM rfl rfl (lw_pure (pur_len_s tabOk rfl rfl) rfl (lw_pure (pur_lss rfl rfl) rfl (cM rfl rfl ?_)))))); refine lw_on rfl rfl rfl (gd_tt (by omega)) ?_; refine cM rfl rfl ?_; refine lw_on rfl rfl rfl (gd_tt (by omega)) ?_; refine cM rfl rfl ?_; refine lw_on rfl rfl rfl (gd_tt (by omega)) ?_; refine lw_pure (pur_sindex tabOk rfl rfl rfl (by omega) (by assumption)) rfl ?_; refine lw_on rfl rfl rfl (gd_tt (by omega)) ?_; refine cC (by kernel_rfl) rfl (rletter_c _ _) rfl ?_; rintro _ wv1 ⟨⟨⟩, rfl⟩; refine lw_on rfl rfl rfl (gd_tt (by omega)) ?_; refine cM rfl rfl ?_; refine lw_on rfl rfl rfl (gb_ff (by assumption)) ?_; refine cM rfl rfl ?_; refine lw_on rfl rfl rfl (gb_ff (by assumption)) ?_; refine cM rfl rfl ?_; refine lw_on rfl rfl rfl (gb_ff (by assumption)) ?_; refine lw_pure (pur_sindex tabOk rfl rfl rfl (by omega) (by assumption)) rfl ?_; refine lw_on rfl rfl rfl (gb_ff (by assumption)) ?_; refine cC (by kernel_rfl) rfl (rdigit_c _ _) rfl ?_; rintro _ wv2 ⟨⟨⟩, rfl⟩; refine lw_on rfl rfl rfl (gd_tt (by omega)) ?_; refine lw_pure (pur_pick_f rfl rfl (by assumption)) rfl ?_; refine lw_pure (pur_pick_yes rfl rfl (by omega)) rfl ?_; refine cT ?_; refine cw_bt rfl (by assumption) ?_; refine cw_skip (qw_then (cw_block (cw_region (cM rfl rfl ?_)))); refine lw_pure (pur_add rfl rfl (IntWalk.i64_in _ (by omega))) rfl ?_; refine cA rfl rfl (lw_nil (qw_block_norm ?_)); rotate_left 1
               exact qw_round (m + 1) (by (refine sub_cons rfl ?_; refine sub_cons rfl ?_; refine sub_cons rfl ?_; refine sub_cons rfl ?_; exact sub_nil)) ⟨rfl, by omega, by rw [hem, hsm]; simp only [Nat.add_assoc]⟩ (by omega)
           · rw [if_pos (by simp [wordish, hlc])] at hsm
             focus
              refine cw_seq (cS (cM rfl rfl (cM rfl rfl (lw_pure (pur_len_s tabOk rfl rfl) rfl (lw_pure (pur_lss rfl rfl) rfl (cM rfl rfl ?_)))))); refine lw_on rfl rfl rfl (gd_tt (by omega)) ?_; refine cM rfl rfl ?_; refine lw_on rfl rfl rfl (gd_tt (by omega)) ?_; refine cM rfl rfl ?_; refine lw_on rfl rfl rfl (gd_tt (by omega)) ?_; refine lw_pure (pur_sindex tabOk rfl rfl rfl (by omega) (by assumption)) rfl ?_; refine lw_on rfl rfl rfl (gd_tt (by omega)) ?_; refine cC (by kernel_rfl) rfl (rletter_c _ _) rfl ?_; rintro _ ww1 ⟨⟨⟩, rfl⟩; refine lw_on rfl rfl rfl (gd_tt (by omega)) ?_; refine cM rfl rfl ?_; refine lw_off rfl rfl rfl (gb_ft (by assumption)) rfl ?_; refine lw_off rfl rfl rfl (gb_ft (by assumption)) rfl ?_; refine lw_off rfl rfl rfl (gb_ft (by assumption)) rfl ?_; refine lw_off rfl rfl rfl (gb_ft (by assumption)) rfl ?_; refine lw_on rfl rfl rfl (gd_tt (by omega)) ?_; refine lw_pure (pur_pick_t rfl rfl (by assumption)) rfl ?_; refine lw_pure (pur_pick_yes rfl rfl (by omega)) rfl ?_; refine cT (cw_cond_t rfl (cw_skip (qw_then (cw_block (cw_region (cM rfl rfl ?_)))))); refine lw_pure (pur_add rfl rfl (IntWalk.i64_in _ (by omega))) rfl ?_; refine cA rfl rfl (lw_nil (qw_block_norm ?_)); rotate_left 1
             exact qw_round (m + 1) (by (refine sub_cons rfl ?_; refine sub_cons rfl ?_; refine sub_cons rfl ?_; refine sub_cons rfl ?_; exact sub_nil)) ⟨rfl, by omega, by rw [hem, hsm]; simp only [Nat.add_assoc]⟩ (by omega)
         · have hsm := span_over (f := wordish) (s := s) (p := p + m) (by omega)
           focus
            refine cw_seq (cS (cM rfl rfl (cM rfl rfl (lw_pure (pur_len_s tabOk rfl rfl) rfl (lw_pure (pur_lss rfl rfl) rfl (cM rfl rfl ?_)))))); refine lw_off rfl rfl rfl (gd_tf (by omega)) rfl ?_; refine lw_off rfl rfl rfl (gd_tf (by omega)) rfl ?_; refine lw_off rfl rfl rfl (gd_tf (by omega)) rfl ?_; refine lw_off rfl rfl rfl (gd_tf (by omega)) rfl ?_; refine lw_off rfl rfl rfl (gd_tf (by omega)) rfl ?_; refine lw_off_u rfl rfl rfl rfl (lw_off_u rfl rfl rfl rfl (lw_off_u rfl rfl rfl rfl (lw_off_u rfl rfl rfl rfl ?_))); refine lw_off rfl rfl rfl (gd_tf (by omega)) rfl ?_; refine lw_pure (pur_pick_no rfl rfl (by omega)) rfl ?_; refine cT (cw_cond_f rfl (cw_exit (qw_then_exit (qw_then_exit (qw_block_exit (qw_then (cS (cM rfl rfl (cM rfl rfl (cM rfl rfl (cM rfl rfl ?_))))))))))); refine lw_pure (pur_spartN tabOk rfl rfl rfl rfl (by omega)) rfl ?_; refine cM rfl rfl (lw_pure (pur_build' [_, _] tabOk zOk rfl rfl rfl rfl) rfl ?_); (refine lw_does (does_slice' [_, _] tabOk zOk rfl rfl rfl rfl rfl rfl rfl rfl rfl) rfl ?_ (fun _ h => h); rintro _ wx2 ⟨bx1, rfl, nx3, tx4⟩); clear tx4; have hx5 := nx3.blk; have xx6 := nx3.ext; have px7 := nx3.pos; have zx8 := nx3.size; clear nx3; replace hown := hown.ext xx6; replace X := X.ext xx6; clear xx6; refine lw_appendL (sh := rtokShape) (z := ⟨1, (s.drop p).take m, (p : Int)⟩) tabOk zOk rfl rfl rfl rfl (by kernel_rfl) rfl rfl rfl (by assumption) (Blk.row (by assumption)) rfl (by omega) (by have := Ext.size X; omega) rfl ?_; rintro gx9 cap'x10 wx11 hx12 fx13
            have zx14 := fx13.size; clear hx5 hown; replace X := X.fr fx13 (by omega); clear fx13; refine cA rfl rfl (cT (cw_region (cM rfl rfl (cA rfl rfl (lw_nil (qw_block_norm ?_)))))); rotate_left 1
           refine qw_round (p + m, acc ++ [⟨1, (s.drop p).take m, (p : Int)⟩], some ⟨_, 0, none⟩, _) (by (refine sub_cons rfl ?_; refine sub_cons rfl ?_; refine sub_cons rfl ?_; exact sub_nil)) ⟨by assumption, X, by simp only; omega, by simp only [List.length_append, List.length_cons, List.length_nil]; omega, by have := HE.out; rw [show span wordish (s.drop p) = m from by omega] at this; exact this⟩ (by simp only; omega)
 · rw [show solidFrom s 0 = (acc, none) from by rw [he, solidFrom_end (by omega)]; simp [pre]]
   focus
    refine cw_seq (cS (cM rfl rfl (cM rfl rfl (lw_pure (pur_len_s tabOk rfl rfl) rfl (lw_pure (pur_lss rfl rfl) rfl (cT ?_)))))); refine cw_no rfl (by omega) ?_; refine cw_exit (qw_then_exit (qw_then_exit (qw_block_exit (qw_then (cS (cM rfl rfl (cA rfl rfl (cA rfl rfl (cA rfl rfl (cT (cw_ret ?_))))))))))); refine qw_ret3 rfl rfl rfl rfl ?_; rotate_left 1
   exact ⟨_, _, rfl, RToks.lt2 (S := (w.heap.size ≤ ·)) (OwnL.rtoks hown (fun b h => h)), X⟩
end Bk
namespace Bk
open Go Go.RowKit Go.Proofs
attribute [local irreducible] Go.Calls
theorem RToks.ext {S : Nat → Prop} {w w' : World} {l : List Tok} {a : Option Addr} (h : RToks S w l a) (x : Ext w w') : RToks S w' l a := h.mono (fun _ h => h) (fun _ _ _ _ _ h => Row.ext h x)
theorem RToks.fr {S T : Nat → Prop} {w w' : World} {l : List Tok} {a : Option Addr} (h : RToks S w l a) (x : Fr T w w') (hs : ∀ b, S b → ¬ T b) : RToks S w' l a := h.mono (fun _ h => h) (fun b _ _ _ hb h => Row.fr h x (hs b hb))
theorem RToks.wide {S S' : Nat → Prop} {w : World} {l : List Tok} {a : Option Addr} (h : RToks S w l a) (hs : ∀ b, S b → S' b) : RToks S' w l a := h.mono hs (fun _ _ _ _ _ h => h)
theorem takeWhile_twice (p : UInt8 → Bool) (l : List UInt8) : (l.takeWhile p).takeWhile p = l.takeWhile p := by
 induction l with
 | nil => rfl
 | cons x r ih =>
  rw [List.takeWhile_cons]
  split
  · rename_i h; rw [List.takeWhile_cons, if_pos h, ih]
  · rfl
theorem firstTok_name (s : List UInt8) (hs : s ≠ []) (h0 : (firstTok s).2 ≠ 0) : refName (s.take (firstTok s).2) = isName (s.take (firstTok s).2) := by
 cases s with
 | nil => exact absurd rfl hs
 | cons c r =>
  cases hl : letter c
  · obtain ⟨m, hm⟩ : ∃ m, (firstTok (c :: r)).2 = m + 1 := ⟨(firstTok (c :: r)).2 - 1, by omega⟩
    rw [hm, List.take_succ_cons]
    have h1 : ((firstTok (c :: r.take m)).1 == 1) = false := by
     simp only [firstTok, hl, Bool.false_eq_true, if_false]
     split
     · rfl
     · split
       · rfl
       · split <;> rfl
    simp [refName, isName, hl, h1]
  · have h1 : firstTok (c :: r) = (1, span wordish (c :: r)) := by simp [firstTok, hl]
    rw [h1]; simp only [span]; rw [take_takeWhile]
    have hw : wordish c = true := by simp [wordish, hl]
    have e : (c :: r).takeWhile wordish = c :: r.takeWhile wordish := by rw [List.takeWhile_cons, if_pos hw]
    have h2 : firstTok ((c :: r).takeWhile wordish) = (1, ((c :: r).takeWhile wordish).length) := by
     rw [e]; simp only [firstTok, hl, if_true, span]; rw [← e, takeWhile_twice]
    unfold refName isName
    rw [h2, e]
    simp [hl]
theorem lexGo_nm (s : List UInt8) : ∀ (k p : Nat) (acc : List Tok), (∀ t ∈ acc, refName t.text = isName t.text) → ∀ t ∈ (lexGo k s p acc).1, refName t.text = isName t.text
 | 0, p, acc, h => by rw [lexGo]; exact h
 | k + 1, p, acc, h => by
  rw [lexGo]
  split
  · rename_i hp
    split
    · simp
    · rename_i h0
      refine lexGo_nm s k _ _ ?_; intro t ht
      rcases List.mem_append.1 ht with ht | ht
      · exact h t ht
      · simp only [List.mem_singleton] at ht
        subst ht
        have hne : s.drop p ≠ [] := by
         intro e; have := congrArg List.length e
         simp at this; omega
        exact firstTok_name _ hne h0
  · exact h
theorem solid_nm (s : List UInt8) : ∀ t ∈ (startP s).1, refName t.text = isName t.text := by
 intro t ht; have ht : t ∈ (lexT s).1 := (List.mem_filter.1 ht).1
 revert ht
 unfold lexT
 split
 · simp
 · have := lexGo_nm s (s.length + 1) 0 [] (by simp)
   split
   · rename_i l h; rw [h] at this; exact this t
   · simp
theorem start_big {s : List UInt8} (h : 65536 < s.length) : startP s = ([], ⟨0, 0, 5⟩) := by simp [startP, lexT, h, solidT]
theorem start_ok {s : List UInt8} (h : ¬ 65536 < s.length) (h1 : (solidFrom s 0).2 = none) : startP s = ((solidFrom s 0).1, ⟨0, 0, 0⟩) := by
 unfold solidFrom lexFrom at *
 unfold startP lexT
 rw [if_neg h]
 revert h1
 rcases lexGo (s.length + 1) s 0 [] with ⟨l, _ | q⟩ <;> simp [solidR]
theorem start_bad {s : List UInt8} {q : Nat} (h : ¬ 65536 < s.length) (h1 : (solidFrom s 0).2 = some q) : startP s = ([], ⟨0, q, 3⟩) := by
 unfold solidFrom lexFrom at *
 unfold startP lexT
 rw [if_neg h]
 revert h1
 rcases lexGo (s.length + 1) s 0 [] with ⟨l, _ | q⟩
 · simp [solidR]
 · intro h; simp only [solidR, Option.some.injEq] at h; subst h; simp [solidT]
theorem RP.none {b : Nat} {n : Int} {w : World} (h : Blk w b [.slice none 0 0, .int .i64 0, .int .i64 n, .int .i64 0, .int .i64 0]) : RP ⟨b, w.heap.size, [], n, none, 0⟩ ⟨0, 0, 0⟩ w :=
 ⟨h, Or.inl rfl, cell_lt (Row.at0 h.row rfl), Nat.le_refl _, Nat.le_refl _, by simp, by simp, by simp, by simp⟩
def RStartR (s : List UInt8) (w : World) : Ending → World → Prop := fun e w' => ∃ c : RC, e = .returned (.pointer (some ⟨c.pb, 0, none⟩)) ∧ (c.ts = (startP s).1 ∧ c.n = s.length ∧ w.heap.size ≤ c.pb) ∧ RP c (startP s).2 w' ∧ Ext w w'
theorem RStartR.ret {s : List UInt8} {w : World} {e : Ending} {w' : World} (h : RStartR s w e w') : ∃ v, e = .returned v := by
 obtain ⟨_, h, -⟩ := h
 exact ⟨_, h⟩
set_option maxRecDepth 100000 in
set_option maxHeartbeats 4000000 in
theorem rstart_c (s : List UInt8) (w : World) (hs : s.length ≤ 1000000) : Calls Tryz.prog 27 #[str s] w (RStartR s w) := by
 have X := Ext.refl w
 by_cases h0 : 65536 < s.length
 · have e := start_big h0
   refine calls_in Tryz.func27 Tryz.ntmps27 rfl rfl ?_
   focus
    refine cS (cA rfl rfl (cN (cM rfl rfl (lw_pure (pur_len_s tabOk rfl rfl) rfl (lw_pure (pur_build' [_, _, _, _, _] tabOk zOk rfl rfl rfl rfl) rfl ?_))))); (refine lw_box' [_, _, _, _, _] rfl rfl rfl ?_; intro b1 w2 n3); have h4 := n3.blk; have x5 := n3.ext; have p6 := n3.pos; have z7 := n3.size; clear n3; replace X := X.ext x5; clear x5; refine cA rfl rfl (cT (cw_seq (cS (cM rfl rfl (lw_pure (pur_len_s tabOk rfl rfl) rfl (lw_pure (pur_gtr rfl rfl) rfl (cT ?_))))))); refine cw_yes rfl (by omega) ?_; refine cS (cM rfl rfl ?_); refine cC (by kernel_rfl) rfl (rfail_c ⟨_, _, [], _, none, 0⟩ ⟨0, 0, 0⟩ _ _ _ (RP.none (by assumption))) rfl ?_; rintro _ w10 ⟨⟨⟩, ⟨h8, f9⟩⟩; have z11 := f9.size; clear h4; replace X := Ext.fr X f9 (by simp only; omega); clear f9; refine cN (cM rfl rfl (cA rfl rfl (cT (cw_ret (qw_then_ret (qw_ret1 rfl rfl ?_)))))); rotate_left 1
   exact ⟨⟨b1, w2.heap.size, [], s.length, none, 0⟩, rfl, ⟨by rw [e], rfl, by simp only; omega⟩, by rw [e]; exact h8, X⟩
 · cases h1 : (solidFrom s 0).2 with
   | none =>
    have e := start_ok h0 h1
    have hno : (solidFrom s 0).2.isNone = true := by rw [h1]; rfl
    have hln := start_len s; have hok := solid_ok s; have hnm := solid_nm s; rw [e] at hln hok hnm; simp only at hln hok hnm
    have HO := Lib.hid hok; clear hok
    have HN := Lib.hid hnm; clear hnm
    refine calls_in Tryz.func27 Tryz.ntmps27 rfl rfl ?_
    focus
     refine cS (cA rfl rfl (cN (cM rfl rfl (lw_pure (pur_len_s tabOk rfl rfl) rfl (lw_pure (pur_build' [_, _, _, _, _] tabOk zOk rfl rfl rfl rfl) rfl ?_))))); (refine lw_box' [_, _, _, _, _] rfl rfl rfl ?_; intro ba1 wa2 na3); have ha4 := na3.blk; have xa5 := na3.ext; have pa6 := na3.pos; have za7 := na3.size; clear na3; replace X := X.ext xa5; clear xa5; refine cA rfl rfl (cT (cw_seq (cS (cM rfl rfl (lw_pure (pur_len_s tabOk rfl rfl) rfl (lw_pure (pur_gtr rfl rfl) rfl (cT ?_))))))); refine cw_no rfl (by omega) ?_; refine cw_skip (qw_then (cS (cM rfl rfl ?_))); refine cR (by kernel_rfl) rfl (rTokens_c _ _ (by omega)) (fun _ _ h => h.ret) rfl ?_; rintro _ wa12 ⟨aa8, ⟨ka9, ⟨⟨⟩, ⟨ha10, xa11⟩⟩⟩⟩; have za13 := xa11.size; replace ha4 := ha4.ext xa11; replace X := X.ext xa11; clear xa11; refine cM rfl rfl (lw_pure (pur_extract rfl rfl) rfl (lw_pure (pur_extract rfl rfl) rfl (lw_pure (pur_extract rfl rfl) rfl (cA rfl rfl (cA rfl rfl (cA rfl rfl (cT (cw_seq (cS (cM rfl rfl (lw_pure (pur_not rfl) rfl ?_))))))))))); refine cT ?_; refine cw_nf rfl (by assumption) ?_; refine cw_skip (qw_then (cS (cM rfl rfl (cM rfl rfl (lw_pure (pur_nilCheck rfl) rfl (lw_pure (pur_fieldAddr0 tabOk rfl rfl rfl) rfl ?_)))))); (refine lw_store' [_] [_, _, _, _, _] tabOk rfl rfl rfl rfl rfl rfl ha4 rfl rfl ?_; intro wa14 na15); have ha18 := na15.blk; have fa16 := na15.fr; have za17 := na15.size; clear na15 ha4; replace ha10 := ha10.fr fa16 (by omega); replace X := X.fr fa16 (by omega); clear fa16; refine cN (cM rfl rfl (cA rfl rfl (cT (cw_ret (qw_ret1 rfl rfl ?_)))))
     rotate_left 1
    refine ⟨⟨ba1, wa14.heap.size, (solidFrom s 0).1, s.length, aa8, ka9⟩, rfl, ⟨by rw [e], rfl, by simp only; omega⟩, ?_, X⟩; rw [e]; refine ⟨ha18, ha10.wide (fun b h => ⟨by simp only; omega, by simp only; omega⟩), by simp only; omega, Nat.le_refl _, Nat.zero_le _, by simp only; omega, fun t ht => ?_, HN.out, fun t ht hd => ?_⟩
    · have := (HO.out t ht).len; omega
    · exact ((HO.out t ht).num ((HO.out t ht).dig.2 hd)).2
   | some q =>
    have hno : (solidFrom s 0).2.isNone = false := by rw [h1]; rfl
    have e := start_bad h0 h1; refine calls_in Tryz.func27 Tryz.ntmps27 rfl rfl ?_
    focus
     refine cS (cA rfl rfl (cN (cM rfl rfl (lw_pure (pur_len_s tabOk rfl rfl) rfl (lw_pure (pur_build' [_, _, _, _, _] tabOk zOk rfl rfl rfl rfl) rfl ?_))))); (refine lw_box' [_, _, _, _, _] rfl rfl rfl ?_; intro bb1 wb2 nb3); have hb4 := nb3.blk; have xb5 := nb3.ext; have pb6 := nb3.pos; have zb7 := nb3.size; clear nb3; replace X := X.ext xb5; clear xb5; refine cA rfl rfl (cT (cw_seq (cS (cM rfl rfl (lw_pure (pur_len_s tabOk rfl rfl) rfl (lw_pure (pur_gtr rfl rfl) rfl (cT ?_))))))); refine cw_no rfl (by omega) ?_; refine cw_skip (qw_then (cS (cM rfl rfl ?_))); refine cR (by kernel_rfl) rfl (rTokens_c _ _ (by omega)) (fun _ _ h => h.ret) rfl ?_; rintro _ wb12 ⟨ab8, ⟨kb9, ⟨⟨⟩, ⟨hb10, xb11⟩⟩⟩⟩; have zb13 := xb11.size; replace hb4 := hb4.ext xb11; replace X := X.ext xb11; clear xb11; refine cM rfl rfl (lw_pure (pur_extract rfl rfl) rfl (lw_pure (pur_extract rfl rfl) rfl (lw_pure (pur_extract rfl rfl) rfl (cA rfl rfl (cA rfl rfl (cA rfl rfl (cT (cw_seq (cS (cM rfl rfl (lw_pure (pur_not rfl) rfl ?_))))))))))); refine cT ?_; refine cw_nt rfl (by assumption) ?_; refine cS (cM rfl rfl (cM rfl rfl ?_)); refine cC (by kernel_rfl) rfl (rfail_c ⟨_, _, [], _, none, 0⟩ ⟨0, 0, 0⟩ _ _ _ (RP.none (by assumption))) rfl ?_; rintro _ wb16 ⟨⟨⟩, ⟨hb14, fb15⟩⟩; have zb17 := fb15.size; replace hb10 := RToks.fr hb10 fb15 (by simp only; omega); clear hb4; replace X := Ext.fr X fb15 (by simp only; omega); clear fb15; refine cN (cM rfl rfl (cA rfl rfl (cT (cw_ret (qw_then_ret (qw_ret1 rfl rfl ?_)))))); rotate_left 1
    rw [h1] at hb14
    exact ⟨⟨bb1, wb12.heap.size, [], s.length, none, 0⟩, rfl, ⟨by rw [e], rfl, by simp only; omega⟩, by rw [e]; exact hb14, X⟩
end Bk
namespace Bk
open Go Go.RowKit Go.Proofs
attribute [local irreducible] Go.Calls
def NodeR (w : World) (S : Nat → Prop) (t : Nd) : Ending → World → Prop := fun e w' => ∃ a k, e = .returned (t.val a k) ∧ t.sits (fun b => S b ∨ (w.heap.size ≤ b ∧ b < w'.heap.size)) w' a ∧ Ext w w'
theorem NodeR.ret {w : World} {S : Nat → Prop} {t : Nd} {e : Ending} {w' : World} (h : NodeR w S t e w') : ∃ v, e = .returned v := by
 obtain ⟨_, _, h, -⟩ := h
 exact ⟨_, h⟩
set_option maxRecDepth 100000 in
set_option maxHeartbeats 1000000 in
theorem rnode0 (kind : Int) (name : List UInt8) (w : World) :
 Calls Tryz.prog 84 #[.int .u8 kind, str name, .slice none 0 0] w fun e w' => e = .returned ((Nd.mk kind 0 name []).val none 0) ∧ Ext w w' := by
 have X := Ext.refl w; refine calls_in Tryz.func84 Tryz.ntmps84 rfl rfl ?_
 focus
  refine cS ?_; (refine lw_alloc' [_, _, _, _] zOk rfl rfl ?_; intro b1 w2 n3); have h5 := n3.blk; have x6 := n3.ext; have p7 := n3.pos; have z8 := n3.size; clear n3; replace X := X.ext x6; clear x6; refine cN (cM rfl rfl (cM rfl rfl (lw_pure (pur_build' [_, _, _, _] tabOk zOk rfl rfl rfl rfl) rfl ?_))); (refine lw_alloc' [_, _, _, _] zOk rfl rfl ?_; intro b9 w10 n11); (refine lw_init' [_, _, _, _] tabOk rfl rfl rfl rfl rfl rfl n11 rfl ?_; clear n11; clear w10; intro w12 n11); have h13 := n11.blk; have x14 := n11.ext; have p15 := n11.pos; have z16 := n11.size; clear n11; replace h5 := h5.ext x14; replace X := X.ext x14; clear x14; refine cN (lw_pure (pur_fieldAddr tabOk rfl rfl rfl) rfl (lw_load_b tabOk rfl rfl rfl h13 rfl rfl (cM rfl rfl (lw_pure (pur_append0 tabOk rfl rfl rfl rfl) rfl (lw_pure (pur_fieldAddr tabOk rfl rfl rfl) rfl ?_))))); (refine lw_store' [_] [_, _, _, _] tabOk rfl rfl rfl rfl rfl rfl h13 rfl rfl ?_; intro w17 n18); have h21 := n18.blk; have f19 := n18.fr; have z20 := n18.size; clear n18 h13; replace h5 := h5.fr f19 (by omega); replace X := X.fr f19 (by omega); clear f19; refine cN (lw_loads_b' [_, _, _, _] tabOk rfl rfl rfl h21 rfl rfl rfl ?_); (refine lw_store' [_, _, _, _] [_, _, _, _] tabOk rfl rfl rfl rfl rfl rfl h5 rfl rfl ?_; intro w22 n23); have h26 := n23.blk; have f24 := n23.fr; have z25 := n23.size; clear n23 h5; replace h21 := h21.fr f24 (by omega); replace X := X.fr f24 (by omega); clear f24; refine cT (cw_ret (qw_retc rfl tabOk rfl rfl rfl h26 rfl ?_))
  rotate_left 1
 exact ⟨rfl, X⟩
set_option maxRecDepth 100000 in
set_option maxHeartbeats 1000000 in
theorem rnode_c (kind : Int) (name : List UInt8) (l : List Nd) (cs : List Value) (p : Addr) (cap : Nat) (w : World) (S : Nat → Prop) (hl : 0 < l.length) (hlen : l.length ≤ 1000) (hr : Row w p cs) (hc : cs.length = l.length * 4) (ho : cs.all Value.one = true)
 (hk : ∀ (i : Nat) (t : Nd), l[i]? = some t → ∃ a c, (cs.drop (i * 4)).take 4 = t.cells a c ∧ t.sits S w a) :
 Calls Tryz.prog 84 #[.int .u8 kind, str name, .slice (some p) l.length cap] w (NodeR w S (.mk kind 0 name l)) := by
 have X := Ext.refl w; refine calls_in Tryz.func84 Tryz.ntmps84 rfl rfl ?_
 focus
  refine cS ?_; (refine lw_alloc' [_, _, _, _] zOk rfl rfl ?_; intro b1 w2 n3); have h5 := n3.blk; have x6 := n3.ext; have p7 := n3.pos; have z8 := n3.size; clear n3; replace hr := hr.ext x6; replace X := X.ext x6; clear x6; refine cN (cM rfl rfl (cM rfl rfl (lw_pure (pur_build' [_, _, _, _] tabOk zOk rfl rfl rfl rfl) rfl ?_))); (refine lw_alloc' [_, _, _, _] zOk rfl rfl ?_; intro b9 w10 n11); (refine lw_init' [_, _, _, _] tabOk rfl rfl rfl rfl rfl rfl n11 rfl ?_; clear n11; clear w10; intro w12 n11); have h13 := n11.blk; have x14 := n11.ext; have p15 := n11.pos; have z16 := n11.size; clear n11; replace h5 := h5.ext x14; replace hr := hr.ext x14; replace X := X.ext x14; clear x14; refine cN (lw_pure (pur_fieldAddr tabOk rfl rfl rfl) rfl (lw_load_b tabOk rfl rfl rfl h13 rfl rfl (cM rfl rfl ?_))); refine lw_append_nil tabOk zOk rfl rfl rfl rfl (by kernel_rfl) rfl rfl rfl hr hc ho (by omega) hl rfl ?_; rintro g17 cap'18 w19 h20 h21 h22 x23; have z24 := x23.size; replace h13 := h13.ext x23; replace h5 := h5.ext x23; replace hr := hr.ext x23; replace X := X.ext x23; clear x23; refine lw_pure (pur_fieldAddr tabOk rfl rfl rfl) rfl ?_; (refine lw_store' [_] [_, _, _, _] tabOk rfl rfl rfl rfl rfl rfl h13 rfl rfl ?_; intro w25 n26); have h29 := n26.blk; have f27 := n26.fr; have z28 := n26.size; clear n26 h13; replace h20 := Row.fr h20 f27 (by simp only; omega); replace h5 := h5.fr f27 (by omega); clear hr; replace X := X.fr f27 (by omega); clear f27; refine cN (lw_loads_b' [_, _, _, _] tabOk rfl rfl rfl h29 rfl rfl rfl ?_)
  (refine lw_store' [_, _, _, _] [_, _, _, _] tabOk rfl rfl rfl rfl rfl rfl h5 rfl rfl ?_; intro w30 n31); have h34 := n31.blk; have f32 := n31.fr; have z33 := n31.size; clear n31 h5; replace h29 := h29.fr f32 (by omega); replace h20 := Row.fr h20 f32 (by simp only; omega); replace X := X.fr f32 (by omega); clear f32; refine cT (cw_ret (qw_retc rfl tabOk rfl rfl rfl h34 rfl ?_)); rotate_left 1
 refine ⟨_, _, rfl, sits_mk (rowSits_of (Or.inr ⟨by omega, by omega⟩) l 0 (fun i x hx => ?_)), X⟩; obtain ⟨a, c, h1, h2⟩ := hk i x hx; refine ⟨a, c, ?_, (h2.ext X).wide (fun b hb => Or.inl hb)⟩; have := h20.sub (i * 4) 4; rw [h1] at this
 exact this
theorem rnode1 (kind : Int) (name : List UInt8) (x : Nd) (xa : Option Addr) (xc : Nat) (S1 : Nat → Prop) (b0 cap : Nat) (w : World) (h : Blk w b0 (x.cells xa xc)) (hx : x.sits S1 w xa) :
 Calls Tryz.prog 84 #[.int .u8 kind, str name, .slice (some ⟨b0, 0, none⟩) 1 cap] w (NodeR w (fun b => S1 b) (.mk kind 0 name [x])) := by
 refine rnode_c kind name [x] (x.cells xa xc) ⟨b0, 0, none⟩ cap w _ (by simp) (by simp) h.row rfl rfl (fun i t ht => ?_)
 match i, ht with
 | 0, ht => simp at ht; subst ht; exact ⟨xa, xc, rfl, hx.wide (fun b hb => hb)⟩
theorem rnode2 (kind : Int) (name : List UInt8) (x y : Nd) (xa ya : Option Addr) (xc yc : Nat) (S1 S2 : Nat → Prop) (b0 cap : Nat) (w : World) (h : Blk w b0 (x.cells xa xc ++ y.cells ya yc)) (hx : x.sits S1 w xa) (hy : y.sits S2 w ya) :
 Calls Tryz.prog 84 #[.int .u8 kind, str name, .slice (some ⟨b0, 0, none⟩) 2 cap] w (NodeR w (fun b => S1 b ∨ S2 b) (.mk kind 0 name [x, y])) := by
 refine rnode_c kind name [x, y] (x.cells xa xc ++ y.cells ya yc) ⟨b0, 0, none⟩ cap w _ (by simp) (by simp) h.row rfl rfl (fun i t ht => ?_)
 match i, ht with
 | 0, ht => simp at ht; subst ht; exact ⟨xa, xc, rfl, hx.wide (fun b hb => Or.inl hb)⟩
 | 1, ht => simp at ht; subst ht; exact ⟨ya, yc, rfl, hy.wide (fun b hb => Or.inr (hb))⟩
theorem rnode3 (kind : Int) (name : List UInt8) (x y z : Nd) (xa ya za : Option Addr) (xc yc zc : Nat) (S1 S2 S3 : Nat → Prop) (b0 cap : Nat) (w : World) (h : Blk w b0 (x.cells xa xc ++ y.cells ya yc ++ z.cells za zc)) (hx : x.sits S1 w xa) (hy : y.sits S2 w ya) (hz : z.sits S3 w za) :
 Calls Tryz.prog 84 #[.int .u8 kind, str name, .slice (some ⟨b0, 0, none⟩) 3 cap] w (NodeR w (fun b => S1 b ∨ S2 b ∨ S3 b) (.mk kind 0 name [x, y, z])) := by
 refine rnode_c kind name [x, y, z] (x.cells xa xc ++ y.cells ya yc ++ z.cells za zc) ⟨b0, 0, none⟩ cap w _ (by simp) (by simp) h.row rfl rfl (fun i t ht => ?_)
 match i, ht with
 | 0, ht => simp at ht; subst ht; exact ⟨xa, xc, rfl, hx.wide (fun b hb => Or.inl hb)⟩
 | 1, ht => simp at ht; subst ht; exact ⟨ya, yc, rfl, hy.wide (fun b hb => Or.inr (Or.inl hb))⟩
 | 2, ht => simp at ht; subst ht; exact ⟨za, zc, rfl, hz.wide (fun b hb => Or.inr (Or.inr (hb)))⟩
theorem rnode4 (kind : Int) (name : List UInt8) (x y z u : Nd) (xa ya za ua : Option Addr) (xc yc zc uc : Nat) (S1 S2 S3 S4 : Nat → Prop) (b0 cap : Nat) (w : World) (h : Blk w b0 (x.cells xa xc ++ y.cells ya yc ++ z.cells za zc ++ u.cells ua uc)) (hx : x.sits S1 w xa) (hy : y.sits S2 w ya) (hz : z.sits S3 w za) (hu : u.sits S4 w ua) :
 Calls Tryz.prog 84 #[.int .u8 kind, str name, .slice (some ⟨b0, 0, none⟩) 4 cap] w (NodeR w (fun b => S1 b ∨ S2 b ∨ S3 b ∨ S4 b) (.mk kind 0 name [x, y, z, u])) := by
 refine rnode_c kind name [x, y, z, u] (x.cells xa xc ++ y.cells ya yc ++ z.cells za zc ++ u.cells ua uc) ⟨b0, 0, none⟩ cap w _ (by simp) (by simp) h.row rfl rfl (fun i t ht => ?_)
 match i, ht with
 | 0, ht => simp at ht; subst ht; exact ⟨xa, xc, rfl, hx.wide (fun b hb => Or.inl hb)⟩
 | 1, ht => simp at ht; subst ht; exact ⟨ya, yc, rfl, hy.wide (fun b hb => Or.inr (Or.inl hb))⟩
 | 2, ht => simp at ht; subst ht; exact ⟨za, zc, rfl, hz.wide (fun b hb => Or.inr (Or.inr (Or.inl hb)))⟩
 | 3, ht => simp at ht; subst ht; exact ⟨ua, uc, rfl, hu.wide (fun b hb => Or.inr (Or.inr (Or.inr (hb))))⟩
theorem startsDigit_cons {s : List UInt8} (h : startsDigit s = true) : ∃ c r, s = c :: r ∧ digit c = true := by
 cases s with
 | nil => simp [startsDigit] at h
 | cons c r => exact ⟨c, r, rfl, h⟩
set_option maxRecDepth 100000 in
set_option maxHeartbeats 1000000 in
theorem rnumber_c (c : RC) (σ : PS) (w : World) (hP : RP c σ w) :
 Calls Tryz.prog 76 #[.pointer (some ⟨c.pb, 0, none⟩)] w fun r w' => r = .returned (.int .i64 (numberR c.ts c.n σ).1) ∧ RP c (numberR c.ts c.n σ).2 w' ∧ Fr (· = c.pb) w w' := by
 have X := Fr.refl (· = c.pb) w; have hl := hP.len; have hpl := rpeek_len hP; have hpb := hP.pbB; have hB := hP.B; have hnum := rpeek_num hP
 cases hs : startsDigit (peekP c.ts σ).text
 · rw [show numberR c.ts c.n σ = (0, unexpP c.ts c.n σ) from by simp [numberR, hs]]
   by_cases h0 : σ.err = 0
   · cases ht : (peekP c.ts σ).text with
     | nil =>
      have hlen0 : (peekP c.ts σ).text.length = 0 := by rw [ht]; rfl
      refine calls_in Tryz.func76 Tryz.ntmps76 rfl rfl ?_
      focus
       refine cS (cA rfl rfl (cN (cM rfl rfl ?_))); refine cC (by kernel_rfl) rfl (rpeek_c _ _ _ (by assumption)) rfl ?_; rintro _ w2 ⟨⟨⟩, x1⟩; have z3 := x1.size; replace hP := hP.ext x1; replace X := X.ext x1; clear x1; refine cA rfl rfl (cT (cw_seq (cS (cM rfl rfl (lw_pure (pur_nilCheck rfl) rfl (lw_pure (pur_fieldAddr tabOk rfl rfl rfl) rfl (lw_load_b tabOk rfl rfl rfl (RP.blk hP) rfl rfl (lw_pure (pur_neq rfl rfl) rfl (cM rfl rfl ?_))))))))); refine lw_on rfl rfl rfl (gd_ff (by omega)) ?_; refine cM rfl rfl ?_; refine lw_on rfl rfl rfl (gd_ff (by omega)) ?_; refine lw_pure (pur_len_s tabOk rfl rfl) rfl ?_; refine lw_on rfl rfl rfl (gd_ff (by omega)) ?_; refine lw_pure (pur_eql rfl rfl) rfl ?_; refine lw_pure (pur_pick_no rfl rfl (by omega)) rfl ?_; refine cM rfl rfl ?_; refine lw_off rfl rfl rfl (gd_ft (by omega)) rfl ?_; refine lw_off rfl rfl rfl (gd_ft (by omega)) rfl ?_; refine lw_off rfl rfl rfl (gd_ft (by omega)) rfl ?_; refine lw_off rfl rfl rfl (gd_ft (by omega)) rfl ?_; refine lw_pure (pur_pick_yes rfl rfl (by omega)) rfl ?_; refine cT (cw_cond_t rfl (cS (cM rfl rfl ?_))); refine cC (by kernel_rfl) rfl (rwrong_c _ _ _ (by assumption)) rfl ?_; rintro _ w6 ⟨⟨⟩, ⟨h4, f5⟩⟩; have z7 := f5.size; clear hP; replace X := X.fr f5 (by omega); clear f5; refine cN (cA rfl rfl (cT (cw_ret (qw_then_ret (qw_ret1 rfl rfl ?_))))); rotate_left 1
      exact ⟨rfl, by assumption, X⟩
     | cons x r =>
      have hlen0 : (peekP c.ts σ).text.length ≠ 0 := by rw [ht]; simp
      have hx : (peekP c.ts σ).text[(0 : Int).toNat]? = some x := by rw [ht]; rfl
      have hd : digit x = false := by rw [ht] at hs; exact hs
      refine calls_in Tryz.func76 Tryz.ntmps76 rfl rfl ?_
      focus
       refine cS (cA rfl rfl (cN (cM rfl rfl ?_))); refine cC (by kernel_rfl) rfl (rpeek_c _ _ _ (by assumption)) rfl ?_; rintro _ wa2 ⟨⟨⟩, xa1⟩; have za3 := xa1.size; replace hP := hP.ext xa1; replace X := X.ext xa1; clear xa1; refine cA rfl rfl (cT (cw_seq (cS (cM rfl rfl (lw_pure (pur_nilCheck rfl) rfl (lw_pure (pur_fieldAddr tabOk rfl rfl rfl) rfl (lw_load_b tabOk rfl rfl rfl (RP.blk hP) rfl rfl (lw_pure (pur_neq rfl rfl) rfl (cM rfl rfl ?_))))))))); refine lw_on rfl rfl rfl (gd_ff (by omega)) ?_; refine cM rfl rfl ?_; refine lw_on rfl rfl rfl (gd_ff (by omega)) ?_; refine lw_pure (pur_len_s tabOk rfl rfl) rfl ?_; refine lw_on rfl rfl rfl (gd_ff (by omega)) ?_; refine lw_pure (pur_eql rfl rfl) rfl ?_; refine lw_pure (pur_pick_no rfl rfl (by omega)) rfl ?_; refine cM rfl rfl ?_; refine lw_on rfl rfl rfl (gd_ff (by omega)) ?_; refine cM rfl rfl ?_; refine lw_on rfl rfl rfl (gd_ff (by omega)) ?_; refine lw_pure (pur_sindex tabOk rfl rfl rfl (by omega) (by assumption)) rfl ?_; refine lw_on rfl rfl rfl (gd_ff (by omega)) ?_; refine cC (by kernel_rfl) rfl (rdigit_c _ _) rfl ?_; rintro _ wa4 ⟨⟨⟩, rfl⟩; refine lw_on rfl rfl rfl (gd_ff (by omega)) ?_; refine lw_pure (pur_not rfl) rfl ?_; refine lw_pure (pur_pick_no rfl rfl (by omega)) rfl ?_; refine cT ?_; refine cw_nt rfl (by assumption) ?_; refine cS (cM rfl rfl ?_); refine cC (by kernel_rfl) rfl (rwrong_c _ _ _ (by assumption)) rfl ?_; rintro _ wa7 ⟨⟨⟩, ⟨ha5, fa6⟩⟩; have za8 := fa6.size; clear hP; replace X := X.fr fa6 (by omega)
       clear fa6; refine cN (cA rfl rfl (cT (cw_ret (qw_then_ret (qw_ret1 rfl rfl ?_))))); rotate_left 1
      exact ⟨rfl, by assumption, X⟩
   · refine calls_in Tryz.func76 Tryz.ntmps76 rfl rfl ?_
     focus
      refine cS (cA rfl rfl (cN (cM rfl rfl ?_))); refine cC (by kernel_rfl) rfl (rpeek_c _ _ _ (by assumption)) rfl ?_; rintro _ wb2 ⟨⟨⟩, xb1⟩; have zb3 := xb1.size; replace hP := hP.ext xb1; replace X := X.ext xb1; clear xb1; refine cA rfl rfl (cT (cw_seq (cS (cM rfl rfl (lw_pure (pur_nilCheck rfl) rfl (lw_pure (pur_fieldAddr tabOk rfl rfl rfl) rfl (lw_load_b tabOk rfl rfl rfl (RP.blk hP) rfl rfl (lw_pure (pur_neq rfl rfl) rfl (cM rfl rfl ?_))))))))); refine lw_off rfl rfl rfl (gd_ft (by assumption)) rfl ?_; refine lw_off rfl rfl rfl (gd_ft (by assumption)) rfl ?_; refine lw_off rfl rfl rfl (gd_ft (by assumption)) rfl ?_; refine lw_pure (pur_pick_yes rfl rfl (by assumption)) rfl ?_; refine cM rfl rfl (lw_off rfl rfl rfl (rfl) rfl (lw_off rfl rfl rfl (rfl) rfl (lw_off rfl rfl rfl (rfl) rfl (lw_off rfl rfl rfl (rfl) rfl (lw_pure (pur_pick_t rfl rfl rfl) rfl (cT (cw_cond_t rfl (cS (cM rfl rfl ?_))))))))); refine cC (by kernel_rfl) rfl (rwrong_c _ _ _ (by assumption)) rfl ?_; rintro _ wb6 ⟨⟨⟩, ⟨hb4, fb5⟩⟩; have zb7 := fb5.size; clear hP; replace X := X.fr fb5 (by omega); clear fb5; refine cN (cA rfl rfl (cT (cw_ret (qw_then_ret (qw_ret1 rfl rfl ?_))))); rotate_left 1
     exact ⟨rfl, by assumption, X⟩
 · replace hnum := hnum hs
   obtain ⟨x0, r0, hx0, hd0⟩ := startsDigit_cons hs; obtain ⟨h0, h3⟩ := peek_in hP.at_ (Or.inl (startsDigit_ne hs))
   have hpos : posR c.ts c.n σ = (peekP c.ts σ).pos := by
    rw [rpeek_is (fun h => by rcases h with h | h; exact h h0; omega) h3]
    unfold posR; rw [if_neg (by omega)]; simp [h3]
   have hlen0 : (peekP c.ts σ).text.length ≠ 0 := by rw [hx0]; simp
   have hx : (peekP c.ts σ).text[(0 : Int).toNat]? = some x0 := by rw [hx0]; rfl
   have hE : ∀ v, digitsVal (peekP c.ts σ).text = v → numberR c.ts c.n σ = if (v : Int) ≤ 9223372036854775807 then ((v : Int), nextP σ) else (0, failP σ (posR c.ts c.n σ) 2) := fun v hv => by
    simp [numberR, hs, hv, hpos]
   have HE := Lib.hid hE; clear hE hpos
   refine calls_in Tryz.func76 Tryz.ntmps76 rfl rfl ?_
   focus
    refine cS (cA rfl rfl (cN (cM rfl rfl ?_))); refine cC (by kernel_rfl) rfl (rpeek_c _ _ _ (by assumption)) rfl ?_; rintro _ wc2 ⟨⟨⟩, xc1⟩; have zc3 := xc1.size; replace hP := hP.ext xc1; replace X := X.ext xc1; clear xc1; refine cA rfl rfl (cT (cw_seq (cS (cM rfl rfl (lw_pure (pur_nilCheck rfl) rfl (lw_pure (pur_fieldAddr tabOk rfl rfl rfl) rfl (lw_load_b tabOk rfl rfl rfl (RP.blk hP) rfl rfl (lw_pure (pur_neq rfl rfl) rfl (cM rfl rfl ?_))))))))); refine lw_on rfl rfl rfl (gd_ff (by omega)) ?_; refine cM rfl rfl ?_; refine lw_on rfl rfl rfl (gd_ff (by omega)) ?_; refine lw_pure (pur_len_s tabOk rfl rfl) rfl ?_; refine lw_on rfl rfl rfl (gd_ff (by omega)) ?_; refine lw_pure (pur_eql rfl rfl) rfl ?_; refine lw_pure (pur_pick_no rfl rfl (by omega)) rfl ?_; refine cM rfl rfl ?_; refine lw_on rfl rfl rfl (gd_ff (by omega)) ?_; refine cM rfl rfl ?_; refine lw_on rfl rfl rfl (gd_ff (by omega)) ?_; refine lw_pure (pur_sindex tabOk rfl rfl rfl (by omega) (by assumption)) rfl ?_; refine lw_on rfl rfl rfl (gd_ff (by omega)) ?_; refine cC (by kernel_rfl) rfl (rdigit_c _ _) rfl ?_; rintro _ wc4 ⟨⟨⟩, rfl⟩; refine lw_on rfl rfl rfl (gd_ff (by omega)) ?_; refine lw_pure (pur_not rfl) rfl ?_; refine lw_pure (pur_pick_no rfl rfl (by omega)) rfl ?_; refine cT ?_; refine cw_nf rfl (by assumption) ?_; refine cw_skip (qw_then (cS (cA rfl rfl (cT (cw_seq (cS (cA rfl rfl (cT (cw_block ?_))))))))); rotate_left 1
   clear hx hx0 hlen0 hs
   generalize (peekP c.ts σ).text = T at *
   refine cw_loop (ι := Nat) (fun j => [(0, .pointer (some ⟨c.pb, 0, none⟩)), (3, str T), (4, .int .u64 (digitsFrom 0 (T.take j))), (5, .int .i64 j)]) (fun j w' => wc2 = w' ∧ j ≤ T.length ∧ (digitsFrom 0 (T.take j) : Int) ≤ 9223372036854775807) (fun j => T.length - j) 0 (by (refine sub_cons rfl ?_; refine sub_cons rfl ?_; refine sub_cons rfl ?_; refine sub_cons rfl ?_; exact sub_nil)) ⟨rfl, Nat.zero_le _, by simp [digitsFrom]⟩ ?_; rintro j _ ⟨rfl, hj, hle⟩
   by_cases hlt : j < T.length
   · have hxj : T[((j : Nat) : Int).toNat]? = some T[j] := List.getElem?_eq_getElem hlt
     have hdj := hnum T[j] (List.getElem_mem hlt)
     have htk : T.take (j + 1) = T.take j ++ [T[j]] := by rw [List.take_add_one, List.getElem?_eq_getElem hlt]; rfl
     have hsn := digitsFrom_snoc 0 (T.take j) T[j]; rw [← htk] at hsn
     have hall : digitsFrom 0 (T.take (j + 1)) ≤ digitsVal T := by
      have h1 : digitsVal T = digitsFrom (digitsFrom 0 (T.take (j + 1))) (T.drop (j + 1)) := by
       rw [← digitsFrom_append, List.take_append_drop]; rfl
      rw [h1]; exact digitsFrom_le _ _
     generalize T[j] = x at *
     simp only [digit, Bool.and_eq_true, decide_eq_true_eq] at hdj; obtain ⟨hx0, hx1⟩ := hdj
     by_cases hov : (9223372036854775807 : Int) < digitsFrom 0 (T.take (j + 1))
     · rw [HE.out _ rfl, if_neg (by omega)]
       focus
        refine cw_seq (cS (cM rfl rfl (cM rfl rfl (lw_pure (pur_len_s tabOk rfl rfl) rfl (lw_pure (pur_lss rfl rfl) rfl (cT ?_)))))); refine cw_yes rfl (by omega) ?_; refine cw_skip (qw_then (cw_seq (cw_block (cS (cM rfl rfl (cM rfl rfl ?_)))))); refine lw_pure (pur_sindex tabOk rfl rfl rfl (by omega) (by assumption)) rfl ?_; refine lw_pure (pur_sub rfl rfl (u8_wrap _ (by omega) (by omega))) rfl ?_; refine lw_pure (pur_conv tabOk rfl rfl rfl (u64_wrap _ (by omega) (by omega))) rfl ?_; refine cA rfl rfl (cT (cw_seq (cS (cM rfl rfl (cM rfl rfl ?_))))); refine lw_pure (pur_sub rfl rfl (u64_wrap _ (by omega) (by omega))) rfl ?_; refine lw_pure (pur_quo rfl rfl (by omega) (quo_u64 (by omega) (by omega) (by omega))) rfl ?_; refine lw_pure (pur_gtr rfl rfl) rfl (cT ?_); refine cw_yes rfl (by omega) ?_; refine cS (cM rfl rfl (cM rfl rfl ?_)); refine cC (by kernel_rfl) rfl (rpos_c _ _ _ (by assumption)) rfl ?_; rintro _ wd2 ⟨⟨⟩, xd1⟩; have zd3 := xd1.size; replace hP := hP.ext xd1; replace X := X.ext xd1; clear xd1; refine cC (by kernel_rfl) rfl (rfail_c _ _ _ _ _ (by assumption)) rfl ?_; rintro _ wd6 ⟨⟨⟩, ⟨hd4, fd5⟩⟩; have zd7 := fd5.size; clear hP; replace X := X.fr fd5 (by omega); clear fd5; refine cN (cA rfl rfl (cT (cw_ret (qw_then_ret (qw_block_ret (qw_then_ret (qw_then_ret (qw_block_ret (qw_then_ret (qw_ret1 rfl rfl ?_)))))))))); rotate_left 1
       exact ⟨rfl, by assumption, X⟩
     · focus
        refine cw_seq (cS (cM rfl rfl (cM rfl rfl (lw_pure (pur_len_s tabOk rfl rfl) rfl (lw_pure (pur_lss rfl rfl) rfl (cT ?_)))))); refine cw_yes rfl (by omega) ?_; refine cw_skip (qw_then (cw_seq (cw_block (cS (cM rfl rfl (cM rfl rfl ?_)))))); refine lw_pure (pur_sindex tabOk rfl rfl rfl (by omega) (by assumption)) rfl ?_; refine lw_pure (pur_sub rfl rfl (u8_wrap _ (by omega) (by omega))) rfl ?_; refine lw_pure (pur_conv tabOk rfl rfl rfl (u64_wrap _ (by omega) (by omega))) rfl ?_; refine cA rfl rfl (cT (cw_seq (cS (cM rfl rfl (cM rfl rfl ?_))))); refine lw_pure (pur_sub rfl rfl (u64_wrap _ (by omega) (by omega))) rfl ?_; refine lw_pure (pur_quo rfl rfl (by omega) (quo_u64 (by omega) (by omega) (by omega))) rfl ?_; refine lw_pure (pur_gtr rfl rfl) rfl (cT ?_); refine cw_no rfl (by omega) ?_; refine cw_skip (qw_then (cw_region (cM rfl rfl ?_))); refine lw_pure (pur_mul rfl rfl (u64_wrap _ (by omega) (by omega))) rfl ?_; refine cM rfl rfl ?_; refine lw_pure (pur_add rfl rfl (u64_wrap _ (by omega) (by omega))) rfl ?_; refine cA rfl rfl (lw_nil (qw_block_norm (qw_then (cw_region (cM rfl rfl ?_))))); refine lw_pure (pur_add rfl rfl (IntWalk.i64_in _ (by omega))) rfl ?_; refine cA rfl rfl (lw_nil ?_); rotate_left 1
       refine qw_round (j + 1) ?_ ⟨rfl, by omega, by omega⟩ (by omega); refine sub_cons rfl (sub_cons rfl (sub_cons' rfl ?_ (sub_cons rfl sub_nil)))
       simp only [Value.int.injEq, true_and]; omega
   · have hjl : j = T.length := by omega
     subst hjl; rw [List.take_length] at hle ⊢; have hv : digitsVal T = digitsFrom 0 T := rfl; rw [HE.out _ hv, if_pos hle]
     focus
      refine cw_seq (cS (cM rfl rfl (cM rfl rfl (lw_pure (pur_len_s tabOk rfl rfl) rfl (lw_pure (pur_lss rfl rfl) rfl (cT ?_)))))); refine cw_no rfl (by omega) ?_; refine cw_exit (qw_then_exit (qw_then_exit (qw_block_exit (qw_then (cS (cM rfl rfl (cM rfl rfl (lw_pure (pur_nilCheck rfl) rfl (lw_pure (pur_fieldAddr tabOk rfl rfl rfl) rfl (lw_load_b tabOk rfl rfl rfl (RP.blk hP) rfl rfl ?_)))))))))); refine lw_pure (pur_add rfl rfl (IntWalk.i64_in _ (by omega))) rfl ?_; refine lw_pure (pur_nilCheck rfl) rfl (lw_pure (pur_fieldAddr tabOk rfl rfl rfl) rfl ?_); refine lw_rp_at tabOk rfl rfl rfl rfl (by assumption) h3 ?_; rintro wf1 hf2 ff3; have zf4 := ff3.size; clear hP; replace X := X.fr ff3 (by omega); clear ff3; refine cN (cM rfl rfl ?_); refine lw_pure (pur_conv tabOk rfl rfl rfl (IntWalk.i64_in _ (by omega))) rfl ?_; refine cA rfl rfl (cT (cw_ret (qw_ret1 rfl rfl ?_))); rotate_left 1
     exact ⟨rfl, by assumption, X⟩
end Bk
namespace Bk
open Go Go.RowKit Go.Proofs
attribute [local irreducible] Go.Calls
def RTreeR (c : RC) (w : World) (r : Nd × PS) : Ending → World → Prop := fun e w' => ∃ a k, e = .returned (r.1.val a k) ∧ r.1.sits (fun b => w.heap.size ≤ b ∧ b < w'.heap.size) w' a ∧ RP c r.2 w' ∧ Fr (· = c.pb) w w'
theorem rtree_ret {c : RC} {w w' : World} {r : Nd × PS} {a : Option Addr} {k : Nat} (hs : r.1.sits (w.heap.size ≤ ·) w' a) (hP : RP c r.2 w') (X : Fr (· = c.pb) w w') : RTreeR c w r (.returned (r.1.val a k)) w' :=
 ⟨a, k, rfl, sits_lt2 _ _ hs, hP, X⟩
theorem RTreeR.ret {c : RC} {w : World} {r : Nd × PS} {e : Ending} {w' : World} (h : RTreeR c w r e w') : ∃ v, e = .returned v := by
 obtain ⟨_, _, h, -⟩ := h
 exact ⟨_, h⟩
structure RExprsC (c : RC) (k : Nat) : Prop where
 expr : ∀ (lv : Int) (σ : PS) (w : World), RP c σ w → 1 ≤ lv → lv ≤ 9 → (12 * mS c.ts σ : Int) + 12 ≤ k + lv → Calls Tryz.prog 41 #[.pointer (some ⟨c.pb, 0, none⟩), .int .i64 lv] w (RTreeR c w (exprR c.ts c.n k lv σ))
 unary : ∀ (σ : PS) (w : World), RP c σ w → 12 * mS c.ts σ + 2 ≤ k → Calls Tryz.prog 82 #[.pointer (some ⟨c.pb, 0, none⟩)] w (RTreeR c w (unaryR c.ts c.n k σ))
 place : ∀ (σ : PS) (w : World), RP c σ w → 12 * mS c.ts σ + 1 ≤ k → Calls Tryz.prog 116 #[.pointer (some ⟨c.pb, 0, none⟩)] w (RTreeR c w (placeR c.ts c.n k σ))
set_option maxRecDepth 100000 in
set_option maxHeartbeats 1000000 in
theorem rplace_w (c : RC) (k : Nat) (IH : ∀ j, j ≤ k → RExprsC c j) (σ : PS) (w : World) (hP : RP c σ w) (hk : 12 * mS c.ts σ + 1 ≤ k + 1) : Calls Tryz.prog 116 #[.pointer (some ⟨c.pb, 0, none⟩)] w (RTreeR c w (placeR c.ts c.n (k + 1) σ)) := by
 have X := Fr.refl (· = c.pb) w; have hpb := hP.pbB; have hB := hP.B; have hn := name_le (n := c.n) hP.at_
 cases hh : hasP c.ts (nameP c.ts c.n σ).2 [91]
 · rw [show placeR c.ts c.n (k + 1) σ = (.mk 2 0 (nameP c.ts c.n σ).1 [], (nameP c.ts c.n σ).2) from by rw [placeR]; simp [hh]]
   refine calls_in Tryz.func116 Tryz.ntmps116 rfl rfl ?_
   focus
    refine cS ?_; (refine lw_alloc' [_, _, _, _] zOk rfl rfl ?_; intro b1 w2 n3); have h5 := n3.blk; have x6 := n3.ext; have p7 := n3.pos; have z8 := n3.size; clear n3; replace hP := hP.ext x6; replace X := X.ext x6; clear x6; refine cN (cM rfl rfl ?_); refine cC (by kernel_rfl) rfl (rname_c _ _ _ (by assumption)) rfl ?_; rintro _ w11 ⟨⟨⟩, ⟨h9, f10⟩⟩; have z12 := f10.size; replace h5 := h5.fr f10 (by omega); clear hP; replace X := X.fr f10 (by omega); clear f10; refine cA rfl rfl (cT (cw_seq (cS (cM rfl rfl ?_)))); refine cC (by kernel_rfl) rfl (rhas_f _ _ _ _ (by assumption) (by decide) (by assumption)) rfl ?_; rintro _ w15 ⟨⟨⟩, ⟨h13, f14⟩⟩; have z16 := f14.size; clear h9; replace h5 := h5.fr f14 (by omega); replace X := X.fr f14 (by omega); clear f14; refine cT (cw_cond_f rfl (cw_skip (qw_then (cS (cM rfl rfl ?_))))); refine cC (by kernel_rfl) rfl (rnode0 _ _ _) rfl ?_; rintro _ w18 ⟨⟨⟩, x17⟩; have z19 := x17.size; replace h13 := h13.ext x17; replace h5 := h5.ext x17; replace X := X.ext x17; clear x17; (refine lw_store' [_, _, _, _] [_, _, _, _] tabOk rfl rfl rfl rfl rfl rfl h5 rfl rfl ?_; intro w20 n21); have h24 := n21.blk; have f22 := n21.fr; have z23 := n21.size; clear n21 h5; replace h13 := h13.fr f22 (by omega); replace X := X.fr f22 (by omega); clear f22; refine cT (cw_ret (qw_retc rfl tabOk rfl rfl rfl h24 rfl ?_)); rotate_left 1
   exact rtree_ret sits_nil (by assumption) X
 · rw [show placeR c.ts c.n (k + 1) σ = (.mk 3 0 (nameP c.ts c.n σ).1 [(exprR c.ts c.n k 1 (nextP (nameP c.ts c.n σ).2)).1], expectP c.ts c.n (exprR c.ts c.n k 1 (nextP (nameP c.ts c.n σ).2)).2 [93]) from by rw [placeR]; simp [hh]]
   have hm := mS_next (has_in hn.wf hh (by decide)); have hm2 := mS_le hn
   have hf : (12 * mS c.ts (nextP (nameP c.ts c.n σ).2) : Int) + 12 ≤ k + 1 := by omega
   refine calls_in Tryz.func116 Tryz.ntmps116 rfl rfl ?_
   focus
    refine cS ?_; (refine lw_alloc' [_, _, _, _] zOk rfl rfl ?_; intro ba1 wa2 na3); have ha5 := na3.blk; have xa6 := na3.ext; have pa7 := na3.pos; have za8 := na3.size; clear na3; replace hP := hP.ext xa6; replace X := X.ext xa6; clear xa6; refine cN (cM rfl rfl ?_); refine cC (by kernel_rfl) rfl (rname_c _ _ _ (by assumption)) rfl ?_; rintro _ wa11 ⟨⟨⟩, ⟨ha9, fa10⟩⟩; have za12 := fa10.size; replace ha5 := ha5.fr fa10 (by omega); clear hP; replace X := X.fr fa10 (by omega); clear fa10; refine cA rfl rfl (cT (cw_seq (cS (cM rfl rfl ?_)))); refine cC (by kernel_rfl) rfl (rhas_t _ _ _ _ (by assumption) (by decide) (by assumption)) rfl ?_; rintro _ wa15 ⟨⟨⟩, ⟨ha13, fa14⟩⟩; have za16 := fa14.size; clear ha9; replace ha5 := ha5.fr fa14 (by omega); replace X := X.fr fa14 (by omega); clear fa14; refine cT (cw_cond_t rfl (cS (cM rfl rfl (cM rfl rfl ?_)))); refine cR (by kernel_rfl) rfl ((IH k (Nat.le_refl _)).expr _ _ _ (by assumption) (by decide) (by decide) hf) (fun _ _ h => h.ret) rfl ?_; rintro _ wa22 ⟨aa17, ⟨ka18, ⟨⟨⟩, ⟨ha19, ⟨ha20, fa21⟩⟩⟩⟩⟩; have za23 := fa21.size; clear ha13; replace ha5 := ha5.fr fa21 (by omega); replace X := X.fr fa21 (by omega); clear fa21; (refine lw_does (does_slice' [_, _, _, _] tabOk zOk rfl rfl rfl rfl rfl rfl rfl rfl rfl) rfl ?_ (fun _ h => h); rintro _ wa25 ⟨ba24, rfl, na26, ta27⟩); clear ta27; have ha28 := na26.blk; have xa29 := na26.ext; have pa30 := na26.pos; have za31 := na26.size; clear na26; replace ha19 := Nd.sits.ext ha19 xa29; replace ha20 := ha20.ext xa29
    replace ha5 := ha5.ext xa29; replace X := X.ext xa29; clear xa29; refine cR (by kernel_rfl) rfl (rnode1 _ _ _ _ _ _ _ _ _ (by assumption) (by assumption)) (fun _ _ h => h.ret) rfl ?_; rintro _ wa36 ⟨aa32, ⟨ka33, ⟨⟨⟩, ⟨ha34, xa35⟩⟩⟩⟩; have za37 := xa35.size; replace ha28 := ha28.ext xa35; replace ha19 := Nd.sits.ext ha19 xa35; replace ha20 := ha20.ext xa35; replace ha5 := ha5.ext xa35; replace X := X.ext xa35; clear xa35; (refine lw_alloc' [_, _, _, _] zOk rfl rfl ?_; intro ba38 wa39 na40); (refine lw_init' [_, _, _, _] tabOk rfl rfl rfl rfl rfl rfl na40 rfl ?_; clear na40; clear wa39; intro wa41 na40); have ha42 := na40.blk; have xa43 := na40.ext; have pa44 := na40.pos; have za45 := na40.size; clear na40; replace ha34 := Nd.sits.ext ha34 xa43; replace ha28 := ha28.ext xa43; replace ha19 := Nd.sits.ext ha19 xa43; replace ha20 := ha20.ext xa43; replace ha5 := ha5.ext xa43; replace X := X.ext xa43; clear xa43; refine cN (cM rfl rfl ?_); refine cC (by kernel_rfl) rfl (rtake_c _ _ _ _ (by assumption) (by decide)) rfl ?_; rintro _ wa48 ⟨⟨⟩, ⟨ha46, fa47⟩⟩; have za49 := fa47.size; replace ha42 := ha42.fr fa47 (by omega); replace ha34 := Nd.sits.fr ha34 fa47 (by omega); replace ha28 := ha28.fr fa47 (by omega); replace ha19 := Nd.sits.fr ha19 fa47 (by omega); clear ha20; replace ha5 := ha5.fr fa47 (by omega); replace X := X.fr fa47 (by omega); clear fa47; refine cN (lw_loads_b' [_, _, _, _] tabOk rfl rfl rfl ha42 rfl rfl rfl ?_); (refine lw_store' [_, _, _, _] [_, _, _, _] tabOk rfl rfl rfl rfl rfl rfl ha5 rfl rfl ?_; intro wa50 na51)
    have ha54 := na51.blk; have fa52 := na51.fr; have za53 := na51.size; clear na51 ha5; replace ha46 := ha46.fr fa52 (by omega); replace ha42 := ha42.fr fa52 (by omega); replace ha34 := Nd.sits.fr ha34 fa52 (by omega); replace ha28 := ha28.fr fa52 (by omega); replace ha19 := Nd.sits.fr ha19 fa52 (by omega); replace X := X.fr fa52 (by omega); clear fa52; refine cT (cw_ret (qw_then_ret (qw_retc rfl tabOk rfl rfl rfl ha54 rfl ?_))); rotate_left 1
   exact rtree_ret (Nd.sits.wide (by assumption) (fun b h => by omega)) (by assumption) X
set_option maxRecDepth 100000 in
set_option maxHeartbeats 8000000 in
theorem runary_w (c : RC) (k : Nat) (IH : ∀ j, j ≤ k → RExprsC c j) (σ : PS) (w : World) (hP : RP c σ w) (hk : 12 * mS c.ts σ + 2 ≤ k + 1) : Calls Tryz.prog 82 #[.pointer (some ⟨c.pb, 0, none⟩)] w (RTreeR c w (unaryR c.ts c.n (k + 1) σ)) := by
 have X := Fr.refl (· = c.pb) w; have hpb := hP.pbB; have hB := hP.B; have hlen := hP.len; rw [unaryR]
 cases h1 : hasP c.ts σ [45]
 case true =>
  simp only [if_true]; have hm := mS_next (has_in hP.at_ h1 (by decide)); refine calls_in Tryz.func82 Tryz.ntmps82 rfl rfl ?_
  focus
   refine cS ?_; (refine lw_alloc' [_, _, _, _] zOk rfl rfl ?_; intro b1 w2 n3); have h5 := n3.blk; have x6 := n3.ext; have p7 := n3.pos; have z8 := n3.size; clear n3; replace hP := hP.ext x6; replace X := X.ext x6; clear x6; refine cT (cw_seq (cS (cM rfl rfl ?_))); refine cC (by kernel_rfl) rfl (rhas_t _ _ _ _ (by assumption) (by decide) (by assumption)) rfl ?_; rintro _ w11 ⟨⟨⟩, ⟨h9, f10⟩⟩; have z12 := f10.size; replace h5 := h5.fr f10 (by omega); clear hP; replace X := X.fr f10 (by omega); clear f10; refine cT (cw_cond_t rfl (cS (cM rfl rfl ?_))); refine cR (by kernel_rfl) rfl ((IH k (Nat.le_refl _)).unary _ _ (by assumption) (by omega)) (fun _ _ h => h.ret) rfl ?_; rintro _ w18 ⟨a13, ⟨k14, ⟨⟨⟩, ⟨h15, ⟨h16, f17⟩⟩⟩⟩⟩; have z19 := f17.size; clear h9; replace h5 := h5.fr f17 (by omega); replace X := X.fr f17 (by omega); clear f17; (refine lw_does (does_slice' [_, _, _, _] tabOk zOk rfl rfl rfl rfl rfl rfl rfl rfl rfl) rfl ?_ (fun _ h => h); rintro _ w21 ⟨b20, rfl, n22, t23⟩); clear t23; have h24 := n22.blk; have x25 := n22.ext; have p26 := n22.pos; have z27 := n22.size; clear n22; replace h15 := Nd.sits.ext h15 x25; replace h16 := h16.ext x25; replace h5 := h5.ext x25; replace X := X.ext x25; clear x25; refine cR (by kernel_rfl) rfl (rnode1 _ _ _ _ _ _ _ _ _ (by assumption) (by assumption)) (fun _ _ h => h.ret) rfl ?_; rintro _ w32 ⟨a28, ⟨k29, ⟨⟨⟩, ⟨h30, x31⟩⟩⟩⟩; have z33 := x31.size; replace h24 := h24.ext x31; replace h15 := Nd.sits.ext h15 x31; replace h16 := h16.ext x31; replace h5 := h5.ext x31
   replace X := X.ext x31; clear x31; (refine lw_store' [_, _, _, _] [_, _, _, _] tabOk rfl rfl rfl rfl rfl rfl h5 rfl rfl ?_; intro w34 n35); have h38 := n35.blk; have f36 := n35.fr; have z37 := n35.size; clear n35 h5; replace h30 := Nd.sits.fr h30 f36 (by omega); replace h24 := h24.fr f36 (by omega); replace h15 := Nd.sits.fr h15 f36 (by omega); replace h16 := h16.fr f36 (by omega); replace X := X.fr f36 (by omega); clear f36; refine cT (cw_ret (qw_then_ret (qw_retc rfl tabOk rfl rfl rfl h38 rfl ?_))); rotate_left 1
  exact rtree_ret (Nd.sits.wide (by assumption) (fun b h => by omega)) (by assumption) X
 simp only [Bool.false_eq_true, if_false]
 cases h2 : hasP c.ts σ [33]
 case true =>
  simp only [if_true]; have hm := mS_next (has_in hP.at_ h2 (by decide)); refine calls_in Tryz.func82 Tryz.ntmps82 rfl rfl ?_
  focus
   refine cS ?_; (refine lw_alloc' [_, _, _, _] zOk rfl rfl ?_; intro ba1 wa2 na3); have ha5 := na3.blk; have xa6 := na3.ext; have pa7 := na3.pos; have za8 := na3.size; clear na3; replace hP := hP.ext xa6; replace X := X.ext xa6; clear xa6; refine cT (cw_seq (cS (cM rfl rfl ?_))); refine cC (by kernel_rfl) rfl (rhas_f _ _ _ _ (by assumption) (by decide) (by assumption)) rfl ?_; rintro _ wa11 ⟨⟨⟩, ⟨ha9, fa10⟩⟩; have za12 := fa10.size; replace ha5 := ha5.fr fa10 (by omega); clear hP; replace X := X.fr fa10 (by omega); clear fa10; refine cT (cw_cond_f rfl (cw_skip (qw_then (cw_seq (cS (cM rfl rfl ?_)))))); refine cC (by kernel_rfl) rfl (rhas_t _ _ _ _ (by assumption) (by decide) (by assumption)) rfl ?_; rintro _ wa15 ⟨⟨⟩, ⟨ha13, fa14⟩⟩; have za16 := fa14.size; clear ha9; replace ha5 := ha5.fr fa14 (by omega); replace X := X.fr fa14 (by omega); clear fa14; refine cT (cw_cond_t rfl (cS (cM rfl rfl ?_))); refine cR (by kernel_rfl) rfl ((IH k (Nat.le_refl _)).unary _ _ (by assumption) (by omega)) (fun _ _ h => h.ret) rfl ?_; rintro _ wa22 ⟨aa17, ⟨ka18, ⟨⟨⟩, ⟨ha19, ⟨ha20, fa21⟩⟩⟩⟩⟩; have za23 := fa21.size; clear ha13; replace ha5 := ha5.fr fa21 (by omega); replace X := X.fr fa21 (by omega); clear fa21; (refine lw_does (does_slice' [_, _, _, _] tabOk zOk rfl rfl rfl rfl rfl rfl rfl rfl rfl) rfl ?_ (fun _ h => h); rintro _ wa25 ⟨ba24, rfl, na26, ta27⟩); clear ta27; have ha28 := na26.blk; have xa29 := na26.ext; have pa30 := na26.pos; have za31 := na26.size; clear na26; replace ha19 := Nd.sits.ext ha19 xa29
   replace ha20 := ha20.ext xa29; replace ha5 := ha5.ext xa29; replace X := X.ext xa29; clear xa29; refine cR (by kernel_rfl) rfl (rnode1 _ _ _ _ _ _ _ _ _ (by assumption) (by assumption)) (fun _ _ h => h.ret) rfl ?_; rintro _ wa36 ⟨aa32, ⟨ka33, ⟨⟨⟩, ⟨ha34, xa35⟩⟩⟩⟩; have za37 := xa35.size; replace ha28 := ha28.ext xa35; replace ha19 := Nd.sits.ext ha19 xa35; replace ha20 := ha20.ext xa35; replace ha5 := ha5.ext xa35; replace X := X.ext xa35; clear xa35; (refine lw_store' [_, _, _, _] [_, _, _, _] tabOk rfl rfl rfl rfl rfl rfl ha5 rfl rfl ?_; intro wa38 na39); have ha42 := na39.blk; have fa40 := na39.fr; have za41 := na39.size; clear na39 ha5; replace ha34 := Nd.sits.fr ha34 fa40 (by omega); replace ha28 := ha28.fr fa40 (by omega); replace ha19 := Nd.sits.fr ha19 fa40 (by omega); replace ha20 := ha20.fr fa40 (by omega); replace X := X.fr fa40 (by omega); clear fa40; refine cT (cw_ret (qw_then_ret (qw_retc rfl tabOk rfl rfl rfl ha42 rfl ?_))); rotate_left 1
  exact rtree_ret (Nd.sits.wide (by assumption) (fun b h => by omega)) (by assumption) X
 simp only [Bool.false_eq_true, if_false]
 cases h3 : hasP c.ts σ [40]
 case true =>
  simp only [if_true]; have hm := mS_next (has_in hP.at_ h3 (by decide)); refine calls_in Tryz.func82 Tryz.ntmps82 rfl rfl ?_
  focus
   refine cS ?_; (refine lw_alloc' [_, _, _, _] zOk rfl rfl ?_; intro bb1 wb2 nb3); have hb5 := nb3.blk; have xb6 := nb3.ext; have pb7 := nb3.pos; have zb8 := nb3.size; clear nb3; replace hP := hP.ext xb6; replace X := X.ext xb6; clear xb6; refine cT (cw_seq (cS (cM rfl rfl ?_))); refine cC (by kernel_rfl) rfl (rhas_f _ _ _ _ (by assumption) (by decide) (by assumption)) rfl ?_; rintro _ wb11 ⟨⟨⟩, ⟨hb9, fb10⟩⟩; have zb12 := fb10.size; replace hb5 := hb5.fr fb10 (by omega); clear hP; replace X := X.fr fb10 (by omega); clear fb10; refine cT (cw_cond_f rfl (cw_skip (qw_then (cw_seq (cS (cM rfl rfl ?_)))))); refine cC (by kernel_rfl) rfl (rhas_f _ _ _ _ (by assumption) (by decide) (by assumption)) rfl ?_; rintro _ wb15 ⟨⟨⟩, ⟨hb13, fb14⟩⟩; have zb16 := fb14.size; clear hb9; replace hb5 := hb5.fr fb14 (by omega); replace X := X.fr fb14 (by omega); clear fb14; refine cT (cw_cond_f rfl (cw_skip (qw_then (cS (cM rfl rfl ?_))))); refine cC (by kernel_rfl) rfl (rpeek_c _ _ _ (by assumption)) rfl ?_; rintro _ wb18 ⟨⟨⟩, xb17⟩; have zb19 := xb17.size; replace hb13 := hb13.ext xb17; replace hb5 := hb5.ext xb17; replace X := X.ext xb17; clear xb17; refine cA rfl rfl (cT (cw_seq (cS (cM rfl rfl ?_)))); refine cC (by kernel_rfl) rfl (rhas_t _ _ _ _ (by assumption) (by decide) (by assumption)) rfl ?_; rintro _ wb22 ⟨⟨⟩, ⟨hb20, fb21⟩⟩; have zb23 := fb21.size; clear hb13; replace hb5 := hb5.fr fb21 (by omega); replace X := X.fr fb21 (by omega); clear fb21; refine cT (cw_cond_t rfl (cS (cM rfl rfl ?_)))
   refine cR (by kernel_rfl) rfl ((IH k (Nat.le_refl _)).expr _ _ _ (by assumption) (by decide) (by decide) (by omega)) (fun _ _ h => h.ret) rfl ?_; rintro _ wb29 ⟨ab24, ⟨kb25, ⟨⟨⟩, ⟨hb26, ⟨hb27, fb28⟩⟩⟩⟩⟩; have zb30 := fb28.size; clear hb20; replace hb5 := hb5.fr fb28 (by omega); replace X := X.fr fb28 (by omega); clear fb28; (refine lw_alloc' [_, _, _, _] zOk rfl rfl ?_; intro bb31 wb32 nb33); (refine lw_init' [_, _, _, _] tabOk rfl rfl rfl rfl rfl rfl nb33 rfl ?_; clear nb33; clear wb32; intro wb34 nb33); have hb35 := nb33.blk; have xb36 := nb33.ext; have pb37 := nb33.pos; have zb38 := nb33.size; clear nb33; replace hb26 := Nd.sits.ext hb26 xb36; replace hb27 := hb27.ext xb36; replace hb5 := hb5.ext xb36; replace X := X.ext xb36; clear xb36; refine cN (cM rfl rfl ?_); refine cC (by kernel_rfl) rfl (rtake_c _ _ _ _ (by assumption) (by decide)) rfl ?_; rintro _ wb41 ⟨⟨⟩, ⟨hb39, fb40⟩⟩; have zb42 := fb40.size; replace hb35 := hb35.fr fb40 (by omega); replace hb26 := Nd.sits.fr hb26 fb40 (by omega); clear hb27; replace hb5 := hb5.fr fb40 (by omega); replace X := X.fr fb40 (by omega); clear fb40; refine cN (lw_loads_b' [_, _, _, _] tabOk rfl rfl rfl hb35 rfl rfl rfl ?_); (refine lw_store' [_, _, _, _] [_, _, _, _] tabOk rfl rfl rfl rfl rfl rfl hb5 rfl rfl ?_; intro wb43 nb44); have hb47 := nb44.blk; have fb45 := nb44.fr; have zb46 := nb44.size; clear nb44 hb5; replace hb39 := hb39.fr fb45 (by omega); replace hb35 := hb35.fr fb45 (by omega); replace hb26 := Nd.sits.fr hb26 fb45 (by omega)
   replace X := X.fr fb45 (by omega); clear fb45; refine cT (cw_ret (qw_then_ret (qw_retc rfl tabOk rfl rfl rfl hb47 rfl ?_))); rotate_left 1
  exact rtree_ret (Nd.sits.wide (by assumption) (fun b h => by omega)) (by assumption) X
 simp only [Bool.false_eq_true, if_false]
 cases h4 : hasP c.ts σ [116, 111, 112]
 case true =>
  simp only [if_true]; have e4 : (peekP c.ts σ).text = [116, 111, 112] := of_decide_eq_true h4; obtain ⟨i1, i2⟩ := has_in hP.at_ h4 (by decide); refine calls_in Tryz.func82 Tryz.ntmps82 rfl rfl ?_
  focus
   refine cS ?_; (refine lw_alloc' [_, _, _, _] zOk rfl rfl ?_; intro bc1 wc2 nc3); have hc5 := nc3.blk; have xc6 := nc3.ext; have pc7 := nc3.pos; have zc8 := nc3.size; clear nc3; replace hP := hP.ext xc6; replace X := X.ext xc6; clear xc6; refine cT (cw_seq (cS (cM rfl rfl ?_))); refine cC (by kernel_rfl) rfl (rhas_f _ _ _ _ (by assumption) (by decide) (by assumption)) rfl ?_; rintro _ wc11 ⟨⟨⟩, ⟨hc9, fc10⟩⟩; have zc12 := fc10.size; replace hc5 := hc5.fr fc10 (by omega); clear hP; replace X := X.fr fc10 (by omega); clear fc10; refine cT (cw_cond_f rfl (cw_skip (qw_then (cw_seq (cS (cM rfl rfl ?_)))))); refine cC (by kernel_rfl) rfl (rhas_f _ _ _ _ (by assumption) (by decide) (by assumption)) rfl ?_; rintro _ wc15 ⟨⟨⟩, ⟨hc13, fc14⟩⟩; have zc16 := fc14.size; clear hc9; replace hc5 := hc5.fr fc14 (by omega); replace X := X.fr fc14 (by omega); clear fc14; refine cT (cw_cond_f rfl (cw_skip (qw_then (cS (cM rfl rfl ?_))))); refine cC (by kernel_rfl) rfl (rpeek_c _ _ _ (by assumption)) rfl ?_; rintro _ wc18 ⟨⟨⟩, xc17⟩; have zc19 := xc17.size; replace hc13 := hc13.ext xc17; replace hc5 := hc5.ext xc17; replace X := X.ext xc17; clear xc17; refine cA rfl rfl (cT (cw_seq (cS (cM rfl rfl ?_)))); refine cC (by kernel_rfl) rfl (rhas_f _ _ _ _ (by assumption) (by decide) (by assumption)) rfl ?_; rintro _ wc22 ⟨⟨⟩, ⟨hc20, fc21⟩⟩; have zc23 := fc21.size; clear hc13; replace hc5 := hc5.fr fc21 (by omega); replace X := X.fr fc21 (by omega); clear fc21; refine cT (cw_cond_f rfl (cw_skip (qw_then (cw_seq (cS (cM rfl rfl (lw_pure (pur_seql rfl rfl) rfl (cM rfl rfl ?_))))))))
   refine lw_off rfl rfl rfl (gd_ft (by assumption)) rfl ?_; refine lw_off rfl rfl rfl (gd_ft (by assumption)) rfl ?_; refine lw_pure (pur_pick_yes rfl rfl (by assumption)) rfl ?_; refine cT (cw_cond_t rfl (cS (cM rfl rfl (cM rfl rfl (lw_pure (pur_nilCheck rfl) rfl (lw_pure (pur_fieldAddr tabOk rfl rfl rfl) rfl (lw_load_b tabOk rfl rfl rfl (RP.blk hc20) rfl rfl ?_))))))); refine lw_pure (pur_add rfl rfl (IntWalk.i64_in _ (by omega))) rfl ?_; refine lw_pure (pur_nilCheck rfl) rfl (lw_pure (pur_fieldAddr tabOk rfl rfl rfl) rfl ?_); refine lw_rp_at tabOk rfl rfl rfl rfl (by assumption) i2 ?_; rintro wc24 hc25 fc26; have zc27 := fc26.size; clear hc20; replace hc5 := hc5.fr fc26 (by omega); replace X := X.fr fc26 (by omega); clear fc26; refine cN (cM rfl rfl ?_); refine cC (by kernel_rfl) rfl (rtake_c _ _ _ _ (by assumption) (by decide)) rfl ?_; rintro _ wc30 ⟨⟨⟩, ⟨hc28, fc29⟩⟩; have zc31 := fc29.size; clear hc25; replace hc5 := hc5.fr fc29 (by omega); replace X := X.fr fc29 (by omega); clear fc29; refine cN (cM rfl rfl ?_); refine cC (by kernel_rfl) rfl (rname_c _ _ _ (by assumption)) rfl ?_; rintro _ wc34 ⟨⟨⟩, ⟨hc32, fc33⟩⟩; have zc35 := fc33.size; clear hc28; replace hc5 := hc5.fr fc33 (by omega); replace X := X.fr fc33 (by omega); clear fc33; refine cC (by kernel_rfl) rfl (rnode0 _ _ _) rfl ?_; rintro _ wc37 ⟨⟨⟩, xc36⟩; have zc38 := xc36.size; replace hc32 := hc32.ext xc36; replace hc5 := hc5.ext xc36; replace X := X.ext xc36; clear xc36; (refine lw_alloc' [_, _, _, _] zOk rfl rfl ?_; intro bc39 wc40 nc41)
   (refine lw_init' [_, _, _, _] tabOk rfl rfl rfl rfl rfl rfl nc41 rfl ?_; clear nc41; clear wc40; intro wc42 nc41); have hc43 := nc41.blk; have xc44 := nc41.ext; have pc45 := nc41.pos; have zc46 := nc41.size; clear nc41; replace hc32 := hc32.ext xc44; replace hc5 := hc5.ext xc44; replace X := X.ext xc44; clear xc44; refine cT (cw_seq (cS (cM rfl rfl (lw_pure (pur_seql rfl rfl) rfl (cT ?_))))); refine cw_no rfl (fun hq9 => absurd (e4.symm.trans hq9) (by decide)) ?_; refine cw_skip (qw_then (cS (cM rfl rfl ?_))); refine cC (by kernel_rfl) rfl (rtake_c _ _ _ _ (by assumption) (by decide)) rfl ?_; rintro _ wc49 ⟨⟨⟩, ⟨hc47, fc48⟩⟩; have zc50 := fc48.size; replace hc43 := hc43.fr fc48 (by omega); clear hc32; replace hc5 := hc5.fr fc48 (by omega); replace X := X.fr fc48 (by omega); clear fc48; refine cN (lw_loads_b' [_, _, _, _] tabOk rfl rfl rfl hc43 rfl rfl rfl ?_); (refine lw_store' [_, _, _, _] [_, _, _, _] tabOk rfl rfl rfl rfl rfl rfl hc5 rfl rfl ?_; intro wc51 nc52); have hc55 := nc52.blk; have fc53 := nc52.fr; have zc54 := nc52.size; clear nc52 hc5; replace hc47 := hc47.fr fc53 (by omega); replace hc43 := hc43.fr fc53 (by omega); replace X := X.fr fc53 (by omega); clear fc53; refine cT (cw_ret (qw_then_ret (qw_retc rfl tabOk rfl rfl rfl hc55 rfl ?_))); rotate_left 1
  exact rtree_ret sits_nil (by assumption) X
 simp only [Bool.false_eq_true, if_false]
 cases h5 : hasP c.ts σ [115, 105, 122, 101]
 case true =>
  simp only [if_true]; have e5 : (peekP c.ts σ).text = [115, 105, 122, 101] := of_decide_eq_true h5; obtain ⟨i1, i2⟩ := has_in hP.at_ h5 (by decide); refine calls_in Tryz.func82 Tryz.ntmps82 rfl rfl ?_
  focus
   refine cS ?_; (refine lw_alloc' [_, _, _, _] zOk rfl rfl ?_; intro bd1 wd2 nd3); have hd5 := nd3.blk; have xd6 := nd3.ext; have pd7 := nd3.pos; have zd8 := nd3.size; clear nd3; replace hP := hP.ext xd6; replace X := X.ext xd6; clear xd6; refine cT (cw_seq (cS (cM rfl rfl ?_))); refine cC (by kernel_rfl) rfl (rhas_f _ _ _ _ (by assumption) (by decide) (by assumption)) rfl ?_; rintro _ wd11 ⟨⟨⟩, ⟨hd9, fd10⟩⟩; have zd12 := fd10.size; replace hd5 := hd5.fr fd10 (by omega); clear hP; replace X := X.fr fd10 (by omega); clear fd10; refine cT (cw_cond_f rfl (cw_skip (qw_then (cw_seq (cS (cM rfl rfl ?_)))))); refine cC (by kernel_rfl) rfl (rhas_f _ _ _ _ (by assumption) (by decide) (by assumption)) rfl ?_; rintro _ wd15 ⟨⟨⟩, ⟨hd13, fd14⟩⟩; have zd16 := fd14.size; clear hd9; replace hd5 := hd5.fr fd14 (by omega); replace X := X.fr fd14 (by omega); clear fd14; refine cT (cw_cond_f rfl (cw_skip (qw_then (cS (cM rfl rfl ?_))))); refine cC (by kernel_rfl) rfl (rpeek_c _ _ _ (by assumption)) rfl ?_; rintro _ wd18 ⟨⟨⟩, xd17⟩; have zd19 := xd17.size; replace hd13 := hd13.ext xd17; replace hd5 := hd5.ext xd17; replace X := X.ext xd17; clear xd17; refine cA rfl rfl (cT (cw_seq (cS (cM rfl rfl ?_)))); refine cC (by kernel_rfl) rfl (rhas_f _ _ _ _ (by assumption) (by decide) (by assumption)) rfl ?_; rintro _ wd22 ⟨⟨⟩, ⟨hd20, fd21⟩⟩; have zd23 := fd21.size; clear hd13; replace hd5 := hd5.fr fd21 (by omega); replace X := X.fr fd21 (by omega); clear fd21; refine cT (cw_cond_f rfl (cw_skip (qw_then (cw_seq (cS (cM rfl rfl (lw_pure (pur_seql rfl rfl) rfl (cM rfl rfl ?_))))))))
   refine lw_on rfl rfl rfl (gd_ff (fun hq9 => absurd (e5.symm.trans hq9) (by decide))) ?_; refine cM rfl rfl ?_; refine lw_on rfl rfl rfl (gd_ff (fun hq9 => absurd (e5.symm.trans hq9) (by decide))) ?_; refine lw_pure (pur_seql rfl rfl) rfl ?_; refine lw_pure (pur_pick_no rfl rfl (fun hq9 => absurd (e5.symm.trans hq9) (by decide))) rfl ?_; refine cT ?_; refine cw_yes rfl (by assumption) ?_; refine cS (cM rfl rfl (cM rfl rfl (lw_pure (pur_nilCheck rfl) rfl (lw_pure (pur_fieldAddr tabOk rfl rfl rfl) rfl (lw_load_b tabOk rfl rfl rfl (RP.blk hd20) rfl rfl ?_))))); refine lw_pure (pur_add rfl rfl (IntWalk.i64_in _ (by omega))) rfl ?_; refine lw_pure (pur_nilCheck rfl) rfl (lw_pure (pur_fieldAddr tabOk rfl rfl rfl) rfl ?_); refine lw_rp_at tabOk rfl rfl rfl rfl (by assumption) i2 ?_; rintro wd24 hd25 fd26; have zd27 := fd26.size; clear hd20; replace hd5 := hd5.fr fd26 (by omega); replace X := X.fr fd26 (by omega); clear fd26; refine cN (cM rfl rfl ?_); refine cC (by kernel_rfl) rfl (rtake_c _ _ _ _ (by assumption) (by decide)) rfl ?_; rintro _ wd30 ⟨⟨⟩, ⟨hd28, fd29⟩⟩; have zd31 := fd29.size; clear hd25; replace hd5 := hd5.fr fd29 (by omega); replace X := X.fr fd29 (by omega); clear fd29; refine cN (cM rfl rfl ?_); refine cC (by kernel_rfl) rfl (rname_c _ _ _ (by assumption)) rfl ?_; rintro _ wd34 ⟨⟨⟩, ⟨hd32, fd33⟩⟩; have zd35 := fd33.size; clear hd28; replace hd5 := hd5.fr fd33 (by omega); replace X := X.fr fd33 (by omega); clear fd33; refine cC (by kernel_rfl) rfl (rnode0 _ _ _) rfl ?_
   rintro _ wd37 ⟨⟨⟩, xd36⟩; have zd38 := xd36.size; replace hd32 := hd32.ext xd36; replace hd5 := hd5.ext xd36; replace X := X.ext xd36; clear xd36; (refine lw_alloc' [_, _, _, _] zOk rfl rfl ?_; intro bd39 wd40 nd41); (refine lw_init' [_, _, _, _] tabOk rfl rfl rfl rfl rfl rfl nd41 rfl ?_; clear nd41; clear wd40; intro wd42 nd41); have hd43 := nd41.blk; have xd44 := nd41.ext; have pd45 := nd41.pos; have zd46 := nd41.size; clear nd41; replace hd32 := hd32.ext xd44; replace hd5 := hd5.ext xd44; replace X := X.ext xd44; clear xd44; refine cT (cw_seq (cS (cM rfl rfl (lw_pure (pur_seql rfl rfl) rfl (cT ?_))))); refine cw_yes rfl (by assumption) ?_; refine cw_region (lw_pure (pur_fieldAddr0 tabOk rfl rfl rfl) rfl ?_); (refine lw_store' [_] [_, _, _, _] tabOk rfl rfl rfl rfl rfl rfl hd43 rfl rfl ?_; intro wd47 nd48); have hd51 := nd48.blk; have fd49 := nd48.fr; have zd50 := nd48.size; clear nd48 hd43; replace hd32 := hd32.fr fd49 (by omega); replace hd5 := hd5.fr fd49 (by omega); replace X := X.fr fd49 (by omega); clear fd49; refine cN (cM rfl rfl ?_); refine cC (by kernel_rfl) rfl (rtake_c _ _ _ _ (by assumption) (by decide)) rfl ?_; rintro _ wd54 ⟨⟨⟩, ⟨hd52, fd53⟩⟩; have zd55 := fd53.size; replace hd51 := hd51.fr fd53 (by omega); clear hd32; replace hd5 := hd5.fr fd53 (by omega); replace X := X.fr fd53 (by omega); clear fd53; refine cN (lw_loads_b' [_, _, _, _] tabOk rfl rfl rfl hd51 rfl rfl rfl ?_); (refine lw_store' [_, _, _, _] [_, _, _, _] tabOk rfl rfl rfl rfl rfl rfl hd5 rfl rfl ?_; intro wd56 nd57)
   have hd60 := nd57.blk; have fd58 := nd57.fr; have zd59 := nd57.size; clear nd57 hd5; replace hd52 := hd52.fr fd58 (by omega); replace hd51 := hd51.fr fd58 (by omega); replace X := X.fr fd58 (by omega); clear fd58; refine cT (cw_ret (qw_then_ret (qw_retc rfl tabOk rfl rfl rfl hd60 rfl ?_))); rotate_left 1
  exact rtree_ret sits_nil (by assumption) X
 simp only [Bool.false_eq_true, if_false]; have n4 : (peekP c.ts σ).text ≠ [116, 111, 112] := of_decide_eq_false h4; have n5 : (peekP c.ts σ).text ≠ [115, 105, 122, 101] := of_decide_eq_false h5; have hpl := rpeek_len hP
 cases h6 : startsDigit (peekP c.ts σ).text
 case true =>
  simp only [if_true]; obtain ⟨x0, r0, hx0, hd0⟩ := startsDigit_cons h6
  have hlen0 : 0 < (peekP c.ts σ).text.length := by rw [hx0]; simp
  have hx : (peekP c.ts σ).text[(0 : Int).toNat]? = some x0 := by rw [hx0]; rfl
  clear hx0; refine calls_in Tryz.func82 Tryz.ntmps82 rfl rfl ?_
  focus
   refine cS ?_; (refine lw_alloc' [_, _, _, _] zOk rfl rfl ?_; intro be1 we2 ne3); have he5 := ne3.blk; have xe6 := ne3.ext; have pe7 := ne3.pos; have ze8 := ne3.size; clear ne3; replace hP := hP.ext xe6; replace X := X.ext xe6; clear xe6; refine cT (cw_seq (cS (cM rfl rfl ?_))); refine cC (by kernel_rfl) rfl (rhas_f _ _ _ _ (by assumption) (by decide) (by assumption)) rfl ?_; rintro _ we11 ⟨⟨⟩, ⟨he9, fe10⟩⟩; have ze12 := fe10.size; replace he5 := he5.fr fe10 (by omega); clear hP; replace X := X.fr fe10 (by omega); clear fe10; refine cT (cw_cond_f rfl (cw_skip (qw_then (cw_seq (cS (cM rfl rfl ?_)))))); refine cC (by kernel_rfl) rfl (rhas_f _ _ _ _ (by assumption) (by decide) (by assumption)) rfl ?_; rintro _ we15 ⟨⟨⟩, ⟨he13, fe14⟩⟩; have ze16 := fe14.size; clear he9; replace he5 := he5.fr fe14 (by omega); replace X := X.fr fe14 (by omega); clear fe14; refine cT (cw_cond_f rfl (cw_skip (qw_then (cS (cM rfl rfl ?_))))); refine cC (by kernel_rfl) rfl (rpeek_c _ _ _ (by assumption)) rfl ?_; rintro _ we18 ⟨⟨⟩, xe17⟩; have ze19 := xe17.size; replace he13 := he13.ext xe17; replace he5 := he5.ext xe17; replace X := X.ext xe17; clear xe17; refine cA rfl rfl (cT (cw_seq (cS (cM rfl rfl ?_)))); refine cC (by kernel_rfl) rfl (rhas_f _ _ _ _ (by assumption) (by decide) (by assumption)) rfl ?_; rintro _ we22 ⟨⟨⟩, ⟨he20, fe21⟩⟩; have ze23 := fe21.size; clear he13; replace he5 := he5.fr fe21 (by omega); replace X := X.fr fe21 (by omega); clear fe21; refine cT (cw_cond_f rfl (cw_skip (qw_then (cw_seq (cS (cM rfl rfl (lw_pure (pur_seql rfl rfl) rfl (cM rfl rfl ?_))))))))
   refine lw_on rfl rfl rfl (gd_ff (by assumption)) ?_; refine cM rfl rfl ?_; refine lw_on rfl rfl rfl (gd_ff (by assumption)) ?_; refine lw_pure (pur_seql rfl rfl) rfl ?_; refine lw_pure (pur_pick_no rfl rfl (by assumption)) rfl ?_; refine cT ?_; refine cw_no rfl (by assumption) ?_; refine cw_skip (qw_then (cw_seq (cS (cM rfl rfl (lw_pure (pur_len_s tabOk rfl rfl) rfl (lw_pure (pur_gtr rfl rfl) rfl (cM rfl rfl ?_))))))); refine lw_on rfl rfl rfl (gd_tt (by omega)) ?_; refine cM rfl rfl ?_; refine lw_on rfl rfl rfl (gd_tt (by omega)) ?_; refine lw_pure (pur_sindex tabOk rfl rfl rfl (by omega) (by assumption)) rfl ?_; refine lw_on rfl rfl rfl (gd_tt (by omega)) ?_; refine cC (by kernel_rfl) rfl (rdigit_c _ _) rfl ?_; rintro _ we24 ⟨⟨⟩, rfl⟩; refine lw_pure (pur_pick_yes rfl rfl (by omega)) rfl ?_; refine cT ?_; refine cw_bt rfl (by assumption) ?_; refine cS (cM rfl rfl ?_); refine cC (by kernel_rfl) rfl (rnumber_c _ _ _ (by assumption)) rfl ?_; rintro _ we27 ⟨⟨⟩, ⟨he25, fe26⟩⟩; have ze28 := fe26.size; clear he20; replace he5 := he5.fr fe26 (by omega); replace X := X.fr fe26 (by omega); clear fe26; refine lw_pure (pur_build' [_, _, _, _] tabOk zOk rfl rfl rfl rfl) rfl ?_; (refine lw_store' [_, _, _, _] [_, _, _, _] tabOk rfl rfl rfl rfl rfl rfl he5 rfl rfl ?_; intro we29 ne30); have he33 := ne30.blk; have fe31 := ne30.fr; have ze32 := ne30.size; clear ne30 he5; replace he25 := he25.fr fe31 (by omega); replace X := X.fr fe31 (by omega); clear fe31; refine cT (cw_ret (qw_then_ret (qw_retc rfl tabOk rfl rfl rfl he33 rfl ?_)))
   rotate_left 1
  exact rtree_ret sits_nil (by assumption) X
 simp only [Bool.false_eq_true, if_false]
 cases ht : (peekP c.ts σ).text with
 | nil =>
  have hlen0 : (peekP c.ts σ).text.length = 0 := by rw [ht]; rfl
  clear ht; refine calls_in Tryz.func82 Tryz.ntmps82 rfl rfl ?_
  focus
   refine cS ?_; (refine lw_alloc' [_, _, _, _] zOk rfl rfl ?_; intro bf1 wf2 nf3); have hf5 := nf3.blk; have xf6 := nf3.ext; have pf7 := nf3.pos; have zf8 := nf3.size; clear nf3; replace hP := hP.ext xf6; replace X := X.ext xf6; clear xf6; refine cT (cw_seq (cS (cM rfl rfl ?_))); refine cC (by kernel_rfl) rfl (rhas_f _ _ _ _ (by assumption) (by decide) (by assumption)) rfl ?_; rintro _ wf11 ⟨⟨⟩, ⟨hf9, ff10⟩⟩; have zf12 := ff10.size; replace hf5 := hf5.fr ff10 (by omega); clear hP; replace X := X.fr ff10 (by omega); clear ff10; refine cT (cw_cond_f rfl (cw_skip (qw_then (cw_seq (cS (cM rfl rfl ?_)))))); refine cC (by kernel_rfl) rfl (rhas_f _ _ _ _ (by assumption) (by decide) (by assumption)) rfl ?_; rintro _ wf15 ⟨⟨⟩, ⟨hf13, ff14⟩⟩; have zf16 := ff14.size; clear hf9; replace hf5 := hf5.fr ff14 (by omega); replace X := X.fr ff14 (by omega); clear ff14; refine cT (cw_cond_f rfl (cw_skip (qw_then (cS (cM rfl rfl ?_))))); refine cC (by kernel_rfl) rfl (rpeek_c _ _ _ (by assumption)) rfl ?_; rintro _ wf18 ⟨⟨⟩, xf17⟩; have zf19 := xf17.size; replace hf13 := hf13.ext xf17; replace hf5 := hf5.ext xf17; replace X := X.ext xf17; clear xf17; refine cA rfl rfl (cT (cw_seq (cS (cM rfl rfl ?_)))); refine cC (by kernel_rfl) rfl (rhas_f _ _ _ _ (by assumption) (by decide) (by assumption)) rfl ?_; rintro _ wf22 ⟨⟨⟩, ⟨hf20, ff21⟩⟩; have zf23 := ff21.size; clear hf13; replace hf5 := hf5.fr ff21 (by omega); replace X := X.fr ff21 (by omega); clear ff21; refine cT (cw_cond_f rfl (cw_skip (qw_then (cw_seq (cS (cM rfl rfl (lw_pure (pur_seql rfl rfl) rfl (cM rfl rfl ?_))))))))
   refine lw_on rfl rfl rfl (gd_ff (by assumption)) ?_; refine cM rfl rfl ?_; refine lw_on rfl rfl rfl (gd_ff (by assumption)) ?_; refine lw_pure (pur_seql rfl rfl) rfl ?_; refine lw_pure (pur_pick_no rfl rfl (by assumption)) rfl ?_; refine cT ?_; refine cw_no rfl (by assumption) ?_; refine cw_skip (qw_then (cw_seq (cS (cM rfl rfl (lw_pure (pur_len_s tabOk rfl rfl) rfl (lw_pure (pur_gtr rfl rfl) rfl (cM rfl rfl ?_))))))); refine lw_off rfl rfl rfl (gd_tf (by omega)) rfl ?_; refine lw_off rfl rfl rfl (gd_tf (by omega)) rfl ?_; refine lw_off rfl rfl rfl (gd_tf (by omega)) rfl ?_; refine lw_pure (pur_pick_no rfl rfl (by omega)) rfl ?_; refine cT (cw_cond_f rfl (cw_skip (qw_then (cS (cM rfl rfl ?_))))); refine cR (by kernel_rfl) rfl ((IH k (Nat.le_refl _)).place _ _ (by assumption) (by omega)) (fun _ _ h => h.ret) rfl ?_; rintro _ wf29 ⟨af24, ⟨kf25, ⟨⟨⟩, ⟨hf26, ⟨hf27, ff28⟩⟩⟩⟩⟩; have zf30 := ff28.size; clear hf20; replace hf5 := hf5.fr ff28 (by omega); replace X := X.fr ff28 (by omega); clear ff28; (refine lw_store' [_, _, _, _] [_, _, _, _] tabOk rfl rfl rfl rfl rfl rfl hf5 rfl rfl ?_; intro wf31 nf32); have hf35 := nf32.blk; have ff33 := nf32.fr; have zf34 := nf32.size; clear nf32 hf5; replace hf26 := Nd.sits.fr hf26 ff33 (by omega); replace hf27 := hf27.fr ff33 (by omega); replace X := X.fr ff33 (by omega); clear ff33; refine cT (cw_ret (qw_retc rfl tabOk rfl rfl rfl hf35 rfl ?_)); rotate_left 1
  exact rtree_ret (Nd.sits.wide (by assumption) (fun b h => by omega)) (by assumption) X
 | cons x r =>
  have hlen0 : 0 < (peekP c.ts σ).text.length := by rw [ht]; simp
  have hx : (peekP c.ts σ).text[(0 : Int).toNat]? = some x := by rw [ht]; rfl
  have hd : digit x = false := by rw [ht] at h6; exact h6
  clear ht; refine calls_in Tryz.func82 Tryz.ntmps82 rfl rfl ?_
  focus
   refine cS ?_; (refine lw_alloc' [_, _, _, _] zOk rfl rfl ?_; intro bg1 wg2 ng3); have hg5 := ng3.blk; have xg6 := ng3.ext; have pg7 := ng3.pos; have zg8 := ng3.size; clear ng3; replace hP := hP.ext xg6; replace X := X.ext xg6; clear xg6; refine cT (cw_seq (cS (cM rfl rfl ?_))); refine cC (by kernel_rfl) rfl (rhas_f _ _ _ _ (by assumption) (by decide) (by assumption)) rfl ?_; rintro _ wg11 ⟨⟨⟩, ⟨hg9, fg10⟩⟩; have zg12 := fg10.size; replace hg5 := hg5.fr fg10 (by omega); clear hP; replace X := X.fr fg10 (by omega); clear fg10; refine cT (cw_cond_f rfl (cw_skip (qw_then (cw_seq (cS (cM rfl rfl ?_)))))); refine cC (by kernel_rfl) rfl (rhas_f _ _ _ _ (by assumption) (by decide) (by assumption)) rfl ?_; rintro _ wg15 ⟨⟨⟩, ⟨hg13, fg14⟩⟩; have zg16 := fg14.size; clear hg9; replace hg5 := hg5.fr fg14 (by omega); replace X := X.fr fg14 (by omega); clear fg14; refine cT (cw_cond_f rfl (cw_skip (qw_then (cS (cM rfl rfl ?_))))); refine cC (by kernel_rfl) rfl (rpeek_c _ _ _ (by assumption)) rfl ?_; rintro _ wg18 ⟨⟨⟩, xg17⟩; have zg19 := xg17.size; replace hg13 := hg13.ext xg17; replace hg5 := hg5.ext xg17; replace X := X.ext xg17; clear xg17; refine cA rfl rfl (cT (cw_seq (cS (cM rfl rfl ?_)))); refine cC (by kernel_rfl) rfl (rhas_f _ _ _ _ (by assumption) (by decide) (by assumption)) rfl ?_; rintro _ wg22 ⟨⟨⟩, ⟨hg20, fg21⟩⟩; have zg23 := fg21.size; clear hg13; replace hg5 := hg5.fr fg21 (by omega); replace X := X.fr fg21 (by omega); clear fg21; refine cT (cw_cond_f rfl (cw_skip (qw_then (cw_seq (cS (cM rfl rfl (lw_pure (pur_seql rfl rfl) rfl (cM rfl rfl ?_))))))))
   refine lw_on rfl rfl rfl (gd_ff (by assumption)) ?_; refine cM rfl rfl ?_; refine lw_on rfl rfl rfl (gd_ff (by assumption)) ?_; refine lw_pure (pur_seql rfl rfl) rfl ?_; refine lw_pure (pur_pick_no rfl rfl (by assumption)) rfl ?_; refine cT ?_; refine cw_no rfl (by assumption) ?_; refine cw_skip (qw_then (cw_seq (cS (cM rfl rfl (lw_pure (pur_len_s tabOk rfl rfl) rfl (lw_pure (pur_gtr rfl rfl) rfl (cM rfl rfl ?_))))))); refine lw_on rfl rfl rfl (gd_tt (by omega)) ?_; refine cM rfl rfl ?_; refine lw_on rfl rfl rfl (gd_tt (by omega)) ?_; refine lw_pure (pur_sindex tabOk rfl rfl rfl (by omega) (by assumption)) rfl ?_; refine lw_on rfl rfl rfl (gd_tt (by omega)) ?_; refine cC (by kernel_rfl) rfl (rdigit_c _ _) rfl ?_; rintro _ wg24 ⟨⟨⟩, rfl⟩; refine lw_pure (pur_pick_yes rfl rfl (by omega)) rfl ?_; refine cT ?_; refine cw_bf rfl (by assumption) ?_; refine cw_skip (qw_then (cS (cM rfl rfl ?_))); refine cR (by kernel_rfl) rfl ((IH k (Nat.le_refl _)).place _ _ (by assumption) (by omega)) (fun _ _ h => h.ret) rfl ?_; rintro _ wg30 ⟨ag25, ⟨kg26, ⟨⟨⟩, ⟨hg27, ⟨hg28, fg29⟩⟩⟩⟩⟩; have zg31 := fg29.size; clear hg20; replace hg5 := hg5.fr fg29 (by omega); replace X := X.fr fg29 (by omega); clear fg29; (refine lw_store' [_, _, _, _] [_, _, _, _] tabOk rfl rfl rfl rfl rfl rfl hg5 rfl rfl ?_; intro wg32 ng33); have hg36 := ng33.blk; have fg34 := ng33.fr; have zg35 := ng33.size; clear ng33 hg5; replace hg27 := Nd.sits.fr hg27 fg34 (by omega); replace hg28 := hg28.fr fg34 (by omega); replace X := X.fr fg34 (by omega)
   clear fg34; refine cT (cw_ret (qw_retc rfl tabOk rfl rfl rfl hg36 rfl ?_)); rotate_left 1
  exact rtree_ret (Nd.sits.wide (by assumption) (fun b h => by omega)) (by assumption) X
end Bk
