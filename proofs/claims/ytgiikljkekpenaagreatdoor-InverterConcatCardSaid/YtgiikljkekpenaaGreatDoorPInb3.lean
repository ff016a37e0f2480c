/- Texts that the proofs of InverterConcat need. No condition. (Part 3 of 6.) -/
import Derived.Test.YtgiikljkekpenaaGreatDoorPInb2
set_option linter.unusedSimpArgs false
set_option linter.unusedVariables false
namespace Bk
open Go Go.RowKit Go.Proofs
attribute [local irreducible] Go.Calls
structure PC where
 pb : Nat
 B : Nat
 ts : List Tok
 n : Int
 a : Option Addr
 cap : Nat
 r : Nat
abbrev Tok.cells (t : Tok) : List Value := [.int .u8 t.kind, str t.text, .int .i64 t.pos]
abbrev Tok.val (t : Tok) : Value := .agg #[.int .u8 t.kind, str t.text, .int .i64 t.pos]
def TokAt (w : World) (b o : Nat) (t : Tok) : Prop := Row w ⟨b, o, none⟩ t.cells
def binMap : List (List UInt8 × Value) := [8, 9, 10, 11, 12, 13, 14, 15, 16, 17, 18, 19, 20, 21, 22, 23].map fun k => (symbol k, .int .u8 k)
abbrev PC.cells (c : PC) (σ : PS) : List Value := [.slice c.a c.ts.length c.cap, .int .i64 σ.at_, .int .i64 c.n, .map (some c.r), .int .i64 σ.off, .int .i64 σ.err]
structure Errs (w : World) : Prop where
 ex : ∃ te pe, w.cell? ⟨3, 0, none⟩ = some (.iface te pe)
theorem Errs.ext {w w' : World} (h : Errs w) (x : Ext w w') : Errs w' := by
 obtain ⟨te, pe, h⟩ := h.ex
 exact ⟨te, pe, x.keep h⟩
theorem Errs.fr {S : Nat → Prop} {w w' : World} (h : Errs w) (x : Fr S w w') (hs : ¬ S 3) : Errs w' := by
 obtain ⟨te, pe, h⟩ := h.ex
 exact ⟨te, pe, x.keep hs h⟩
structure PP (c : PC) (σ : PS) (w : World) : Prop where
 blk : Blk w c.pb (c.cells σ)
 toks : Arr (fun b => b < c.B ∧ b ≠ c.pb) 3 TokAt w c.ts c.a
 map : MapIs w c.r binMap
 pbB : c.pb < c.B
 rB : c.r < c.B
 rne : c.r ≠ c.pb
 B : c.B ≤ w.heap.size
 at_ : σ.at_ ≤ c.ts.length
 len : c.ts.length ≤ 1000000
 tok : ∀ t ∈ c.ts, t.text.length ≤ 1000000
 num : ∀ t ∈ c.ts, t.kind = 2 → t.text ≠ [] ∧ ∀ x ∈ t.text, digit x = true
 errs : Errs w
 gl : 3 < c.pb
theorem PP.ext {c : PC} {σ : PS} {w w' : World} (h : PP c σ w) (x : Ext w w') : PP c σ w' :=
 ⟨h.blk.ext x, h.toks.mono (fun _ h => h) (fun _ _ _ _ _ h => Row.ext h x), h.map.ext x, h.pbB, h.rB, h.rne, Nat.le_trans h.B x.size, h.at_, h.len, h.tok, h.num, h.errs.ext x, h.gl⟩
theorem PP.fr {c : PC} {σ : PS} {S : Nat → Prop} {w w' : World} (h : PP c σ w) (x : Fr S w w') (hs : ∀ k, S k → c.B ≤ k) : PP c σ w' :=
 ⟨h.blk.fr x (fun e => by have := hs _ e; have := h.pbB; omega), h.toks.mono (fun _ h => h) (fun b _ _ _ hb h => Row.fr h x (fun e => by have h1 := hs _ e; have h2 := hb.1; have h3 : c.B ≤ b := h1; omega)), h.map.fr x (fun e => by have := hs _ e; have := h.rB; omega), h.pbB, h.rB, h.rne, Nat.le_trans h.B x.size, h.at_, h.len, h.tok, h.num, h.errs.fr x (fun e => by have := hs _ e; have := h.gl; have := h.pbB; omega), h.gl⟩
theorem PP.put {c : PC} {σ σ' : PS} {w w' : World} (h : PP c σ w) (p : Put w w' c.pb (c.cells σ')) (ha : σ'.at_ ≤ c.ts.length) : PP c σ' w' :=
 ⟨p.blk, h.toks.mono (fun _ h => h) (fun b _ _ _ hb h => Row.fr h p.fr (fun e => hb.2 e)), h.map.fr p.fr (fun e => h.rne e), h.pbB, h.rB, h.rne, Nat.le_trans h.B p.fr.size, ha, h.len, h.tok, h.num, h.errs.fr p.fr (fun e => by have := h.gl; have e' : 3 = c.pb := e; omega), h.gl⟩
section
variable {P : Program} {n : Nat} {ops : Array Oper} {Q : Exit → Act → World → Prop} {rest : List Oper} {l : Sl} {w : World} {tab : Tab} {ty : TypeId} {pos : String} {after : Array Edge}
theorem lw_pp {c : PC} {σ σ' : PS} {x y : Operand} {t sz o : Nat} {s : Sk} {v : Value} (T : TabOk P tab) (ht : lookT tab t = some (s, sz)) (hsz : sz = 1) (hx : ev l x = some (.pointer (some ⟨c.pb, o, none⟩))) (hy : ev l y = some v) (hv : v.cells = #[v]) (h1 : Value.one v = true) (hP : PP c σ w) (ho : Nat.ble (o + 1) 6 = true)
 (he : (c.cells σ).set o v = c.cells σ') (ha : σ'.at_ ≤ c.ts.length) (k : ∀ w1, PP c σ' w1 → Fr (· = c.pb) w w1 → LW P n ops Q rest l w1) : LW P n ops Q (⟨none, .store t x y, ty, pos, after, none⟩ :: rest) l w :=
 lw_store T ht hx hy (us := [v]) hv (by simp [hsz]) (by simp [h1]) hP.blk (by simpa using ho) (fun w1 p => by
  have e : setMany (c.cells σ) o [v] = c.cells σ' := by simp only [setMany]; exact he
  rw [e] at p
  exact k w1 (hP.put p ha) p.fr)
theorem lw_pp_at {c : PC} {σ : PS} {x y : Operand} {t sz : Nat} {s : Sk} (T : TabOk P tab) (ht : lookT tab t = some (s, sz)) (hsz : sz = 1) (hx : ev l x = some (.pointer (some ⟨c.pb, 1, none⟩))) (hy : ev l y = some (.int .i64 ((σ.at_ : Int) + 1))) (hP : PP c σ w) (ha : σ.at_ < c.ts.length)
 (k : ∀ w1, PP c (nextP σ) w1 → Fr (· = c.pb) w w1 → LW P n ops Q rest l w1) : LW P n ops Q (⟨none, .store t x y, ty, pos, after, none⟩ :: rest) l w :=
 lw_pp (σ' := nextP σ) T ht hsz hx hy rfl rfl hP rfl rfl ha k
theorem lw_pp_off {c : PC} {σ : PS} {x y : Operand} {t sz : Nat} {s : Sk} {v : Int} (T : TabOk P tab) (ht : lookT tab t = some (s, sz)) (hsz : sz = 1) (hx : ev l x = some (.pointer (some ⟨c.pb, 4, none⟩))) (hy : ev l y = some (.int .i64 v)) (hP : PP c σ w)
 (k : ∀ w1, PP c ⟨σ.at_, v, σ.err⟩ w1 → Fr (· = c.pb) w w1 → LW P n ops Q rest l w1) : LW P n ops Q (⟨none, .store t x y, ty, pos, after, none⟩ :: rest) l w :=
 lw_pp (σ' := ⟨σ.at_, v, σ.err⟩) T ht hsz hx hy rfl rfl hP rfl rfl hP.at_ k
theorem lw_pp_err {c : PC} {σ : PS} {x y : Operand} {t sz : Nat} {s : Sk} {v : Int} (T : TabOk P tab) (ht : lookT tab t = some (s, sz)) (hsz : sz = 1) (hx : ev l x = some (.pointer (some ⟨c.pb, 5, none⟩))) (hy : ev l y = some (.int .i64 v)) (hP : PP c σ w)
 (k : ∀ w1, PP c ⟨σ.at_, σ.off, v⟩ w1 → Fr (· = c.pb) w w1 → LW P n ops Q rest l w1) : LW P n ops Q (⟨none, .store t x y, ty, pos, after, none⟩ :: rest) l w :=
 lw_pp (σ' := ⟨σ.at_, σ.off, v⟩) T ht hsz hx hy rfl rfl hP rfl rfl hP.at_ k
end
theorem peek_off {ts : List Tok} {σ : PS} (h : σ.err ≠ 0 ∨ σ.at_ = ts.length) : peekP ts σ = Tok.zero := by unfold peekP; rw [if_pos h]
theorem peek_is {ts : List Tok} {σ : PS} (h : ¬ (σ.err ≠ 0 ∨ σ.at_ = ts.length)) (hl : σ.at_ < ts.length) : peekP ts σ = ts[σ.at_] := by unfold peekP; rw [if_neg h]; simp [hl]
set_option maxRecDepth 100000 in
set_option maxHeartbeats 1000000 in
theorem peek_c (c : PC) (σ : PS) (w : World) (hP : PP c σ w) :
 Calls Tryz.prog 58 #[.pointer (some ⟨c.pb, 0, none⟩)] w fun e w' => e = .returned (peekP c.ts σ).val ∧ Ext w w' := by
 have hat := hP.at_; have X := Ext.refl w
 by_cases h : σ.err ≠ 0 ∨ σ.at_ = c.ts.length
 · rw [peek_off h]
   by_cases he : σ.err = 0
   · have ha : σ.at_ = c.ts.length := h.resolve_left (fun e => e he)
     refine calls_in Tryz.func58 Tryz.ntmps58 rfl rfl ?_
     focus
      refine cS ?_; (refine lw_alloc' [_, _, _] zOk rfl rfl ?_; intro b1 w2 n3); have h5 := n3.blk; have x6 := n3.ext; have p7 := n3.pos; have z8 := n3.size; clear n3; replace hP := hP.ext x6; replace X := X.ext x6; clear x6; refine cT (cw_seq (cw_seq ?_)); (refine cw_tdraw (fun wz => Ext w2 wz) 15 (.pure 0 (.pure 1 (.pure 2 (.pure 3 (.pure 4 (.pure 5 (.pure 6 (.pure 7 (.pure 8 (.pure 9 (.pure 10 (.pure 11 (.pure 12 (.pure 13 (.pure 14 .tail))))))))))))))) mixed (by kernel_rfl) (panicOk_then (panicOk_then panicOk_body)) ?_; intro w9 x10 _); have qs11 : (fun wz => Ext w2 wz) w9 := x10; simp only at qs11; have d_h5 := h5; have d_hP := hP; have z12 := x10.size; replace h5 := h5.ext x10; replace hP := hP.ext x10; replace X := X.ext x10; clear x10; refine ⟨qs11, ?_⟩; refine tw_pure rfl (pur_move rfl) rfl (tw_pure rfl (pur_nilCheck rfl) rfl (tw_pure rfl (pur_fieldAddr tabOk rfl rfl rfl) rfl (tw_pure rfl (pur_load tabOk rfl rfl rfl (fun wz hz => Blk.cell (Blk.ext (PP.blk d_hP) hz) rfl)) rfl (tw_pure rfl (pur_neq rfl rfl) rfl (tw_pure rfl (pur_move rfl) rfl ?_))))); refine tw_on rfl rfl rfl rfl (gd_ff (by omega)) (pur_move rfl) rfl ?_; refine tw_on rfl rfl rfl rfl (gd_ff (by omega)) (pur_nilCheck rfl) rfl ?_; refine tw_on rfl rfl rfl rfl (gd_ff (by omega)) (pur_fieldAddr tabOk rfl rfl rfl) rfl ?_; refine tw_on rfl rfl rfl rfl (gd_ff (by omega)) (pur_load tabOk rfl rfl rfl (fun wz hz => Blk.cell (Blk.ext (PP.blk d_hP) hz) rfl)) rfl ?_; refine tw_on rfl rfl rfl rfl (gd_ff (by omega)) (pur_move rfl) rfl ?_
      refine tw_on rfl rfl rfl rfl (gd_ff (by omega)) (pur_nilCheck rfl) rfl ?_; refine tw_on rfl rfl rfl rfl (gd_ff (by omega)) (pur_fieldAddr0 tabOk rfl rfl rfl) rfl ?_; refine tw_on rfl rfl rfl rfl (gd_ff (by omega)) (pur_load tabOk rfl rfl rfl (fun wz hz => Blk.cell (Blk.ext (PP.blk d_hP) hz) rfl)) rfl ?_; refine tw_on rfl rfl rfl rfl (gd_ff (by omega)) (pur_len_slice tabOk rfl rfl) rfl ?_; clear qs11 d_h5 d_hP; refine tw_tail rfl ?_; refine lw_on rfl rfl rfl (gd_ff (by omega)) ?_; refine lw_pure (pur_eql rfl rfl) rfl ?_; refine lw_pure (pur_pick_no rfl rfl (by omega)) rfl ?_; refine cT ?_; refine cw_yes rfl (by omega) ?_; refine cS (lw_pure (pur_build' [_, _, _] tabOk zOk rfl rfl rfl rfl) rfl ?_); (refine lw_store' [_, _, _] [_, _, _] tabOk rfl rfl rfl rfl rfl rfl h5 rfl rfl ?_; intro w13 n14); have h17 := n14.blk; have f15 := n14.fr; have z16 := n14.size; clear n14 h5 hP; replace X := X.fr f15 (by omega); clear f15; refine cT (cw_ret (qw_then_ret (qw_retc rfl tabOk rfl rfl rfl h17 rfl ?_))); rotate_left 1
     exact ⟨rfl, X⟩
   · refine calls_in Tryz.func58 Tryz.ntmps58 rfl rfl ?_
     focus
      refine cS ?_; (refine lw_alloc' [_, _, _] zOk rfl rfl ?_; intro ba1 wa2 na3); have ha5 := na3.blk; have xa6 := na3.ext; have pa7 := na3.pos; have za8 := na3.size; clear na3; replace hP := hP.ext xa6; replace X := X.ext xa6; clear xa6; refine cT (cw_seq (cw_seq ?_)); (refine cw_tdraw (fun wz => Ext wa2 wz) 15 (.pure 0 (.pure 1 (.pure 2 (.pure 3 (.pure 4 (.pure 5 (.pure 6 (.pure 7 (.pure 8 (.pure 9 (.pure 10 (.pure 11 (.pure 12 (.pure 13 (.pure 14 .tail))))))))))))))) mixed (by kernel_rfl) (panicOk_then (panicOk_then panicOk_body)) ?_; intro wa9 xa10 _); have qsa11 : (fun wz => Ext wa2 wz) wa9 := xa10; simp only at qsa11; have d_ha5 := ha5; have d_hP := hP; have za12 := xa10.size; replace ha5 := ha5.ext xa10; replace hP := hP.ext xa10; replace X := X.ext xa10; clear xa10; refine ⟨qsa11, ?_⟩; refine tw_pure rfl (pur_move rfl) rfl (tw_pure rfl (pur_nilCheck rfl) rfl (tw_pure rfl (pur_fieldAddr tabOk rfl rfl rfl) rfl (tw_pure rfl (pur_load tabOk rfl rfl rfl (fun wz hz => Blk.cell (Blk.ext (PP.blk d_hP) hz) rfl)) rfl (tw_pure rfl (pur_neq rfl rfl) rfl (tw_pure rfl (pur_move rfl) rfl ?_))))); refine tw_off rfl rfl rfl rfl (gd_ft (by assumption)) rfl ?_; refine tw_off rfl rfl rfl rfl (gd_ft (by assumption)) rfl ?_; refine tw_off rfl rfl rfl rfl (gd_ft (by assumption)) rfl ?_; refine tw_off rfl rfl rfl rfl (gd_ft (by assumption)) rfl ?_; refine tw_off rfl rfl rfl rfl (gd_ft (by assumption)) rfl ?_; refine tw_off rfl rfl rfl rfl (gd_ft (by assumption)) rfl ?_; refine tw_off rfl rfl rfl rfl (gd_ft (by assumption)) rfl ?_
      refine tw_off rfl rfl rfl rfl (gd_ft (by assumption)) rfl ?_; refine tw_off rfl rfl rfl rfl (gd_ft (by assumption)) rfl ?_; clear qsa11 d_ha5 d_hP; refine tw_tail rfl ?_; refine lw_off rfl rfl rfl (gd_ft (by assumption)) rfl ?_; refine lw_pure (pur_pick_yes rfl rfl (by assumption)) rfl ?_; refine cT (cw_cond_t rfl (cS (lw_pure (pur_build' [_, _, _] tabOk zOk rfl rfl rfl rfl) rfl ?_))); (refine lw_store' [_, _, _] [_, _, _] tabOk rfl rfl rfl rfl rfl rfl ha5 rfl rfl ?_; intro wa13 na14); have ha17 := na14.blk; have fa15 := na14.fr; have za16 := na14.size; clear na14 ha5 hP; replace X := X.fr fa15 (by omega); clear fa15; refine cT (cw_ret (qw_then_ret (qw_retc rfl tabOk rfl rfl rfl ha17 rfl ?_))); rotate_left 1
     exact ⟨rfl, X⟩
 · have he : σ.err = 0 := Decidable.byContradiction fun e => h (Or.inl e)
   have hlt : σ.at_ < c.ts.length := by have : σ.at_ ≠ c.ts.length := fun e => h (Or.inr e); omega
   rw [peek_is h hlt]; obtain ⟨tb, tof, hta, -, hrow⟩ := hP.toks.get (by omega); have hr : Row w ⟨tb, tof + σ.at_ * 3, none⟩ c.ts[σ.at_].cells := hrow σ.at_ _ (List.getElem?_eq_getElem hlt); clear hrow; refine calls_in Tryz.func58 Tryz.ntmps58 rfl rfl ?_
   focus
    refine cS ?_; (refine lw_alloc' [_, _, _] zOk rfl rfl ?_; intro bb1 wb2 nb3); have hb5 := nb3.blk; have xb6 := nb3.ext; have pb7 := nb3.pos; have zb8 := nb3.size; clear nb3; replace hP := hP.ext xb6; replace X := X.ext xb6; replace hr := hr.ext xb6; clear xb6; refine cT (cw_seq (cw_seq ?_)); (refine cw_tdraw (fun wz => Ext wb2 wz) 15 (.pure 0 (.pure 1 (.pure 2 (.pure 3 (.pure 4 (.pure 5 (.pure 6 (.pure 7 (.pure 8 (.pure 9 (.pure 10 (.pure 11 (.pure 12 (.pure 13 (.pure 14 .tail))))))))))))))) mixed (by kernel_rfl) (panicOk_then (panicOk_then panicOk_body)) ?_; intro wb9 xb10 _); have qsb11 : (fun wz => Ext wb2 wz) wb9 := xb10; simp only at qsb11; have d_hb5 := hb5; have d_hP := hP; have d_hr := hr; have zb12 := xb10.size; replace hb5 := hb5.ext xb10; replace hP := hP.ext xb10; replace X := X.ext xb10; replace hr := hr.ext xb10; clear xb10; refine ⟨qsb11, ?_⟩; refine tw_pure rfl (pur_move rfl) rfl (tw_pure rfl (pur_nilCheck rfl) rfl (tw_pure rfl (pur_fieldAddr tabOk rfl rfl rfl) rfl (tw_pure rfl (pur_load tabOk rfl rfl rfl (fun wz hz => Blk.cell (Blk.ext (PP.blk d_hP) hz) rfl)) rfl (tw_pure rfl (pur_neq rfl rfl) rfl (tw_pure rfl (pur_move rfl) rfl ?_))))); refine tw_on rfl rfl rfl rfl (gd_ff (by omega)) (pur_move rfl) rfl ?_; refine tw_on rfl rfl rfl rfl (gd_ff (by omega)) (pur_nilCheck rfl) rfl ?_; refine tw_on rfl rfl rfl rfl (gd_ff (by omega)) (pur_fieldAddr tabOk rfl rfl rfl) rfl ?_; refine tw_on rfl rfl rfl rfl (gd_ff (by omega)) (pur_load tabOk rfl rfl rfl (fun wz hz => Blk.cell (Blk.ext (PP.blk d_hP) hz) rfl)) rfl ?_
    refine tw_on rfl rfl rfl rfl (gd_ff (by omega)) (pur_move rfl) rfl ?_; refine tw_on rfl rfl rfl rfl (gd_ff (by omega)) (pur_nilCheck rfl) rfl ?_; refine tw_on rfl rfl rfl rfl (gd_ff (by omega)) (pur_fieldAddr0 tabOk rfl rfl rfl) rfl ?_; refine tw_on rfl rfl rfl rfl (gd_ff (by omega)) (pur_load tabOk rfl rfl rfl (fun wz hz => Blk.cell (Blk.ext (PP.blk d_hP) hz) rfl)) rfl ?_; refine tw_on rfl rfl rfl rfl (gd_ff (by omega)) (pur_len_slice tabOk rfl rfl) rfl ?_; clear qsb11 d_hb5 d_hP d_hr; refine tw_tail rfl ?_; refine lw_on rfl rfl rfl (gd_ff (by omega)) ?_; refine lw_pure (pur_eql rfl rfl) rfl ?_; refine lw_pure (pur_pick_no rfl rfl (by omega)) rfl ?_; refine cT ?_; refine cw_no rfl (by omega) ?_; refine cw_skip (qw_then (cw_seq ?_)); (refine cw_tdraw (fun wz => Ext wb9 wz) 8 (.pure 0 (.pure 1 (.pure 2 (.pure 3 (.pure 4 (.pure 5 (.pure 6 (.pure 7 .tail)))))))) mixed (by kernel_rfl) (panicOk_then panicOk_body) ?_; intro wb13 xb14 _); have qsb15 : (fun wz => Ext wb9 wz) wb13 := xb14; simp only at qsb15; have d_hb5 := hb5; have d_hP := hP; have d_hr := hr; have zb16 := xb14.size; replace hb5 := hb5.ext xb14; replace hP := hP.ext xb14; replace X := X.ext xb14; replace hr := hr.ext xb14; clear xb14; refine ⟨qsb15, ?_⟩; refine tw_pure rfl (pur_move rfl) rfl (tw_pure rfl (pur_nilCheck rfl) rfl (tw_pure rfl (pur_fieldAddr0 tabOk rfl rfl rfl) rfl (tw_pure rfl (pur_load tabOk rfl rfl rfl (fun wz hz => Blk.cell (Blk.ext (PP.blk d_hP) hz) rfl)) rfl (tw_pure rfl (pur_move rfl) rfl (tw_pure rfl (pur_nilCheck rfl) rfl (tw_pure rfl (pur_fieldAddr tabOk rfl rfl rfl) rfl (tw_pure rfl (pur_load tabOk rfl rfl rfl (fun wz hz => Blk.cell (Blk.ext (PP.blk d_hP) hz) rfl)) rfl ?_)))))))
    clear qsb15 d_hb5 d_hP d_hr; refine tw_tail rfl ?_; refine lw_pure (pur_indexAddr_eq tabOk rfl rfl rfl (by assumption) rfl (by omega) (by omega)) rfl ?_; refine lw_loads_r0 tabOk rfl rfl rfl hr rfl rfl ?_; (refine lw_store' [_, _, _] [_, _, _] tabOk rfl rfl rfl rfl rfl rfl hb5 rfl rfl ?_; intro wb17 nb18); have hb21 := nb18.blk; have fb19 := nb18.fr; have zb20 := nb18.size; clear nb18 hb5 hP; replace X := X.fr fb19 (by omega); clear hr fb19; refine cT (cw_ret (qw_retc rfl tabOk rfl rfl rfl hb21 rfl ?_)); rotate_left 1
   exact ⟨rfl, X⟩
set_option maxRecDepth 100000 in
set_option maxHeartbeats 1000000 in
theorem fail_c (c : PC) (σ : PS) (off e : Int) (w : World) (hP : PP c σ w) :
 Calls Tryz.prog 78 #[.pointer (some ⟨c.pb, 0, none⟩), .int .i64 off, .int .i64 e] w fun r w' => r = .returned (.tuple #[]) ∧ PP c (failP σ off e) w' ∧ Fr (· = c.pb) w w' := by
 have X := Fr.refl (· = c.pb) w
 by_cases he : σ.err = 0
 · rw [show failP σ off e = ⟨σ.at_, off, e⟩ from by simp [failP, he]]
   refine calls_in Tryz.func78 Tryz.ntmps78 rfl rfl ?_
   focus
    refine cS (cM rfl rfl (lw_pure (pur_nilCheck rfl) rfl (lw_pure (pur_fieldAddr tabOk rfl rfl rfl) rfl (lw_load_b tabOk rfl rfl rfl (PP.blk hP) rfl rfl (lw_pure (pur_eql rfl rfl) rfl (cT ?_)))))); refine cw_yes rfl (by assumption) ?_; refine cw_region (cM rfl rfl (cM rfl rfl (cM rfl rfl (cM rfl rfl (lw_pure (pur_nilCheck rfl) rfl (lw_pure (pur_fieldAddr tabOk rfl rfl rfl) rfl (lw_pp_off tabOk rfl rfl rfl rfl hP ?_))))))); rintro w1 h2 f3; have z4 := f3.size; clear hP; replace X := X.fr f3 (by omega); clear f3; refine lw_pure (pur_nilCheck rfl) rfl (lw_pure (pur_fieldAddr tabOk rfl rfl rfl) rfl ?_); refine lw_pp_err tabOk rfl rfl rfl rfl (by assumption) ?_; rintro w5 h6 f7; have z8 := f7.size; clear h2; replace X := X.fr f7 (by omega); clear f7; refine lw_nil (qw_end0 rfl ?_); rotate_left 1
   exact ⟨rfl, by assumption, X⟩
 · rw [show failP σ off e = σ from by simp [failP, he]]
   refine calls_in Tryz.func78 Tryz.ntmps78 rfl rfl ?_
   focus
    refine cS (cM rfl rfl (lw_pure (pur_nilCheck rfl) rfl (lw_pure (pur_fieldAddr tabOk rfl rfl rfl) rfl (lw_load_b tabOk rfl rfl rfl (PP.blk hP) rfl rfl (lw_pure (pur_eql rfl rfl) rfl (cT ?_)))))); refine cw_no rfl (by assumption) ?_; refine cw_skip (qw_end0 rfl ?_); rotate_left 1
   exact ⟨rfl, hP, X⟩
set_option maxRecDepth 100000 in
set_option maxHeartbeats 1000000 in
theorem unexpected_c (c : PC) (σ : PS) (w : World) (hP : PP c σ w) :
 Calls Tryz.prog 66 #[.pointer (some ⟨c.pb, 0, none⟩)] w fun r w' => r = .returned (.tuple #[]) ∧ PP c (unexpP c.ts c.n σ) w' ∧ Fr (· = c.pb) w w' := by
 have X := Fr.refl (· = c.pb) w
 by_cases hlt : σ.at_ < c.ts.length
 · rw [show unexpP c.ts c.n σ = failP σ (c.ts[σ.at_]).pos 3 from by simp [unexpP, hlt]]
   obtain ⟨tb, tof, hta, -, hrow⟩ := hP.toks.get (by omega); have hr : Row w ⟨tb, tof + σ.at_ * 3, none⟩ c.ts[σ.at_].cells := hrow σ.at_ _ (List.getElem?_eq_getElem hlt); clear hrow; refine calls_in Tryz.func66 Tryz.ntmps66 rfl rfl ?_
   focus
    refine cw_seq ?_; (refine cw_tdraw (fun wz => Ext w wz) 9 (.pure 0 (.pure 1 (.pure 2 (.pure 3 (.pure 4 (.pure 5 (.pure 6 (.pure 7 (.pure 8 .tail))))))))) mixed (by kernel_rfl) (panicOk_then panicOk_body) ?_; intro w1 x2 _); have qs3 : (fun wz => Ext w wz) w1 := x2; simp only at qs3; have d_hP := hP; have d_hr := hr; have z4 := x2.size; replace hP := hP.ext x2; replace X := X.ext x2; replace hr := hr.ext x2; clear x2; refine ⟨qs3, ?_⟩; refine tw_pure rfl (pur_move rfl) rfl (tw_pure rfl (pur_nilCheck rfl) rfl (tw_pure rfl (pur_fieldAddr tabOk rfl rfl rfl) rfl (tw_pure rfl (pur_load tabOk rfl rfl rfl (fun wz hz => Blk.cell (Blk.ext (PP.blk d_hP) hz) rfl)) rfl (tw_pure rfl (pur_move rfl) rfl (tw_pure rfl (pur_nilCheck rfl) rfl (tw_pure rfl (pur_fieldAddr0 tabOk rfl rfl rfl) rfl (tw_pure rfl (pur_load tabOk rfl rfl rfl (fun wz hz => Blk.cell (Blk.ext (PP.blk d_hP) hz) rfl)) rfl (tw_pure rfl (pur_len_slice tabOk rfl rfl) rfl ?_)))))))); clear qs3 d_hP d_hr; refine tw_tail rfl (lw_pure (pur_lss rfl rfl) rfl (cT ?_)); refine cw_yes rfl (by omega) ?_; (refine cw_tdraw (fun wz => Ext w1 wz) 12 (.pure 0 (.pure 1 (.pure 2 (.pure 3 (.pure 4 (.pure 5 (.pure 6 (.pure 7 (.pure 8 (.pure 9 (.pure 10 (.pure 11 .tail)))))))))))) mixed (by kernel_rfl) panicOk_body ?_; intro w5 x6 _); have qs7 : (fun wz => Ext w1 wz) w5 := x6; simp only at qs7; have d_hP := hP; have d_hr := hr; have z8 := x6.size; replace hP := hP.ext x6; replace X := X.ext x6; replace hr := hr.ext x6; clear x6; refine ⟨qs7, ?_⟩
    refine tw_pure rfl (pur_move rfl) rfl (tw_pure rfl (pur_move rfl) rfl (tw_pure rfl (pur_nilCheck rfl) rfl (tw_pure rfl (pur_fieldAddr0 tabOk rfl rfl rfl) rfl (tw_pure rfl (pur_load tabOk rfl rfl rfl (fun wz hz => Blk.cell (Blk.ext (PP.blk d_hP) hz) rfl)) rfl (tw_pure rfl (pur_move rfl) rfl (tw_pure rfl (pur_nilCheck rfl) rfl (tw_pure rfl (pur_fieldAddr tabOk rfl rfl rfl) rfl (tw_pure rfl (pur_load tabOk rfl rfl rfl (fun wz hz => Blk.cell (Blk.ext (PP.blk d_hP) hz) rfl)) rfl ?_)))))))); refine tw_pure rfl (pur_indexAddr_eq tabOk rfl rfl rfl (by assumption) rfl (by omega) (by omega)) rfl ?_; refine tw_pure rfl (pur_fieldAddr tabOk rfl rfl rfl) rfl (tw_pure rfl (pur_load tabOk rfl rfl rfl (fun wz hz => Row.at (Row.ext d_hr hz) rfl)) rfl ?_); clear qs7 d_hP d_hr; refine tw_tail rfl ?_; refine cC (by kernel_rfl) rfl (fail_c _ _ _ _ _ (by assumption)) rfl ?_; rintro _ w11 ⟨⟨⟩, ⟨h9, f10⟩⟩; have z12 := f10.size; clear hP; replace X := X.fr f10 (by omega); clear hr f10; refine lw_nil (qw_end0 rfl ?_); rotate_left 1
   exact ⟨rfl, by assumption, X⟩
 · rw [show unexpP c.ts c.n σ = failP σ c.n 4 from by simp [unexpP, hlt]]
   refine calls_in Tryz.func66 Tryz.ntmps66 rfl rfl ?_
   focus
    refine cw_seq ?_; (refine cw_tdraw (fun wz => Ext w wz) 9 (.pure 0 (.pure 1 (.pure 2 (.pure 3 (.pure 4 (.pure 5 (.pure 6 (.pure 7 (.pure 8 .tail))))))))) mixed (by kernel_rfl) (panicOk_then panicOk_body) ?_; intro wa1 xa2 _); have qsa3 : (fun wz => Ext w wz) wa1 := xa2; simp only at qsa3; have d_hP := hP; have za4 := xa2.size; replace hP := hP.ext xa2; replace X := X.ext xa2; clear xa2; refine ⟨qsa3, ?_⟩; refine tw_pure rfl (pur_move rfl) rfl (tw_pure rfl (pur_nilCheck rfl) rfl (tw_pure rfl (pur_fieldAddr tabOk rfl rfl rfl) rfl (tw_pure rfl (pur_load tabOk rfl rfl rfl (fun wz hz => Blk.cell (Blk.ext (PP.blk d_hP) hz) rfl)) rfl (tw_pure rfl (pur_move rfl) rfl (tw_pure rfl (pur_nilCheck rfl) rfl (tw_pure rfl (pur_fieldAddr0 tabOk rfl rfl rfl) rfl (tw_pure rfl (pur_load tabOk rfl rfl rfl (fun wz hz => Blk.cell (Blk.ext (PP.blk d_hP) hz) rfl)) rfl (tw_pure rfl (pur_len_slice tabOk rfl rfl) rfl ?_)))))))); clear qsa3 d_hP; refine tw_tail rfl (lw_pure (pur_lss rfl rfl) rfl (cT ?_)); refine cw_no rfl (by omega) ?_; refine cw_region (cM rfl rfl (cM rfl rfl (lw_pure (pur_nilCheck rfl) rfl (lw_pure (pur_fieldAddr tabOk rfl rfl rfl) rfl (lw_load_b tabOk rfl rfl rfl (PP.blk hP) rfl rfl ?_))))); refine cC (by kernel_rfl) rfl (fail_c _ _ _ _ _ (by assumption)) rfl ?_; rintro _ wa7 ⟨⟨⟩, ⟨ha5, fa6⟩⟩; have za8 := fa6.size; clear hP; replace X := X.fr fa6 (by omega); clear fa6; refine lw_nil (qw_end0 rfl ?_); rotate_left 1
   exact ⟨rfl, by assumption, X⟩
set_option maxRecDepth 100000 in
set_option maxHeartbeats 1000000 in
theorem accept_c (c : PC) (σ : PS) (t : List UInt8) (w : World) (hP : PP c σ w) (ht : t ≠ []) :
 Calls Tryz.prog 65 #[.pointer (some ⟨c.pb, 0, none⟩), str t] w fun r w' => r = .returned (.bool (hasP c.ts σ t)) ∧ PP c (acceptP c.ts σ t) w' ∧ Fr (· = c.pb) w w' := by
 have X := Fr.refl (· = c.pb) w; have hl := hP.len
 by_cases h : (peekP c.ts σ).text = t
 · have h1 : hasP c.ts σ t = true := by simp [hasP, h]
   rw [show acceptP c.ts σ t = nextP σ from by simp [acceptP, h1], h1]; obtain ⟨h2, h3⟩ := has_in hP.at_ h1 ht; refine calls_in Tryz.func65 Tryz.ntmps65 rfl rfl ?_
   focus
    refine cS (cA rfl rfl (cT (cw_seq (cS (cM rfl rfl ?_))))); refine cC (by kernel_rfl) rfl (peek_c _ _ _ (by assumption)) rfl ?_; rintro _ w2 ⟨⟨⟩, x1⟩; have z3 := x1.size; replace hP := hP.ext x1; replace X := X.ext x1; clear x1; refine lw_pure (pur_field tabOk rfl rfl rfl rfl rfl rfl) rfl (cM rfl rfl (lw_pure (pur_sneq rfl rfl) rfl (cT ?_))); refine cw_no rfl (not_not_intro (by assumption)) ?_; refine cw_skip (qw_then (cS (cM rfl rfl (lw_pure (pur_nilCheck rfl) rfl (lw_pure (pur_fieldAddr tabOk rfl rfl rfl) rfl (lw_load_b tabOk rfl rfl rfl (PP.blk hP) rfl rfl ?_)))))); refine lw_pure (pur_add rfl rfl (IntWalk.i64_in _ (by omega))) rfl ?_; refine lw_pure (pur_nilCheck rfl) rfl (lw_pure (pur_fieldAddr tabOk rfl rfl rfl) rfl ?_); refine lw_pp_at tabOk rfl rfl rfl rfl (by assumption) h3 ?_; rintro w4 h5 f6; have z7 := f6.size; clear hP; replace X := X.fr f6 (by omega); clear f6; refine cN (cA rfl rfl (cT (cw_ret (qw_ret1 rfl rfl ?_)))); rotate_left 1
   exact ⟨rfl, by assumption, X⟩
 · have h1 : hasP c.ts σ t = false := by simp [hasP, h]
   rw [show acceptP c.ts σ t = σ from by simp [acceptP, h1], h1]; refine calls_in Tryz.func65 Tryz.ntmps65 rfl rfl ?_
   focus
    refine cS (cA rfl rfl (cT (cw_seq (cS (cM rfl rfl ?_))))); refine cC (by kernel_rfl) rfl (peek_c _ _ _ (by assumption)) rfl ?_; rintro _ wa2 ⟨⟨⟩, xa1⟩; have za3 := xa1.size; replace hP := hP.ext xa1; replace X := X.ext xa1; clear xa1; refine lw_pure (pur_field tabOk rfl rfl rfl rfl rfl rfl) rfl (cM rfl rfl (lw_pure (pur_sneq rfl rfl) rfl (cT ?_))); refine cw_yes rfl (by assumption) ?_; refine cS (cA rfl rfl (cT (cw_ret (qw_then_ret (qw_ret1 rfl rfl ?_))))); rotate_left 1
   exact ⟨rfl, by assumption, X⟩
theorem accept_t (c : PC) (σ : PS) (t : List UInt8) (w : World) (hP : PP c σ w) (ht : t ≠ []) (h : hasP c.ts σ t = true) :
 Calls Tryz.prog 65 #[.pointer (some ⟨c.pb, 0, none⟩), str t] w fun r w' => r = .returned (.bool true) ∧ PP c (nextP σ) w' ∧ Fr (· = c.pb) w w' := by
 have := accept_c c σ t w hP ht; rw [show acceptP c.ts σ t = nextP σ from by simp [acceptP, h], h] at this
 exact this
theorem accept_f (c : PC) (σ : PS) (t : List UInt8) (w : World) (hP : PP c σ w) (ht : t ≠ []) (h : hasP c.ts σ t = false) :
 Calls Tryz.prog 65 #[.pointer (some ⟨c.pb, 0, none⟩), str t] w fun r w' => r = .returned (.bool false) ∧ PP c σ w' ∧ Fr (· = c.pb) w w' := by
 have := accept_c c σ t w hP ht; rw [show acceptP c.ts σ t = σ from by simp [acceptP, h], h] at this
 exact this
set_option maxRecDepth 100000 in
set_option maxHeartbeats 1000000 in
theorem expect_c (c : PC) (σ : PS) (t : List UInt8) (w : World) (hP : PP c σ w) (ht : t ≠ []) :
 Calls Tryz.prog 45 #[.pointer (some ⟨c.pb, 0, none⟩), str t] w fun r w' => r = .returned (.tuple #[]) ∧ PP c (expectP c.ts c.n σ t) w' ∧ Fr (· = c.pb) w w' := by
 have X := Fr.refl (· = c.pb) w
 cases h : hasP c.ts σ t
 · have e1 : acceptP c.ts σ t = σ := by simp [acceptP, h]
   have e2 : expectP c.ts c.n σ t = unexpP c.ts c.n σ := by simp [expectP, h]
   rw [e2]; refine calls_in Tryz.func45 Tryz.ntmps45 rfl rfl ?_
   focus
    refine cS (cM rfl rfl (cM rfl rfl ?_)); refine cC (by kernel_rfl) rfl (accept_c _ _ _ _ (by assumption) (by assumption)) rfl ?_; rintro _ w3 ⟨⟨⟩, ⟨h1, f2⟩⟩; have z4 := f2.size; clear hP; replace X := X.fr f2 (by omega); clear f2; refine lw_pure (pur_not rfl) rfl (cT ?_); refine cw_nt rfl (by assumption) ?_; refine cw_region (cM rfl rfl ?_); refine cC (by kernel_rfl) rfl (unexpected_c _ _ _ (by assumption)) rfl ?_; rintro _ w7 ⟨⟨⟩, ⟨h5, f6⟩⟩; have z8 := f6.size; clear h1; replace X := X.fr f6 (by omega); clear f6; refine lw_nil (qw_end0 rfl ?_); rotate_left 1
   exact ⟨rfl, by rw [e1] at *; assumption, X⟩
 · have e1 : acceptP c.ts σ t = nextP σ := by simp [acceptP, h]
   have e2 : expectP c.ts c.n σ t = nextP σ := by simp [expectP, h]
   rw [e2]; refine calls_in Tryz.func45 Tryz.ntmps45 rfl rfl ?_
   focus
    refine cS (cM rfl rfl (cM rfl rfl ?_)); refine cC (by kernel_rfl) rfl (accept_c _ _ _ _ (by assumption) (by assumption)) rfl ?_; rintro _ wa3 ⟨⟨⟩, ⟨ha1, fa2⟩⟩; have za4 := fa2.size; clear hP; replace X := X.fr fa2 (by omega); clear fa2; refine lw_pure (pur_not rfl) rfl (cT ?_); refine cw_nf rfl (by assumption) ?_; refine cw_skip (qw_end0 rfl ?_); rotate_left 1
   exact ⟨rfl, by rw [e1] at *; assumption, X⟩
end Bk
namespace Go.Proofs
open Go.Shelf
def Tryz.lays137_ren : Go.Shelf.Ren := ⟨fun | 137 => 84 | 217 => 88 | 266 => 90 | n => n, fun | 9 => 9 | 5 => 5 | 3 => 3 | n => n, fun | n => n⟩
theorem Tryz.lays137 : Go.Proofs.Lays.n137 Tryz.prog Tryz.lays137_ren := {
 mixed := by kernel_rfl
 f137 := Tryz.func84.trans (congrArg some (by kernel_rfl))
 f217 := Tryz.func88.trans (congrArg some (by kernel_rfl))
 f266 := Tryz.func90.trans (congrArg some (by kernel_rfl))
 t3 := Tryz.underlying3
 a3 := Tryz.isAgg3
 z3 := Tryz.sizeOf3
 v3 := Tryz.zeroValue3
 t5 := Tryz.underlying5
 a5 := Tryz.isAgg5
 z5 := Tryz.sizeOf5
 v5 := Tryz.zeroValue5
 t9 := Tryz.underlying9
 a9 := Tryz.isAgg9
 z9 := Tryz.sizeOf9
 v9 := Tryz.zeroValue9 }
open Go.RowKit in
theorem Tryz.strings_IndexByte (s : ByteArray) (c : Int) (w : World) :
 Calls Tryz.prog 84 #[.string s, .int .u8 c] w fun e w' => e = .returned (.int .i64 (Lib.indexByte s.data.toList c.toNat.toUInt8)) ∧ w' = w := Any.strings_IndexByte Tryz.lays137 s c w
def Tryz.lays244_ren : Go.Shelf.Ren := ⟨fun | 244 => 94 | 247 => 96 | 287 => 101 | 321 => 105 | 322 => 106 | n => n, fun | 9 => 9 | 3 => 3 | 75 => 103 | 4 => 4 | 5 => 5 | 167 => 107 | 37 => 79 | 0 => 0 | 85 => 108 | 2 => 2 | 53 => 113 | 175 => 114 | 46 => 116 | 21 => 21 | 80 => 93 | n => n, fun | n => n⟩
theorem Tryz.lays244 : Go.Proofs.Lays.n244 Tryz.prog Tryz.lays244_ren := {
 mixed := by kernel_rfl
 f244 := Tryz.func94.trans (congrArg some (by kernel_rfl))
 f247 := Tryz.func96.trans (congrArg some (by kernel_rfl))
 f287 := Tryz.func101.trans (congrArg some (by kernel_rfl))
 f321 := Tryz.func105.trans (congrArg some (by kernel_rfl))
 f322 := Tryz.func106.trans (congrArg some (by kernel_rfl))
 t0 := Tryz.underlying0
 a0 := Tryz.isAgg0
 z0 := Tryz.sizeOf0
 v0 := Tryz.zeroValue0
 t2 := Tryz.underlying2
 a2 := Tryz.isAgg2
 z2 := Tryz.sizeOf2
 v2 := Tryz.zeroValue2
 t3 := Tryz.underlying3
 a3 := Tryz.isAgg3
 z3 := Tryz.sizeOf3
 v3 := Tryz.zeroValue3
 t4 := Tryz.underlying4
 a4 := Tryz.isAgg4
 z4 := Tryz.sizeOf4
 v4 := Tryz.zeroValue4
 t5 := Tryz.underlying5
 a5 := Tryz.isAgg5
 z5 := Tryz.sizeOf5
 v5 := Tryz.zeroValue5
 t9 := Tryz.underlying9
 a9 := Tryz.isAgg9
 z9 := Tryz.sizeOf9
 v9 := Tryz.zeroValue9
 t21 := Tryz.underlying21
 a21 := Tryz.isAgg21
 z21 := Tryz.sizeOf21
 v21 := Tryz.zeroValue21
 t37 := Tryz.underlying79
 a37 := Tryz.isAgg79
 z37 := Tryz.sizeOf79
 v37 := Tryz.zeroValue79
 t46 := Tryz.underlying116
 a46 := Tryz.isAgg116
 z46 := Tryz.sizeOf116
 v46 := Tryz.zeroValue116
 t53 := Tryz.underlying113
 a53 := Tryz.isAgg113
 z53 := Tryz.sizeOf113
 v53 := Tryz.zeroValue113
 t75 := Tryz.underlying103
 a75 := Tryz.isAgg103
 z75 := Tryz.sizeOf103
 v75 := Tryz.zeroValue103
 t85 := Tryz.underlying108
 a85 := Tryz.isAgg108
 z85 := Tryz.sizeOf108
 v85 := Tryz.zeroValue108
 t167 := Tryz.underlying107
 a167 := Tryz.isAgg107
 z167 := Tryz.sizeOf107
 v167 := Tryz.zeroValue107
 t175 := Tryz.underlying114
 a175 := Tryz.isAgg114
 z175 := Tryz.sizeOf114
 v175 := Tryz.zeroValue114 }
open Go.RowKit in
theorem Tryz.internal_strconv_Atoi (s : ByteArray) (n : Int) (hl : s.size ≤ 18) (h : Lib.atoi s.data.toList = some n) (w : World) :
 Calls Tryz.prog 94 #[.string s] w fun e w' => e = .returned (.tuple #[.int .i64 n, .nilIface]) ∧ ∃ t, w' = Lib.bytesWorld w 5 t := Any.internal_strconv_Atoi Tryz.lays244 s n hl h w
def Tryz.lays172_ren : Go.Shelf.Ren := ⟨fun | 172 => 93 | 244 => 94 | 245 => 95 | 247 => 96 | 279 => 97 | 280 => 98 | 281 => 99 | 282 => 100 | 287 => 101 | 316 => 102 | 171 => 104 | 205 => 103 | 321 => 105 | 322 => 106 | 243 => 107 | 246 => 108 | 283 => 109 | 284 => 110 | 285 => 111 | 286 => 112 | 129 => 114 | 317 => 113 | 318 => 115 | 319 => 116 | 320 => 117 | 337 => 118 | 338 => 119 | n => n, fun | 9 => 9 | 3 => 3 | 75 => 103 | 76 => 104 | 4 => 4 | 5 => 5 | 167 => 107 | 37 => 79 | 0 => 0 | 85 => 108 | 2 => 2 | 168 => 110 | 53 => 113 | 175 => 114 | 46 => 116 | 210 => 119 | 127 => 122 | 145 => 125 | 143 => 123 | 21 => 21 | 171 => 127 | 173 => 130 | 212 => 134 | 51 => 135 | 20 => 20 | 213 => 136 | 232 => 140 | 233 => 141 | 80 => 93 | n => n, fun | 15 => 2 | 16 => 3 | 17 => 4 | 18 => 5 | 19 => 6 | n => n⟩
theorem Tryz.lays172 : Go.Proofs.Lays.n172 Tryz.prog Tryz.lays172_ren := {
 mixed := by kernel_rfl
 f129 := Tryz.func114.trans (congrArg some (by kernel_rfl))
 f171 := Tryz.func104.trans (congrArg some (by kernel_rfl))
 f172 := Tryz.func93.trans (congrArg some (by kernel_rfl))
 f205 := Tryz.func103.trans (congrArg some (by kernel_rfl))
 f243 := Tryz.func107.trans (congrArg some (by kernel_rfl))
 f244 := Tryz.func94.trans (congrArg some (by kernel_rfl))
 f245 := Tryz.func95.trans (congrArg some (by kernel_rfl))
 f246 := Tryz.func108.trans (congrArg some (by kernel_rfl))
 f247 := Tryz.func96.trans (congrArg some (by kernel_rfl))
 f279 := Tryz.func97.trans (congrArg some (by kernel_rfl))
 f280 := Tryz.func98.trans (congrArg some (by kernel_rfl))
 f281 := Tryz.func99.trans (congrArg some (by kernel_rfl))
 f282 := Tryz.func100.trans (congrArg some (by kernel_rfl))
 f283 := Tryz.func109.trans (congrArg some (by kernel_rfl))
 f284 := Tryz.func110.trans (congrArg some (by kernel_rfl))
 f285 := Tryz.func111.trans (congrArg some (by kernel_rfl))
 f286 := Tryz.func112.trans (congrArg some (by kernel_rfl))
 f287 := Tryz.func101.trans (congrArg some (by kernel_rfl))
 f316 := Tryz.func102.trans (congrArg some (by kernel_rfl))
 f317 := Tryz.func113.trans (congrArg some (by kernel_rfl))
 f318 := Tryz.func115.trans (congrArg some (by kernel_rfl))
 f319 := Tryz.func116.trans (congrArg some (by kernel_rfl))
 f320 := Tryz.func117.trans (congrArg some (by kernel_rfl))
 f321 := Tryz.func105.trans (congrArg some (by kernel_rfl))
 f322 := Tryz.func106.trans (congrArg some (by kernel_rfl))
 f337 := Tryz.func118.trans (congrArg some (by kernel_rfl))
 f338 := Tryz.func119.trans (congrArg some (by kernel_rfl))
 t0 := Tryz.underlying0
 a0 := Tryz.isAgg0
 z0 := Tryz.sizeOf0
 v0 := Tryz.zeroValue0
 t2 := Tryz.underlying2
 a2 := Tryz.isAgg2
 z2 := Tryz.sizeOf2
 v2 := Tryz.zeroValue2
 t3 := Tryz.underlying3
 a3 := Tryz.isAgg3
 z3 := Tryz.sizeOf3
 v3 := Tryz.zeroValue3
 t4 := Tryz.underlying4
 a4 := Tryz.isAgg4
 z4 := Tryz.sizeOf4
 v4 := Tryz.zeroValue4
 t5 := Tryz.underlying5
 a5 := Tryz.isAgg5
 z5 := Tryz.sizeOf5
 v5 := Tryz.zeroValue5
 t9 := Tryz.underlying9
 a9 := Tryz.isAgg9
 z9 := Tryz.sizeOf9
 v9 := Tryz.zeroValue9
 t20 := Tryz.underlying20
 a20 := Tryz.isAgg20
 z20 := Tryz.sizeOf20
 v20 := Tryz.zeroValue20
 t21 := Tryz.underlying21
 a21 := Tryz.isAgg21
 z21 := Tryz.sizeOf21
 v21 := Tryz.zeroValue21
 t37 := Tryz.underlying79
 a37 := Tryz.isAgg79
 z37 := Tryz.sizeOf79
 v37 := Tryz.zeroValue79
 t46 := Tryz.underlying116
 a46 := Tryz.isAgg116
 z46 := Tryz.sizeOf116
 v46 := Tryz.zeroValue116
 t51 := Tryz.underlying135
 a51 := Tryz.isAgg135
 z51 := Tryz.sizeOf135
 v51 := Tryz.zeroValue135
 t53 := Tryz.underlying113
 a53 := Tryz.isAgg113
 z53 := Tryz.sizeOf113
 v53 := Tryz.zeroValue113
 t75 := Tryz.underlying103
 a75 := Tryz.isAgg103
 z75 := Tryz.sizeOf103
 v75 := Tryz.zeroValue103
 t76 := Tryz.underlying104
 a76 := Tryz.isAgg104
 z76 := Tryz.sizeOf104
 v76 := Tryz.zeroValue104
 t85 := Tryz.underlying108
 a85 := Tryz.isAgg108
 z85 := Tryz.sizeOf108
 v85 := Tryz.zeroValue108
 t127 := Tryz.underlying122
 a127 := Tryz.isAgg122
 z127 := Tryz.sizeOf122
 v127 := Tryz.zeroValue122
 t143 := Tryz.underlying123
 a143 := Tryz.isAgg123
 z143 := Tryz.sizeOf123
 v143 := Tryz.zeroValue123
 t145 := Tryz.underlying125
 a145 := Tryz.isAgg125
 z145 := Tryz.sizeOf125
 v145 := Tryz.zeroValue125
 t167 := Tryz.underlying107
 a167 := Tryz.isAgg107
 z167 := Tryz.sizeOf107
 v167 := Tryz.zeroValue107
 t168 := Tryz.underlying110
 a168 := Tryz.isAgg110
 z168 := Tryz.sizeOf110
 v168 := Tryz.zeroValue110
 t171 := Tryz.underlying127
 a171 := Tryz.isAgg127
 z171 := Tryz.sizeOf127
 v171 := Tryz.zeroValue127
 t173 := Tryz.underlying130
 a173 := Tryz.isAgg130
 z173 := Tryz.sizeOf130
 v173 := Tryz.zeroValue130
 t175 := Tryz.underlying114
 a175 := Tryz.isAgg114
 z175 := Tryz.sizeOf114
 v175 := Tryz.zeroValue114
 t210 := Tryz.underlying119
 a210 := Tryz.isAgg119
 z210 := Tryz.sizeOf119
 v210 := Tryz.zeroValue119
 t212 := Tryz.underlying134
 a212 := Tryz.isAgg134
 z212 := Tryz.sizeOf134
 v212 := Tryz.zeroValue134
 t213 := Tryz.underlying136
 a213 := Tryz.isAgg136
 z213 := Tryz.sizeOf136
 t232 := Tryz.underlying140
 a232 := Tryz.isAgg140
 z232 := Tryz.sizeOf140
 v232 := Tryz.zeroValue140
 t233 := Tryz.underlying141
 a233 := Tryz.isAgg141
 z233 := Tryz.sizeOf141
 v233 := Tryz.zeroValue141
 g15 := by kernel_rfl
 g16 := by kernel_rfl
 g17 := by kernel_rfl
 g18 := by kernel_rfl
 g19 := by kernel_rfl }
open Go.RowKit in
theorem Tryz.strconv_Atoi (s : ByteArray) (n : Int) (hl : s.size ≤ 18) (h : Lib.atoi s.data.toList = some n) (w : World) :
 Calls Tryz.prog 93 #[.string s] w fun e w' => e = .returned (.tuple #[.int .i64 n, .nilIface]) ∧ ∃ t, w' = Lib.bytesWorld w 5 t := Any.strconv_Atoi Tryz.lays172 s n hl h w
def Tryz.lays129_ren : Go.Shelf.Ren := ⟨fun | 129 => 114 | n => n, fun | 53 => 113 | 3 => 3 | 4 => 4 | 46 => 116 | 5 => 5 | 9 => 9 | n => n, fun | n => n⟩
def Tryz.lays317_ren : Go.Shelf.Ren := ⟨fun | 317 => 113 | n => n, fun | 3 => 3 | 46 => 116 | n => n, fun | n => n⟩
theorem Tryz.lays317 : Go.Proofs.Lays.n317 Tryz.prog Tryz.lays317_ren := {
 mixed := by kernel_rfl
 f317 := Tryz.func113.trans (congrArg some (by kernel_rfl))
 t3 := Tryz.underlying3
 a3 := Tryz.isAgg3
 z3 := Tryz.sizeOf3
 v3 := Tryz.zeroValue3
 t46 := Tryz.underlying116
 a46 := Tryz.isAgg116
 z46 := Tryz.sizeOf116
 v46 := Tryz.zeroValue116 }
open Go.Lib in
theorem Tryz.internal_strconv_log10Pow2 (x : Nat) (h : x ≤ 64) (w : World) :
 Calls Tryz.prog 113 #[.int .i64 x] w fun e w' => e = .returned (.int .i64 (Lib.l10 x)) ∧ w' = w := Any.internal_strconv_log10Pow2 Tryz.lays317 x h w
def Tryz.lays318_ren : Go.Shelf.Ren := ⟨fun | 318 => 115 | n => n, fun | 3 => 3 | 4 => 4 | n => n, fun | n => n⟩
theorem Tryz.lays318 : Go.Proofs.Lays.n318 Tryz.prog Tryz.lays318_ren := {
 mixed := by kernel_rfl
 f318 := Tryz.func115.trans (congrArg some (by kernel_rfl))
 t3 := Tryz.underlying3
 a3 := Tryz.isAgg3
 z3 := Tryz.sizeOf3
 v3 := Tryz.zeroValue3
 t4 := Tryz.underlying4
 a4 := Tryz.isAgg4
 z4 := Tryz.sizeOf4
 v4 := Tryz.zeroValue4 }
open Go.Lib in
theorem Tryz.internal_strconv_bool2_int (b : Bool) (w : World) :
 Calls Tryz.prog 115 #[.bool b] w fun e w' => e = .returned (.int .i64 (if b then 1 else 0)) ∧ w' = w := Any.internal_strconv_bool2_int Tryz.lays318 b w
def Tryz.lays283_ren : Go.Shelf.Ren := ⟨fun | 283 => 109 | n => n, fun | 3 => 3 | 9 => 9 | 4 => 4 | n => n, fun | n => n⟩
theorem Tryz.lays283 : Go.Proofs.Lays.n283 Tryz.prog Tryz.lays283_ren := {
 mixed := by kernel_rfl
 f283 := Tryz.func109.trans (congrArg some (by kernel_rfl))
 t3 := Tryz.underlying3
 a3 := Tryz.isAgg3
 z3 := Tryz.sizeOf3
 v3 := Tryz.zeroValue3
 t4 := Tryz.underlying4
 a4 := Tryz.isAgg4
 z4 := Tryz.sizeOf4
 v4 := Tryz.zeroValue4
 t9 := Tryz.underlying9
 a9 := Tryz.isAgg9
 z9 := Tryz.sizeOf9
 v9 := Tryz.zeroValue9 }
open Go.Lib in
theorem Tryz.internal_strconv_small (i : Nat) (h : i < 100) (w : World) :
 Calls Tryz.prog 109 #[.int .i64 i] w fun e w' => e = .returned (.string ⟨(Lib.decDigits i).toArray⟩) ∧ w' = w := Any.internal_strconv_small Tryz.lays283 i h w
def Tryz.laysM284_ren : Go.Shelf.Ren := ⟨fun | 284 => 110 | 129 => 114 | 317 => 113 | 318 => 115 | n => n, fun | 53 => 113 | 3 => 3 | 212 => 134 | 0 => 0 | 4 => 4 | 46 => 116 | 5 => 5 | 9 => 9 | n => n, fun | 17 => 4 | n => n⟩
theorem Tryz.laysM284 : Go.Proofs.LaysM.n284 Tryz.prog Tryz.laysM284_ren := {
 mixed := by kernel_rfl
 f129 := Tryz.func114.trans (congrArg some (by kernel_rfl))
 f284 := Tryz.func110.trans (congrArg some (by kernel_rfl))
 f317 := Tryz.func113.trans (congrArg some (by kernel_rfl))
 f318 := Tryz.func115.trans (congrArg some (by kernel_rfl))
 t0 := Tryz.underlying0
 a0 := Tryz.isAgg0
 z0 := Tryz.sizeOf0
 v0 := Tryz.zeroValue0
 t3 := Tryz.underlying3
 a3 := Tryz.isAgg3
 z3 := Tryz.sizeOf3
 v3 := Tryz.zeroValue3
 t4 := Tryz.underlying4
 a4 := Tryz.isAgg4
 z4 := Tryz.sizeOf4
 v4 := Tryz.zeroValue4
 t5 := Tryz.underlying5
 a5 := Tryz.isAgg5
 z5 := Tryz.sizeOf5
 v5 := Tryz.zeroValue5
 t9 := Tryz.underlying9
 a9 := Tryz.isAgg9
 z9 := Tryz.sizeOf9
 v9 := Tryz.zeroValue9
 t46 := Tryz.underlying116
 a46 := Tryz.isAgg116
 z46 := Tryz.sizeOf116
 v46 := Tryz.zeroValue116
 t53 := Tryz.underlying113
 a53 := Tryz.isAgg113
 z53 := Tryz.sizeOf113
 v53 := Tryz.zeroValue113
 t212 := Tryz.underlying134
 a212 := Tryz.isAgg134
 z212 := Tryz.sizeOf134
 v212 := Tryz.zeroValue134
 g17 := by kernel_rfl
 i0 := by kernel_rfl
 i3 := by kernel_rfl
 i4 := by kernel_rfl
 i5 := by kernel_rfl
 i9 := by kernel_rfl
 i46 := by kernel_rfl
 i53 := by kernel_rfl
 i212 := by kernel_rfl
 m17 := by kernel_rfl }
open Go.Lib in
theorem Tryz.internal_strconv_numDigits (u : Nat) (h1 : 1 ≤ u) (h2 : u < 18446744073709551616) (w : World) (htab : Lib.TabIs Tryz.prog w "internal/strconv.uint64pow10" .u64 Lib.pow10Tab) :
 Calls Tryz.prog 110 #[.int .u64 u] w fun e w' => e = .returned (.int .i64 (Lib.nDigits u)) ∧ w' = w := Any.internal_strconv_numDigits Tryz.laysM284 u h1 h2 w htab
def Tryz.lays285_ren : Go.Shelf.Ren := ⟨fun | 285 => 111 | n => n, fun | 37 => 79 | 53 => 113 | 3 => 3 | 4 => 4 | 51 => 135 | 9 => 9 | 5 => 5 | 0 => 0 | n => n, fun | n => n⟩
theorem Tryz.lays285 : Go.Proofs.Lays.n285 Tryz.prog Tryz.lays285_ren := {
 mixed := by kernel_rfl
 f285 := Tryz.func111.trans (congrArg some (by kernel_rfl))
 t0 := Tryz.underlying0
 a0 := Tryz.isAgg0
 z0 := Tryz.sizeOf0
 v0 := Tryz.zeroValue0
 t3 := Tryz.underlying3
 a3 := Tryz.isAgg3
 z3 := Tryz.sizeOf3
 v3 := Tryz.zeroValue3
 t4 := Tryz.underlying4
 a4 := Tryz.isAgg4
 z4 := Tryz.sizeOf4
 v4 := Tryz.zeroValue4
 t5 := Tryz.underlying5
 a5 := Tryz.isAgg5
 z5 := Tryz.sizeOf5
 v5 := Tryz.zeroValue5
 t9 := Tryz.underlying9
 a9 := Tryz.isAgg9
 z9 := Tryz.sizeOf9
 v9 := Tryz.zeroValue9
 t37 := Tryz.underlying79
 a37 := Tryz.isAgg79
 z37 := Tryz.sizeOf79
 v37 := Tryz.zeroValue79
 t51 := Tryz.underlying135
 a51 := Tryz.isAgg135
 z51 := Tryz.sizeOf135
 v51 := Tryz.zeroValue135
 t53 := Tryz.underlying113
 a53 := Tryz.isAgg113
 z53 := Tryz.sizeOf113
 v53 := Tryz.zeroValue113 }
open Go.RowKit Go.Sort Go.Lib in
theorem Tryz.internal_strconv_formatBase10 (blk off cap : Nat) (u : Nat) (d : Array UInt8) (w : World) (hH : Holds (fun (b : UInt8) => Value.int .u8 (b.toNat : Int)) w blk off d) (hu : u < 10 ^ d.size) (hu64 : u < 18446744073709551616) (hsz : d.size < 4611686018427387904) :
 Calls Tryz.prog 111 #[.slice (some ⟨blk, off, none⟩) d.size cap, .int .u64 u] w fun e w' =>
  e = .returned (.tuple #[]) ∧ ∃ (n v' : Nat) (dk : Array UInt8), w' = (putRow (fun (b : UInt8) => Value.int .u8 (b.toNat : Int)) w blk off dk).drewN n ∧ FmtInv d.size u 0 v' dk := Any.internal_strconv_formatBase10 Tryz.lays285 blk off cap u d w hH hu hu64 hsz
def Tryz.laysM246_ren : Go.Shelf.Ren := ⟨fun | 246 => 108 | 283 => 109 | 284 => 110 | 285 => 111 | 286 => 112 | 129 => 114 | 317 => 113 | 318 => 115 | 319 => 116 | 320 => 117 | 337 => 118 | 338 => 119 | n => n, fun | 2 => 2 | 3 => 3 | 9 => 9 | 4 => 4 | 171 => 127 | 0 => 0 | 53 => 113 | 37 => 79 | 5 => 5 | 173 => 130 | 212 => 134 | 51 => 135 | 20 => 20 | 213 => 136 | 46 => 116 | 232 => 140 | 233 => 141 | n => n, fun | 17 => 4 | 18 => 5 | 19 => 6 | n => n⟩
theorem Tryz.laysM246 : Go.Proofs.LaysM.n246 Tryz.prog Tryz.laysM246_ren := {
 mixed := by kernel_rfl
 f129 := Tryz.func114.trans (congrArg some (by kernel_rfl))
 f246 := Tryz.func108.trans (congrArg some (by kernel_rfl))
 f283 := Tryz.func109.trans (congrArg some (by kernel_rfl))
 f284 := Tryz.func110.trans (congrArg some (by kernel_rfl))
 f285 := Tryz.func111.trans (congrArg some (by kernel_rfl))
 f286 := Tryz.func112.trans (congrArg some (by kernel_rfl))
 f317 := Tryz.func113.trans (congrArg some (by kernel_rfl))
 f318 := Tryz.func115.trans (congrArg some (by kernel_rfl))
 f319 := Tryz.func116.trans (congrArg some (by kernel_rfl))
 f320 := Tryz.func117.trans (congrArg some (by kernel_rfl))
 f337 := Tryz.func118.trans (congrArg some (by kernel_rfl))
 f338 := Tryz.func119.trans (congrArg some (by kernel_rfl))
 t0 := Tryz.underlying0
 a0 := Tryz.isAgg0
 z0 := Tryz.sizeOf0
 v0 := Tryz.zeroValue0
 t2 := Tryz.underlying2
 a2 := Tryz.isAgg2
 z2 := Tryz.sizeOf2
 v2 := Tryz.zeroValue2
 t3 := Tryz.underlying3
 a3 := Tryz.isAgg3
 z3 := Tryz.sizeOf3
 v3 := Tryz.zeroValue3
 t4 := Tryz.underlying4
 a4 := Tryz.isAgg4
 z4 := Tryz.sizeOf4
 v4 := Tryz.zeroValue4
 t5 := Tryz.underlying5
 a5 := Tryz.isAgg5
 z5 := Tryz.sizeOf5
 v5 := Tryz.zeroValue5
 t9 := Tryz.underlying9
 a9 := Tryz.isAgg9
 z9 := Tryz.sizeOf9
 v9 := Tryz.zeroValue9
 t20 := Tryz.underlying20
 a20 := Tryz.isAgg20
 z20 := Tryz.sizeOf20
 v20 := Tryz.zeroValue20
 t37 := Tryz.underlying79
 a37 := Tryz.isAgg79
 z37 := Tryz.sizeOf79
 v37 := Tryz.zeroValue79
 t46 := Tryz.underlying116
 a46 := Tryz.isAgg116
 z46 := Tryz.sizeOf116
 v46 := Tryz.zeroValue116
 t51 := Tryz.underlying135
 a51 := Tryz.isAgg135
 z51 := Tryz.sizeOf135
 v51 := Tryz.zeroValue135
 t53 := Tryz.underlying113
 a53 := Tryz.isAgg113
 z53 := Tryz.sizeOf113
 v53 := Tryz.zeroValue113
 t171 := Tryz.underlying127
 a171 := Tryz.isAgg127
 z171 := Tryz.sizeOf127
 v171 := Tryz.zeroValue127
 t173 := Tryz.underlying130
 a173 := Tryz.isAgg130
 z173 := Tryz.sizeOf130
 v173 := Tryz.zeroValue130
 t212 := Tryz.underlying134
 a212 := Tryz.isAgg134
 z212 := Tryz.sizeOf134
 v212 := Tryz.zeroValue134
 t213 := Tryz.underlying136
 a213 := Tryz.isAgg136
 z213 := Tryz.sizeOf136
 t232 := Tryz.underlying140
 a232 := Tryz.isAgg140
 z232 := Tryz.sizeOf140
 v232 := Tryz.zeroValue140
 t233 := Tryz.underlying141
 a233 := Tryz.isAgg141
 z233 := Tryz.sizeOf141
 v233 := Tryz.zeroValue141
 g17 := by kernel_rfl
 g18 := by kernel_rfl
 g19 := by kernel_rfl
 i0 := by kernel_rfl
 i2 := by kernel_rfl
 i3 := by kernel_rfl
 i4 := by kernel_rfl
 i5 := by kernel_rfl
 i9 := by kernel_rfl
 i20 := by kernel_rfl
 i37 := by kernel_rfl
 i46 := by kernel_rfl
 i51 := by kernel_rfl
 i53 := by kernel_rfl
 i171 := by kernel_rfl
 i173 := by kernel_rfl
 i212 := by kernel_rfl
 i232 := by kernel_rfl
 i233 := by kernel_rfl
 m17 := by kernel_rfl
 m18 := by kernel_rfl
 m19 := by kernel_rfl }
open Go.RowKit Go.Sort Go.Lib in
theorem Tryz.internal_strconv_FormatInt_10 (n : Int) (h0 : -9223372036854775808 ≤ n) (h1 : n ≤ 9223372036854775807) (w : World) (htab : Lib.TabIs Tryz.prog w "internal/strconv.uint64pow10" .u64 Lib.pow10Tab) :
 Calls Tryz.prog 108 #[.int .i64 n, .int .i64 10] w fun e w' => e = .returned (.string ⟨(Lib.itoa n).toArray⟩) ∧ ∃ k os, w' = grow (w.drewN k) os := Any.internal_strconv_FormatInt_10 Tryz.laysM246 n h0 h1 w htab
def Tryz.lays246_ren : Go.Shelf.Ren := ⟨fun | 246 => 108 | 283 => 109 | 284 => 110 | 285 => 111 | 286 => 112 | 129 => 114 | 317 => 113 | 318 => 115 | 319 => 116 | 320 => 117 | 337 => 118 | 338 => 119 | n => n, fun | 2 => 2 | 3 => 3 | 9 => 9 | 4 => 4 | 171 => 127 | 0 => 0 | 53 => 113 | 37 => 79 | 5 => 5 | 173 => 130 | 212 => 134 | 51 => 135 | 20 => 20 | 213 => 136 | 46 => 116 | 232 => 140 | 233 => 141 | n => n, fun | 17 => 4 | 18 => 5 | 19 => 6 | n => n⟩
theorem Tryz.lays246 : Go.Proofs.Lays.n246 Tryz.prog Tryz.lays246_ren := {
 mixed := by kernel_rfl
 f129 := Tryz.func114.trans (congrArg some (by kernel_rfl))
 f246 := Tryz.func108.trans (congrArg some (by kernel_rfl))
 f283 := Tryz.func109.trans (congrArg some (by kernel_rfl))
 f284 := Tryz.func110.trans (congrArg some (by kernel_rfl))
 f285 := Tryz.func111.trans (congrArg some (by kernel_rfl))
 f286 := Tryz.func112.trans (congrArg some (by kernel_rfl))
 f317 := Tryz.func113.trans (congrArg some (by kernel_rfl))
 f318 := Tryz.func115.trans (congrArg some (by kernel_rfl))
 f319 := Tryz.func116.trans (congrArg some (by kernel_rfl))
 f320 := Tryz.func117.trans (congrArg some (by kernel_rfl))
 f337 := Tryz.func118.trans (congrArg some (by kernel_rfl))
 f338 := Tryz.func119.trans (congrArg some (by kernel_rfl))
 t0 := Tryz.underlying0
 a0 := Tryz.isAgg0
 z0 := Tryz.sizeOf0
 v0 := Tryz.zeroValue0
 t2 := Tryz.underlying2
 a2 := Tryz.isAgg2
 z2 := Tryz.sizeOf2
 v2 := Tryz.zeroValue2
 t3 := Tryz.underlying3
 a3 := Tryz.isAgg3
 z3 := Tryz.sizeOf3
 v3 := Tryz.zeroValue3
 t4 := Tryz.underlying4
 a4 := Tryz.isAgg4
 z4 := Tryz.sizeOf4
 v4 := Tryz.zeroValue4
 t5 := Tryz.underlying5
 a5 := Tryz.isAgg5
 z5 := Tryz.sizeOf5
 v5 := Tryz.zeroValue5
 t9 := Tryz.underlying9
 a9 := Tryz.isAgg9
 z9 := Tryz.sizeOf9
 v9 := Tryz.zeroValue9
 t20 := Tryz.underlying20
 a20 := Tryz.isAgg20
 z20 := Tryz.sizeOf20
 v20 := Tryz.zeroValue20
 t37 := Tryz.underlying79
 a37 := Tryz.isAgg79
 z37 := Tryz.sizeOf79
 v37 := Tryz.zeroValue79
 t46 := Tryz.underlying116
 a46 := Tryz.isAgg116
 z46 := Tryz.sizeOf116
 v46 := Tryz.zeroValue116
 t51 := Tryz.underlying135
 a51 := Tryz.isAgg135
 z51 := Tryz.sizeOf135
 v51 := Tryz.zeroValue135
 t53 := Tryz.underlying113
 a53 := Tryz.isAgg113
 z53 := Tryz.sizeOf113
 v53 := Tryz.zeroValue113
 t171 := Tryz.underlying127
 a171 := Tryz.isAgg127
 z171 := Tryz.sizeOf127
 v171 := Tryz.zeroValue127
 t173 := Tryz.underlying130
 a173 := Tryz.isAgg130
 z173 := Tryz.sizeOf130
 v173 := Tryz.zeroValue130
 t212 := Tryz.underlying134
 a212 := Tryz.isAgg134
 z212 := Tryz.sizeOf134
 v212 := Tryz.zeroValue134
 t213 := Tryz.underlying136
 a213 := Tryz.isAgg136
 z213 := Tryz.sizeOf136
 t232 := Tryz.underlying140
 a232 := Tryz.isAgg140
 z232 := Tryz.sizeOf140
 v232 := Tryz.zeroValue140
 t233 := Tryz.underlying141
 a233 := Tryz.isAgg141
 z233 := Tryz.sizeOf141
 v233 := Tryz.zeroValue141
 g17 := by kernel_rfl
 g18 := by kernel_rfl
 g19 := by kernel_rfl }
open Go.RowKit Go.Sort Go.Lib in
theorem Tryz.internal_strconv_FormatInt_10_small (i : Nat) (hi : i < 100) (w : World) :
 Calls Tryz.prog 108 #[.int .i64 i, .int .i64 10] w fun e w' => e = .returned (.string ⟨(Lib.decDigits i).toArray⟩) ∧ w' = w := Any.internal_strconv_FormatInt_10_small Tryz.lays246 i hi w
def Tryz.laysM243_ren : Go.Shelf.Ren := ⟨fun | 243 => 107 | 246 => 108 | 283 => 109 | 284 => 110 | 285 => 111 | 286 => 112 | 129 => 114 | 317 => 113 | 318 => 115 | 319 => 116 | 320 => 117 | 337 => 118 | 338 => 119 | n => n, fun | 3 => 3 | 9 => 9 | 2 => 2 | 4 => 4 | 171 => 127 | 0 => 0 | 53 => 113 | 37 => 79 | 5 => 5 | 173 => 130 | 212 => 134 | 51 => 135 | 20 => 20 | 213 => 136 | 46 => 116 | 232 => 140 | 233 => 141 | n => n, fun | 17 => 4 | 18 => 5 | 19 => 6 | n => n⟩
theorem Tryz.laysM243 : Go.Proofs.LaysM.n243 Tryz.prog Tryz.laysM243_ren := {
 mixed := by kernel_rfl
 f129 := Tryz.func114.trans (congrArg some (by kernel_rfl))
 f243 := Tryz.func107.trans (congrArg some (by kernel_rfl))
 f246 := Tryz.func108.trans (congrArg some (by kernel_rfl))
 f283 := Tryz.func109.trans (congrArg some (by kernel_rfl))
 f284 := Tryz.func110.trans (congrArg some (by kernel_rfl))
 f285 := Tryz.func111.trans (congrArg some (by kernel_rfl))
 f286 := Tryz.func112.trans (congrArg some (by kernel_rfl))
 f317 := Tryz.func113.trans (congrArg some (by kernel_rfl))
 f318 := Tryz.func115.trans (congrArg some (by kernel_rfl))
 f319 := Tryz.func116.trans (congrArg some (by kernel_rfl))
 f320 := Tryz.func117.trans (congrArg some (by kernel_rfl))
 f337 := Tryz.func118.trans (congrArg some (by kernel_rfl))
 f338 := Tryz.func119.trans (congrArg some (by kernel_rfl))
 t0 := Tryz.underlying0
 a0 := Tryz.isAgg0
 z0 := Tryz.sizeOf0
 v0 := Tryz.zeroValue0
 t2 := Tryz.underlying2
 a2 := Tryz.isAgg2
 z2 := Tryz.sizeOf2
 v2 := Tryz.zeroValue2
 t3 := Tryz.underlying3
 a3 := Tryz.isAgg3
 z3 := Tryz.sizeOf3
 v3 := Tryz.zeroValue3
 t4 := Tryz.underlying4
 a4 := Tryz.isAgg4
 z4 := Tryz.sizeOf4
 v4 := Tryz.zeroValue4
 t5 := Tryz.underlying5
 a5 := Tryz.isAgg5
 z5 := Tryz.sizeOf5
 v5 := Tryz.zeroValue5
 t9 := Tryz.underlying9
 a9 := Tryz.isAgg9
 z9 := Tryz.sizeOf9
 v9 := Tryz.zeroValue9
 t20 := Tryz.underlying20
 a20 := Tryz.isAgg20
 z20 := Tryz.sizeOf20
 v20 := Tryz.zeroValue20
 t37 := Tryz.underlying79
 a37 := Tryz.isAgg79
 z37 := Tryz.sizeOf79
 v37 := Tryz.zeroValue79
 t46 := Tryz.underlying116
 a46 := Tryz.isAgg116
 z46 := Tryz.sizeOf116
 v46 := Tryz.zeroValue116
 t51 := Tryz.underlying135
 a51 := Tryz.isAgg135
 z51 := Tryz.sizeOf135
 v51 := Tryz.zeroValue135
 t53 := Tryz.underlying113
 a53 := Tryz.isAgg113
 z53 := Tryz.sizeOf113
 v53 := Tryz.zeroValue113
 t171 := Tryz.underlying127
 a171 := Tryz.isAgg127
 z171 := Tryz.sizeOf127
 v171 := Tryz.zeroValue127
 t173 := Tryz.underlying130
 a173 := Tryz.isAgg130
 z173 := Tryz.sizeOf130
 v173 := Tryz.zeroValue130
 t212 := Tryz.underlying134
 a212 := Tryz.isAgg134
 z212 := Tryz.sizeOf134
 v212 := Tryz.zeroValue134
 t213 := Tryz.underlying136
 a213 := Tryz.isAgg136
 z213 := Tryz.sizeOf136
 t232 := Tryz.underlying140
 a232 := Tryz.isAgg140
 z232 := Tryz.sizeOf140
 v232 := Tryz.zeroValue140
 t233 := Tryz.underlying141
 a233 := Tryz.isAgg141
 z233 := Tryz.sizeOf141
 v233 := Tryz.zeroValue141
 g17 := by kernel_rfl
 g18 := by kernel_rfl
 g19 := by kernel_rfl
 i0 := by kernel_rfl
 i2 := by kernel_rfl
 i3 := by kernel_rfl
 i4 := by kernel_rfl
 i5 := by kernel_rfl
 i9 := by kernel_rfl
 i20 := by kernel_rfl
 i37 := by kernel_rfl
 i46 := by kernel_rfl
 i51 := by kernel_rfl
 i53 := by kernel_rfl
 i171 := by kernel_rfl
 i173 := by kernel_rfl
 i212 := by kernel_rfl
 i232 := by kernel_rfl
 i233 := by kernel_rfl
 m17 := by kernel_rfl
 m18 := by kernel_rfl
 m19 := by kernel_rfl }
open Go.RowKit Go.Sort Go.Lib in
theorem Tryz.internal_strconv_Itoa (n : Int) (h0 : -9223372036854775808 ≤ n) (h1 : n ≤ 9223372036854775807) (w : World) (htab : Lib.TabIs Tryz.prog w "internal/strconv.uint64pow10" .u64 Lib.pow10Tab) :
 Calls Tryz.prog 107 #[.int .i64 n] w fun e w' => e = .returned (.string ⟨(Lib.itoa n).toArray⟩) ∧ ∃ k os, w' = grow (w.drewN k) os := Any.internal_strconv_Itoa Tryz.laysM243 n h0 h1 w htab
def Tryz.lays243_ren : Go.Shelf.Ren := ⟨fun | 243 => 107 | 246 => 108 | 283 => 109 | 284 => 110 | 285 => 111 | 286 => 112 | 129 => 114 | 317 => 113 | 318 => 115 | 319 => 116 | 320 => 117 | 337 => 118 | 338 => 119 | n => n, fun | 3 => 3 | 9 => 9 | 2 => 2 | 4 => 4 | 171 => 127 | 0 => 0 | 53 => 113 | 37 => 79 | 5 => 5 | 173 => 130 | 212 => 134 | 51 => 135 | 20 => 20 | 213 => 136 | 46 => 116 | 232 => 140 | 233 => 141 | n => n, fun | 17 => 4 | 18 => 5 | 19 => 6 | n => n⟩
theorem Tryz.lays243 : Go.Proofs.Lays.n243 Tryz.prog Tryz.lays243_ren := {
 mixed := by kernel_rfl
 f129 := Tryz.func114.trans (congrArg some (by kernel_rfl))
 f243 := Tryz.func107.trans (congrArg some (by kernel_rfl))
 f246 := Tryz.func108.trans (congrArg some (by kernel_rfl))
 f283 := Tryz.func109.trans (congrArg some (by kernel_rfl))
 f284 := Tryz.func110.trans (congrArg some (by kernel_rfl))
 f285 := Tryz.func111.trans (congrArg some (by kernel_rfl))
 f286 := Tryz.func112.trans (congrArg some (by kernel_rfl))
 f317 := Tryz.func113.trans (congrArg some (by kernel_rfl))
 f318 := Tryz.func115.trans (congrArg some (by kernel_rfl))
 f319 := Tryz.func116.trans (congrArg some (by kernel_rfl))
 f320 := Tryz.func117.trans (congrArg some (by kernel_rfl))
 f337 := Tryz.func118.trans (congrArg some (by kernel_rfl))
 f338 := Tryz.func119.trans (congrArg some (by kernel_rfl))
 t0 := Tryz.underlying0
 a0 := Tryz.isAgg0
 z0 := Tryz.sizeOf0
 v0 := Tryz.zeroValue0
 t2 := Tryz.underlying2
 a2 := Tryz.isAgg2
 z2 := Tryz.sizeOf2
 v2 := Tryz.zeroValue2
 t3 := Tryz.underlying3
 a3 := Tryz.isAgg3
 z3 := Tryz.sizeOf3
 v3 := Tryz.zeroValue3
 t4 := Tryz.underlying4
 a4 := Tryz.isAgg4
 z4 := Tryz.sizeOf4
 v4 := Tryz.zeroValue4
 t5 := Tryz.underlying5
 a5 := Tryz.isAgg5
 z5 := Tryz.sizeOf5
 v5 := Tryz.zeroValue5
 t9 := Tryz.underlying9
 a9 := Tryz.isAgg9
 z9 := Tryz.sizeOf9
 v9 := Tryz.zeroValue9
 t20 := Tryz.underlying20
 a20 := Tryz.isAgg20
 z20 := Tryz.sizeOf20
 v20 := Tryz.zeroValue20
 t37 := Tryz.underlying79
 a37 := Tryz.isAgg79
 z37 := Tryz.sizeOf79
 v37 := Tryz.zeroValue79
 t46 := Tryz.underlying116
 a46 := Tryz.isAgg116
 z46 := Tryz.sizeOf116
 v46 := Tryz.zeroValue116
 t51 := Tryz.underlying135
 a51 := Tryz.isAgg135
 z51 := Tryz.sizeOf135
 v51 := Tryz.zeroValue135
 t53 := Tryz.underlying113
 a53 := Tryz.isAgg113
 z53 := Tryz.sizeOf113
 v53 := Tryz.zeroValue113
 t171 := Tryz.underlying127
 a171 := Tryz.isAgg127
 z171 := Tryz.sizeOf127
 v171 := Tryz.zeroValue127
 t173 := Tryz.underlying130
 a173 := Tryz.isAgg130
 z173 := Tryz.sizeOf130
 v173 := Tryz.zeroValue130
 t212 := Tryz.underlying134
 a212 := Tryz.isAgg134
 z212 := Tryz.sizeOf134
 v212 := Tryz.zeroValue134
 t213 := Tryz.underlying136
 a213 := Tryz.isAgg136
 z213 := Tryz.sizeOf136
 t232 := Tryz.underlying140
 a232 := Tryz.isAgg140
 z232 := Tryz.sizeOf140
 v232 := Tryz.zeroValue140
 t233 := Tryz.underlying141
 a233 := Tryz.isAgg141
 z233 := Tryz.sizeOf141
 v233 := Tryz.zeroValue141
 g17 := by kernel_rfl
 g18 := by kernel_rfl
 g19 := by kernel_rfl }
open Go.RowKit Go.Sort Go.Lib in
theorem Tryz.internal_strconv_Itoa_small (i : Nat) (hi : i < 100) (w : World) :
 Calls Tryz.prog 107 #[.int .i64 i] w fun e w' => e = .returned (.string ⟨(Lib.decDigits i).toArray⟩) ∧ w' = w := Any.internal_strconv_Itoa_small Tryz.lays243 i hi w
def Tryz.laysM171_ren : Go.Shelf.Ren := ⟨fun | 171 => 104 | 243 => 107 | 246 => 108 | 283 => 109 | 284 => 110 | 285 => 111 | 286 => 112 | 129 => 114 | 317 => 113 | 318 => 115 | 319 => 116 | 320 => 117 | 337 => 118 | 338 => 119 | n => n, fun | 3 => 3 | 9 => 9 | 2 => 2 | 4 => 4 | 171 => 127 | 0 => 0 | 53 => 113 | 37 => 79 | 5 => 5 | 173 => 130 | 212 => 134 | 51 => 135 | 20 => 20 | 213 => 136 | 46 => 116 | 232 => 140 | 233 => 141 | n => n, fun | 17 => 4 | 18 => 5 | 19 => 6 | n => n⟩
theorem Tryz.laysM171 : Go.Proofs.LaysM.n171 Tryz.prog Tryz.laysM171_ren := {
 mixed := by kernel_rfl
 f129 := Tryz.func114.trans (congrArg some (by kernel_rfl))
 f171 := Tryz.func104.trans (congrArg some (by kernel_rfl))
 f243 := Tryz.func107.trans (congrArg some (by kernel_rfl))
 f246 := Tryz.func108.trans (congrArg some (by kernel_rfl))
 f283 := Tryz.func109.trans (congrArg some (by kernel_rfl))
 f284 := Tryz.func110.trans (congrArg some (by kernel_rfl))
 f285 := Tryz.func111.trans (congrArg some (by kernel_rfl))
 f286 := Tryz.func112.trans (congrArg some (by kernel_rfl))
 f317 := Tryz.func113.trans (congrArg some (by kernel_rfl))
 f318 := Tryz.func115.trans (congrArg some (by kernel_rfl))
 f319 := Tryz.func116.trans (congrArg some (by kernel_rfl))
 f320 := Tryz.func117.trans (congrArg some (by kernel_rfl))
 f337 := Tryz.func118.trans (congrArg some (by kernel_rfl))
 f338 := Tryz.func119.trans (congrArg some (by kernel_rfl))
 t0 := Tryz.underlying0
 a0 := Tryz.isAgg0
 z0 := Tryz.sizeOf0
 v0 := Tryz.zeroValue0
 t2 := Tryz.underlying2
 a2 := Tryz.isAgg2
 z2 := Tryz.sizeOf2
 v2 := Tryz.zeroValue2
 t3 := Tryz.underlying3
 a3 := Tryz.isAgg3
 z3 := Tryz.sizeOf3
 v3 := Tryz.zeroValue3
 t4 := Tryz.underlying4
 a4 := Tryz.isAgg4
 z4 := Tryz.sizeOf4
 v4 := Tryz.zeroValue4
 t5 := Tryz.underlying5
 a5 := Tryz.isAgg5
 z5 := Tryz.sizeOf5
 v5 := Tryz.zeroValue5
 t9 := Tryz.underlying9
 a9 := Tryz.isAgg9
 z9 := Tryz.sizeOf9
 v9 := Tryz.zeroValue9
 t20 := Tryz.underlying20
 a20 := Tryz.isAgg20
 z20 := Tryz.sizeOf20
 v20 := Tryz.zeroValue20
 t37 := Tryz.underlying79
 a37 := Tryz.isAgg79
 z37 := Tryz.sizeOf79
 v37 := Tryz.zeroValue79
 t46 := Tryz.underlying116
 a46 := Tryz.isAgg116
 z46 := Tryz.sizeOf116
 v46 := Tryz.zeroValue116
 t51 := Tryz.underlying135
 a51 := Tryz.isAgg135
 z51 := Tryz.sizeOf135
 v51 := Tryz.zeroValue135
 t53 := Tryz.underlying113
 a53 := Tryz.isAgg113
 z53 := Tryz.sizeOf113
 v53 := Tryz.zeroValue113
 t171 := Tryz.underlying127
 a171 := Tryz.isAgg127
 z171 := Tryz.sizeOf127
 v171 := Tryz.zeroValue127
 t173 := Tryz.underlying130
 a173 := Tryz.isAgg130
 z173 := Tryz.sizeOf130
 v173 := Tryz.zeroValue130
 t212 := Tryz.underlying134
 a212 := Tryz.isAgg134
 z212 := Tryz.sizeOf134
 v212 := Tryz.zeroValue134
 t213 := Tryz.underlying136
 a213 := Tryz.isAgg136
 z213 := Tryz.sizeOf136
 t232 := Tryz.underlying140
 a232 := Tryz.isAgg140
 z232 := Tryz.sizeOf140
 v232 := Tryz.zeroValue140
 t233 := Tryz.underlying141
 a233 := Tryz.isAgg141
 z233 := Tryz.sizeOf141
 v233 := Tryz.zeroValue141
 g17 := by kernel_rfl
 g18 := by kernel_rfl
 g19 := by kernel_rfl
 i0 := by kernel_rfl
 i2 := by kernel_rfl
 i3 := by kernel_rfl
 i4 := by kernel_rfl
 i5 := by kernel_rfl
 i9 := by kernel_rfl
 i20 := by kernel_rfl
 i37 := by kernel_rfl
 i46 := by kernel_rfl
 i51 := by kernel_rfl
 i53 := by kernel_rfl
 i171 := by kernel_rfl
 i173 := by kernel_rfl
 i212 := by kernel_rfl
 i232 := by kernel_rfl
 i233 := by kernel_rfl
 m17 := by kernel_rfl
 m18 := by kernel_rfl
 m19 := by kernel_rfl }
open Go.RowKit Go.Sort Go.Lib in
theorem Tryz.strconv_Itoa (n : Int) (h0 : -9223372036854775808 ≤ n) (h1 : n ≤ 9223372036854775807) (w : World) (htab : Lib.TabIs Tryz.prog w "internal/strconv.uint64pow10" .u64 Lib.pow10Tab) :
 Calls Tryz.prog 104 #[.int .i64 n] w fun e w' => e = .returned (.string ⟨(Lib.itoa n).toArray⟩) ∧ ∃ k os, w' = grow (w.drewN k) os := Any.strconv_Itoa Tryz.laysM171 n h0 h1 w htab
def Tryz.lays171_ren : Go.Shelf.Ren := ⟨fun | 171 => 104 | 243 => 107 | 246 => 108 | 283 => 109 | 284 => 110 | 285 => 111 | 286 => 112 | 129 => 114 | 317 => 113 | 318 => 115 | 319 => 116 | 320 => 117 | 337 => 118 | 338 => 119 | n => n, fun | 3 => 3 | 9 => 9 | 2 => 2 | 4 => 4 | 171 => 127 | 0 => 0 | 53 => 113 | 37 => 79 | 5 => 5 | 173 => 130 | 212 => 134 | 51 => 135 | 20 => 20 | 213 => 136 | 46 => 116 | 232 => 140 | 233 => 141 | n => n, fun | 17 => 4 | 18 => 5 | 19 => 6 | n => n⟩
theorem Tryz.lays171 : Go.Proofs.Lays.n171 Tryz.prog Tryz.lays171_ren := {
 mixed := by kernel_rfl
 f129 := Tryz.func114.trans (congrArg some (by kernel_rfl))
 f171 := Tryz.func104.trans (congrArg some (by kernel_rfl))
 f243 := Tryz.func107.trans (congrArg some (by kernel_rfl))
 f246 := Tryz.func108.trans (congrArg some (by kernel_rfl))
 f283 := Tryz.func109.trans (congrArg some (by kernel_rfl))
 f284 := Tryz.func110.trans (congrArg some (by kernel_rfl))
 f285 := Tryz.func111.trans (congrArg some (by kernel_rfl))
 f286 := Tryz.func112.trans (congrArg some (by kernel_rfl))
 f317 := Tryz.func113.trans (congrArg some (by kernel_rfl))
 f318 := Tryz.func115.trans (congrArg some (by kernel_rfl))
 f319 := Tryz.func116.trans (congrArg some (by kernel_rfl))
 f320 := Tryz.func117.trans (congrArg some (by kernel_rfl))
 f337 := Tryz.func118.trans (congrArg some (by kernel_rfl))
 f338 := Tryz.func119.trans (congrArg some (by kernel_rfl))
 t0 := Tryz.underlying0
 a0 := Tryz.isAgg0
 z0 := Tryz.sizeOf0
 v0 := Tryz.zeroValue0
 t2 := Tryz.underlying2
 a2 := Tryz.isAgg2
 z2 := Tryz.sizeOf2
 v2 := Tryz.zeroValue2
 t3 := Tryz.underlying3
 a3 := Tryz.isAgg3
 z3 := Tryz.sizeOf3
 v3 := Tryz.zeroValue3
 t4 := Tryz.underlying4
 a4 := Tryz.isAgg4
 z4 := Tryz.sizeOf4
 v4 := Tryz.zeroValue4
 t5 := Tryz.underlying5
 a5 := Tryz.isAgg5
 z5 := Tryz.sizeOf5
 v5 := Tryz.zeroValue5
 t9 := Tryz.underlying9
 a9 := Tryz.isAgg9
 z9 := Tryz.sizeOf9
 v9 := Tryz.zeroValue9
 t20 := Tryz.underlying20
 a20 := Tryz.isAgg20
 z20 := Tryz.sizeOf20
 v20 := Tryz.zeroValue20
 t37 := Tryz.underlying79
 a37 := Tryz.isAgg79
 z37 := Tryz.sizeOf79
 v37 := Tryz.zeroValue79
 t46 := Tryz.underlying116
 a46 := Tryz.isAgg116
 z46 := Tryz.sizeOf116
 v46 := Tryz.zeroValue116
 t51 := Tryz.underlying135
 a51 := Tryz.isAgg135
 z51 := Tryz.sizeOf135
 v51 := Tryz.zeroValue135
 t53 := Tryz.underlying113
 a53 := Tryz.isAgg113
 z53 := Tryz.sizeOf113
 v53 := Tryz.zeroValue113
 t171 := Tryz.underlying127
 a171 := Tryz.isAgg127
 z171 := Tryz.sizeOf127
 v171 := Tryz.zeroValue127
 t173 := Tryz.underlying130
 a173 := Tryz.isAgg130
 z173 := Tryz.sizeOf130
 v173 := Tryz.zeroValue130
 t212 := Tryz.underlying134
 a212 := Tryz.isAgg134
 z212 := Tryz.sizeOf134
 v212 := Tryz.zeroValue134
 t213 := Tryz.underlying136
 a213 := Tryz.isAgg136
 z213 := Tryz.sizeOf136
 t232 := Tryz.underlying140
 a232 := Tryz.isAgg140
 z232 := Tryz.sizeOf140
 v232 := Tryz.zeroValue140
 t233 := Tryz.underlying141
 a233 := Tryz.isAgg141
 z233 := Tryz.sizeOf141
 v233 := Tryz.zeroValue141
 g17 := by kernel_rfl
 g18 := by kernel_rfl
 g19 := by kernel_rfl }
open Go.RowKit Go.Sort Go.Lib in
theorem Tryz.strconv_Itoa_small (i : Nat) (hi : i < 100) (w : World) :
 Calls Tryz.prog 104 #[.int .i64 i] w fun e w' => e = .returned (.string ⟨(Lib.decDigits i).toArray⟩) ∧ w' = w := Any.strconv_Itoa_small Tryz.lays171 i hi w
open Go.RowKit in
theorem Tryz.internal_strconv_Atoi_err (s : ByteArray) (hl0 : 1 ≤ s.size) (hl : s.size ≤ 18) (h : Lib.atoi s.data.toList = none) (w : World) :
 Calls Tryz.prog 94 #[.string s] w fun e w' => e = .returned (.tuple #[.int .i64 0, (.iface 107 (.int .i64 2))]) ∧ (w' = w ∨ ∃ t, w' = Lib.bytesWorld w 5 t) := Any.internal_strconv_Atoi_err Tryz.lays244 s hl0 hl h w
def Tryz.lays247_ren : Go.Shelf.Ren := ⟨fun | 247 => 96 | 287 => 101 | 321 => 105 | 322 => 106 | n => n, fun | 9 => 9 | 3 => 3 | 2 => 2 | 75 => 103 | 4 => 4 | 167 => 107 | 5 => 5 | 53 => 113 | 175 => 114 | 46 => 116 | 37 => 79 | 0 => 0 | 21 => 21 | 80 => 93 | n => n, fun | n => n⟩
theorem Tryz.lays247 : Go.Proofs.Lays.n247 Tryz.prog Tryz.lays247_ren := {
 mixed := by kernel_rfl
 f247 := Tryz.func96.trans (congrArg some (by kernel_rfl))
 f287 := Tryz.func101.trans (congrArg some (by kernel_rfl))
 f321 := Tryz.func105.trans (congrArg some (by kernel_rfl))
 f322 := Tryz.func106.trans (congrArg some (by kernel_rfl))
 t0 := Tryz.underlying0
 a0 := Tryz.isAgg0
 z0 := Tryz.sizeOf0
 v0 := Tryz.zeroValue0
 t2 := Tryz.underlying2
 a2 := Tryz.isAgg2
 z2 := Tryz.sizeOf2
 v2 := Tryz.zeroValue2
 t3 := Tryz.underlying3
 a3 := Tryz.isAgg3
 z3 := Tryz.sizeOf3
 v3 := Tryz.zeroValue3
 t4 := Tryz.underlying4
 a4 := Tryz.isAgg4
 z4 := Tryz.sizeOf4
 v4 := Tryz.zeroValue4
 t5 := Tryz.underlying5
 a5 := Tryz.isAgg5
 z5 := Tryz.sizeOf5
 v5 := Tryz.zeroValue5
 t9 := Tryz.underlying9
 a9 := Tryz.isAgg9
 z9 := Tryz.sizeOf9
 v9 := Tryz.zeroValue9
 t21 := Tryz.underlying21
 a21 := Tryz.isAgg21
 z21 := Tryz.sizeOf21
 v21 := Tryz.zeroValue21
 t37 := Tryz.underlying79
 a37 := Tryz.isAgg79
 z37 := Tryz.sizeOf79
 v37 := Tryz.zeroValue79
 t46 := Tryz.underlying116
 a46 := Tryz.isAgg116
 z46 := Tryz.sizeOf116
 v46 := Tryz.zeroValue116
 t53 := Tryz.underlying113
 a53 := Tryz.isAgg113
 z53 := Tryz.sizeOf113
 v53 := Tryz.zeroValue113
 t75 := Tryz.underlying103
 a75 := Tryz.isAgg103
 z75 := Tryz.sizeOf103
 v75 := Tryz.zeroValue103
 t167 := Tryz.underlying107
 a167 := Tryz.isAgg107
 z167 := Tryz.sizeOf107
 v167 := Tryz.zeroValue107
 t175 := Tryz.underlying114
 a175 := Tryz.isAgg114
 z175 := Tryz.sizeOf114
 v175 := Tryz.zeroValue114 }
open Go.RowKit in
theorem Tryz.internal_strconv_ParseInt_empty (base bits : Int) (w : World) :
 Calls Tryz.prog 96 #[.string ⟨#[]⟩, .int .i64 base, .int .i64 bits] w fun e w' => e = .returned (.tuple #[.int .i64 0, (.iface 107 (.int .i64 2))]) ∧ w' = w := Any.internal_strconv_ParseInt_empty Tryz.lays247 base bits w
open Go.RowKit in
theorem Tryz.internal_strconv_Atoi_empty (w : World) :
 Calls Tryz.prog 94 #[.string ⟨#[]⟩] w fun e w' => e = .returned (.tuple #[.int .i64 0, (.iface 107 (.int .i64 2))]) ∧ w' = w := Any.internal_strconv_Atoi_empty Tryz.lays244 w
open Go.RowKit in
theorem Tryz.internal_strconv_Atoi_fail (s : ByteArray) (hl : s.size ≤ 18) (h : Lib.atoi s.data.toList = none) (w : World) :
 Calls Tryz.prog 94 #[.string s] w fun e w' => e = .returned (.tuple #[.int .i64 0, (.iface 107 (.int .i64 2))]) ∧ (w' = w ∨ ∃ t, w' = Lib.bytesWorld w 5 t) := Any.internal_strconv_Atoi_fail Tryz.lays244 s hl h w
def Tryz.laysM316_ren : Go.Shelf.Ren := ⟨fun | 316 => 102 | n => n, fun | 9 => 9 | 3 => 3 | 4 => 4 | 37 => 79 | 0 => 0 | 127 => 122 | 5 => 5 | n => n, fun | n => n⟩
theorem Tryz.laysM316 : Go.Proofs.LaysM.n316 Tryz.prog Tryz.laysM316_ren := {
 mixed := by kernel_rfl
 f316 := Tryz.func102.trans (congrArg some (by kernel_rfl))
 t0 := Tryz.underlying0
 a0 := Tryz.isAgg0
 z0 := Tryz.sizeOf0
 v0 := Tryz.zeroValue0
 t3 := Tryz.underlying3
 a3 := Tryz.isAgg3
 z3 := Tryz.sizeOf3
 v3 := Tryz.zeroValue3
 t4 := Tryz.underlying4
 a4 := Tryz.isAgg4
 z4 := Tryz.sizeOf4
 v4 := Tryz.zeroValue4
 t9 := Tryz.underlying9
 a9 := Tryz.isAgg9
 z9 := Tryz.sizeOf9
 v9 := Tryz.zeroValue9
 t37 := Tryz.underlying79
 a37 := Tryz.isAgg79
 z37 := Tryz.sizeOf79
 v37 := Tryz.zeroValue79
 t127 := Tryz.underlying122
 a127 := Tryz.isAgg122
 z127 := Tryz.sizeOf122
 v127 := Tryz.zeroValue122
 t5 := Tryz.underlying5
 a5 := Tryz.isAgg5
 z5 := Tryz.sizeOf5
 v5 := Tryz.zeroValue5
 i0 := by kernel_rfl
 i3 := by kernel_rfl
 i4 := by kernel_rfl
 i5 := by kernel_rfl
 i9 := by kernel_rfl
 i37 := by kernel_rfl
 i127 := by kernel_rfl }
open Go.RowKit in
theorem Tryz.stringslite_Clone (s : ByteArray) (w : World) (hlim : s.size ≤ 281474976710656) :
 Calls Tryz.prog 102 #[.string s] w fun e w' => e = .returned (.string s) ∧ Below w.heap.size w w' := Any.stringslite_Clone Tryz.laysM316 s w hlim
def Tryz.laysM279_ren : Go.Shelf.Ren := ⟨fun | 279 => 97 | 316 => 102 | n => n, fun | 9 => 9 | 168 => 110 | 75 => 103 | 210 => 119 | 3 => 3 | 4 => 4 | 37 => 79 | 0 => 0 | 127 => 122 | 80 => 93 | 5 => 5 | n => n, fun | 15 => 2 | n => n⟩
theorem Tryz.laysM279 : Go.Proofs.LaysM.n279 Tryz.prog Tryz.laysM279_ren := {
 mixed := by kernel_rfl
 f279 := Tryz.func97.trans (congrArg some (by kernel_rfl))
 f316 := Tryz.func102.trans (congrArg some (by kernel_rfl))
 t0 := Tryz.underlying0
 a0 := Tryz.isAgg0
 z0 := Tryz.sizeOf0
 v0 := Tryz.zeroValue0
 t3 := Tryz.underlying3
 a3 := Tryz.isAgg3
 z3 := Tryz.sizeOf3
 v3 := Tryz.zeroValue3
 t4 := Tryz.underlying4
 a4 := Tryz.isAgg4
 z4 := Tryz.sizeOf4
 v4 := Tryz.zeroValue4
 t9 := Tryz.underlying9
 a9 := Tryz.isAgg9
 z9 := Tryz.sizeOf9
 v9 := Tryz.zeroValue9
 t37 := Tryz.underlying79
 a37 := Tryz.isAgg79
 z37 := Tryz.sizeOf79
 v37 := Tryz.zeroValue79
 t75 := Tryz.underlying103
 a75 := Tryz.isAgg103
 z75 := Tryz.sizeOf103
 v75 := Tryz.zeroValue103
 t127 := Tryz.underlying122
 a127 := Tryz.isAgg122
 z127 := Tryz.sizeOf122
 v127 := Tryz.zeroValue122
 t168 := Tryz.underlying110
 a168 := Tryz.isAgg110
 z168 := Tryz.sizeOf110
 v168 := Tryz.zeroValue110
 t210 := Tryz.underlying119
 a210 := Tryz.isAgg119
 z210 := Tryz.sizeOf119
 v210 := Tryz.zeroValue119
 g15 := by kernel_rfl
 t5 := Tryz.underlying5
 a5 := Tryz.isAgg5
 z5 := Tryz.sizeOf5
 v5 := Tryz.zeroValue5
 t80 := Tryz.underlying93
 a80 := Tryz.isAgg93
 z80 := Tryz.sizeOf93
 v80 := Tryz.zeroValue93
 i0 := by kernel_rfl
 i3 := by kernel_rfl
 i4 := by kernel_rfl
 i5 := by kernel_rfl
 i9 := by kernel_rfl
 i37 := by kernel_rfl
 i75 := by kernel_rfl
 i80 := by kernel_rfl
 i127 := by kernel_rfl
 i168 := by kernel_rfl
 i210 := by kernel_rfl
 m15 := by kernel_rfl }
open Go.RowKit in
theorem Tryz.strconv_syntaxError (fn s : ByteArray) (ev : Value) (w : World) (hlim : s.size ≤ 281474976710656) (hv : w.cell? ⟨2, 0, none⟩ = some ev) (hev : ev = .nilIface ∨ ∃ te pe, ev = .iface te pe) :
 Calls Tryz.prog 97 #[.string fn, .string s] w fun e w' => ∃ N, e = .returned (.pointer (some ⟨N, 0, none⟩)) ∧ w.heap.size ≤ N ∧ w'.heap[N]? = some (.cells #[.string fn, .string s, ev] 119 (0, 0)) ∧ Below w.heap.size w w' := Any.strconv_syntaxError Tryz.laysM279 fn s ev w hlim hv hev
def Tryz.laysC245_ren : Go.Shelf.Ren := ⟨fun | 245 => 95 | 279 => 97 | 280 => 98 | 281 => 99 | 282 => 100 | 316 => 102 | 171 => 104 | 205 => 103 | 243 => 107 | 246 => 108 | 283 => 109 | 284 => 110 | 285 => 111 | 286 => 112 | 129 => 114 | 317 => 113 | 318 => 115 | 319 => 116 | 320 => 117 | 337 => 118 | 338 => 119 | n => n, fun | 9 => 9 | 3 => 3 | 75 => 103 | 167 => 107 | 4 => 4 | 168 => 110 | 210 => 119 | 37 => 79 | 0 => 0 | 127 => 122 | 145 => 125 | 143 => 123 | 2 => 2 | 171 => 127 | 53 => 113 | 5 => 5 | 173 => 130 | 212 => 134 | 51 => 135 | 20 => 20 | 213 => 136 | 46 => 116 | 232 => 140 | 233 => 141 | 80 => 93 | n => n, fun | 15 => 2 | 16 => 3 | 17 => 4 | 18 => 5 | 19 => 6 | n => n⟩
theorem Tryz.laysC245 : Go.Proofs.LaysC.n245 Tryz.prog Tryz.laysC245_ren := {
 mixed := by kernel_rfl
 f129 := Tryz.func114.trans (congrArg some (by kernel_rfl))
 f171 := Tryz.func104.trans (congrArg some (by kernel_rfl))
 f205 := Tryz.func103.trans (congrArg some (by kernel_rfl))
 f243 := Tryz.func107.trans (congrArg some (by kernel_rfl))
 f245 := Tryz.func95.trans (congrArg some (by kernel_rfl))
 f246 := Tryz.func108.trans (congrArg some (by kernel_rfl))
 f279 := Tryz.func97.trans (congrArg some (by kernel_rfl))
 f280 := Tryz.func98.trans (congrArg some (by kernel_rfl))
 f281 := Tryz.func99.trans (congrArg some (by kernel_rfl))
 f282 := Tryz.func100.trans (congrArg some (by kernel_rfl))
 f283 := Tryz.func109.trans (congrArg some (by kernel_rfl))
 f284 := Tryz.func110.trans (congrArg some (by kernel_rfl))
 f285 := Tryz.func111.trans (congrArg some (by kernel_rfl))
 f286 := Tryz.func112.trans (congrArg some (by kernel_rfl))
 f316 := Tryz.func102.trans (congrArg some (by kernel_rfl))
 f317 := Tryz.func113.trans (congrArg some (by kernel_rfl))
 f318 := Tryz.func115.trans (congrArg some (by kernel_rfl))
 f319 := Tryz.func116.trans (congrArg some (by kernel_rfl))
 f320 := Tryz.func117.trans (congrArg some (by kernel_rfl))
 f337 := Tryz.func118.trans (congrArg some (by kernel_rfl))
 f338 := Tryz.func119.trans (congrArg some (by kernel_rfl))
 t0 := Tryz.underlying0
 a0 := Tryz.isAgg0
 z0 := Tryz.sizeOf0
 v0 := Tryz.zeroValue0
 t2 := Tryz.underlying2
 a2 := Tryz.isAgg2
 z2 := Tryz.sizeOf2
 v2 := Tryz.zeroValue2
 t3 := Tryz.underlying3
 a3 := Tryz.isAgg3
 z3 := Tryz.sizeOf3
 v3 := Tryz.zeroValue3
 t4 := Tryz.underlying4
 a4 := Tryz.isAgg4
 z4 := Tryz.sizeOf4
 v4 := Tryz.zeroValue4
 t5 := Tryz.underlying5
 a5 := Tryz.isAgg5
 z5 := Tryz.sizeOf5
 v5 := Tryz.zeroValue5
 t9 := Tryz.underlying9
 a9 := Tryz.isAgg9
 z9 := Tryz.sizeOf9
 v9 := Tryz.zeroValue9
 t20 := Tryz.underlying20
 a20 := Tryz.isAgg20
 z20 := Tryz.sizeOf20
 v20 := Tryz.zeroValue20
 t37 := Tryz.underlying79
 a37 := Tryz.isAgg79
 z37 := Tryz.sizeOf79
 v37 := Tryz.zeroValue79
 t46 := Tryz.underlying116
 a46 := Tryz.isAgg116
 z46 := Tryz.sizeOf116
 v46 := Tryz.zeroValue116
 t51 := Tryz.underlying135
 a51 := Tryz.isAgg135
 z51 := Tryz.sizeOf135
 v51 := Tryz.zeroValue135
 t53 := Tryz.underlying113
 a53 := Tryz.isAgg113
 z53 := Tryz.sizeOf113
 v53 := Tryz.zeroValue113
 t75 := Tryz.underlying103
 a75 := Tryz.isAgg103
 z75 := Tryz.sizeOf103
 v75 := Tryz.zeroValue103
 t127 := Tryz.underlying122
 a127 := Tryz.isAgg122
 z127 := Tryz.sizeOf122
 v127 := Tryz.zeroValue122
 t143 := Tryz.underlying123
 a143 := Tryz.isAgg123
 z143 := Tryz.sizeOf123
 v143 := Tryz.zeroValue123
 t145 := Tryz.underlying125
 a145 := Tryz.isAgg125
 z145 := Tryz.sizeOf125
 v145 := Tryz.zeroValue125
 t167 := Tryz.underlying107
 a167 := Tryz.isAgg107
 z167 := Tryz.sizeOf107
 v167 := Tryz.zeroValue107
 t168 := Tryz.underlying110
 a168 := Tryz.isAgg110
 z168 := Tryz.sizeOf110
 v168 := Tryz.zeroValue110
 t171 := Tryz.underlying127
 a171 := Tryz.isAgg127
 z171 := Tryz.sizeOf127
 v171 := Tryz.zeroValue127
 t173 := Tryz.underlying130
 a173 := Tryz.isAgg130
 z173 := Tryz.sizeOf130
 v173 := Tryz.zeroValue130
 t210 := Tryz.underlying119
 a210 := Tryz.isAgg119
 z210 := Tryz.sizeOf119
 v210 := Tryz.zeroValue119
 t212 := Tryz.underlying134
 a212 := Tryz.isAgg134
 z212 := Tryz.sizeOf134
 v212 := Tryz.zeroValue134
 t213 := Tryz.underlying136
 a213 := Tryz.isAgg136
 z213 := Tryz.sizeOf136
 t232 := Tryz.underlying140
 a232 := Tryz.isAgg140
 z232 := Tryz.sizeOf140
 v232 := Tryz.zeroValue140
 t233 := Tryz.underlying141
 a233 := Tryz.isAgg141
 z233 := Tryz.sizeOf141
 v233 := Tryz.zeroValue141
 g15 := by kernel_rfl
 g16 := by kernel_rfl
 g17 := by kernel_rfl
 g18 := by kernel_rfl
 g19 := by kernel_rfl
 t80 := Tryz.underlying93
 a80 := Tryz.isAgg93
 z80 := Tryz.sizeOf93
 v80 := Tryz.zeroValue93
 i0 := by kernel_rfl
 i2 := by kernel_rfl
 i3 := by kernel_rfl
 i4 := by kernel_rfl
 i5 := by kernel_rfl
 i9 := by kernel_rfl
 i20 := by kernel_rfl
 i37 := by kernel_rfl
 i46 := by kernel_rfl
 i51 := by kernel_rfl
 i53 := by kernel_rfl
 i75 := by kernel_rfl
 i80 := by kernel_rfl
 i127 := by kernel_rfl
 i143 := by kernel_rfl
 i145 := by kernel_rfl
 i167 := by kernel_rfl
 i168 := by kernel_rfl
 i171 := by kernel_rfl
 i173 := by kernel_rfl
 i210 := by kernel_rfl
 i212 := by kernel_rfl
 i232 := by kernel_rfl
 i233 := by kernel_rfl
 m15 := by kernel_rfl
 m16 := by kernel_rfl
 m17 := by kernel_rfl
 m18 := by kernel_rfl
 m19 := by kernel_rfl
 c0 := by kernel_rfl
 c2 := by kernel_rfl
 c3 := by kernel_rfl
 c4 := by kernel_rfl
 c5 := by kernel_rfl
 c9 := by kernel_rfl
 c20 := by kernel_rfl
 c37 := by kernel_rfl
 c46 := by kernel_rfl
 c51 := by kernel_rfl
 c53 := by kernel_rfl
 c75 := by kernel_rfl
 c80 := by kernel_rfl
 c127 := by kernel_rfl
 c143 := by kernel_rfl
 c145 := by kernel_rfl
 c167 := by kernel_rfl
 c168 := by kernel_rfl
 c171 := by kernel_rfl
 c173 := by kernel_rfl
 c210 := by kernel_rfl
 c212 := by kernel_rfl
 c213 := by kernel_rfl
 c232 := by kernel_rfl
 c233 := by kernel_rfl }
open Go.RowKit in
theorem Tryz.strconv_toError_syntax (fn s : ByteArray) (base bits : Int) (ev : Value) (w : World) (hlim : s.size ≤ 281474976710656) (hv : w.cell? ⟨2, 0, none⟩ = some ev) (hev : ev = .nilIface ∨ ∃ te pe, ev = .iface te pe) :
 Calls Tryz.prog 95 #[.string fn, .string s, .int .i64 base, .int .i64 bits, .iface 107 (.int .i64 2)] w fun e w' => ∃ N, e = .returned (.iface 110 (.pointer (some ⟨N, 0, none⟩))) ∧ w.heap.size ≤ N ∧ w'.heap[N]? = some (.cells #[.string fn, .string s, ev] 119 (0, 0)) ∧ Below w.heap.size w w' := Any.strconv_toError_syntax Tryz.laysC245 fn s base bits ev w hlim hv hev
def Tryz.lays321_ren : Go.Shelf.Ren := ⟨fun | 321 => 105 | n => n, fun | 5 => 5 | n => n, fun | n => n⟩
theorem Tryz.lays321 : Go.Proofs.Lays.n321 Tryz.prog Tryz.lays321_ren := {
 mixed := by kernel_rfl
 f321 := Tryz.func105.trans (congrArg some (by kernel_rfl))
 t5 := Tryz.underlying5
 a5 := Tryz.isAgg5
 z5 := Tryz.sizeOf5
 v5 := Tryz.zeroValue5 }
open Go.RowKit in
theorem Tryz.internal_strconv_lower (c : Int) (w : World) :
 Calls Tryz.prog 105 #[.int .u8 c] w fun e w' => e = .returned (.int .u8 (bits .or .u8 c 32)) ∧ w' = w := Any.internal_strconv_lower Tryz.lays321 c w
def Tryz.lays287_ren : Go.Shelf.Ren := ⟨fun | 287 => 101 | 321 => 105 | 322 => 106 | n => n, fun | 9 => 9 | 3 => 3 | 53 => 113 | 75 => 103 | 4 => 4 | 167 => 107 | 5 => 5 | 46 => 116 | 37 => 79 | 0 => 0 | 21 => 21 | 80 => 93 | n => n, fun | n => n⟩
theorem Tryz.lays287 : Go.Proofs.Lays.n287 Tryz.prog Tryz.lays287_ren := {
 mixed := by kernel_rfl
 f287 := Tryz.func101.trans (congrArg some (by kernel_rfl))
 f321 := Tryz.func105.trans (congrArg some (by kernel_rfl))
 f322 := Tryz.func106.trans (congrArg some (by kernel_rfl))
 t0 := Tryz.underlying0
 a0 := Tryz.isAgg0
 z0 := Tryz.sizeOf0
 v0 := Tryz.zeroValue0
 t3 := Tryz.underlying3
 a3 := Tryz.isAgg3
 z3 := Tryz.sizeOf3
 v3 := Tryz.zeroValue3
 t4 := Tryz.underlying4
 a4 := Tryz.isAgg4
 z4 := Tryz.sizeOf4
 v4 := Tryz.zeroValue4
 t5 := Tryz.underlying5
 a5 := Tryz.isAgg5
 z5 := Tryz.sizeOf5
 v5 := Tryz.zeroValue5
 t9 := Tryz.underlying9
 a9 := Tryz.isAgg9
 z9 := Tryz.sizeOf9
 v9 := Tryz.zeroValue9
 t21 := Tryz.underlying21
 a21 := Tryz.isAgg21
 z21 := Tryz.sizeOf21
 v21 := Tryz.zeroValue21
 t37 := Tryz.underlying79
 a37 := Tryz.isAgg79
 z37 := Tryz.sizeOf79
 v37 := Tryz.zeroValue79
 t46 := Tryz.underlying116
 a46 := Tryz.isAgg116
 z46 := Tryz.sizeOf116
 v46 := Tryz.zeroValue116
 t53 := Tryz.underlying113
 a53 := Tryz.isAgg113
 z53 := Tryz.sizeOf113
 v53 := Tryz.zeroValue113
 t75 := Tryz.underlying103
 a75 := Tryz.isAgg103
 z75 := Tryz.sizeOf103
 v75 := Tryz.zeroValue103
 t167 := Tryz.underlying107
 a167 := Tryz.isAgg107
 z167 := Tryz.sizeOf107
 v167 := Tryz.zeroValue107 }
open Go.RowKit in
theorem Tryz.internal_strconv_ParseUint_10 (t : ByteArray) (hne : t.size ≠ 0) (hmax : t.size ≤ 9223372036854775806) (w : World) :
 Calls Tryz.prog 101 #[.string t, .int .i64 10, .int .i64 0] w fun e w' => e = .returned (Lib.uintTuple 107 (Lib.parseUint10 0 t.data.toList)) ∧ w' = Lib.bytesWorld w 5 t := Any.internal_strconv_ParseUint_10 Tryz.lays287 t hne hmax w
open Go.RowKit in
theorem Tryz.internal_strconv_ParseUint_10_empty (w : World) :
 Calls Tryz.prog 101 #[.string ⟨#[]⟩, .int .i64 10, .int .i64 0] w fun e w' => e = .returned (Lib.uintTuple 107 .syntax) ∧ w' = w := Any.internal_strconv_ParseUint_10_empty Tryz.lays287 w
open Go.RowKit in
theorem Tryz.internal_strconv_ParseUint_10_any (t : ByteArray) (hmax : t.size ≤ 9223372036854775806) (w : World) :
 Calls Tryz.prog 101 #[.string t, .int .i64 10, .int .i64 0] w fun e w' => e = .returned (Lib.uintTuple 107 (Lib.parseMag t.data.toList)) ∧ (w' = w ∨ w' = Lib.bytesWorld w 5 t) := Any.internal_strconv_ParseUint_10_any Tryz.lays287 t hmax w
def Tryz.laysC247_ren : Go.Shelf.Ren := ⟨fun | 247 => 96 | 287 => 101 | 321 => 105 | 322 => 106 | n => n, fun | 9 => 9 | 3 => 3 | 2 => 2 | 75 => 103 | 4 => 4 | 167 => 107 | 5 => 5 | 53 => 113 | 175 => 114 | 46 => 116 | 37 => 79 | 0 => 0 | 21 => 21 | 80 => 93 | n => n, fun | n => n⟩
theorem Tryz.laysC247 : Go.Proofs.LaysC.n247 Tryz.prog Tryz.laysC247_ren := {
 mixed := by kernel_rfl
 f247 := Tryz.func96.trans (congrArg some (by kernel_rfl))
 f287 := Tryz.func101.trans (congrArg some (by kernel_rfl))
 f321 := Tryz.func105.trans (congrArg some (by kernel_rfl))
 f322 := Tryz.func106.trans (congrArg some (by kernel_rfl))
 t0 := Tryz.underlying0
 a0 := Tryz.isAgg0
 z0 := Tryz.sizeOf0
 v0 := Tryz.zeroValue0
 t2 := Tryz.underlying2
 a2 := Tryz.isAgg2
 z2 := Tryz.sizeOf2
 v2 := Tryz.zeroValue2
 t3 := Tryz.underlying3
 a3 := Tryz.isAgg3
 z3 := Tryz.sizeOf3
 v3 := Tryz.zeroValue3
 t4 := Tryz.underlying4
 a4 := Tryz.isAgg4
 z4 := Tryz.sizeOf4
 v4 := Tryz.zeroValue4
 t5 := Tryz.underlying5
 a5 := Tryz.isAgg5
 z5 := Tryz.sizeOf5
 v5 := Tryz.zeroValue5
 t9 := Tryz.underlying9
 a9 := Tryz.isAgg9
 z9 := Tryz.sizeOf9
 v9 := Tryz.zeroValue9
 t21 := Tryz.underlying21
 a21 := Tryz.isAgg21
 z21 := Tryz.sizeOf21
 v21 := Tryz.zeroValue21
 t37 := Tryz.underlying79
 a37 := Tryz.isAgg79
 z37 := Tryz.sizeOf79
 v37 := Tryz.zeroValue79
 t46 := Tryz.underlying116
 a46 := Tryz.isAgg116
 z46 := Tryz.sizeOf116
 v46 := Tryz.zeroValue116
 t53 := Tryz.underlying113
 a53 := Tryz.isAgg113
 z53 := Tryz.sizeOf113
 v53 := Tryz.zeroValue113
 t75 := Tryz.underlying103
 a75 := Tryz.isAgg103
 z75 := Tryz.sizeOf103
 v75 := Tryz.zeroValue103
 t167 := Tryz.underlying107
 a167 := Tryz.isAgg107
 z167 := Tryz.sizeOf107
 v167 := Tryz.zeroValue107
 t175 := Tryz.underlying114
 a175 := Tryz.isAgg114
 z175 := Tryz.sizeOf114
 v175 := Tryz.zeroValue114
 t80 := Tryz.underlying93
 a80 := Tryz.isAgg93
 z80 := Tryz.sizeOf93
 v80 := Tryz.zeroValue93
 i0 := by kernel_rfl
 i2 := by kernel_rfl
 i3 := by kernel_rfl
 i4 := by kernel_rfl
 i5 := by kernel_rfl
 i9 := by kernel_rfl
 i21 := by kernel_rfl
 i37 := by kernel_rfl
 i46 := by kernel_rfl
 i53 := by kernel_rfl
 i75 := by kernel_rfl
 i80 := by kernel_rfl
 i167 := by kernel_rfl
 i175 := by kernel_rfl
 c0 := by kernel_rfl
 c2 := by kernel_rfl
 c3 := by kernel_rfl
 c4 := by kernel_rfl
 c5 := by kernel_rfl
 c9 := by kernel_rfl
 c21 := by kernel_rfl
 c37 := by kernel_rfl
 c46 := by kernel_rfl
 c53 := by kernel_rfl
 c75 := by kernel_rfl
 c80 := by kernel_rfl
 c167 := by kernel_rfl
 c175 := by kernel_rfl }
open Go.RowKit in
theorem Tryz.internal_strconv_ParseInt_10 (s : ByteArray) (hne : s.size ≠ 0) (hmax : s.size ≤ 9223372036854775806) (w : World) :
 Calls Tryz.prog 96 #[.string s, .int .i64 10, .int .i64 0] w fun e w' => e = .returned (Lib.intTuple 107 (Lib.atoiSat s.data.toList) (Lib.atoiAll s.data.toList)) ∧ (w' = w ∨ ∃ t, w' = Lib.bytesWorld w 5 t) := Any.internal_strconv_ParseInt_10 Tryz.laysC247 s hne hmax w
def Tryz.laysC244_ren : Go.Shelf.Ren := ⟨fun | 244 => 94 | 247 => 96 | 287 => 101 | 321 => 105 | 322 => 106 | n => n, fun | 9 => 9 | 3 => 3 | 75 => 103 | 4 => 4 | 5 => 5 | 167 => 107 | 37 => 79 | 0 => 0 | 85 => 108 | 2 => 2 | 53 => 113 | 175 => 114 | 46 => 116 | 21 => 21 | 80 => 93 | n => n, fun | n => n⟩
theorem Tryz.laysC244 : Go.Proofs.LaysC.n244 Tryz.prog Tryz.laysC244_ren := {
 mixed := by kernel_rfl
 f244 := Tryz.func94.trans (congrArg some (by kernel_rfl))
 f247 := Tryz.func96.trans (congrArg some (by kernel_rfl))
 f287 := Tryz.func101.trans (congrArg some (by kernel_rfl))
 f321 := Tryz.func105.trans (congrArg some (by kernel_rfl))
 f322 := Tryz.func106.trans (congrArg some (by kernel_rfl))
 t0 := Tryz.underlying0
 a0 := Tryz.isAgg0
 z0 := Tryz.sizeOf0
 v0 := Tryz.zeroValue0
 t2 := Tryz.underlying2
 a2 := Tryz.isAgg2
 z2 := Tryz.sizeOf2
 v2 := Tryz.zeroValue2
 t3 := Tryz.underlying3
 a3 := Tryz.isAgg3
 z3 := Tryz.sizeOf3
 v3 := Tryz.zeroValue3
 t4 := Tryz.underlying4
 a4 := Tryz.isAgg4
 z4 := Tryz.sizeOf4
 v4 := Tryz.zeroValue4
 t5 := Tryz.underlying5
 a5 := Tryz.isAgg5
 z5 := Tryz.sizeOf5
 v5 := Tryz.zeroValue5
 t9 := Tryz.underlying9
 a9 := Tryz.isAgg9
 z9 := Tryz.sizeOf9
 v9 := Tryz.zeroValue9
 t21 := Tryz.underlying21
 a21 := Tryz.isAgg21
 z21 := Tryz.sizeOf21
 v21 := Tryz.zeroValue21
 t37 := Tryz.underlying79
 a37 := Tryz.isAgg79
 z37 := Tryz.sizeOf79
 v37 := Tryz.zeroValue79
 t46 := Tryz.underlying116
 a46 := Tryz.isAgg116
 z46 := Tryz.sizeOf116
 v46 := Tryz.zeroValue116
 t53 := Tryz.underlying113
 a53 := Tryz.isAgg113
 z53 := Tryz.sizeOf113
 v53 := Tryz.zeroValue113
 t75 := Tryz.underlying103
 a75 := Tryz.isAgg103
 z75 := Tryz.sizeOf103
 v75 := Tryz.zeroValue103
 t85 := Tryz.underlying108
 a85 := Tryz.isAgg108
 z85 := Tryz.sizeOf108
 v85 := Tryz.zeroValue108
 t167 := Tryz.underlying107
 a167 := Tryz.isAgg107
 z167 := Tryz.sizeOf107
 v167 := Tryz.zeroValue107
 t175 := Tryz.underlying114
 a175 := Tryz.isAgg114
 z175 := Tryz.sizeOf114
 v175 := Tryz.zeroValue114
 t80 := Tryz.underlying93
 a80 := Tryz.isAgg93
 z80 := Tryz.sizeOf93
 v80 := Tryz.zeroValue93
 i0 := by kernel_rfl
 i2 := by kernel_rfl
 i3 := by kernel_rfl
 i4 := by kernel_rfl
 i5 := by kernel_rfl
 i9 := by kernel_rfl
 i21 := by kernel_rfl
 i37 := by kernel_rfl
 i46 := by kernel_rfl
 i53 := by kernel_rfl
 i75 := by kernel_rfl
 i80 := by kernel_rfl
 i85 := by kernel_rfl
 i167 := by kernel_rfl
 i175 := by kernel_rfl
 c0 := by kernel_rfl
 c2 := by kernel_rfl
 c3 := by kernel_rfl
 c4 := by kernel_rfl
 c5 := by kernel_rfl
 c9 := by kernel_rfl
 c21 := by kernel_rfl
 c37 := by kernel_rfl
 c46 := by kernel_rfl
 c53 := by kernel_rfl
 c75 := by kernel_rfl
 c80 := by kernel_rfl
 c85 := by kernel_rfl
 c167 := by kernel_rfl
 c175 := by kernel_rfl }
open Go.RowKit in
theorem Tryz.internal_strconv_Atoi_long (s : ByteArray) (h19 : 19 ≤ s.size) (hmax : s.size ≤ 9223372036854775806) (w : World) :
 Calls Tryz.prog 94 #[.string s] w fun e w' => e = .returned (Lib.intTuple 107 (Lib.atoiSat s.data.toList) (Lib.atoiAll s.data.toList)) ∧ (w' = w ∨ ∃ t, w' = Lib.bytesWorld w 5 t) := Any.internal_strconv_Atoi_long Tryz.laysC244 s h19 hmax w
open Go.RowKit in
theorem Tryz.internal_strconv_Atoi_all (s : ByteArray) (hmax : s.size ≤ 9223372036854775806) (w : World) :
 Calls Tryz.prog 94 #[.string s] w fun e w' => e = .returned (Lib.intTuple 107 (Lib.atoiSat s.data.toList) (Lib.atoiAll s.data.toList)) ∧ (w' = w ∨ ∃ t, w' = Lib.bytesWorld w 5 t) := Any.internal_strconv_Atoi_all Tryz.laysC244 s hmax w
def Tryz.laysM280_ren : Go.Shelf.Ren := ⟨fun | 280 => 98 | 316 => 102 | n => n, fun | 9 => 9 | 168 => 110 | 75 => 103 | 210 => 119 | 3 => 3 | 4 => 4 | 37 => 79 | 0 => 0 | 127 => 122 | 80 => 93 | 5 => 5 | n => n, fun | 16 => 3 | n => n⟩
theorem Tryz.laysM280 : Go.Proofs.LaysM.n280 Tryz.prog Tryz.laysM280_ren := {
 mixed := by kernel_rfl
 f280 := Tryz.func98.trans (congrArg some (by kernel_rfl))
 f316 := Tryz.func102.trans (congrArg some (by kernel_rfl))
 t0 := Tryz.underlying0
 a0 := Tryz.isAgg0
 z0 := Tryz.sizeOf0
 v0 := Tryz.zeroValue0
 t3 := Tryz.underlying3
 a3 := Tryz.isAgg3
 z3 := Tryz.sizeOf3
 v3 := Tryz.zeroValue3
 t4 := Tryz.underlying4
 a4 := Tryz.isAgg4
 z4 := Tryz.sizeOf4
 v4 := Tryz.zeroValue4
 t9 := Tryz.underlying9
 a9 := Tryz.isAgg9
 z9 := Tryz.sizeOf9
 v9 := Tryz.zeroValue9
 t37 := Tryz.underlying79
 a37 := Tryz.isAgg79
 z37 := Tryz.sizeOf79
 v37 := Tryz.zeroValue79
 t75 := Tryz.underlying103
 a75 := Tryz.isAgg103
 z75 := Tryz.sizeOf103
 v75 := Tryz.zeroValue103
 t127 := Tryz.underlying122
 a127 := Tryz.isAgg122
 z127 := Tryz.sizeOf122
 v127 := Tryz.zeroValue122
 t168 := Tryz.underlying110
 a168 := Tryz.isAgg110
 z168 := Tryz.sizeOf110
 v168 := Tryz.zeroValue110
 t210 := Tryz.underlying119
 a210 := Tryz.isAgg119
 z210 := Tryz.sizeOf119
 v210 := Tryz.zeroValue119
 g16 := by kernel_rfl
 t5 := Tryz.underlying5
 a5 := Tryz.isAgg5
 z5 := Tryz.sizeOf5
 v5 := Tryz.zeroValue5
 t80 := Tryz.underlying93
 a80 := Tryz.isAgg93
 z80 := Tryz.sizeOf93
 v80 := Tryz.zeroValue93
 i0 := by kernel_rfl
 i3 := by kernel_rfl
 i4 := by kernel_rfl
 i5 := by kernel_rfl
 i9 := by kernel_rfl
 i37 := by kernel_rfl
 i75 := by kernel_rfl
 i80 := by kernel_rfl
 i127 := by kernel_rfl
 i168 := by kernel_rfl
 i210 := by kernel_rfl
 m16 := by kernel_rfl }
open Go.RowKit in
theorem Tryz.strconv_rangeError (fn s : ByteArray) (ev : Value) (w : World) (hlim : s.size ≤ 281474976710656) (hv : w.cell? ⟨3, 0, none⟩ = some ev) (hev : ev = .nilIface ∨ ∃ te pe, ev = .iface te pe) :
 Calls Tryz.prog 98 #[.string fn, .string s] w fun e w' => ∃ N, e = .returned (.pointer (some ⟨N, 0, none⟩)) ∧ w.heap.size ≤ N ∧ w'.heap[N]? = some (.cells #[.string fn, .string s, ev] 119 (0, 0)) ∧ Below w.heap.size w w' := Any.strconv_rangeError Tryz.laysM280 fn s ev w hlim hv hev
open Go.RowKit in
theorem Tryz.strconv_toError_range (fn s : ByteArray) (base bits : Int) (ev : Value) (w : World) (hlim : s.size ≤ 281474976710656) (hv : w.cell? ⟨3, 0, none⟩ = some ev) (hev : ev = .nilIface ∨ ∃ te pe, ev = .iface te pe) :
 Calls Tryz.prog 95 #[.string fn, .string s, .int .i64 base, .int .i64 bits, .iface 107 (.int .i64 1)] w fun e w' => ∃ N, e = .returned (.iface 110 (.pointer (some ⟨N, 0, none⟩))) ∧ w.heap.size ≤ N ∧ w'.heap[N]? = some (.cells #[.string fn, .string s, ev] 119 (0, 0)) ∧ Below w.heap.size w w' := Any.strconv_toError_range Tryz.laysC245 fn s base bits ev w hlim hv hev
def Tryz.laysC172_ren : Go.Shelf.Ren := ⟨fun | 172 => 93 | 244 => 94 | 245 => 95 | 247 => 96 | 279 => 97 | 280 => 98 | 281 => 99 | 282 => 100 | 287 => 101 | 316 => 102 | 171 => 104 | 205 => 103 | 321 => 105 | 322 => 106 | 243 => 107 | 246 => 108 | 283 => 109 | 284 => 110 | 285 => 111 | 286 => 112 | 129 => 114 | 317 => 113 | 318 => 115 | 319 => 116 | 320 => 117 | 337 => 118 | 338 => 119 | n => n, fun | 9 => 9 | 3 => 3 | 75 => 103 | 76 => 104 | 4 => 4 | 5 => 5 | 167 => 107 | 37 => 79 | 0 => 0 | 85 => 108 | 2 => 2 | 168 => 110 | 53 => 113 | 175 => 114 | 46 => 116 | 210 => 119 | 127 => 122 | 145 => 125 | 143 => 123 | 21 => 21 | 171 => 127 | 173 => 130 | 212 => 134 | 51 => 135 | 20 => 20 | 213 => 136 | 232 => 140 | 233 => 141 | 80 => 93 | n => n, fun | 15 => 2 | 16 => 3 | 17 => 4 | 18 => 5 | 19 => 6 | n => n⟩
theorem Tryz.laysC172 : Go.Proofs.LaysC.n172 Tryz.prog Tryz.laysC172_ren := {
 mixed := by kernel_rfl
 f129 := Tryz.func114.trans (congrArg some (by kernel_rfl))
 f171 := Tryz.func104.trans (congrArg some (by kernel_rfl))
 f172 := Tryz.func93.trans (congrArg some (by kernel_rfl))
 f205 := Tryz.func103.trans (congrArg some (by kernel_rfl))
 f243 := Tryz.func107.trans (congrArg some (by kernel_rfl))
 f244 := Tryz.func94.trans (congrArg some (by kernel_rfl))
 f245 := Tryz.func95.trans (congrArg some (by kernel_rfl))
 f246 := Tryz.func108.trans (congrArg some (by kernel_rfl))
 f247 := Tryz.func96.trans (congrArg some (by kernel_rfl))
 f279 := Tryz.func97.trans (congrArg some (by kernel_rfl))
 f280 := Tryz.func98.trans (congrArg some (by kernel_rfl))
 f281 := Tryz.func99.trans (congrArg some (by kernel_rfl))
 f282 := Tryz.func100.trans (congrArg some (by kernel_rfl))
 f283 := Tryz.func109.trans (congrArg some (by kernel_rfl))
 f284 := Tryz.func110.trans (congrArg some (by kernel_rfl))
 f285 := Tryz.func111.trans (congrArg some (by kernel_rfl))
 f286 := Tryz.func112.trans (congrArg some (by kernel_rfl))
 f287 := Tryz.func101.trans (congrArg some (by kernel_rfl))
 f316 := Tryz.func102.trans (congrArg some (by kernel_rfl))
 f317 := Tryz.func113.trans (congrArg some (by kernel_rfl))
 f318 := Tryz.func115.trans (congrArg some (by kernel_rfl))
 f319 := Tryz.func116.trans (congrArg some (by kernel_rfl))
 f320 := Tryz.func117.trans (congrArg some (by kernel_rfl))
 f321 := Tryz.func105.trans (congrArg some (by kernel_rfl))
 f322 := Tryz.func106.trans (congrArg some (by kernel_rfl))
 f337 := Tryz.func118.trans (congrArg some (by kernel_rfl))
 f338 := Tryz.func119.trans (congrArg some (by kernel_rfl))
 t0 := Tryz.underlying0
 a0 := Tryz.isAgg0
 z0 := Tryz.sizeOf0
 v0 := Tryz.zeroValue0
 t2 := Tryz.underlying2
 a2 := Tryz.isAgg2
 z2 := Tryz.sizeOf2
 v2 := Tryz.zeroValue2
 t3 := Tryz.underlying3
 a3 := Tryz.isAgg3
 z3 := Tryz.sizeOf3
 v3 := Tryz.zeroValue3
 t4 := Tryz.underlying4
 a4 := Tryz.isAgg4
 z4 := Tryz.sizeOf4
 v4 := Tryz.zeroValue4
 t5 := Tryz.underlying5
 a5 := Tryz.isAgg5
 z5 := Tryz.sizeOf5
 v5 := Tryz.zeroValue5
 t9 := Tryz.underlying9
 a9 := Tryz.isAgg9
 z9 := Tryz.sizeOf9
 v9 := Tryz.zeroValue9
 t20 := Tryz.underlying20
 a20 := Tryz.isAgg20
 z20 := Tryz.sizeOf20
 v20 := Tryz.zeroValue20
 t21 := Tryz.underlying21
 a21 := Tryz.isAgg21
 z21 := Tryz.sizeOf21
 v21 := Tryz.zeroValue21
 t37 := Tryz.underlying79
 a37 := Tryz.isAgg79
 z37 := Tryz.sizeOf79
 v37 := Tryz.zeroValue79
 t46 := Tryz.underlying116
 a46 := Tryz.isAgg116
 z46 := Tryz.sizeOf116
 v46 := Tryz.zeroValue116
 t51 := Tryz.underlying135
 a51 := Tryz.isAgg135
 z51 := Tryz.sizeOf135
 v51 := Tryz.zeroValue135
 t53 := Tryz.underlying113
 a53 := Tryz.isAgg113
 z53 := Tryz.sizeOf113
 v53 := Tryz.zeroValue113
 t75 := Tryz.underlying103
 a75 := Tryz.isAgg103
 z75 := Tryz.sizeOf103
 v75 := Tryz.zeroValue103
 t76 := Tryz.underlying104
 a76 := Tryz.isAgg104
 z76 := Tryz.sizeOf104
 v76 := Tryz.zeroValue104
 t85 := Tryz.underlying108
 a85 := Tryz.isAgg108
 z85 := Tryz.sizeOf108
 v85 := Tryz.zeroValue108
 t127 := Tryz.underlying122
 a127 := Tryz.isAgg122
 z127 := Tryz.sizeOf122
 v127 := Tryz.zeroValue122
 t143 := Tryz.underlying123
 a143 := Tryz.isAgg123
 z143 := Tryz.sizeOf123
 v143 := Tryz.zeroValue123
 t145 := Tryz.underlying125
 a145 := Tryz.isAgg125
 z145 := Tryz.sizeOf125
 v145 := Tryz.zeroValue125
 t167 := Tryz.underlying107
 a167 := Tryz.isAgg107
 z167 := Tryz.sizeOf107
 v167 := Tryz.zeroValue107
 t168 := Tryz.underlying110
 a168 := Tryz.isAgg110
 z168 := Tryz.sizeOf110
 v168 := Tryz.zeroValue110
 t171 := Tryz.underlying127
 a171 := Tryz.isAgg127
 z171 := Tryz.sizeOf127
 v171 := Tryz.zeroValue127
 t173 := Tryz.underlying130
 a173 := Tryz.isAgg130
 z173 := Tryz.sizeOf130
 v173 := Tryz.zeroValue130
 t175 := Tryz.underlying114
 a175 := Tryz.isAgg114
 z175 := Tryz.sizeOf114
 v175 := Tryz.zeroValue114
 t210 := Tryz.underlying119
 a210 := Tryz.isAgg119
 z210 := Tryz.sizeOf119
 v210 := Tryz.zeroValue119
 t212 := Tryz.underlying134
 a212 := Tryz.isAgg134
 z212 := Tryz.sizeOf134
 v212 := Tryz.zeroValue134
 t213 := Tryz.underlying136
 a213 := Tryz.isAgg136
 z213 := Tryz.sizeOf136
 t232 := Tryz.underlying140
 a232 := Tryz.isAgg140
 z232 := Tryz.sizeOf140
 v232 := Tryz.zeroValue140
 t233 := Tryz.underlying141
 a233 := Tryz.isAgg141
 z233 := Tryz.sizeOf141
 v233 := Tryz.zeroValue141
 g15 := by kernel_rfl
 g16 := by kernel_rfl
 g17 := by kernel_rfl
 g18 := by kernel_rfl
 g19 := by kernel_rfl
 t80 := Tryz.underlying93
 a80 := Tryz.isAgg93
 z80 := Tryz.sizeOf93
 v80 := Tryz.zeroValue93
 i0 := by kernel_rfl
 i2 := by kernel_rfl
 i3 := by kernel_rfl
 i4 := by kernel_rfl
 i5 := by kernel_rfl
 i9 := by kernel_rfl
 i20 := by kernel_rfl
 i21 := by kernel_rfl
 i37 := by kernel_rfl
 i46 := by kernel_rfl
 i51 := by kernel_rfl
 i53 := by kernel_rfl
 i75 := by kernel_rfl
 i76 := by kernel_rfl
 i80 := by kernel_rfl
 i85 := by kernel_rfl
 i127 := by kernel_rfl
 i143 := by kernel_rfl
 i145 := by kernel_rfl
 i167 := by kernel_rfl
 i168 := by kernel_rfl
 i171 := by kernel_rfl
 i173 := by kernel_rfl
 i175 := by kernel_rfl
 i210 := by kernel_rfl
 i212 := by kernel_rfl
 i232 := by kernel_rfl
 i233 := by kernel_rfl
 m15 := by kernel_rfl
 m16 := by kernel_rfl
 m17 := by kernel_rfl
 m18 := by kernel_rfl
 m19 := by kernel_rfl
 c0 := by kernel_rfl
 c2 := by kernel_rfl
 c3 := by kernel_rfl
 c4 := by kernel_rfl
 c5 := by kernel_rfl
 c9 := by kernel_rfl
 c20 := by kernel_rfl
 c21 := by kernel_rfl
 c37 := by kernel_rfl
 c46 := by kernel_rfl
 c51 := by kernel_rfl
 c53 := by kernel_rfl
 c75 := by kernel_rfl
 c76 := by kernel_rfl
 c80 := by kernel_rfl
 c85 := by kernel_rfl
 c127 := by kernel_rfl
 c143 := by kernel_rfl
 c145 := by kernel_rfl
 c167 := by kernel_rfl
 c168 := by kernel_rfl
 c171 := by kernel_rfl
 c173 := by kernel_rfl
 c175 := by kernel_rfl
 c210 := by kernel_rfl
 c212 := by kernel_rfl
 c213 := by kernel_rfl
 c232 := by kernel_rfl
 c233 := by kernel_rfl }
open Go.RowKit in
theorem Tryz.strconv_Atoi_ok (s : ByteArray) (hmax : s.size ≤ 9223372036854775806) (v : Int) (h : Lib.atoiAll s.data.toList = .ok v) (w : World) :
 Calls Tryz.prog 93 #[.string s] w fun e w' => e = .returned (.tuple #[.int .i64 v, .nilIface]) ∧ (w' = w ∨ ∃ t, w' = Lib.bytesWorld w 5 t) := Any.strconv_Atoi_ok Tryz.laysC172 s hmax v h w
open Go.RowKit in
theorem Tryz.strconv_Atoi_syntax (s : ByteArray) (hlim : s.size ≤ 281474976710656) (h : Lib.atoiAll s.data.toList = .«syntax») (ev : Value) (w : World) (hv : w.cell? ⟨2, 0, none⟩ = some ev) (hev : ev = .nilIface ∨ ∃ te pe, ev = .iface te pe) :
 Calls Tryz.prog 93 #[.string s] w fun e w' => ∃ N, e = .returned (.tuple #[.int .i64 (0), .iface 110 (.pointer (some ⟨N, 0, none⟩))]) ∧ w.heap.size ≤ N ∧ w'.heap[N]? = some (.cells #[.string ⟨#[65, 116, 111, 105]⟩, .string s, ev] 119 (0, 0)) ∧ Below w.heap.size w w' := Any.strconv_Atoi_syntax Tryz.laysC172 s hlim h ev w hv hev
open Go.RowKit in
theorem Tryz.strconv_Atoi_range (s : ByteArray) (hlim : s.size ≤ 281474976710656) (h : Lib.atoiAll s.data.toList = .range) (ev : Value) (w : World) (hv : w.cell? ⟨3, 0, none⟩ = some ev) (hev : ev = .nilIface ∨ ∃ te pe, ev = .iface te pe) :
 Calls Tryz.prog 93 #[.string s] w fun e w' => ∃ N, e = .returned (.tuple #[.int .i64 (Lib.atoiSat s.data.toList), .iface 110 (.pointer (some ⟨N, 0, none⟩))]) ∧ w.heap.size ≤ N ∧ w'.heap[N]? = some (.cells #[.string ⟨#[65, 116, 111, 105]⟩, .string s, ev] 119 (0, 0)) ∧ Below w.heap.size w w' := Any.strconv_Atoi_range Tryz.laysC172 s hlim h ev w hv hev
open Go.RowKit in
theorem Tryz.strconv_Atoi_syntax_var (s : ByteArray) (hlim : s.size ≤ 281474976710656) (h : Lib.atoiAll s.data.toList = .«syntax») (tp : TypeId) (p : Value) (w : World) (hvar : w.var? Tryz.prog "strconv.ErrSyntax" = some #[.iface tp p]) :
 Calls Tryz.prog 93 #[.string s] w fun e w' => ∃ N, e = .returned (.tuple #[.int .i64 0, .iface 110 (.pointer (some ⟨N, 0, none⟩))]) ∧ w.heap.size ≤ N ∧ w'.heap[N]? = some (.cells #[.string ⟨#[65, 116, 111, 105]⟩, .string s, .iface tp p] 119 (0, 0)) ∧ Below w.heap.size w w' := Any.strconv_Atoi_syntax_var Tryz.laysC172 s hlim h tp p w hvar
open Go.RowKit in
theorem Tryz.strconv_Atoi_range_var (s : ByteArray) (hlim : s.size ≤ 281474976710656) (h : Lib.atoiAll s.data.toList = .range) (tp : TypeId) (p : Value) (w : World) (hvar : w.var? Tryz.prog "strconv.ErrRange" = some #[.iface tp p]) :
 Calls Tryz.prog 93 #[.string s] w fun e w' => ∃ N, e = .returned (.tuple #[.int .i64 (Lib.atoiSat s.data.toList), .iface 110 (.pointer (some ⟨N, 0, none⟩))]) ∧ w.heap.size ≤ N ∧ w'.heap[N]? = some (.cells #[.string ⟨#[65, 116, 111, 105]⟩, .string s, .iface tp p] 119 (0, 0)) ∧ Below w.heap.size w w' := Any.strconv_Atoi_range_var Tryz.laysC172 s hlim h tp p w hvar
def Tryz.lays217_ren : Go.Shelf.Ren := ⟨fun | 217 => 88 | 266 => 90 | n => n, fun | 9 => 9 | 5 => 5 | 3 => 3 | n => n, fun | n => n⟩
theorem Tryz.lays217 : Go.Proofs.Lays.n217 Tryz.prog Tryz.lays217_ren := {
 mixed := by kernel_rfl
 f217 := Tryz.func88.trans (congrArg some (by kernel_rfl))
 f266 := Tryz.func90.trans (congrArg some (by kernel_rfl))
 t3 := Tryz.underlying3
 a3 := Tryz.isAgg3
 z3 := Tryz.sizeOf3
 v3 := Tryz.zeroValue3
 t5 := Tryz.underlying5
 a5 := Tryz.isAgg5
 z5 := Tryz.sizeOf5
 v5 := Tryz.zeroValue5
 t9 := Tryz.underlying9
 a9 := Tryz.isAgg9
 z9 := Tryz.sizeOf9
 v9 := Tryz.zeroValue9 }
open Go.RowKit Go.Lib in
theorem Tryz.stringslite_IndexByte (s : ByteArray) (c : Int) (w : World) :
 Calls Tryz.prog 88 #[.string s, .int .u8 c] w fun e w' => e = .returned (.int .i64 (Lib.indexByte s.data.toList c.toNat.toUInt8)) ∧ w' = w := Any.stringslite_IndexByte Tryz.lays217 s c w
def Tryz.lays206_ren : Go.Shelf.Ren := ⟨fun | 206 => 87 | n => n, fun | 9 => 9 | 4 => 4 | 3 => 3 | n => n, fun | n => n⟩
theorem Tryz.lays206 : Go.Proofs.Lays.n206 Tryz.prog Tryz.lays206_ren := {
 mixed := by kernel_rfl
 f206 := Tryz.func87.trans (congrArg some (by kernel_rfl))
 t3 := Tryz.underlying3
 a3 := Tryz.isAgg3
 z3 := Tryz.sizeOf3
 v3 := Tryz.zeroValue3
 t4 := Tryz.underlying4
 a4 := Tryz.isAgg4
 z4 := Tryz.sizeOf4
 v4 := Tryz.zeroValue4
 t9 := Tryz.underlying9
 a9 := Tryz.isAgg9
 z9 := Tryz.sizeOf9
 v9 := Tryz.zeroValue9 }
open Go.RowKit Go.Lib in
theorem Tryz.stringslite_HasPrefix (s p : ByteArray) (w : World) :
 Calls Tryz.prog 87 #[.string s, .string p] w fun e w' => e = .returned (.bool (Lib.hasPrefix s.data.toList p.data.toList)) ∧ w' = w := Any.stringslite_HasPrefix Tryz.lays206 s p w
def Tryz.lays99_ren : Go.Shelf.Ren := ⟨fun | 99 => 83 | 206 => 87 | n => n, fun | 9 => 9 | 4 => 4 | 3 => 3 | n => n, fun | n => n⟩
theorem Tryz.lays99 : Go.Proofs.Lays.n99 Tryz.prog Tryz.lays99_ren := {
 mixed := by kernel_rfl
 f99 := Tryz.func83.trans (congrArg some (by kernel_rfl))
 f206 := Tryz.func87.trans (congrArg some (by kernel_rfl))
 t3 := Tryz.underlying3
 a3 := Tryz.isAgg3
 z3 := Tryz.sizeOf3
 v3 := Tryz.zeroValue3
 t4 := Tryz.underlying4
 a4 := Tryz.isAgg4
 z4 := Tryz.sizeOf4
 v4 := Tryz.zeroValue4
 t9 := Tryz.underlying9
 a9 := Tryz.isAgg9
 z9 := Tryz.sizeOf9
 v9 := Tryz.zeroValue9 }
open Go.RowKit Go.Lib in
theorem Tryz.strings_HasPrefix (s p : ByteArray) (w : World) :
 Calls Tryz.prog 83 #[.string s, .string p] w fun e w' => e = .returned (.bool (Lib.hasPrefix s.data.toList p.data.toList)) ∧ w' = w := Any.strings_HasPrefix Tryz.lays99 s p w
end Go.Proofs
namespace Bk
open Go Go.RowKit Go.Proofs
theorem ret_int {k : IntKind} {a b : Int} (h : a = b) : Ending.returned (.int k a) = .returned (.int k b) := by rw [h]
theorem ret_bool {a b : Bool} (h : a = b) : Ending.returned (.bool a) = .returned (.bool b) := by rw [h]
theorem arith_Level_c (k : Int) (w : World) (h0 : 0 ≤ k) (h1 : k ≤ 255) : Calls Tryz.prog 86 #[.int .u8 k] w fun e w' => e = .returned (.int .i64 (level k)) ∧ w = w' := by
 go_enter Tryz.func86, Tryz.ntmps86
 go_wp2_with fail
 all_goals go_ret
 all_goals (refine ⟨ret_int ?_, rfl⟩; (try simp only [beq_iff_eq, beq_eq_false_iff_ne, ne_eq, bne_iff_ne, decide_eq_true_eq, decide_eq_false_iff_not] at *); first | (subst k; rfl) | (unfold level; (repeat' split) <;> omega))
structure Syms (w : World) : Prop where
 sym : ∀ i, i < 43 → w.cell? ⟨0, i, none⟩ = some (str (symbols.getD i []))
theorem Syms.ext {w w' : World} (h : Syms w) (x : Ext w w') : Syms w' := ⟨fun i hi => x.keep (h.sym i hi)⟩
theorem Syms.fr {S : Nat → Prop} {w w' : World} (h : Syms w) (x : Fr S w w') (hs : ∀ k, S k → 0 < k) : Syms w' := ⟨fun i hi => x.keep (fun e => by have := hs _ e; omega) (h.sym i hi)⟩
theorem symbol_out (k : Int) (h : 43 ≤ k) : symbol k = [] := by
 unfold symbol
 rw [List.getD_eq_getElem?_getD, List.getElem?_eq_none (show 43 ≤ k.toNat by omega)]
 rfl
theorem arith_Symbol_s (k : Int) (w : World) (h0 : 0 ≤ k) (h1 : k ≤ 255) (ht : Syms w) : Calls Tryz.prog 57 #[.int .u8 k] w fun e w' => e = .returned (str (symbol k)) ∧ w = w' := by
 by_cases hk : k < 43
 · have g := ht.sym k.toNat (by omega)
   have G : Hid (symbols.getD k.toNat [] = symbol k) := Lib.hid rfl; clear ht
   go_enter Tryz.func57, Tryz.ntmps57
   go_wp2_with fail
   go_ret
   rw [← G.out]
   exact ⟨by simp [go_sem], rfl⟩
 · have hn := symbol_out k (by omega)
   have HN := Lib.hid hn; clear hn ht
   go_enter Tryz.func57, Tryz.ntmps57
   go_wp2_with fail
   go_ret
   rw [HN.out]
   exact ⟨rfl, rfl⟩
end Bk
namespace Bk
open Go Go.RowKit Go.Proofs
theorem letter_c (c : UInt8) (w : World) : Calls Tryz.prog 68 #[.int .u8 c.toNat] w fun e w' => e = .returned (.bool (letter c)) ∧ w = w' := by
 go_enter Tryz.func68, Tryz.ntmps68
 go_wp2_with fail
 all_goals go_ret
 all_goals (refine ⟨ret_bool ?_, rfl⟩; unfold letter; rw [Bool.eq_iff_iff]; simp; try omega)
theorem digit_c (c : UInt8) (w : World) : Calls Tryz.prog 71 #[.int .u8 c.toNat] w fun e w' => e = .returned (.bool (digit c)) ∧ w = w' := by
 go_enter Tryz.func71, Tryz.ntmps71
 go_wp2_with fail
 all_goals go_ret
 all_goals (refine ⟨ret_bool ?_, rfl⟩; unfold digit; rw [Bool.eq_iff_iff]; simp; try omega)
theorem blank_c (c : UInt8) (w : World) : Calls Tryz.prog 72 #[.int .u8 c.toNat] w fun e w' => e = .returned (.bool (blank c)) ∧ w = w' := by
 go_enter Tryz.func72, Tryz.ntmps72
 go_wp2_with fail
 all_goals go_ret
 all_goals (refine ⟨ret_bool ?_, rfl⟩; unfold blank; rw [Bool.eq_iff_iff]; simp; try omega)
theorem notLf_c (c : UInt8) (w : World) : Calls Tryz.prog 73 #[.int .u8 c.toNat] w fun e w' => e = .returned (.bool (notLf c)) ∧ w = w' := by
 go_enter Tryz.func73, Tryz.ntmps73
 go_wp2_with fail
 all_goals go_ret
 all_goals (refine ⟨ret_bool ?_, rfl⟩; unfold notLf; rw [Bool.eq_iff_iff]; simp; try omega)
theorem wordish_c (c : UInt8) (w : World) : Calls Tryz.prog 70 #[.int .u8 c.toNat] w fun e w' => e = .returned (.bool (wordish c)) ∧ w = w' := by
 go_enter Tryz.func70, Tryz.ntmps70
 cases hl : letter c
 all_goals have HL := Lib.hid hl; clear hl
 all_goals go_wp2_with (first | (go_at_call 68; refine (letter_c c _).mono ?_; rintro e w' ⟨rfl, rfl⟩; rw [HL.out]) | (go_at_call 71; refine (digit_c c _).mono ?_; rintro e w' ⟨rfl, rfl⟩))
 all_goals go_ret
 all_goals (refine ⟨ret_bool ?_, rfl⟩; unfold wordish; rw [HL.out]; simp)
theorem span_c (f : FuncId) (p : UInt8 → Bool) (hp : ∀ (c : UInt8) (w : World), Calls Tryz.prog f #[.int .u8 c.toNat] w fun e w' => e = .returned (.bool (p c)) ∧ w = w')
 (he : ∀ args w, (callFunc f args).run Tryz.prog w = .ok (.enter f args) w) (s : List UInt8) (w : World) (hs : s.length ≤ 9223372036854775807) :
 Calls Tryz.prog 69 #[str s, .func (.func f) #[] #[]] w fun e w' => e = .returned (.int .i64 (span p s)) ∧ w = w' := by
 have HP := Lib.hid hp; clear hp
 go_enter Tryz.func69, Tryz.ntmps69
 go_wp2_with fail
 go_loop [8] (fun i => ∃ j : Nat, j ≤ s.length ∧ i = .int .i64 j ∧ Hid (span p s = j + span p (s.drop j))) (fun i => s.length - (intOf i).toNat)
 case atStart => exact ⟨0, Nat.zero_le _, rfl, Lib.hid (by simp)⟩
 case round =>
  obtain ⟨j, hj, rfl, HJ⟩ := hrel
  by_cases hlt : j < s.length
  · go_wp2_with fail
    refine (HP.out s[j] _).mono ?_; rintro e w' ⟨rfl, rfl⟩; have hd := List.drop_eq_getElem_cons hlt
    have hsp : span p (s.drop j) = if p s[j] then 1 + span p (s.drop (j + 1)) else 0 := by
     rw [hd]; unfold span; rw [List.takeWhile_cons]; split <;> simp; omega
    have HSP := Lib.hid hsp; clear hsp hd
    cases hb : p s[j]
    · have HB := Lib.hid hb; clear hb
      go_wp2_with fail
      go_ret
      refine ⟨ret_int ?_, rfl⟩
      rw [HJ.out, HSP.out, HB.out]; simp
    · have HB := Lib.hid hb; clear hb
      go_wp2_with fail
      go_round
      case rel => exact ⟨j + 1, by omega, by go_num, Lib.hid (by rw [HJ.out, HSP.out, HB.out]; simp; omega)⟩
      case measure => simp [intOf]; omega
  · go_wp2_with fail
    go_ret
    refine ⟨ret_int ?_, rfl⟩
    rw [HJ.out, List.drop_eq_nil_of_le (by omega)]; simp [span]; omega
end Bk
namespace Bk
open Go Go.RowKit Go.Proofs
theorem take2_eq (s : List UInt8) (n : Int) (hn : n.toNat = min 2 s.length) : (⟨s.toArray⟩ : ByteArray).extract 0 n.toNat = ⟨(s.take 2).toArray⟩ := by
 apply ByteArray.ext
 rw [hn]; simp only [ByteArray.data_extract]
 apply Array.ext'
 simp only [List.extract_toArray, List.extract_eq_take_drop, Nat.sub_zero, List.drop_zero]
 rcases Nat.le_total 2 s.length with h | h
 · rw [Nat.min_eq_left h]
 · rw [Nat.min_eq_right h, List.take_of_length_le h, List.take_length]
theorem indexByte_ge : ∀ (l : List UInt8) (c : UInt8), -1 ≤ Lib.indexByte l c
 | [], c => by simp [Lib.indexByte]
 | b :: l, c => by
  have := indexByte_ge l c
  unfold Lib.indexByte
  split
  · omega
  · split <;> omega
theorem indexByte_contains : ∀ (l : List UInt8) (c : UInt8), (0 ≤ Lib.indexByte l c) ↔ l.contains c = true
 | [], c => by simp [Lib.indexByte]
 | b :: l, c => by
  have ih := indexByte_contains l c; have hg := indexByte_ge l c
  unfold Lib.indexByte
  rw [List.contains_cons]
  by_cases hb : b = c
  · simp [hb]
  · have hb' : ¬ c = b := fun e => hb e.symm
    simp only [beq_iff_eq, hb, hb', if_false, Bool.or_eq_true, false_or, ← ih]
    split <;> omega
theorem sign_c (c : UInt8) (r : List UInt8) (w : World) (hs : (c :: r).length ≤ 9223372036854775807) :
 Calls Tryz.prog 74 #[str (c :: r)] w fun e w' => e = .returned (.int .i64 (signLen (c :: r))) ∧ w = w' := by
 simp only [List.length_cons] at hs; have hx := take2_eq (c :: r) (min 2 ((r.length : Int) + 1)) (by simp only [List.length_cons]; omega)
 have hsl : signLen (c :: r) = if List.isPrefixOf [60, 61, 62] (c :: r) then 3 else if pairs.contains ((c :: r).take 2) then 2 else if singles.contains c then 1 else 0 := rfl
 have HSL := Lib.hid hsl; clear hsl
 generalize (c :: r).take 2 = t at *
 cases h3 : List.isPrefixOf [60, 61, 62] (c :: r)
 · have H3 := Lib.hid h3; clear h3
   cases hp : pairs.contains t
   · have HP := Lib.hid hp
     simp only [pairs, List.contains_cons, List.contains_nil, Bool.or_eq_false_iff, Bool.or_false] at hp; obtain ⟨p0, p1, p2, p3, p4, p5, p6, p7, p8, p9⟩ := hp
     go_enter Tryz.func74, Tryz.ntmps74
     go_wp2_with (go_at_call 83; refine (Tryz.strings_HasPrefix _ _ _).mono ?_; rintro e w' ⟨rfl, rfl⟩; rw [show Lib.hasPrefix (⟨(c :: r).toArray⟩ : ByteArray).data.toList (⟨#[60, 61, 62]⟩ : ByteArray).data.toList = false from H3.out])
     refine (Tryz.strings_IndexByte _ _ _).mono ?_; rintro e w2 ⟨rfl, rfl⟩
     have e0 : (((c.toNat : Nat) : Int)).toNat.toUInt8 = c := by simp
     have e1 : ∀ h, (((((⟨(c :: r).toArray⟩ : ByteArray)[0]'h).toNat : Nat) : Int)).toNat.toUInt8 = c := fun _ => e0
     rw [e1]; have hi := indexByte_contains singles c; rw [show Lib.indexByte (⟨#[43, 45, 42, 47, 37, 38, 124, 94, 33, 61, 60, 62, 40, 41, 123, 125, 91, 93, 59, 44]⟩ : ByteArray).data.toList c = Lib.indexByte singles c from rfl]
     generalize Lib.indexByte singles c = ix at *
     cases hc : singles.contains c
     · have hlt : ix < 0 := by rw [hc] at hi; simp at hi; omega
       have HC := Lib.hid hc; clear hc hi
       simp only
       go_wp2_with fail
       go_ret
       rw [HSL.out, H3.out, HP.out, HC.out]; exact ⟨rfl, rfl⟩
     · have hge : 0 ≤ ix := hi.2 hc
       have HC := Lib.hid hc; clear hc hi
       simp only
       go_wp2_with fail
       go_ret
       rw [HSL.out, H3.out, HP.out, HC.out]; exact ⟨rfl, rfl⟩
   · go_enter Tryz.func74, Tryz.ntmps74
     go_wp2_with (go_at_call 83; refine (Tryz.strings_HasPrefix _ _ _).mono ?_; rintro e w' ⟨rfl, rfl⟩; rw [show Lib.hasPrefix (⟨(c :: r).toArray⟩ : ByteArray).data.toList (⟨#[60, 61, 62]⟩ : ByteArray).data.toList = false from H3.out])
     all_goals first | (go_ret; rw [HSL.out, H3.out, hp]; exact ⟨rfl, rfl⟩) | (exfalso; simp_all [pairs]; done)
 · have H3 := Lib.hid h3; clear h3
   go_enter Tryz.func74, Tryz.ntmps74
   go_wp2_with (go_at_call 83; refine (Tryz.strings_HasPrefix _ _ _).mono ?_; rintro e w' ⟨rfl, rfl⟩; rw [show Lib.hasPrefix (⟨(c :: r).toArray⟩ : ByteArray).data.toList (⟨#[60, 61, 62]⟩ : ByteArray).data.toList = true from H3.out])
   go_ret
   rw [HSL.out, H3.out]; exact ⟨rfl, rfl⟩
end Bk
namespace Bk
open Go Go.RowKit Go.Proofs
def kwEntries : List (List UInt8) → Nat → List MapEntry
 | [], _ => []
 | k :: r, i => { key := str k, val := .bool true, born := i } :: kwEntries r (i + 1)
def kwMap (ks : List (List UInt8)) : Obj := .map (kwEntries ks 0).toArray ks.length
theorem kwEntries_snoc (ks : List (List UInt8)) (k : List UInt8) : ∀ i, kwEntries (ks ++ [k]) i = kwEntries ks i ++ [{ key := str k, val := .bool true, born := i + ks.length }] := by
 induction ks with
 | nil => intro i; simp [kwEntries]
 | cons x r ih => intro i; simp [kwEntries, ih, Nat.add_assoc, Nat.add_comm 1]
theorem ba_beq (b : ByteArray) (x : List UInt8) : (b == (⟨x.toArray⟩ : ByteArray)) = (b.data.toList == x) := by
 show (b.data == x.toArray) = _
 rw [Bool.eq_iff_iff]; simp
 constructor
 · intro h; rw [h]
 · intro h; rw [← h]
theorem findNow_kw (b : ByteArray) (ks : List (List UInt8)) : ∀ i j, (ks.contains b.data.toList = false → Instr.findNow .string (.string b) (kwEntries ks i) j = some none) ∧
 (ks.contains b.data.toList = true → ∃ n, Instr.findNow .string (.string b) (kwEntries ks i) j = some (some (n, .bool true))) := by
 induction ks with
 | nil => intro i j; simp [kwEntries, Instr.findNow]
 | cons x r ih =>
  intro i j; simp only [kwEntries, Instr.findNow, Instr.sameNow, ba_beq, List.contains_cons]
  cases h : b.data.toList == x
  · simpa using ih (i + 1) (j + 1)
  · simp
theorem push_set (h : Array Obj) (a b : Obj) : (h.push a).setIfInBounds h.size b = h.push b := by
 apply Array.ext'
 simp
theorem underMap : Tryz.prog.underlying 91 = some (.map 9 4) := by kernel_rfl
theorem underStr : Tryz.prog.underlying 9 = some .string := by kernel_rfl
theorem run_kw_ins (w : World) (ks : List (List UInt8)) (b : ByteArray) (h : ks.contains b.data.toList = false) :
 (Instr.mapUpdate 91 (.map (some w.heap.size)) (.string b) (.bool true)).run Tryz.prog (w.alloc (kwMap ks)) = .ok () (w.alloc (kwMap (ks ++ [b.data.toList]))) := by
 have hb : (w.alloc (kwMap ks)).heap[w.heap.size]? = some (.map (kwEntries ks 0).toArray ks.length) := by show (w.heap.push (kwMap ks))[w.heap.size]? = _; simp [kwMap]
 have hf : Instr.findNow .string (.string b) (kwEntries ks 0) 0 = some none := (findNow_kw b ks 0 0).1 h; have hc : (Instr.checkKey false 10000 9 (.string b)).run Tryz.prog (w.alloc (kwMap ks)) = .ok () (w.alloc (kwMap ks)) := MapKept.run_checkKey (k := .string b) underStr (by simp [MapKept.IsKey]) false 9999
 simp [Instr.mapUpdate, run_underlying underMap, MapKept.run_getObj_map hb, hc, MapKept.run_findKey underStr hf, MapKept.run_setObj_map _ hb, Result.andThen]
 show ({ w with heap := (w.heap.push (kwMap ks)).setIfInBounds w.heap.size _ } : World) = { w with heap := w.heap.push _ }
 rw [push_set]
 unfold kwMap
 rw [kwEntries_snoc]
 simp
theorem run_kw_look (w : World) (ks : List (List UInt8)) (b : ByteArray) :
 (Instr.lookup 91 (.map (some w.heap.size)) (.string b) false).run Tryz.prog (w.alloc (kwMap ks)) = .ok (.bool (ks.contains b.data.toList)) (w.alloc (kwMap ks)) := by
 have hb : (w.alloc (kwMap ks)).heap[w.heap.size]? = some (.map (kwEntries ks 0).toArray ks.length) := by show (w.heap.push (kwMap ks))[w.heap.size]? = _; simp [kwMap]
 have hc : ∀ q, (Instr.checkKey q 10000 9 (.string b)).run Tryz.prog (w.alloc (kwMap ks)) = .ok () (w.alloc (kwMap ks)) := fun q => MapKept.run_checkKey (k := .string b) underStr (by simp [MapKept.IsKey]) q 9999
 have hz : (zeroValue 4).run Tryz.prog (w.alloc (kwMap ks)) = .ok (.bool false) (w.alloc (kwMap ks)) := by kernel_rfl
 cases hk : ks.contains b.data.toList
 · have hf := (findNow_kw b ks 0 0).1 hk
   simp [Instr.lookup, run_underlying underMap, MapKept.run_getObj_map hb, hc, MapKept.run_findKey underStr hf, hz, Result.andThen]
 · obtain ⟨n, hf⟩ := (findNow_kw b ks 0 0).2 hk
   simp [Instr.lookup, run_underlying underMap, MapKept.run_getObj_map hb, hc, MapKept.run_findKey underStr hf, Result.andThen]
theorem run_kw_make (w : World) : (Instr.makeMap 91 none).run Tryz.prog w = .ok (.map (some w.heap.size)) (w.alloc (kwMap [])) := run_makeMap _ w
theorem keyword_len (s : List UInt8) (h : keyword s = true) : 2 ≤ s.length ∧ s.length ≤ 7 := by
 have key : ∀ k ∈ keywords, 2 ≤ k.length ∧ k.length ≤ 7 := by decide
 exact key s (by simpa [keyword] using h)
set_option maxRecDepth 100000 in
theorem Keyword_c (s : List UInt8) (w : World) (hs : s.length ≤ 9223372036854775807) :
 Calls Tryz.prog 52 #[str s] w fun e w' => e = .returned (.bool (keyword s)) ∧ Ext w w' := by
 by_cases h2 : s.length < 2 ∨ 7 < s.length
 · have hk : keyword s = false := by
    cases h : keyword s
    · rfl
    · have := keyword_len s h; omega
   have HK := Lib.hid hk; clear hk
   by_cases h3 : s.length < 2
   · have d1 : decide ((s.length : Int) < 2) = true := by simp; omega
     clear h2
     go_enter Tryz.func52, Tryz.ntmps52
     go_wp2_with fail
     go_ret
     rw [HK.out]; exact ⟨rfl, Ext.refl _⟩
   · have d1 : decide ((s.length : Int) < 2) = false := by simp; omega
     have d2 : decide ((7 : Int) < s.length) = true := by simp; omega
     clear h2
     go_enter Tryz.func52, Tryz.ntmps52
     go_wp2_with fail
     go_ret
     rw [HK.out]; exact ⟨rfl, Ext.refl _⟩
 · have d1 : decide ((s.length : Int) < 2) = false := by simp; omega
   have d2 : decide ((7 : Int) < s.length) = false := by simp; omega
   have r1 := run_kw_make; have r2 := run_kw_ins w; have r3 := run_kw_look w
   go_enter Tryz.func52, Tryz.ntmps52
   go_wp2_with fail
   go_ret
   exact ⟨ret_bool (by simp [keyword, keywords]), (by refine Ext.alloc ?_ _; exact Ext.refl _)⟩
end Bk
namespace Bk
open Go Go.RowKit Go.Proofs
theorem en_digit : ∀ args w, (callFunc 71 args).run Tryz.prog w = .ok (.enter 71 args) w := enters_of Tryz.func71 (by kernel_rfl) rfl
theorem en_blank : ∀ args w, (callFunc 72 args).run Tryz.prog w = .ok (.enter 72 args) w := enters_of Tryz.func72 (by kernel_rfl) rfl
theorem en_first1 : ∀ args w, (callFunc 70 args).run Tryz.prog w = .ok (.enter 70 args) w := enters_of Tryz.func70 (by kernel_rfl) rfl
theorem en_first2 : ∀ args w, (callFunc 73 args).run Tryz.prog w = .ok (.enter 73 args) w := enters_of Tryz.func73 (by kernel_rfl) rfl
theorem first_c (c : UInt8) (r : List UInt8) (w : World) (hs : (c :: r).length ≤ 9223372036854775807) :
 Calls Tryz.prog 51 #[str (c :: r)] w fun e w' => e = .returned (.tuple #[.int .u8 (firstTok (c :: r)).1, .int .i64 (firstTok (c :: r)).2]) ∧ w = w' := by
 have hf : firstTok (c :: r) = if letter c then (1, span wordish (c :: r)) else if digit c then (2, span digit (c :: r)) else if blank c then (4, span blank (c :: r)) else if c = 35 then (5, span notLf (c :: r)) else (3, signLen (c :: r)) := rfl
 have HF := Lib.hid hf; clear hf
 have HS := Lib.hid hs; simp only [List.length_cons] at hs
 go_enter Tryz.func51, Tryz.ntmps51
 go_wp2_with fail
 refine (letter_c c _).mono ?_; rintro e w1 ⟨rfl, rfl⟩
 cases hl : letter c
 · have HL := Lib.hid hl; clear hl
   simp only
   go_wp2_with fail
   refine (digit_c c _).mono ?_; rintro e w1 ⟨rfl, rfl⟩
   cases hd : digit c
   · have HD := Lib.hid hd; clear hd
     simp only
     go_wp2_with fail
     refine (blank_c c _).mono ?_; rintro e w1 ⟨rfl, rfl⟩
     cases hb : blank c
     · have HB := Lib.hid hb; clear hb
       simp only
       by_cases h35 : c = 35
       · have H35 := Lib.hid h35
         have e35 : (({ data := (c :: r).toArray } : ByteArray)[0]'(by simp [ByteArray.size])).toNat = 35 := by show c.toNat = 35; rw [h35]; rfl
         clear h35
         go_wp2_with fail
         refine (span_c 73 notLf notLf_c en_first2 _ _ HS.out).mono ?_; rintro e w1 ⟨rfl, rfl⟩; simp only
         go_wp2_with fail
         go_ret2
         rw [HF.out, HL.out, HD.out, HB.out, if_pos H35.out]; exact ⟨rfl, rfl⟩
       · have H35 := Lib.hid h35
         have e35 : ((({ data := (c :: r).toArray } : ByteArray)[0]'(by simp [ByteArray.size])).toNat : Int) ≠ 35 := by
          show (c.toNat : Int) ≠ 35
          intro h; apply h35; apply UInt8.toNat_inj.1; show c.toNat = 35; omega
         clear h35
         go_wp2_with fail
         refine (sign_c c r _ HS.out).mono ?_; rintro e w1 ⟨rfl, rfl⟩; simp only
         go_wp2_with fail
         go_ret2
         rw [HF.out, HL.out, HD.out, HB.out, if_neg H35.out]; exact ⟨rfl, rfl⟩
     · have HB := Lib.hid hb; clear hb
       simp only
       go_wp2_with fail
       refine (span_c 72 blank blank_c en_blank _ _ HS.out).mono ?_; rintro e w1 ⟨rfl, rfl⟩; simp only
       go_wp2_with fail
       go_ret2
       rw [HF.out, HL.out, HD.out, HB.out]; exact ⟨rfl, rfl⟩
   · have HD := Lib.hid hd; clear hd
     simp only
     go_wp2_with fail
     refine (span_c 71 digit digit_c en_digit _ _ HS.out).mono ?_; rintro e w1 ⟨rfl, rfl⟩; simp only
     go_wp2_with fail
     go_ret2
     rw [HF.out, HL.out, HD.out]; exact ⟨rfl, rfl⟩
 · have HL := Lib.hid hl; clear hl
   simp only
   go_wp2_with fail
   refine (span_c 70 wordish wordish_c en_first1 _ _ HS.out).mono ?_; rintro e w1 ⟨rfl, rfl⟩; simp only
   go_wp2_with fail
   go_ret2
   rw [HF.out, HL.out]; exact ⟨rfl, rfl⟩
theorem Name_c (s : List UInt8) (w : World) (hs : s.length ≤ 9223372036854775807) :
 Calls Tryz.prog 37 #[str s] w fun e w' => e = .returned (.bool (isName s)) ∧ Ext w w' := by
 cases s with
 | nil =>
  go_enter Tryz.func37, Tryz.ntmps37
  go_wp2_with fail
  go_ret
  exact ⟨rfl, Ext.refl _⟩
 | cons c r =>
  have hn : isName (c :: r) = (decide ((c :: r).length ≤ 16) && ((firstTok (c :: r)).1 == 1) && ((firstTok (c :: r)).2 == (c :: r).length) && !keyword (c :: r)) := by simp [isName]
  have HN := Lib.hid hn; clear hn
  have HS := Lib.hid hs; simp only [List.length_cons] at hs
  by_cases h16 : 16 < (c :: r).length
  · simp only [List.length_cons] at h16
    have d1 : decide ((16 : Int) < (r.length : Int) + 1) = true := by simp; omega
    have H16 := Lib.hid h16; clear h16
    go_enter Tryz.func37, Tryz.ntmps37
    go_wp2_with fail
    go_ret
    rw [HN.out]
    exact ⟨ret_bool (by have := H16.out; simp; omega), Ext.refl _⟩
  · simp only [List.length_cons] at h16
    have d1 : decide ((16 : Int) < (r.length : Int) + 1) = false := by simp; omega
    go_enter Tryz.func37, Tryz.ntmps37
    go_wp2_with fail
    refine (first_c c r _ HS.out).mono ?_; rintro e w1 ⟨rfl, rfl⟩
    generalize firstTok (c :: r) = ft at *
    obtain ⟨k, n⟩ := ft
    by_cases hk : k = 1
    · by_cases hl : n = (c :: r).length
      · subst hk hl
        simp only [List.length_cons]
        go_wp2_with fail
        refine (Keyword_c _ _ HS.out).mono ?_; rintro e w2 ⟨rfl, hx⟩; simp only
        go_wp2_with fail
        go_ret
        rw [HN.out]
        exact ⟨ret_bool (by simp; omega), hx⟩
      · subst hk
        have dl : ((n : Int) == (r.length : Int) + 1) = false := by simp only [List.length_cons] at hl; rw [beq_eq_false_iff_ne]; omega
        have HL := Lib.hid hl; clear hl
        simp only
        go_wp2_with fail
        go_ret
        rw [HN.out]
        exact ⟨ret_bool (by have := HL.out; simp at this ⊢; simp [this]), Ext.refl _⟩
    · have dk : ((k : Int) == 1) = false := by rw [beq_eq_false_iff_ne]; omega
      have HK := Lib.hid hk; clear hk
      simp only
      go_wp2_with fail
      go_ret
      rw [HN.out]
      exact ⟨ret_bool (by have := HK.out; simp [this]), Ext.refl _⟩
theorem plain_c (k n : Int) (s : List UInt8) (a : Option Addr) (l c : Nat) (w : World) :
 Calls Tryz.prog 24 #[.agg #[.int .u8 k, .int .i64 n, str s, .slice a l c]] w fun e w' => e = .returned (.bool (plain n s)) ∧ Ext w w' := by
 go_enter Tryz.func24, Tryz.ntmps24
 go_wp2_with fail
 all_goals go_ret
 all_goals exact ⟨ret_bool (by unfold plain; simp [*]), (by repeat (first | exact Ext.refl _ | assumption | refine Ext.alloc ?_ _ | refine Ext.drew ?_ | refine Ext.trans ?_ (by assumption)))⟩
theorem named_c (k n : Int) (s : List UInt8) (a : Option Addr) (l c : Nat) (w : World) (hs : s.length ≤ 9223372036854775807) :
 Calls Tryz.prog 28 #[.agg #[.int .u8 k, .int .i64 n, str s, .slice a l c]] w fun e w' => e = .returned (.bool (named n s)) ∧ Ext w w' := by
 by_cases h0 : n = 0
 · subst h0
   go_enter Tryz.func28, Tryz.ntmps28
   go_wp2_with (go_at_call 37; refine (Name_c _ _ hs).mono ?_; rintro e w2 ⟨rfl, hx⟩)
   go_ret
   exact ⟨ret_bool (by simp [named]), (by refine Ext.trans ?_ (by assumption); refine Ext.alloc ?_ _; exact Ext.refl _)⟩
 · have d0 : (n == 0) = false := by simp [h0]
   go_enter Tryz.func28, Tryz.ntmps28
   go_wp2_with fail
   go_ret
   exact ⟨ret_bool (by simp [named, h0]), (by refine Ext.alloc ?_ _; exact Ext.refl _)⟩
end Bk
namespace Bk
open Go Go.RowKit Go.Proofs
attribute [local irreducible] Go.Calls
theorem peek_len {c : PC} {σ : PS} {w : World} (hP : PP c σ w) : (peekP c.ts σ).text.length ≤ 1000000 := by
 by_cases h : σ.err ≠ 0 ∨ σ.at_ = c.ts.length
 · rw [peek_off h]; simp [Tok.zero]
 · have hlt : σ.at_ < c.ts.length := by have : σ.at_ ≠ c.ts.length := fun e => h (Or.inr e); have := hP.at_; omega
   rw [peek_is h hlt]
   exact hP.tok _ (List.getElem_mem hlt)
def TreeR (c : PC) (w : World) (r : Nd × PS) : Ending → World → Prop := fun e w' => ∃ a k, e = .returned (r.1.val a k) ∧ r.1.sits (fun b => w.heap.size ≤ b ∧ b < w'.heap.size) w' a ∧ PP c r.2 w' ∧ Fr (· = c.pb) w w'
theorem tree_ret {c : PC} {w w' : World} {r : Nd × PS} {a : Option Addr} {k : Nat} (hs : r.1.sits (w.heap.size ≤ ·) w' a) (hP : PP c r.2 w') (X : Fr (· = c.pb) w w') : TreeR c w r (.returned (r.1.val a k)) w' :=
 ⟨a, k, rfl, sits_lt2 _ _ hs, hP, X⟩
theorem TreeR.ret {c : PC} {w : World} {r : Nd × PS} {e : Ending} {w' : World} (h : TreeR c w r e w') : ∃ v, e = .returned v := by
 obtain ⟨_, _, h, -⟩ := h
 exact ⟨_, h⟩
set_option maxRecDepth 100000 in
set_option maxHeartbeats 1000000 in
theorem name_c (c : PC) (σ : PS) (w : World) (hP : PP c σ w) :
 Calls Tryz.prog 76 #[.pointer (some ⟨c.pb, 0, none⟩)] w fun r w' => r = .returned (str (nameP c.ts c.n σ).1) ∧ PP c (nameP c.ts c.n σ).2 w' ∧ Fr (· = c.pb) w w' := by
 have X := Fr.refl (· = c.pb) w; have hl := hP.len; have hpl := peek_len hP; have hpb := hP.pbB; have hB := hP.B
 cases h : isName (peekP c.ts σ).text
 · rw [show nameP c.ts c.n σ = ([], unexpP c.ts c.n σ) from by simp [nameP, h]]
   refine calls_in Tryz.func76 Tryz.ntmps76 rfl rfl ?_
   focus
    refine cS (cA rfl rfl (cN (cM rfl rfl ?_))); refine cC (by kernel_rfl) rfl (peek_c _ _ _ (by assumption)) rfl ?_; rintro _ w2 ⟨⟨⟩, x1⟩; have z3 := x1.size; replace hP := hP.ext x1; replace X := X.ext x1; clear x1; (refine lw_alloc' [_, _, _] zOk rfl rfl ?_; intro b4 w5 n6); (refine lw_init' [_, _, _] tabOk rfl rfl rfl rfl rfl rfl n6 rfl ?_; clear n6; clear w5; intro w7 n6); have h8 := n6.blk; have x9 := n6.ext; have p10 := n6.pos; have z11 := n6.size; clear n6; replace hP := hP.ext x9; replace X := X.ext x9; clear x9; refine cT (cw_seq (cS (lw_pure (pur_fieldAddr tabOk rfl rfl rfl) rfl (lw_load_b tabOk rfl rfl rfl h8 rfl rfl ?_)))); refine cC (by kernel_rfl) rfl (Name_c _ _ (by omega)) rfl ?_; rintro _ w13 ⟨⟨⟩, x12⟩; have z14 := x12.size; replace h8 := h8.ext x12; replace hP := hP.ext x12; replace X := X.ext x12; clear x12; refine lw_pure (pur_not rfl) rfl (cT ?_); refine cw_nt rfl (by assumption) ?_; refine cS (cM rfl rfl ?_); refine cC (by kernel_rfl) rfl (unexpected_c _ _ _ (by assumption)) rfl ?_; rintro _ w17 ⟨⟨⟩, ⟨h15, f16⟩⟩; have z18 := f16.size; replace h8 := h8.fr f16 (by omega); clear hP; replace X := X.fr f16 (by omega); clear f16; refine cN (cA rfl rfl (cT (cw_ret (qw_then_ret (qw_ret1 rfl rfl ?_))))); rotate_left 1
   exact ⟨rfl, by assumption, X⟩
 · rw [show nameP c.ts c.n σ = ((peekP c.ts σ).text, nextP σ) from by simp [nameP, h]]
   obtain ⟨h2, h3⟩ := peek_in hP.at_ (Or.inl (isName_ne h)); refine calls_in Tryz.func76 Tryz.ntmps76 rfl rfl ?_
   focus
    refine cS (cA rfl rfl (cN (cM rfl rfl ?_))); refine cC (by kernel_rfl) rfl (peek_c _ _ _ (by assumption)) rfl ?_; rintro _ wa2 ⟨⟨⟩, xa1⟩; have za3 := xa1.size; replace hP := hP.ext xa1; replace X := X.ext xa1; clear xa1; (refine lw_alloc' [_, _, _] zOk rfl rfl ?_; intro ba4 wa5 na6); (refine lw_init' [_, _, _] tabOk rfl rfl rfl rfl rfl rfl na6 rfl ?_; clear na6; clear wa5; intro wa7 na6); have ha8 := na6.blk; have xa9 := na6.ext; have pa10 := na6.pos; have za11 := na6.size; clear na6; replace hP := hP.ext xa9; replace X := X.ext xa9; clear xa9; refine cT (cw_seq (cS (lw_pure (pur_fieldAddr tabOk rfl rfl rfl) rfl (lw_load_b tabOk rfl rfl rfl ha8 rfl rfl ?_)))); refine cC (by kernel_rfl) rfl (Name_c _ _ (by omega)) rfl ?_; rintro _ wa13 ⟨⟨⟩, xa12⟩; have za14 := xa12.size; replace ha8 := ha8.ext xa12; replace hP := hP.ext xa12; replace X := X.ext xa12; clear xa12; refine lw_pure (pur_not rfl) rfl (cT ?_); refine cw_nf rfl (by assumption) ?_; refine cw_skip (qw_then (cS (cM rfl rfl (lw_pure (pur_nilCheck rfl) rfl (lw_pure (pur_fieldAddr tabOk rfl rfl rfl) rfl (lw_load_b tabOk rfl rfl rfl (PP.blk hP) rfl rfl ?_)))))); refine lw_pure (pur_add rfl rfl (IntWalk.i64_in _ (by omega))) rfl ?_; refine lw_pure (pur_nilCheck rfl) rfl (lw_pure (pur_fieldAddr tabOk rfl rfl rfl) rfl ?_); refine lw_pp_at tabOk rfl rfl rfl rfl (by assumption) h3 ?_; rintro wa15 ha16 fa17; have za18 := fa17.size; replace ha8 := ha8.fr fa17 (by omega); clear hP; replace X := X.fr fa17 (by omega); clear fa17; refine cN (lw_pure (pur_fieldAddr tabOk rfl rfl rfl) rfl (lw_load_b tabOk rfl rfl rfl ha8 rfl rfl (cA rfl rfl (cT (cw_ret (qw_ret1 rfl rfl ?_))))))
    rotate_left 1
   exact ⟨rfl, by assumption, X⟩
set_option maxRecDepth 100000 in
set_option maxHeartbeats 1000000 in
theorem argument_c (c : PC) (σ : PS) (w : World) (hP : PP c σ w) :
 Calls Tryz.prog 77 #[.pointer (some ⟨c.pb, 0, none⟩)] w (TreeR c w (argP c.ts c.n σ)) := by
 have X := Fr.refl (· = c.pb) w; have hpb := hP.pbB; have hB := hP.B; refine calls_in Tryz.func77 Tryz.ntmps77 rfl rfl ?_
 focus
  refine cS ?_; (refine lw_alloc' [_, _, _, _] zOk rfl rfl ?_; intro b1 w2 n3); have h5 := n3.blk; have x6 := n3.ext; have p7 := n3.pos; have z8 := n3.size; clear n3; replace hP := hP.ext x6; replace X := X.ext x6; clear x6; refine cN (cM rfl rfl ?_); refine cC (by kernel_rfl) rfl (name_c _ _ _ (by assumption)) rfl ?_; rintro _ w11 ⟨⟨⟩, ⟨h9, f10⟩⟩; have z12 := f10.size; replace h5 := h5.fr f10 (by omega); clear hP; replace X := X.fr f10 (by omega); clear f10; refine lw_pure (pur_build' [_, _, _, _] tabOk zOk rfl rfl rfl rfl) rfl ?_; (refine lw_store' [_, _, _, _] [_, _, _, _] tabOk rfl rfl rfl rfl rfl rfl h5 rfl rfl ?_; intro w13 n14); have h17 := n14.blk; have f15 := n14.fr; have z16 := n14.size; clear n14 h5; replace h9 := h9.fr f15 (by omega); replace X := X.fr f15 (by omega); clear f15; refine cT (cw_ret (qw_retc rfl tabOk rfl rfl rfl h17 rfl ?_)); rotate_left 1
 exact tree_ret sits_nil (by assumption) X
set_option maxRecDepth 100000 in
set_option maxHeartbeats 1000000 in
theorem stackExpr_c (c : PC) (σ : PS) (kind : Int) (w : World) (hP : PP c σ w) :
 Calls Tryz.prog 92 #[.pointer (some ⟨c.pb, 0, none⟩), .int .u8 kind] w (TreeR c w (.mk kind 0 (nameP c.ts c.n (expectP c.ts c.n σ [40])).1 [], expectP c.ts c.n (nameP c.ts c.n (expectP c.ts c.n σ [40])).2 [41])) := by
 have X := Fr.refl (· = c.pb) w; have hpb := hP.pbB; have hB := hP.B; refine calls_in Tryz.func92 Tryz.ntmps92 rfl rfl ?_
 focus
  refine cS ?_; (refine lw_alloc' [_, _, _, _] zOk rfl rfl ?_; intro b1 w2 n3); have h5 := n3.blk; have x6 := n3.ext; have p7 := n3.pos; have z8 := n3.size; clear n3; replace hP := hP.ext x6; replace X := X.ext x6; clear x6; refine cN (cM rfl rfl ?_); refine cC (by kernel_rfl) rfl (expect_c _ _ _ _ (by assumption) (by decide)) rfl ?_; rintro _ w11 ⟨⟨⟩, ⟨h9, f10⟩⟩; have z12 := f10.size; replace h5 := h5.fr f10 (by omega); clear hP; replace X := X.fr f10 (by omega); clear f10; refine cN (cM rfl rfl (cM rfl rfl ?_)); refine cC (by kernel_rfl) rfl (name_c _ _ _ (by assumption)) rfl ?_; rintro _ w15 ⟨⟨⟩, ⟨h13, f14⟩⟩; have z16 := f14.size; clear h9; replace h5 := h5.fr f14 (by omega); replace X := X.fr f14 (by omega); clear f14; refine lw_pure (pur_build' [_, _, _, _] tabOk zOk rfl rfl rfl rfl) rfl ?_; (refine lw_alloc' [_, _, _, _] zOk rfl rfl ?_; intro b17 w18 n19); (refine lw_init' [_, _, _, _] tabOk rfl rfl rfl rfl rfl rfl n19 rfl ?_; clear n19; clear w18; intro w20 n19); have h21 := n19.blk; have x22 := n19.ext; have p23 := n19.pos; have z24 := n19.size; clear n19; replace h13 := h13.ext x22; replace h5 := h5.ext x22; replace X := X.ext x22; clear x22; refine cN (cM rfl rfl ?_); refine cC (by kernel_rfl) rfl (expect_c _ _ _ _ (by assumption) (by decide)) rfl ?_; rintro _ w27 ⟨⟨⟩, ⟨h25, f26⟩⟩; have z28 := f26.size; replace h21 := h21.fr f26 (by omega); clear h13; replace h5 := h5.fr f26 (by omega); replace X := X.fr f26 (by omega); clear f26; refine cN (lw_loads_b' [_, _, _, _] tabOk rfl rfl rfl h21 rfl rfl rfl ?_)
  (refine lw_store' [_, _, _, _] [_, _, _, _] tabOk rfl rfl rfl rfl rfl rfl h5 rfl rfl ?_; intro w29 n30); have h33 := n30.blk; have f31 := n30.fr; have z32 := n30.size; clear n30 h5; replace h25 := h25.fr f31 (by omega); replace h21 := h21.fr f31 (by omega); replace X := X.fr f31 (by omega); clear f31; refine cT (cw_ret (qw_retc rfl tabOk rfl rfl rfl h33 rfl ?_)); rotate_left 1
 exact tree_ret sits_nil (by assumption) X
end Bk
namespace Bk
def digitsFrom (a : Nat) (s : List UInt8) : Nat := s.foldl (fun a c => a * 10 + (c.toNat - 48)) a
theorem digitsFrom_le (s : List UInt8) : ∀ a, a ≤ digitsFrom a s := by
 induction s with
 | nil => intro a; exact Nat.le_refl _
 | cons c r ih => intro a; have := ih (a * 10 + (c.toNat - 48)); simp only [digitsFrom, List.foldl_cons] at this ⊢; omega
end Bk
namespace Bk
open Go Go.RowKit Go.Proofs
attribute [local irreducible] Go.Calls
theorem parseUint_digits : ∀ (s : List UInt8) (a : Nat), a < 18446744073709551616 → (∀ c ∈ s, digit c = true) →
 (Lib.parseUint10 a s = .ok (digitsFrom a s) ∧ digitsFrom a s < 18446744073709551616) ∨ (Lib.parseUint10 a s = .range ∧ 18446744073709551616 ≤ digitsFrom a s)
 | [], a, ha, _ => Or.inl ⟨rfl, ha⟩
 | c :: r, a, ha, hd => by
  have hc := hd c List.mem_cons_self; simp only [digit, Bool.and_eq_true, decide_eq_true_eq] at hc
  have hr : ∀ x ∈ r, digit x = true := fun x hx => hd x (List.mem_cons_of_mem _ hx)
  have hle := digitsFrom_le r (a * 10 + (c.toNat - 48)); have he : digitsFrom a (c :: r) = digitsFrom (a * 10 + (c.toNat - 48)) r := rfl; rw [he]; simp only [Lib.parseUint10, hc, and_self, if_true]
  by_cases h1 : 1844674407370955162 ≤ a
  · rw [if_pos h1]; exact Or.inr ⟨rfl, by omega⟩
  · rw [if_neg h1]
    by_cases h2 : 18446744073709551616 ≤ a * 10 + (c.toNat - 48)
    · rw [if_pos h2]; exact Or.inr ⟨rfl, by omega⟩
    · rw [if_neg h2]
      exact parseUint_digits r _ (by omega) hr
theorem atoi_digits (s : List UInt8) (hs : s ≠ []) (hd : ∀ c ∈ s, digit c = true) :
 Lib.atoiAll s = if (digitsVal s : Int) ≤ 9223372036854775807 then .ok (digitsVal s) else .range := by
 cases s with
 | nil => exact absurd rfl hs
 | cons c r =>
  have hc := hd c List.mem_cons_self; simp only [digit, Bool.and_eq_true, decide_eq_true_eq] at hc
  have n45 : ¬ c.toNat = 45 := by omega
  have n43 : ¬ c.toNat = 43 := by omega
  have e : digitsVal (c :: r) = digitsFrom 0 (c :: r) := rfl; rw [e]
  have hm : Lib.parseMag (c :: r) = Lib.parseUint10 0 (c :: r) := by simp [Lib.parseMag]
  unfold Lib.atoiAll
  simp only [n45, n43, or_self, if_false, hm, not_false_eq_true, true_and, false_and]
  rcases parseUint_digits (c :: r) 0 (by omega) hd with ⟨h1, h2⟩ | ⟨h1, h2⟩
  · rw [h1]
    simp only
    by_cases h : 9223372036854775808 ≤ digitsFrom 0 (c :: r)
    · rw [if_pos h, if_neg (by omega)]
    · rw [if_neg h, if_pos (by omega)]
  · rw [h1, if_neg (by omega)]
theorem Ext.bytes (w : World) (e : TypeId) (s : ByteArray) : Ext w (Lib.bytesWorld w e s) := Lib.bytesWorld_below w e s
theorem Atoi_ok (s : List UInt8) (w : World) (hs : s ≠ []) (hd : ∀ c ∈ s, digit c = true) (hl : s.length ≤ 1000000) (h : (digitsVal s : Int) ≤ 9223372036854775807) :
 Calls Tryz.prog 93 #[str s] w fun e w' => e = .returned (.tuple #[.int .i64 (digitsVal s), .nilIface]) ∧ Ext w w' := by
 have ha := atoi_digits s hs hd; rw [if_pos h] at ha; refine (Tryz.strconv_Atoi_ok ⟨s.toArray⟩ (by rw [ba_size]; omega) (digitsVal s) (by simpa using ha) w).mono ?_; rintro e w' ⟨rfl, rfl | ⟨t, rfl⟩⟩
 · exact ⟨rfl, Ext.refl _⟩
 · exact ⟨rfl, Ext.bytes _ _ _⟩
theorem Atoi_range (s : List UInt8) (w : World) (hs : s ≠ []) (hd : ∀ c ∈ s, digit c = true) (hl : s.length ≤ 1000000) (h : ¬ (digitsVal s : Int) ≤ 9223372036854775807) (he : Errs w) :
 Calls Tryz.prog 93 #[str s] w fun e w' => ∃ te pe, e = .returned (.tuple #[.int .i64 9223372036854775807, .iface te pe]) ∧ Ext w w' := by
 have ha := atoi_digits s hs hd; rw [if_neg h] at ha; obtain ⟨te, pe, hv⟩ := he.ex; refine (Tryz.strconv_Atoi_range ⟨s.toArray⟩ (by rw [ba_size]; omega) (by simpa using ha) (.iface te pe) w hv (Or.inr ⟨te, pe, rfl⟩)).mono ?_; rintro e w' ⟨N, rfl, -, -, hb⟩
 have : Lib.atoiSat (⟨s.toArray⟩ : ByteArray).data.toList = 9223372036854775807 := by
  cases s with
  | nil => exact absurd rfl hs
  | cons c r =>
   have hc := hd c List.mem_cons_self; simp only [digit, Bool.and_eq_true, decide_eq_true_eq] at hc
   simp [Lib.atoiSat]; omega
 rw [this]
 exact ⟨_, _, rfl, hb⟩
theorem peek_tok {c : PC} {σ : PS} {w : World} (hP : PP c σ w) (h : (peekP c.ts σ).kind = 2) : (peekP c.ts σ).text ≠ [] ∧ ∀ x ∈ (peekP c.ts σ).text, digit x = true := by
 by_cases h' : σ.err ≠ 0 ∨ σ.at_ = c.ts.length
 · rw [peek_off h'] at h; simp [Tok.zero] at h
 · have hlt : σ.at_ < c.ts.length := by have : σ.at_ ≠ c.ts.length := fun e => h' (Or.inr e); have := hP.at_; omega
   rw [peek_is h' hlt] at h ⊢
   exact hP.num _ (List.getElem_mem hlt) h
set_option maxRecDepth 100000 in
set_option maxHeartbeats 1000000 in
theorem number_c (c : PC) (σ : PS) (least most : Int) (w : World) (hP : PP c σ w) (h0 : -1 ≤ least) :
 Calls Tryz.prog 91 #[.pointer (some ⟨c.pb, 0, none⟩), .int .i64 least, .int .i64 most] w fun r w' => r = .returned (.int .i64 (numberP c.ts c.n least most σ).1) ∧ PP c (numberP c.ts c.n least most σ).2 w' ∧ Fr (· = c.pb) w w' := by
 have X := Fr.refl (· = c.pb) w; have hl := hP.len; have hpl := peek_len hP; have hpb := hP.pbB; have hB := hP.B
 by_cases hk : (peekP c.ts σ).kind = 2
 · obtain ⟨h2, h3⟩ := peek_in hP.at_ (Or.inr (show (peekP c.ts σ).kind ≠ 0 by omega))
   obtain ⟨d1, d2⟩ := peek_tok hP hk
   by_cases hr : (digitsVal (peekP c.ts σ).text : Int) ≤ 9223372036854775807
   · by_cases hr2 : least ≤ (digitsVal (peekP c.ts σ).text : Int) ∧ (digitsVal (peekP c.ts σ).text : Int) ≤ most
     · obtain ⟨r1, r2⟩ := hr2
       rw [show numberP c.ts c.n least most σ = ((digitsVal (peekP c.ts σ).text : Int), nextP σ) from by simp [numberP, hk, hr, r1, r2]]; refine calls_in Tryz.func91 Tryz.ntmps91 rfl rfl ?_
       focus
        refine cS (cA rfl rfl (cN (cM rfl rfl ?_))); refine cC (by kernel_rfl) rfl (peek_c _ _ _ (by assumption)) rfl ?_; rintro _ w2 ⟨⟨⟩, x1⟩; have z3 := x1.size; replace hP := hP.ext x1; replace X := X.ext x1; clear x1; (refine lw_alloc' [_, _, _] zOk rfl rfl ?_; intro b4 w5 n6); (refine lw_init' [_, _, _] tabOk rfl rfl rfl rfl rfl rfl n6 rfl ?_; clear n6; clear w5; intro w7 n6); have h8 := n6.blk; have x9 := n6.ext; have p10 := n6.pos; have z11 := n6.size; clear n6; replace hP := hP.ext x9; replace X := X.ext x9; clear x9; refine cT (cw_seq (cS (lw_pure (pur_fieldAddr0 tabOk rfl rfl rfl) rfl (lw_load_b tabOk rfl rfl rfl h8 rfl rfl (lw_pure (pur_neq rfl rfl) rfl (cT ?_)))))); refine cw_no rfl (by omega) ?_; refine cw_skip (qw_then (cS (cM rfl rfl (lw_pure (pur_nilCheck rfl) rfl (lw_pure (pur_fieldAddr tabOk rfl rfl rfl) rfl (lw_load_b tabOk rfl rfl rfl (PP.blk hP) rfl rfl ?_)))))); refine lw_pure (pur_add rfl rfl (IntWalk.i64_in _ (by omega))) rfl ?_; refine lw_pure (pur_nilCheck rfl) rfl (lw_pure (pur_fieldAddr tabOk rfl rfl rfl) rfl ?_); refine lw_pp_at tabOk rfl rfl rfl rfl (by assumption) h3 ?_; rintro w12 h13 f14; have z15 := f14.size; replace h8 := h8.fr f14 (by omega); clear hP; replace X := X.fr f14 (by omega); clear f14; refine cN (lw_pure (pur_fieldAddr tabOk rfl rfl rfl) rfl (lw_load_b tabOk rfl rfl rfl h8 rfl rfl ?_)); refine cC (by kernel_rfl) rfl (Atoi_ok _ _ d1 d2 hpl hr) rfl ?_; rintro _ w17 ⟨⟨⟩, x16⟩; have z18 := x16.size; replace h13 := h13.ext x16; replace h8 := h8.ext x16
        replace X := X.ext x16; clear x16; refine cM rfl rfl (lw_pure (pur_extract rfl rfl) rfl (lw_pure (pur_extract rfl rfl) rfl (cA rfl rfl (cA rfl rfl (cT (cw_seq (cS (cM rfl rfl (lw_pure (pur_ifn0 tabOk rfl rfl) rfl (cM rfl rfl (lw_on rfl rfl rfl (rfl) ?_))))))))))); refine cM rfl rfl (lw_on rfl rfl rfl (rfl) (cM rfl rfl (lw_on rfl rfl rfl (rfl) (lw_pure (pur_lss rfl rfl) rfl (lw_pure (pur_pick_f rfl rfl rfl) rfl (cM rfl rfl ?_)))))); refine lw_on rfl rfl rfl (gd_ff (by omega)) ?_; refine cM rfl rfl ?_; refine lw_on rfl rfl rfl (gd_ff (by omega)) ?_; refine cM rfl rfl ?_; refine lw_on rfl rfl rfl (gd_ff (by omega)) ?_; refine lw_pure (pur_gtr rfl rfl) rfl ?_; refine lw_pure (pur_pick_no rfl rfl (by omega)) rfl ?_; refine cT ?_; refine cw_no rfl (by omega) ?_; refine cw_skip (qw_then (cS (cM rfl rfl (cA rfl rfl (cT (cw_ret (qw_ret1 rfl rfl ?_))))))); rotate_left 1
       exact ⟨rfl, by assumption, X⟩
     · rw [show numberP c.ts c.n least most σ = (0, failP (nextP σ) (peekP c.ts σ).pos 2) from by simp [numberP, hk, hr, hr2]]
       by_cases r1 : least ≤ (digitsVal (peekP c.ts σ).text : Int)
       · have r2 : most < (digitsVal (peekP c.ts σ).text : Int) := by omega
         refine calls_in Tryz.func91 Tryz.ntmps91 rfl rfl ?_
         focus
          refine cS (cA rfl rfl (cN (cM rfl rfl ?_))); refine cC (by kernel_rfl) rfl (peek_c _ _ _ (by assumption)) rfl ?_; rintro _ wa2 ⟨⟨⟩, xa1⟩; have za3 := xa1.size; replace hP := hP.ext xa1; replace X := X.ext xa1; clear xa1; (refine lw_alloc' [_, _, _] zOk rfl rfl ?_; intro ba4 wa5 na6); (refine lw_init' [_, _, _] tabOk rfl rfl rfl rfl rfl rfl na6 rfl ?_; clear na6; clear wa5; intro wa7 na6); have ha8 := na6.blk; have xa9 := na6.ext; have pa10 := na6.pos; have za11 := na6.size; clear na6; replace hP := hP.ext xa9; replace X := X.ext xa9; clear xa9; refine cT (cw_seq (cS (lw_pure (pur_fieldAddr0 tabOk rfl rfl rfl) rfl (lw_load_b tabOk rfl rfl rfl ha8 rfl rfl (lw_pure (pur_neq rfl rfl) rfl (cT ?_)))))); refine cw_no rfl (by omega) ?_; refine cw_skip (qw_then (cS (cM rfl rfl (lw_pure (pur_nilCheck rfl) rfl (lw_pure (pur_fieldAddr tabOk rfl rfl rfl) rfl (lw_load_b tabOk rfl rfl rfl (PP.blk hP) rfl rfl ?_)))))); refine lw_pure (pur_add rfl rfl (IntWalk.i64_in _ (by omega))) rfl ?_; refine lw_pure (pur_nilCheck rfl) rfl (lw_pure (pur_fieldAddr tabOk rfl rfl rfl) rfl ?_); refine lw_pp_at tabOk rfl rfl rfl rfl (by assumption) h3 ?_; rintro wa12 ha13 fa14; have za15 := fa14.size; replace ha8 := ha8.fr fa14 (by omega); clear hP; replace X := X.fr fa14 (by omega); clear fa14; refine cN (lw_pure (pur_fieldAddr tabOk rfl rfl rfl) rfl (lw_load_b tabOk rfl rfl rfl ha8 rfl rfl ?_)); refine cC (by kernel_rfl) rfl (Atoi_ok _ _ d1 d2 hpl hr) rfl ?_; rintro _ wa17 ⟨⟨⟩, xa16⟩; have za18 := xa16.size
          replace ha13 := ha13.ext xa16; replace ha8 := ha8.ext xa16; replace X := X.ext xa16; clear xa16; refine cM rfl rfl (lw_pure (pur_extract rfl rfl) rfl (lw_pure (pur_extract rfl rfl) rfl (cA rfl rfl (cA rfl rfl (cT (cw_seq (cS (cM rfl rfl (lw_pure (pur_ifn0 tabOk rfl rfl) rfl (cM rfl rfl (lw_on rfl rfl rfl (rfl) ?_))))))))))); refine cM rfl rfl (lw_on rfl rfl rfl (rfl) (cM rfl rfl (lw_on rfl rfl rfl (rfl) (lw_pure (pur_lss rfl rfl) rfl (lw_pure (pur_pick_f rfl rfl rfl) rfl (cM rfl rfl ?_)))))); refine lw_on rfl rfl rfl (gd_ff (by omega)) ?_; refine cM rfl rfl ?_; refine lw_on rfl rfl rfl (gd_ff (by omega)) ?_; refine cM rfl rfl ?_; refine lw_on rfl rfl rfl (gd_ff (by omega)) ?_; refine lw_pure (pur_gtr rfl rfl) rfl ?_; refine lw_pure (pur_pick_no rfl rfl (by omega)) rfl ?_; refine cT ?_; refine cw_yes rfl (by assumption) ?_; refine cS (cM rfl rfl (lw_pure (pur_fieldAddr tabOk rfl rfl rfl) rfl (lw_load_b tabOk rfl rfl rfl ha8 rfl rfl ?_))); refine cC (by kernel_rfl) rfl (fail_c _ _ _ _ _ (by assumption)) rfl ?_; rintro _ wa21 ⟨⟨⟩, ⟨ha19, fa20⟩⟩; have za22 := fa20.size; clear ha13; replace ha8 := ha8.fr fa20 (by omega); replace X := X.fr fa20 (by omega); clear fa20; refine cN (cA rfl rfl (cT (cw_ret (qw_then_ret (qw_ret1 rfl rfl ?_))))); rotate_left 1
         exact ⟨rfl, by assumption, X⟩
       · refine calls_in Tryz.func91 Tryz.ntmps91 rfl rfl ?_
         focus
          refine cS (cA rfl rfl (cN (cM rfl rfl ?_))); refine cC (by kernel_rfl) rfl (peek_c _ _ _ (by assumption)) rfl ?_; rintro _ wb2 ⟨⟨⟩, xb1⟩; have zb3 := xb1.size; replace hP := hP.ext xb1; replace X := X.ext xb1; clear xb1; (refine lw_alloc' [_, _, _] zOk rfl rfl ?_; intro bb4 wb5 nb6); (refine lw_init' [_, _, _] tabOk rfl rfl rfl rfl rfl rfl nb6 rfl ?_; clear nb6; clear wb5; intro wb7 nb6); have hb8 := nb6.blk; have xb9 := nb6.ext; have pb10 := nb6.pos; have zb11 := nb6.size; clear nb6; replace hP := hP.ext xb9; replace X := X.ext xb9; clear xb9; refine cT (cw_seq (cS (lw_pure (pur_fieldAddr0 tabOk rfl rfl rfl) rfl (lw_load_b tabOk rfl rfl rfl hb8 rfl rfl (lw_pure (pur_neq rfl rfl) rfl (cT ?_)))))); refine cw_no rfl (by omega) ?_; refine cw_skip (qw_then (cS (cM rfl rfl (lw_pure (pur_nilCheck rfl) rfl (lw_pure (pur_fieldAddr tabOk rfl rfl rfl) rfl (lw_load_b tabOk rfl rfl rfl (PP.blk hP) rfl rfl ?_)))))); refine lw_pure (pur_add rfl rfl (IntWalk.i64_in _ (by omega))) rfl ?_; refine lw_pure (pur_nilCheck rfl) rfl (lw_pure (pur_fieldAddr tabOk rfl rfl rfl) rfl ?_); refine lw_pp_at tabOk rfl rfl rfl rfl (by assumption) h3 ?_; rintro wb12 hb13 fb14; have zb15 := fb14.size; replace hb8 := hb8.fr fb14 (by omega); clear hP; replace X := X.fr fb14 (by omega); clear fb14; refine cN (lw_pure (pur_fieldAddr tabOk rfl rfl rfl) rfl (lw_load_b tabOk rfl rfl rfl hb8 rfl rfl ?_)); refine cC (by kernel_rfl) rfl (Atoi_ok _ _ d1 d2 hpl hr) rfl ?_; rintro _ wb17 ⟨⟨⟩, xb16⟩; have zb18 := xb16.size
          replace hb13 := hb13.ext xb16; replace hb8 := hb8.ext xb16; replace X := X.ext xb16; clear xb16; refine cM rfl rfl (lw_pure (pur_extract rfl rfl) rfl (lw_pure (pur_extract rfl rfl) rfl (cA rfl rfl (cA rfl rfl (cT (cw_seq (cS (cM rfl rfl (lw_pure (pur_ifn0 tabOk rfl rfl) rfl (cM rfl rfl (lw_on rfl rfl rfl (rfl) ?_))))))))))); refine cM rfl rfl (lw_on rfl rfl rfl (rfl) (cM rfl rfl (lw_on rfl rfl rfl (rfl) (lw_pure (pur_lss rfl rfl) rfl (lw_pure (pur_pick_f rfl rfl rfl) rfl (cM rfl rfl ?_)))))); refine lw_off rfl rfl rfl (gd_ft (by omega)) rfl ?_; refine lw_off rfl rfl rfl (gd_ft (by omega)) rfl ?_; refine lw_off rfl rfl rfl (gd_ft (by omega)) rfl ?_; refine lw_pure (pur_pick_yes rfl rfl (by omega)) rfl ?_; refine cT (cw_cond_t rfl (cS (cM rfl rfl (lw_pure (pur_fieldAddr tabOk rfl rfl rfl) rfl (lw_load_b tabOk rfl rfl rfl hb8 rfl rfl ?_))))); refine cC (by kernel_rfl) rfl (fail_c _ _ _ _ _ (by assumption)) rfl ?_; rintro _ wb21 ⟨⟨⟩, ⟨hb19, fb20⟩⟩; have zb22 := fb20.size; clear hb13; replace hb8 := hb8.fr fb20 (by omega); replace X := X.fr fb20 (by omega); clear fb20; refine cN (cA rfl rfl (cT (cw_ret (qw_then_ret (qw_ret1 rfl rfl ?_))))); rotate_left 1
         exact ⟨rfl, by assumption, X⟩
   · rw [show numberP c.ts c.n least most σ = (0, failP (nextP σ) (peekP c.ts σ).pos 2) from by simp [numberP, hk, hr]]
     refine calls_in Tryz.func91 Tryz.ntmps91 rfl rfl ?_
     focus
      refine cS (cA rfl rfl (cN (cM rfl rfl ?_))); refine cC (by kernel_rfl) rfl (peek_c _ _ _ (by assumption)) rfl ?_; rintro _ wc2 ⟨⟨⟩, xc1⟩; have zc3 := xc1.size; replace hP := hP.ext xc1; replace X := X.ext xc1; clear xc1; (refine lw_alloc' [_, _, _] zOk rfl rfl ?_; intro bc4 wc5 nc6); (refine lw_init' [_, _, _] tabOk rfl rfl rfl rfl rfl rfl nc6 rfl ?_; clear nc6; clear wc5; intro wc7 nc6); have hc8 := nc6.blk; have xc9 := nc6.ext; have pc10 := nc6.pos; have zc11 := nc6.size; clear nc6; replace hP := hP.ext xc9; replace X := X.ext xc9; clear xc9; refine cT (cw_seq (cS (lw_pure (pur_fieldAddr0 tabOk rfl rfl rfl) rfl (lw_load_b tabOk rfl rfl rfl hc8 rfl rfl (lw_pure (pur_neq rfl rfl) rfl (cT ?_)))))); refine cw_no rfl (by omega) ?_; refine cw_skip (qw_then (cS (cM rfl rfl (lw_pure (pur_nilCheck rfl) rfl (lw_pure (pur_fieldAddr tabOk rfl rfl rfl) rfl (lw_load_b tabOk rfl rfl rfl (PP.blk hP) rfl rfl ?_)))))); refine lw_pure (pur_add rfl rfl (IntWalk.i64_in _ (by omega))) rfl ?_; refine lw_pure (pur_nilCheck rfl) rfl (lw_pure (pur_fieldAddr tabOk rfl rfl rfl) rfl ?_); refine lw_pp_at tabOk rfl rfl rfl rfl (by assumption) h3 ?_; rintro wc12 hc13 fc14; have zc15 := fc14.size; replace hc8 := hc8.fr fc14 (by omega); clear hP; replace X := X.fr fc14 (by omega); clear fc14; refine cN (lw_pure (pur_fieldAddr tabOk rfl rfl rfl) rfl (lw_load_b tabOk rfl rfl rfl hc8 rfl rfl ?_)); refine lw_does (does_call (by kernel_rfl) rfl (Atoi_range _ _ d1 d2 hpl hr (PP.errs (by assumption))) (fun _ _ ⟨_, _, h⟩ => ⟨_, h.1⟩)) rfl ?_ (fun _ h => h)
      rintro _ wc19 ⟨tec16, ⟨pec17, ⟨⟨⟩, xc18⟩⟩⟩; have zc20 := xc18.size; replace hc13 := hc13.ext xc18; replace hc8 := hc8.ext xc18; replace X := X.ext xc18; clear xc18; refine cM rfl rfl (lw_pure (pur_extract rfl rfl) rfl (lw_pure (pur_extract rfl rfl) rfl (cA rfl rfl (cA rfl rfl (cT (cw_seq (cS (cM rfl rfl (lw_pure (pur_ifn1 tabOk rfl rfl) rfl (cM rfl rfl (lw_off rfl rfl rfl (rfl) rfl ?_))))))))))); refine lw_off rfl rfl rfl (rfl) rfl (lw_off rfl rfl rfl (rfl) rfl (lw_pure (pur_pick_t rfl rfl rfl) rfl (cM rfl rfl (lw_off rfl rfl rfl (rfl) rfl (lw_off rfl rfl rfl (rfl) rfl (lw_off rfl rfl rfl (rfl) rfl (lw_pure (pur_pick_t rfl rfl rfl) rfl (cT (cw_cond_t rfl (cS (cM rfl rfl ?_))))))))))); refine lw_pure (pur_fieldAddr tabOk rfl rfl rfl) rfl (lw_load_b tabOk rfl rfl rfl hc8 rfl rfl ?_); refine cC (by kernel_rfl) rfl (fail_c _ _ _ _ _ (by assumption)) rfl ?_; rintro _ wc23 ⟨⟨⟩, ⟨hc21, fc22⟩⟩; have zc24 := fc22.size; clear hc13; replace hc8 := hc8.fr fc22 (by omega); replace X := X.fr fc22 (by omega); clear fc22; refine cN (cA rfl rfl (cT (cw_ret (qw_then_ret (qw_ret1 rfl rfl ?_))))); rotate_left 1
     exact ⟨rfl, by assumption, X⟩
 · rw [show numberP c.ts c.n least most σ = (0, unexpP c.ts c.n σ) from by simp [numberP, hk]]
   refine calls_in Tryz.func91 Tryz.ntmps91 rfl rfl ?_
   focus
    refine cS (cA rfl rfl (cN (cM rfl rfl ?_))); refine cC (by kernel_rfl) rfl (peek_c _ _ _ (by assumption)) rfl ?_; rintro _ wd2 ⟨⟨⟩, xd1⟩; have zd3 := xd1.size; replace hP := hP.ext xd1; replace X := X.ext xd1; clear xd1; (refine lw_alloc' [_, _, _] zOk rfl rfl ?_; intro bd4 wd5 nd6); (refine lw_init' [_, _, _] tabOk rfl rfl rfl rfl rfl rfl nd6 rfl ?_; clear nd6; clear wd5; intro wd7 nd6); have hd8 := nd6.blk; have xd9 := nd6.ext; have pd10 := nd6.pos; have zd11 := nd6.size; clear nd6; replace hP := hP.ext xd9; replace X := X.ext xd9; clear xd9; refine cT (cw_seq (cS (lw_pure (pur_fieldAddr0 tabOk rfl rfl rfl) rfl (lw_load_b tabOk rfl rfl rfl hd8 rfl rfl (lw_pure (pur_neq rfl rfl) rfl (cT ?_)))))); refine cw_yes rfl (by assumption) ?_; refine cS (cM rfl rfl ?_); refine cC (by kernel_rfl) rfl (unexpected_c _ _ _ (by assumption)) rfl ?_; rintro _ wd14 ⟨⟨⟩, ⟨hd12, fd13⟩⟩; have zd15 := fd13.size; replace hd8 := hd8.fr fd13 (by omega); clear hP; replace X := X.fr fd13 (by omega); clear fd13; refine cN (cA rfl rfl (cT (cw_ret (qw_then_ret (qw_ret1 rfl rfl ?_))))); rotate_left 1
   exact ⟨rfl, by assumption, X⟩
end Bk
namespace Bk
open Go
section
variable {ts : List Tok} {n : Int}
def mS (ts : List Tok) (σ : PS) : Nat := if σ.err = 0 then ts.length - σ.at_ else 0
theorem mS_le {σ σ' : PS} (h : Le ts σ σ') : mS ts σ' ≤ mS ts σ := by
 unfold mS
 by_cases e' : σ'.err = 0
 · have := h.ok e'
   have := h.le
   rw [if_pos e', if_pos (by assumption)]; omega
 · rw [if_neg e']; omega
theorem mS_lt {σ σ' : PS} (h : Le ts σ σ') (k : Lt σ σ') : mS ts σ' + 1 ≤ mS ts σ ∨ mS ts σ' = 0 := by
 unfold mS
 by_cases e' : σ'.err = 0
 · have := h.ok e'
   have := k e'; have := h.wf
   rw [if_pos e', if_pos (by assumption)]; omega
 · rw [if_neg e']; exact Or.inr rfl
theorem mS_next {σ : PS} (h : σ.err = 0 ∧ σ.at_ < ts.length) : mS ts (nextP σ) + 1 = mS ts σ := by
 unfold mS nextP
 simp only [h.1, if_true]
 omega
end
end Bk
namespace Bk
open Go Go.RowKit Go.Proofs
attribute [local irreducible] Go.Calls
def ExprC (c : PC) (k : Nat) : Prop := ∀ (lv : Int) (σ : PS) (w : World), PP c σ w → 4 * mS c.ts σ + 4 ≤ k → 1 ≤ lv → lv ≤ 9 →
 Calls Tryz.prog 79 #[.pointer (some ⟨c.pb, 0, none⟩), .int .i64 lv] w (TreeR c w (exprP c.ts c.n k lv σ))
def UnaryC (c : PC) (k : Nat) : Prop := ∀ (σ : PS) (w : World), PP c σ w → 4 * mS c.ts σ + 3 ≤ k →
 Calls Tryz.prog 85 #[.pointer (some ⟨c.pb, 0, none⟩)] w (TreeR c w (unaryP c.ts c.n k σ))
def PrimaryC (c : PC) (k : Nat) : Prop := ∀ (σ : PS) (w : World), PP c σ w → 4 * mS c.ts σ + 2 ≤ k →
 Calls Tryz.prog 89 #[.pointer (some ⟨c.pb, 0, none⟩)] w (TreeR c w (primaryP c.ts c.n k σ))
def PlaceC (c : PC) (k : Nat) : Prop := ∀ (σ : PS) (w : World), PP c σ w → 4 * mS c.ts σ + 1 ≤ k →
 Calls Tryz.prog 75 #[.pointer (some ⟨c.pb, 0, none⟩)] w (TreeR c w (placeP c.ts c.n k σ))
structure ExprsC (c : PC) (k : Nat) : Prop where
 expr : ExprC c k
 unary : UnaryC c k
 primary : PrimaryC c k
 place : PlaceC c k
theorem mS_has {c : PC} {σ : PS} {t : List UInt8} (h : σ.at_ ≤ c.ts.length) (hh : hasP c.ts σ t = true) (ht : t ≠ []) : mS c.ts (nextP σ) + 1 = mS c.ts σ := mS_next (has_in h hh ht)
set_option maxRecDepth 100000 in
set_option maxHeartbeats 1000000 in
theorem place_w (c : PC) (k : Nat) (IH : ∀ j, j ≤ k → ExprsC c j) : PlaceC c (k + 1) := by
 intro σ w hP hk; have X := Fr.refl (· = c.pb) w; have hpb := hP.pbB; have hB := hP.B; have hn := name_le (n := c.n) hP.at_
 cases hh : hasP c.ts (nameP c.ts c.n σ).2 [91]
 · rw [show placeP c.ts c.n (k + 1) σ = (.mk 2 0 (nameP c.ts c.n σ).1 [], (nameP c.ts c.n σ).2) from by rw [placeP]; simp [hh]]
   refine calls_in Tryz.func75 Tryz.ntmps75 rfl rfl ?_
   focus
    refine cS ?_; (refine lw_alloc' [_, _, _, _] zOk rfl rfl ?_; intro b1 w2 n3); have h5 := n3.blk; have x6 := n3.ext; have p7 := n3.pos; have z8 := n3.size; clear n3; replace hP := hP.ext x6; replace X := X.ext x6; clear x6; refine cN (cM rfl rfl ?_); refine cC (by kernel_rfl) rfl (name_c _ _ _ (by assumption)) rfl ?_; rintro _ w11 ⟨⟨⟩, ⟨h9, f10⟩⟩; have z12 := f10.size; replace h5 := h5.fr f10 (by omega); clear hP; replace X := X.fr f10 (by omega); clear f10; refine cA rfl rfl (cT (cw_seq (cS (cM rfl rfl ?_)))); refine cC (by kernel_rfl) rfl (accept_f _ _ _ _ (by assumption) (by decide) (by assumption)) rfl ?_; rintro _ w15 ⟨⟨⟩, ⟨h13, f14⟩⟩; have z16 := f14.size; clear h9; replace h5 := h5.fr f14 (by omega); replace X := X.fr f14 (by omega); clear f14; refine lw_pure (pur_not rfl) rfl (cT (cw_cond_t rfl (cS (cM rfl rfl (lw_pure (pur_build' [_, _, _, _] tabOk zOk rfl rfl rfl rfl) rfl ?_))))); (refine lw_store' [_, _, _, _] [_, _, _, _] tabOk rfl rfl rfl rfl rfl rfl h5 rfl rfl ?_; intro w17 n18); have h21 := n18.blk; have f19 := n18.fr; have z20 := n18.size; clear n18 h5; replace h13 := h13.fr f19 (by omega); replace X := X.fr f19 (by omega); clear f19; refine cT (cw_ret (qw_then_ret (qw_retc rfl tabOk rfl rfl rfl h21 rfl ?_))); rotate_left 1
   exact tree_ret sits_nil (by assumption) X
 · rw [show placeP c.ts c.n (k + 1) σ = (.mk 3 0 (nameP c.ts c.n σ).1 [(exprP c.ts c.n k 1 (nextP (nameP c.ts c.n σ).2)).1], expectP c.ts c.n (exprP c.ts c.n k 1 (nextP (nameP c.ts c.n σ).2)).2 [93]) from by rw [placeP]; simp [hh]]
   have hm := mS_has hn.wf hh (by decide); have hm2 := mS_le hn
   have hf : 4 * mS c.ts (nextP (nameP c.ts c.n σ).2) + 4 ≤ k := by omega
   refine calls_in Tryz.func75 Tryz.ntmps75 rfl rfl ?_
   focus
    refine cS ?_; (refine lw_alloc' [_, _, _, _] zOk rfl rfl ?_; intro ba1 wa2 na3); have ha5 := na3.blk; have xa6 := na3.ext; have pa7 := na3.pos; have za8 := na3.size; clear na3; replace hP := hP.ext xa6; replace X := X.ext xa6; clear xa6; refine cN (cM rfl rfl ?_); refine cC (by kernel_rfl) rfl (name_c _ _ _ (by assumption)) rfl ?_; rintro _ wa11 ⟨⟨⟩, ⟨ha9, fa10⟩⟩; have za12 := fa10.size; replace ha5 := ha5.fr fa10 (by omega); clear hP; replace X := X.fr fa10 (by omega); clear fa10; refine cA rfl rfl (cT (cw_seq (cS (cM rfl rfl ?_)))); refine cC (by kernel_rfl) rfl (accept_t _ _ _ _ (by assumption) (by decide) (by assumption)) rfl ?_; rintro _ wa15 ⟨⟨⟩, ⟨ha13, fa14⟩⟩; have za16 := fa14.size; clear ha9; replace ha5 := ha5.fr fa14 (by omega); replace X := X.fr fa14 (by omega); clear fa14; refine lw_pure (pur_not rfl) rfl (cT (cw_cond_f rfl (cw_skip (qw_then (cS (cM rfl rfl ?_)))))); refine cR (by kernel_rfl) rfl ((IH k (Nat.le_refl _)).expr _ _ _ (by assumption) hf (by decide) (by decide)) (fun _ _ h => h.ret) rfl ?_; rintro _ wa22 ⟨aa17, ⟨ka18, ⟨⟨⟩, ⟨ha19, ⟨ha20, fa21⟩⟩⟩⟩⟩; have za23 := fa21.size; clear ha13; replace ha5 := ha5.fr fa21 (by omega); replace X := X.fr fa21 (by omega); clear fa21; (refine lw_alloc' [_, _, _, _] zOk rfl rfl ?_; intro ba24 wa25 na26); (refine lw_init' [_, _, _, _] tabOk rfl rfl rfl rfl rfl rfl na26 rfl ?_; clear na26; clear wa25; intro wa27 na26); have ha28 := na26.blk; have xa29 := na26.ext; have pa30 := na26.pos; have za31 := na26.size; clear na26
    replace ha19 := Nd.sits.ext ha19 xa29; replace ha20 := ha20.ext xa29; replace ha5 := ha5.ext xa29; replace X := X.ext xa29; clear xa29; refine cN (cM rfl rfl ?_); refine cC (by kernel_rfl) rfl (expect_c _ _ _ _ (by assumption) (by decide)) rfl ?_; rintro _ wa34 ⟨⟨⟩, ⟨ha32, fa33⟩⟩; have za35 := fa33.size; replace ha28 := ha28.fr fa33 (by omega); replace ha19 := Nd.sits.fr ha19 fa33 (by omega); clear ha20; replace ha5 := ha5.fr fa33 (by omega); replace X := X.fr fa33 (by omega); clear fa33; refine cN (cM rfl rfl (lw_loads_b' [_, _, _, _] tabOk rfl rfl rfl ha28 rfl rfl rfl ?_)); (refine lw_does (does_slice' [_, _, _, _] tabOk zOk rfl rfl rfl rfl rfl rfl rfl rfl rfl) rfl ?_ (fun _ h => h); rintro _ wa37 ⟨ba36, rfl, na38, ta39⟩); clear ta39; have ha40 := na38.blk; have xa41 := na38.ext; have pa42 := na38.pos; have za43 := na38.size; clear na38; replace ha32 := ha32.ext xa41; replace ha28 := ha28.ext xa41; replace ha19 := Nd.sits.ext ha19 xa41; replace ha5 := ha5.ext xa41; replace X := X.ext xa41; clear xa41; refine lw_pure (pur_build' [_, _, _, _] tabOk zOk rfl rfl rfl rfl) rfl ?_; (refine lw_store' [_, _, _, _] [_, _, _, _] tabOk rfl rfl rfl rfl rfl rfl ha5 rfl rfl ?_; intro wa44 na45); have ha48 := na45.blk; have fa46 := na45.fr; have za47 := na45.size; clear na45 ha5; replace ha40 := ha40.fr fa46 (by omega); replace ha32 := ha32.fr fa46 (by omega); replace ha28 := ha28.fr fa46 (by omega); replace ha19 := Nd.sits.fr ha19 fa46 (by omega); replace X := X.fr fa46 (by omega); clear fa46
    refine cT (cw_ret (qw_retc rfl tabOk rfl rfl rfl ha48 rfl ?_)); rotate_left 1
   exact tree_ret (sits_1 (by assumption) (by omega) (by assumption) (fun b h => by omega)) (by assumption) X
set_option maxRecDepth 100000 in
set_option maxHeartbeats 1000000 in
theorem primary_w (c : PC) (k : Nat) (IH : ∀ j, j ≤ k → ExprsC c j) : PrimaryC c (k + 1) := by
 intro σ w hP hk; have X := Fr.refl (· = c.pb) w; have hpb := hP.pbB; have hB := hP.B
 by_cases h2 : (peekP c.ts σ).kind = 2
 · rw [show primaryP c.ts c.n (k + 1) σ = (.mk 1 (numberP c.ts c.n 0 9223372036854775807 σ).1 [] [], (numberP c.ts c.n 0 9223372036854775807 σ).2) from by rw [primaryP]; simp [h2]]
   refine calls_in Tryz.func89 Tryz.ntmps89 rfl rfl ?_
   focus
    refine cS ?_; (refine lw_alloc' [_, _, _, _] zOk rfl rfl ?_; intro b1 w2 n3); have h5 := n3.blk; have x6 := n3.ext; have p7 := n3.pos; have z8 := n3.size; clear n3; replace hP := hP.ext x6; replace X := X.ext x6; clear x6; refine cT (cw_seq (cw_block (cS (cM rfl rfl ?_)))); refine cC (by kernel_rfl) rfl (peek_c _ _ _ (by assumption)) rfl ?_; rintro _ w10 ⟨⟨⟩, x9⟩; have z11 := x9.size; replace h5 := h5.ext x9; replace hP := hP.ext x9; replace X := X.ext x9; clear x9; refine lw_pure (pur_field tabOk rfl rfl rfl rfl rfl rfl) rfl (lw_pure (pur_eql rfl rfl) rfl (cA rfl rfl (cT ?_))); refine cw_yes rfl (by assumption) ?_; refine cS (cM rfl rfl ?_); refine cC (by kernel_rfl) rfl (number_c _ _ _ _ _ (by assumption) (by decide)) rfl ?_; rintro _ w14 ⟨⟨⟩, ⟨h12, f13⟩⟩; have z15 := f13.size; replace h5 := h5.fr f13 (by omega); clear hP; replace X := X.fr f13 (by omega); clear f13; refine lw_pure (pur_build' [_, _, _, _] tabOk zOk rfl rfl rfl rfl) rfl ?_; (refine lw_store' [_, _, _, _] [_, _, _, _] tabOk rfl rfl rfl rfl rfl rfl h5 rfl rfl ?_; intro w16 n17); have h20 := n17.blk; have f18 := n17.fr; have z19 := n17.size; clear n17 h5; replace h12 := h12.fr f18 (by omega); replace X := X.fr f18 (by omega); clear f18; refine cT (cw_ret (qw_block_ret (qw_then_ret (qw_retc rfl tabOk rfl rfl rfl h20 rfl ?_)))); rotate_left 1
   exact tree_ret sits_nil (by assumption) X
 cases ht : hasP c.ts σ [116, 111, 112]
 case true =>
  rw [show primaryP c.ts c.n (k + 1) σ = (.mk 4 0 (nameP c.ts c.n (expectP c.ts c.n (nextP σ) [40])).1 [], expectP c.ts c.n (nameP c.ts c.n (expectP c.ts c.n (nextP σ) [40])).2 [41]) from by rw [primaryP]; simp [h2, ht]]; refine calls_in Tryz.func89 Tryz.ntmps89 rfl rfl ?_
  focus
   refine cS ?_; (refine lw_alloc' [_, _, _, _] zOk rfl rfl ?_; intro ba1 wa2 na3); have ha5 := na3.blk; have xa6 := na3.ext; have pa7 := na3.pos; have za8 := na3.size; clear na3; replace hP := hP.ext xa6; replace X := X.ext xa6; clear xa6; refine cT (cw_seq (cw_block (cS (cM rfl rfl ?_)))); refine cC (by kernel_rfl) rfl (peek_c _ _ _ (by assumption)) rfl ?_; rintro _ wa10 ⟨⟨⟩, xa9⟩; have za11 := xa9.size; replace ha5 := ha5.ext xa9; replace hP := hP.ext xa9; replace X := X.ext xa9; clear xa9; refine lw_pure (pur_field tabOk rfl rfl rfl rfl rfl rfl) rfl (lw_pure (pur_eql rfl rfl) rfl (cA rfl rfl (cT ?_))); refine cw_no rfl (by assumption) ?_; refine cS (cM rfl rfl ?_); refine cC (by kernel_rfl) rfl (accept_t _ _ _ _ (by assumption) (by decide) (by assumption)) rfl ?_; rintro _ wa14 ⟨⟨⟩, ⟨ha12, fa13⟩⟩; have za15 := fa13.size; replace ha5 := ha5.fr fa13 (by omega); clear hP; replace X := X.fr fa13 (by omega); clear fa13; refine cA rfl rfl (cT (cw_cond_t rfl (cS (cM rfl rfl ?_)))); refine cR (by kernel_rfl) rfl (stackExpr_c _ _ _ _ (by assumption)) (fun _ _ h => h.ret) rfl ?_; rintro _ wa21 ⟨aa16, ⟨ka17, ⟨⟨⟩, ⟨ha18, ⟨ha19, fa20⟩⟩⟩⟩⟩; have za22 := fa20.size; clear ha12; replace ha5 := ha5.fr fa20 (by omega); replace X := X.fr fa20 (by omega); clear fa20; (refine lw_store' [_, _, _, _] [_, _, _, _] tabOk rfl rfl rfl rfl rfl rfl ha5 rfl rfl ?_; intro wa23 na24); have ha27 := na24.blk; have fa25 := na24.fr; have za26 := na24.size; clear na24 ha5; replace ha18 := Nd.sits.fr ha18 fa25 (by omega)
   replace ha19 := ha19.fr fa25 (by omega); replace X := X.fr fa25 (by omega); clear fa25; refine cT (cw_ret (qw_block_ret (qw_then_ret (qw_retc rfl tabOk rfl rfl rfl ha27 rfl ?_)))); rotate_left 1
  exact tree_ret sits_nil (by assumption) X
 cases hs : hasP c.ts σ [115, 105, 122, 101]
 case true =>
  rw [show primaryP c.ts c.n (k + 1) σ = (.mk 5 0 (nameP c.ts c.n (expectP c.ts c.n (nextP σ) [40])).1 [], expectP c.ts c.n (nameP c.ts c.n (expectP c.ts c.n (nextP σ) [40])).2 [41]) from by rw [primaryP]; simp [h2, ht, hs]]; refine calls_in Tryz.func89 Tryz.ntmps89 rfl rfl ?_
  focus
   refine cS ?_; (refine lw_alloc' [_, _, _, _] zOk rfl rfl ?_; intro bb1 wb2 nb3); have hb5 := nb3.blk; have xb6 := nb3.ext; have pb7 := nb3.pos; have zb8 := nb3.size; clear nb3; replace hP := hP.ext xb6; replace X := X.ext xb6; clear xb6; refine cT (cw_seq (cw_block (cS (cM rfl rfl ?_)))); refine cC (by kernel_rfl) rfl (peek_c _ _ _ (by assumption)) rfl ?_; rintro _ wb10 ⟨⟨⟩, xb9⟩; have zb11 := xb9.size; replace hb5 := hb5.ext xb9; replace hP := hP.ext xb9; replace X := X.ext xb9; clear xb9; refine lw_pure (pur_field tabOk rfl rfl rfl rfl rfl rfl) rfl (lw_pure (pur_eql rfl rfl) rfl (cA rfl rfl (cT ?_))); refine cw_no rfl (by assumption) ?_; refine cS (cM rfl rfl ?_); refine cC (by kernel_rfl) rfl (accept_f _ _ _ _ (by assumption) (by decide) (by assumption)) rfl ?_; rintro _ wb14 ⟨⟨⟩, ⟨hb12, fb13⟩⟩; have zb15 := fb13.size; replace hb5 := hb5.fr fb13 (by omega); clear hP; replace X := X.fr fb13 (by omega); clear fb13; refine cA rfl rfl (cT (cw_cond_f rfl (cS (cM rfl rfl ?_)))); refine cC (by kernel_rfl) rfl (accept_t _ _ _ _ (by assumption) (by decide) (by assumption)) rfl ?_; rintro _ wb18 ⟨⟨⟩, ⟨hb16, fb17⟩⟩; have zb19 := fb17.size; clear hb12; replace hb5 := hb5.fr fb17 (by omega); replace X := X.fr fb17 (by omega); clear fb17; refine cA rfl rfl (cT (cw_cond_t rfl (cS (cM rfl rfl ?_)))); refine cR (by kernel_rfl) rfl (stackExpr_c _ _ _ _ (by assumption)) (fun _ _ h => h.ret) rfl ?_; rintro _ wb25 ⟨ab20, ⟨kb21, ⟨⟨⟩, ⟨hb22, ⟨hb23, fb24⟩⟩⟩⟩⟩; have zb26 := fb24.size; clear hb16
   replace hb5 := hb5.fr fb24 (by omega); replace X := X.fr fb24 (by omega); clear fb24; (refine lw_store' [_, _, _, _] [_, _, _, _] tabOk rfl rfl rfl rfl rfl rfl hb5 rfl rfl ?_; intro wb27 nb28); have hb31 := nb28.blk; have fb29 := nb28.fr; have zb30 := nb28.size; clear nb28 hb5; replace hb22 := Nd.sits.fr hb22 fb29 (by omega); replace hb23 := hb23.fr fb29 (by omega); replace X := X.fr fb29 (by omega); clear fb29; refine cT (cw_ret (qw_block_ret (qw_then_ret (qw_retc rfl tabOk rfl rfl rfl hb31 rfl ?_)))); rotate_left 1
  exact tree_ret sits_nil (by assumption) X
 cases hp : hasP c.ts σ [40]
 case true =>
  rw [show primaryP c.ts c.n (k + 1) σ = ((exprP c.ts c.n k 1 (nextP σ)).1, expectP c.ts c.n (exprP c.ts c.n k 1 (nextP σ)).2 [41]) from by rw [primaryP]; simp [h2, ht, hs, hp]]; have hm := mS_has hP.at_ hp (by decide)
  have hf : 4 * mS c.ts (nextP σ) + 4 ≤ k := by omega
  refine calls_in Tryz.func89 Tryz.ntmps89 rfl rfl ?_
  focus
   refine cS ?_; (refine lw_alloc' [_, _, _, _] zOk rfl rfl ?_; intro bc1 wc2 nc3); have hc5 := nc3.blk; have xc6 := nc3.ext; have pc7 := nc3.pos; have zc8 := nc3.size; clear nc3; replace hP := hP.ext xc6; replace X := X.ext xc6; clear xc6; refine cT (cw_seq (cw_block (cS (cM rfl rfl ?_)))); refine cC (by kernel_rfl) rfl (peek_c _ _ _ (by assumption)) rfl ?_; rintro _ wc10 ⟨⟨⟩, xc9⟩; have zc11 := xc9.size; replace hc5 := hc5.ext xc9; replace hP := hP.ext xc9; replace X := X.ext xc9; clear xc9; refine lw_pure (pur_field tabOk rfl rfl rfl rfl rfl rfl) rfl (lw_pure (pur_eql rfl rfl) rfl (cA rfl rfl (cT ?_))); refine cw_no rfl (by assumption) ?_; refine cS (cM rfl rfl ?_); refine cC (by kernel_rfl) rfl (accept_f _ _ _ _ (by assumption) (by decide) (by assumption)) rfl ?_; rintro _ wc14 ⟨⟨⟩, ⟨hc12, fc13⟩⟩; have zc15 := fc13.size; replace hc5 := hc5.fr fc13 (by omega); clear hP; replace X := X.fr fc13 (by omega); clear fc13; refine cA rfl rfl (cT (cw_cond_f rfl (cS (cM rfl rfl ?_)))); refine cC (by kernel_rfl) rfl (accept_f _ _ _ _ (by assumption) (by decide) (by assumption)) rfl ?_; rintro _ wc18 ⟨⟨⟩, ⟨hc16, fc17⟩⟩; have zc19 := fc17.size; clear hc12; replace hc5 := hc5.fr fc17 (by omega); replace X := X.fr fc17 (by omega); clear fc17; refine cA rfl rfl (cT (cw_cond_f rfl (cS (cM rfl rfl ?_)))); refine cC (by kernel_rfl) rfl (accept_t _ _ _ _ (by assumption) (by decide) (by assumption)) rfl ?_; rintro _ wc22 ⟨⟨⟩, ⟨hc20, fc21⟩⟩; have zc23 := fc21.size; clear hc16; replace hc5 := hc5.fr fc21 (by omega)
   replace X := X.fr fc21 (by omega); clear fc21; refine cA rfl rfl (cT (cw_cond_t rfl (cS (cM rfl rfl ?_)))); refine cR (by kernel_rfl) rfl ((IH k (Nat.le_refl _)).expr _ _ _ (by assumption) hf (by decide) (by decide)) (fun _ _ h => h.ret) rfl ?_; rintro _ wc29 ⟨ac24, ⟨kc25, ⟨⟨⟩, ⟨hc26, ⟨hc27, fc28⟩⟩⟩⟩⟩; have zc30 := fc28.size; clear hc20; replace hc5 := hc5.fr fc28 (by omega); replace X := X.fr fc28 (by omega); clear fc28; (refine lw_alloc' [_, _, _, _] zOk rfl rfl ?_; intro bc31 wc32 nc33); (refine lw_init' [_, _, _, _] tabOk rfl rfl rfl rfl rfl rfl nc33 rfl ?_; clear nc33; clear wc32; intro wc34 nc33); have hc35 := nc33.blk; have xc36 := nc33.ext; have pc37 := nc33.pos; have zc38 := nc33.size; clear nc33; replace hc26 := Nd.sits.ext hc26 xc36; replace hc27 := hc27.ext xc36; replace hc5 := hc5.ext xc36; replace X := X.ext xc36; clear xc36; refine cN (cM rfl rfl ?_); refine cC (by kernel_rfl) rfl (expect_c _ _ _ _ (by assumption) (by decide)) rfl ?_; rintro _ wc41 ⟨⟨⟩, ⟨hc39, fc40⟩⟩; have zc42 := fc40.size; replace hc35 := hc35.fr fc40 (by omega); replace hc26 := Nd.sits.fr hc26 fc40 (by omega); clear hc27; replace hc5 := hc5.fr fc40 (by omega); replace X := X.fr fc40 (by omega); clear fc40; refine cN (lw_loads_b' [_, _, _, _] tabOk rfl rfl rfl hc35 rfl rfl rfl ?_); (refine lw_store' [_, _, _, _] [_, _, _, _] tabOk rfl rfl rfl rfl rfl rfl hc5 rfl rfl ?_; intro wc43 nc44); have hc47 := nc44.blk; have fc45 := nc44.fr; have zc46 := nc44.size; clear nc44 hc5; replace hc39 := hc39.fr fc45 (by omega)
   replace hc35 := hc35.fr fc45 (by omega); replace hc26 := Nd.sits.fr hc26 fc45 (by omega); replace X := X.fr fc45 (by omega); clear fc45; refine cT (cw_ret (qw_block_ret (qw_then_ret (qw_retc rfl tabOk rfl rfl rfl hc47 rfl ?_)))); rotate_left 1
  exact tree_ret (Nd.sits.wide (by assumption) (fun b h => by omega)) (by assumption) X
 · rw [show primaryP c.ts c.n (k + 1) σ = placeP c.ts c.n k σ from by rw [primaryP]; simp [h2, ht, hs, hp]]
   have hf : 4 * mS c.ts σ + 1 ≤ k := by omega
   refine calls_in Tryz.func89 Tryz.ntmps89 rfl rfl ?_
   focus
    refine cS ?_; (refine lw_alloc' [_, _, _, _] zOk rfl rfl ?_; intro bd1 wd2 nd3); have hd5 := nd3.blk; have xd6 := nd3.ext; have pd7 := nd3.pos; have zd8 := nd3.size; clear nd3; replace hP := hP.ext xd6; replace X := X.ext xd6; clear xd6; refine cT (cw_seq (cw_block (cS (cM rfl rfl ?_)))); refine cC (by kernel_rfl) rfl (peek_c _ _ _ (by assumption)) rfl ?_; rintro _ wd10 ⟨⟨⟩, xd9⟩; have zd11 := xd9.size; replace hd5 := hd5.ext xd9; replace hP := hP.ext xd9; replace X := X.ext xd9; clear xd9; refine lw_pure (pur_field tabOk rfl rfl rfl rfl rfl rfl) rfl (lw_pure (pur_eql rfl rfl) rfl (cA rfl rfl (cT ?_))); refine cw_no rfl (by assumption) ?_; refine cS (cM rfl rfl ?_); refine cC (by kernel_rfl) rfl (accept_f _ _ _ _ (by assumption) (by decide) (by assumption)) rfl ?_; rintro _ wd14 ⟨⟨⟩, ⟨hd12, fd13⟩⟩; have zd15 := fd13.size; replace hd5 := hd5.fr fd13 (by omega); clear hP; replace X := X.fr fd13 (by omega); clear fd13; refine cA rfl rfl (cT (cw_cond_f rfl (cS (cM rfl rfl ?_)))); refine cC (by kernel_rfl) rfl (accept_f _ _ _ _ (by assumption) (by decide) (by assumption)) rfl ?_; rintro _ wd18 ⟨⟨⟩, ⟨hd16, fd17⟩⟩; have zd19 := fd17.size; clear hd12; replace hd5 := hd5.fr fd17 (by omega); replace X := X.fr fd17 (by omega); clear fd17; refine cA rfl rfl (cT (cw_cond_f rfl (cS (cM rfl rfl ?_)))); refine cC (by kernel_rfl) rfl (accept_f _ _ _ _ (by assumption) (by decide) (by assumption)) rfl ?_; rintro _ wd22 ⟨⟨⟩, ⟨hd20, fd21⟩⟩; have zd23 := fd21.size; clear hd16; replace hd5 := hd5.fr fd21 (by omega)
    replace X := X.fr fd21 (by omega); clear fd21; refine cA rfl rfl (cT (cw_cond_f rfl (cw_skip (qw_block_norm (qw_then (cS (cM rfl rfl ?_))))))); refine cR (by kernel_rfl) rfl ((IH k (Nat.le_refl _)).place _ _ (by assumption) hf) (fun _ _ h => h.ret) rfl ?_; rintro _ wd29 ⟨ad24, ⟨kd25, ⟨⟨⟩, ⟨hd26, ⟨hd27, fd28⟩⟩⟩⟩⟩; have zd30 := fd28.size; clear hd20; replace hd5 := hd5.fr fd28 (by omega); replace X := X.fr fd28 (by omega); clear fd28; (refine lw_store' [_, _, _, _] [_, _, _, _] tabOk rfl rfl rfl rfl rfl rfl hd5 rfl rfl ?_; intro wd31 nd32); have hd35 := nd32.blk; have fd33 := nd32.fr; have zd34 := nd32.size; clear nd32 hd5; replace hd26 := Nd.sits.fr hd26 fd33 (by omega); replace hd27 := hd27.fr fd33 (by omega); replace X := X.fr fd33 (by omega); clear fd33; refine cT (cw_ret (qw_retc rfl tabOk rfl rfl rfl hd35 rfl ?_)); rotate_left 1
   exact tree_ret (Nd.sits.wide (by assumption) (fun b h => by omega)) (by assumption) X
set_option maxRecDepth 100000 in
set_option maxHeartbeats 1000000 in
theorem unary_w (c : PC) (k : Nat) (IH : ∀ j, j ≤ k → ExprsC c j) : UnaryC c (k + 1) := by
 intro σ w hP hk; have X := Fr.refl (· = c.pb) w; have hpb := hP.pbB; have hB := hP.B
 cases h1 : hasP c.ts σ [45]
 case true =>
  rw [show unaryP c.ts c.n (k + 1) σ = (.mk 6 0 [] [(unaryP c.ts c.n k (nextP σ)).1], (unaryP c.ts c.n k (nextP σ)).2) from by rw [unaryP]; simp [h1]]; have hm := mS_has hP.at_ h1 (by decide)
  have hf : 4 * mS c.ts (nextP σ) + 3 ≤ k := by omega
  refine calls_in Tryz.func85 Tryz.ntmps85 rfl rfl ?_
  focus
   refine cS ?_; (refine lw_alloc' [_, _, _, _] zOk rfl rfl ?_; intro b1 w2 n3); have h5 := n3.blk; have x6 := n3.ext; have p7 := n3.pos; have z8 := n3.size; clear n3; replace hP := hP.ext x6; replace X := X.ext x6; clear x6; refine cT (cw_seq (cw_block (cS (cM rfl rfl ?_)))); refine cC (by kernel_rfl) rfl (accept_t _ _ _ _ (by assumption) (by decide) (by assumption)) rfl ?_; rintro _ w11 ⟨⟨⟩, ⟨h9, f10⟩⟩; have z12 := f10.size; replace h5 := h5.fr f10 (by omega); clear hP; replace X := X.fr f10 (by omega); clear f10; refine cA rfl rfl (cT (cw_cond_t rfl (cS (cM rfl rfl ?_)))); refine cR (by kernel_rfl) rfl ((IH k (Nat.le_refl _)).unary _ _ (by assumption) hf) (fun _ _ h => h.ret) rfl ?_; rintro _ w18 ⟨a13, ⟨k14, ⟨⟨⟩, ⟨h15, ⟨h16, f17⟩⟩⟩⟩⟩; have z19 := f17.size; clear h9; replace h5 := h5.fr f17 (by omega); replace X := X.fr f17 (by omega); clear f17; (refine lw_does (does_slice' [_, _, _, _] tabOk zOk rfl rfl rfl rfl rfl rfl rfl rfl rfl) rfl ?_ (fun _ h => h); rintro _ w21 ⟨b20, rfl, n22, t23⟩); clear t23; have h24 := n22.blk; have x25 := n22.ext; have p26 := n22.pos; have z27 := n22.size; clear n22; replace h15 := Nd.sits.ext h15 x25; replace h16 := h16.ext x25; replace h5 := h5.ext x25; replace X := X.ext x25; clear x25; refine lw_pure (pur_build' [_, _, _, _] tabOk zOk rfl rfl rfl rfl) rfl ?_; (refine lw_store' [_, _, _, _] [_, _, _, _] tabOk rfl rfl rfl rfl rfl rfl h5 rfl rfl ?_; intro w28 n29); have h32 := n29.blk; have f30 := n29.fr; have z31 := n29.size; clear n29 h5; replace h24 := h24.fr f30 (by omega)
   replace h15 := Nd.sits.fr h15 f30 (by omega); replace h16 := h16.fr f30 (by omega); replace X := X.fr f30 (by omega); clear f30; refine cT (cw_ret (qw_block_ret (qw_then_ret (qw_retc rfl tabOk rfl rfl rfl h32 rfl ?_)))); rotate_left 1
  exact tree_ret (sits_1 (by assumption) (by omega) (by assumption) (fun b h => by omega)) (by assumption) X
 cases h2 : hasP c.ts σ [33]
 case true =>
  rw [show unaryP c.ts c.n (k + 1) σ = (.mk 7 0 [] [(unaryP c.ts c.n k (nextP σ)).1], (unaryP c.ts c.n k (nextP σ)).2) from by rw [unaryP]; simp [h1, h2]]; have hm := mS_has hP.at_ h2 (by decide)
  have hf : 4 * mS c.ts (nextP σ) + 3 ≤ k := by omega
  refine calls_in Tryz.func85 Tryz.ntmps85 rfl rfl ?_
  focus
   refine cS ?_; (refine lw_alloc' [_, _, _, _] zOk rfl rfl ?_; intro ba1 wa2 na3); have ha5 := na3.blk; have xa6 := na3.ext; have pa7 := na3.pos; have za8 := na3.size; clear na3; replace hP := hP.ext xa6; replace X := X.ext xa6; clear xa6; refine cT (cw_seq (cw_block (cS (cM rfl rfl ?_)))); refine cC (by kernel_rfl) rfl (accept_f _ _ _ _ (by assumption) (by decide) (by assumption)) rfl ?_; rintro _ wa11 ⟨⟨⟩, ⟨ha9, fa10⟩⟩; have za12 := fa10.size; replace ha5 := ha5.fr fa10 (by omega); clear hP; replace X := X.fr fa10 (by omega); clear fa10; refine cA rfl rfl (cT (cw_cond_f rfl (cS (cM rfl rfl ?_)))); refine cC (by kernel_rfl) rfl (accept_t _ _ _ _ (by assumption) (by decide) (by assumption)) rfl ?_; rintro _ wa15 ⟨⟨⟩, ⟨ha13, fa14⟩⟩; have za16 := fa14.size; clear ha9; replace ha5 := ha5.fr fa14 (by omega); replace X := X.fr fa14 (by omega); clear fa14; refine cA rfl rfl (cT (cw_cond_t rfl (cS (cM rfl rfl ?_)))); refine cR (by kernel_rfl) rfl ((IH k (Nat.le_refl _)).unary _ _ (by assumption) hf) (fun _ _ h => h.ret) rfl ?_; rintro _ wa22 ⟨aa17, ⟨ka18, ⟨⟨⟩, ⟨ha19, ⟨ha20, fa21⟩⟩⟩⟩⟩; have za23 := fa21.size; clear ha13; replace ha5 := ha5.fr fa21 (by omega); replace X := X.fr fa21 (by omega); clear fa21; (refine lw_does (does_slice' [_, _, _, _] tabOk zOk rfl rfl rfl rfl rfl rfl rfl rfl rfl) rfl ?_ (fun _ h => h); rintro _ wa25 ⟨ba24, rfl, na26, ta27⟩); clear ta27; have ha28 := na26.blk; have xa29 := na26.ext; have pa30 := na26.pos; have za31 := na26.size; clear na26; replace ha19 := Nd.sits.ext ha19 xa29
   replace ha20 := ha20.ext xa29; replace ha5 := ha5.ext xa29; replace X := X.ext xa29; clear xa29; refine lw_pure (pur_build' [_, _, _, _] tabOk zOk rfl rfl rfl rfl) rfl ?_; (refine lw_store' [_, _, _, _] [_, _, _, _] tabOk rfl rfl rfl rfl rfl rfl ha5 rfl rfl ?_; intro wa32 na33); have ha36 := na33.blk; have fa34 := na33.fr; have za35 := na33.size; clear na33 ha5; replace ha28 := ha28.fr fa34 (by omega); replace ha19 := Nd.sits.fr ha19 fa34 (by omega); replace ha20 := ha20.fr fa34 (by omega); replace X := X.fr fa34 (by omega); clear fa34; refine cT (cw_ret (qw_block_ret (qw_then_ret (qw_retc rfl tabOk rfl rfl rfl ha36 rfl ?_)))); rotate_left 1
  exact tree_ret (sits_1 (by assumption) (by omega) (by assumption) (fun b h => by omega)) (by assumption) X
 · rw [show unaryP c.ts c.n (k + 1) σ = primaryP c.ts c.n k σ from by rw [unaryP]; simp [h1, h2]]
   have hf : 4 * mS c.ts σ + 2 ≤ k := by omega
   refine calls_in Tryz.func85 Tryz.ntmps85 rfl rfl ?_
   focus
    refine cS ?_; (refine lw_alloc' [_, _, _, _] zOk rfl rfl ?_; intro bb1 wb2 nb3); have hb5 := nb3.blk; have xb6 := nb3.ext; have pb7 := nb3.pos; have zb8 := nb3.size; clear nb3; replace hP := hP.ext xb6; replace X := X.ext xb6; clear xb6; refine cT (cw_seq (cw_block (cS (cM rfl rfl ?_)))); refine cC (by kernel_rfl) rfl (accept_f _ _ _ _ (by assumption) (by decide) (by assumption)) rfl ?_; rintro _ wb11 ⟨⟨⟩, ⟨hb9, fb10⟩⟩; have zb12 := fb10.size; replace hb5 := hb5.fr fb10 (by omega); clear hP; replace X := X.fr fb10 (by omega); clear fb10; refine cA rfl rfl (cT (cw_cond_f rfl (cS (cM rfl rfl ?_)))); refine cC (by kernel_rfl) rfl (accept_f _ _ _ _ (by assumption) (by decide) (by assumption)) rfl ?_; rintro _ wb15 ⟨⟨⟩, ⟨hb13, fb14⟩⟩; have zb16 := fb14.size; clear hb9; replace hb5 := hb5.fr fb14 (by omega); replace X := X.fr fb14 (by omega); clear fb14; refine cA rfl rfl (cT (cw_cond_f rfl (cw_skip (qw_block_norm (qw_then (cS (cM rfl rfl ?_))))))); refine cR (by kernel_rfl) rfl ((IH k (Nat.le_refl _)).primary _ _ (by assumption) hf) (fun _ _ h => h.ret) rfl ?_; rintro _ wb22 ⟨ab17, ⟨kb18, ⟨⟨⟩, ⟨hb19, ⟨hb20, fb21⟩⟩⟩⟩⟩; have zb23 := fb21.size; clear hb13; replace hb5 := hb5.fr fb21 (by omega); replace X := X.fr fb21 (by omega); clear fb21; (refine lw_store' [_, _, _, _] [_, _, _, _] tabOk rfl rfl rfl rfl rfl rfl hb5 rfl rfl ?_; intro wb24 nb25); have hb28 := nb25.blk; have fb26 := nb25.fr; have zb27 := nb25.size; clear nb25 hb5; replace hb19 := Nd.sits.fr hb19 fb26 (by omega); replace hb20 := hb20.fr fb26 (by omega)
    replace X := X.fr fb26 (by omega); clear fb26; refine cT (cw_ret (qw_retc rfl tabOk rfl rfl rfl hb28 rfl ?_)); rotate_left 1
   exact tree_ret (Nd.sits.wide (by assumption) (fun b h => by omega)) (by assumption) X
end Bk
namespace Bk
open Go Go.RowKit Go.Proofs
attribute [local irreducible] Go.Calls
theorem getS_bin (t : List UInt8) : getS binMap t = (binOf t).map fun k => .int .u8 k := by
 unfold binMap binOf
 generalize hL : [(8 : Int), 9, 10, 11, 12, 13, 14, 15, 16, 17, 18, 19, 20, 21, 22, 23] = L
 clear hL
 induction L with
 | nil => rfl
 | cons k r ih =>
  simp only [List.map_cons, getS, List.find?_cons]
  by_cases h : symbol k = t
  · simp [h]
  · rw [if_neg (fun e => h e.symm), ih]; simp [h]
theorem level_bounds (k : Int) (h0 : 8 ≤ k) (h1 : k ≤ 23) : 1 ≤ level k ∧ level k ≤ 8 := by
 have : k = 8 ∨ k = 9 ∨ k = 10 ∨ k = 11 ∨ k = 12 ∨ k = 13 ∨ k = 14 ∨ k = 15 ∨ k = 16 ∨ k = 17 ∨ k = 18 ∨ k = 19 ∨ k = 20 ∨ k = 21 ∨ k = 22 ∨ k = 23 := by omega
 rcases this with rfl | rfl | rfl | rfl | rfl | rfl | rfl | rfl | rfl | rfl | rfl | rfl | rfl | rfl | rfl | rfl <;> decide
set_option maxRecDepth 100000 in
set_option maxHeartbeats 1000000 in
theorem expr_w (c : PC) (k : Nat) (IH : ∀ j, j ≤ k → ExprsC c j) : ExprC c (k + 1) := by
 intro lv σ w hP hk hl0 hl1; have X := Fr.refl (· = c.pb) w; have hpb := hP.pbB; have hB := hP.B; have hlen := hP.len; rw [show exprP c.ts c.n (k + 1) lv σ = climbP c.ts c.n k lv (unaryP c.ts c.n k σ).1 (unaryP c.ts c.n k σ).2 from by rw [exprP]]; have hu := ((expr_inv (ts := c.ts) (n := c.n) k).2.2.1 σ hP.at_).1
 have hf : 4 * mS c.ts σ + 3 ≤ k := by omega
 have hf2 : 4 * mS c.ts (unaryP c.ts c.n k σ).2 + 1 ≤ k := by have := mS_le hu; omega
 refine calls_in Tryz.func79 Tryz.ntmps79 rfl rfl ?_
 focus
  refine cS ?_; (refine lw_alloc' [_, _, _, _] zOk rfl rfl ?_; intro b1 w2 n3); have h5 := n3.blk; have x6 := n3.ext; have p7 := n3.pos; have z8 := n3.size; clear n3; replace hP := hP.ext x6; replace X := X.ext x6; clear x6; refine cN (cM rfl rfl ?_); refine cR (by kernel_rfl) rfl ((IH k (Nat.le_refl _)).unary _ _ (by assumption) hf) (fun _ _ h => h.ret) rfl ?_; rintro _ w14 ⟨a9, ⟨k10, ⟨⟨⟩, ⟨h11, ⟨h12, f13⟩⟩⟩⟩⟩; have z15 := f13.size; replace h5 := h5.fr f13 (by omega); clear hP; replace X := X.fr f13 (by omega); clear f13; (refine lw_alloc' [_, _, _, _] zOk rfl rfl ?_; intro b16 w17 n18); (refine lw_init' [_, _, _, _] tabOk rfl rfl rfl rfl rfl rfl n18 rfl ?_; clear n18; clear w17; intro w19 n18); have h20 := n18.blk; have x21 := n18.ext; have p22 := n18.pos; have z23 := n18.size; clear n18; replace h11 := Nd.sits.ext h11 x21; replace h12 := h12.ext x21; replace h5 := h5.ext x21; replace X := X.ext x21; clear x21; refine cT (cw_block ?_); rotate_left 1
 refine cw_loop (ι := Nat × Nd × Option Addr × Nat × PS) (fun _ => [(0, .pointer (some ⟨c.pb, 0, none⟩)), (1, .int .i64 lv), (4, .pointer (some ⟨b1, 0, none⟩)), (5, .pointer (some ⟨b16, 0, none⟩))])
  (fun x w' => PP c x.2.2.2.2 w' ∧ Blk w' b16 (x.2.1.cells x.2.2.1 x.2.2.2.1) ∧ x.2.1.sits (fun b => w.heap.size ≤ b ∧ b ≠ b1 ∧ b ≠ b16) w' x.2.2.1 ∧ Blk w' b1 [.int .u8 0, .int .i64 0, .string ⟨#[]⟩, .slice none 0 0] ∧ Fr (· = c.pb) w w' ∧ w19.heap.size ≤ w'.heap.size ∧
   climbP c.ts c.n k lv (unaryP c.ts c.n k σ).1 (unaryP c.ts c.n k σ).2 = climbP c.ts c.n x.1 lv x.2.1 x.2.2.2.2 ∧ 4 * mS c.ts x.2.2.2.2 + 1 ≤ x.1 ∧ x.1 ≤ k) (fun x => x.1) (k, (unaryP c.ts c.n k σ).1, a9, k10, (unaryP c.ts c.n k σ).2) (by (refine sub_cons rfl ?_; refine sub_cons rfl ?_; refine sub_cons rfl ?_; refine sub_cons rfl ?_; exact sub_nil))
  ⟨h12, h20, h11.wide (fun b h => ⟨by omega, by omega, by omega⟩), h5, X, Nat.le_refl _, rfl, hf2, Nat.le_refl _⟩ ?_
 rintro ⟨j, x, xa, xc, σ'⟩ w1 ⟨hP, h5, hs, h4, X, hz, he, hfj, hjk⟩; simp only at hP h5 hs he hfj hjk; rw [he]; clear he hu hf hf2 h20 h11; obtain ⟨j, rfl⟩ : ∃ i, j = i + 1 := ⟨j - 1, by omega⟩; have hg := getS_bin (peekP c.ts σ').text
 cases hb : binOf (peekP c.ts σ').text with
 | none =>
  rw [show climbP c.ts c.n (j + 1) lv x σ' = (x, σ') from by rw [climbP]; simp [hb]]; rw [hb] at hg; simp only [Option.map_none] at hg
  focus
   refine cw_block (cw_seq ?_); (refine cw_tdraw (fun wz => Ext w1 wz) 12 (.pure 0 (.pure 1 (.pure 2 (.pure 3 (.pure 4 (.fork 5 (.pure 6 (.pure 7 (.pure 8 (.pure 9 (.pure 10 (.pure 11 .tail)))))) .none)))))) mixed (by kernel_rfl) (panicOk_then (panicOk_block (panicOk_then (panicOk_block panicOk_body)))) ?_; intro wa1 xa2 _); have qsa3 : (fun wz => Ext w1 wz) wa1 := xa2; simp only at qsa3; have d_hP := hP; have d_h5 := h5; have d_hs := hs; have d_h4 := h4; have za4 := xa2.size; replace hP := hP.ext xa2; replace h5 := h5.ext xa2; replace hs := Nd.sits.ext hs xa2; replace h4 := h4.ext xa2; replace X := X.ext xa2; clear xa2; refine ⟨qsa3, ?_⟩; refine tw_pure rfl (pur_move rfl) rfl (tw_pure rfl (pur_nilCheck rfl) rfl (tw_pure rfl (pur_fieldAddr tabOk rfl rfl rfl) rfl (tw_pure rfl (pur_load tabOk rfl rfl rfl (fun wz hz => Blk.cell (Blk.ext (PP.blk d_hP) hz) rfl)) rfl (tw_pure rfl (pur_move rfl) rfl ?_)))); refine tw_does rfl (does_call (by kernel_rfl) rfl (peek_c _ _ _ (by assumption)) (fun _ _ h => ⟨_, h.1⟩)) rfl ?_ (fun _ h => h) tw_none; rintro _ wa6 ⟨⟨⟩, xa5⟩; have za7 := xa5.size; replace qsa3 := qsa3.ext xa5; replace hP := hP.ext xa5; replace h5 := h5.ext xa5; replace hs := Nd.sits.ext hs xa5; replace h4 := h4.ext xa5; replace X := X.ext xa5; clear xa5; refine ⟨qsa3, ?_⟩; refine tw_pure rfl (pur_field tabOk rfl rfl rfl rfl rfl rfl) rfl ?_; refine tw_pure rfl (pur_look_none tabOk rfl rfl rfl rfl rfl (fun wz hz => MapIs.ext (PP.map d_hP) hz) (by assumption)) rfl ?_; refine tw_pure rfl (pur_move rfl) rfl (tw_pure rfl (pur_extract rfl rfl) rfl (tw_pure rfl (pur_extract rfl rfl) rfl (tw_pure rfl (pur_assign rfl) rfl ?_)))
   clear d_hP d_h5 d_hs d_h4 qsa3; refine tw_tail rfl (cA rfl rfl (cT (cw_seq (cS (cM rfl rfl (lw_pure (pur_not rfl) rfl (cM rfl rfl (lw_off rfl rfl rfl (rfl) rfl (lw_off rfl rfl rfl (rfl) rfl (lw_off rfl rfl rfl (rfl) rfl (lw_off rfl rfl rfl (rfl) rfl ?_))))))))))); refine lw_pure (pur_pick_t rfl rfl rfl) rfl (cT (cw_cond_t rfl (cS (lw_loads_b' [_, _, _, _] tabOk rfl rfl rfl h5 rfl rfl rfl ?_)))); (refine lw_store' [_, _, _, _] [_, _, _, _] tabOk rfl rfl rfl rfl rfl rfl h4 rfl rfl ?_; intro wa8 na9); have ha12 := na9.blk; have fa10 := na9.fr; have za11 := na9.size; clear na9 h4; replace hP := hP.fr fa10 (by omega); replace h5 := h5.fr fa10 (by omega); replace hs := Nd.sits.fr hs fa10 (by omega); replace X := X.fr fa10 (by omega); clear fa10; refine cT (cw_ret (qw_then_ret (qw_block_ret (qw_then_ret (qw_block_ret (qw_retc rfl tabOk rfl rfl rfl ha12 rfl ?_)))))); rotate_left 1
  exact tree_ret (Nd.sits.wide hs (fun b h => h.1)) (by assumption) X
 | some op =>
  rw [hb] at hg; simp only [Option.map_some] at hg; obtain ⟨hne, o1, o2, -⟩ := binOf_ne hb; obtain ⟨hin, hin2⟩ := peek_in hP.at_ (Or.inl hne); have hm := mS_next (ts := c.ts) (σ := σ') ⟨hin, hin2⟩; have hlv := level_bounds op o1 o2
  by_cases hl : level op < lv
  · rw [show climbP c.ts c.n (j + 1) lv x σ' = (x, σ') from by rw [climbP]; simp [hb, hl]]
    focus
     refine cw_block (cw_seq ?_); (refine cw_tdraw (fun wz => Ext w1 wz) 12 (.pure 0 (.pure 1 (.pure 2 (.pure 3 (.pure 4 (.fork 5 (.pure 6 (.pure 7 (.pure 8 (.pure 9 (.pure 10 (.pure 11 .tail)))))) .none)))))) mixed (by kernel_rfl) (panicOk_then (panicOk_block (panicOk_then (panicOk_block panicOk_body)))) ?_; intro wb1 xb2 _); have qsb3 : (fun wz => Ext w1 wz) wb1 := xb2; simp only at qsb3; have d_hP := hP; have d_h5 := h5; have d_hs := hs; have d_h4 := h4; have zb4 := xb2.size; replace hP := hP.ext xb2; replace h5 := h5.ext xb2; replace hs := Nd.sits.ext hs xb2; replace h4 := h4.ext xb2; replace X := X.ext xb2; clear xb2; refine ⟨qsb3, ?_⟩; refine tw_pure rfl (pur_move rfl) rfl (tw_pure rfl (pur_nilCheck rfl) rfl (tw_pure rfl (pur_fieldAddr tabOk rfl rfl rfl) rfl (tw_pure rfl (pur_load tabOk rfl rfl rfl (fun wz hz => Blk.cell (Blk.ext (PP.blk d_hP) hz) rfl)) rfl (tw_pure rfl (pur_move rfl) rfl ?_)))); refine tw_does rfl (does_call (by kernel_rfl) rfl (peek_c _ _ _ (by assumption)) (fun _ _ h => ⟨_, h.1⟩)) rfl ?_ (fun _ h => h) tw_none; rintro _ wb6 ⟨⟨⟩, xb5⟩; have zb7 := xb5.size; replace qsb3 := qsb3.ext xb5; replace hP := hP.ext xb5; replace h5 := h5.ext xb5; replace hs := Nd.sits.ext hs xb5; replace h4 := h4.ext xb5; replace X := X.ext xb5; clear xb5; refine ⟨qsb3, ?_⟩; refine tw_pure rfl (pur_field tabOk rfl rfl rfl rfl rfl rfl) rfl ?_; refine tw_pure rfl (pur_look_some tabOk rfl rfl rfl rfl rfl (fun wz hz => MapIs.ext (PP.map d_hP) hz) (by assumption)) rfl ?_; refine tw_pure rfl (pur_move rfl) rfl (tw_pure rfl (pur_extract rfl rfl) rfl (tw_pure rfl (pur_extract rfl rfl) rfl (tw_pure rfl (pur_assign rfl) rfl ?_)))
     clear d_hP d_h5 d_hs d_h4 qsb3; refine tw_tail rfl (cA rfl rfl (cT (cw_seq (cS (cM rfl rfl (lw_pure (pur_not rfl) rfl (cM rfl rfl (lw_on rfl rfl rfl (rfl) (cM rfl rfl (lw_on rfl rfl rfl (rfl) ?_)))))))))); refine cC (by kernel_rfl) rfl (arith_Level_c _ _ (by omega) (by omega)) rfl ?_; rintro _ wb8 ⟨⟨⟩, rfl⟩; refine lw_on rfl rfl rfl (rfl) (cM rfl rfl (lw_on rfl rfl rfl (rfl) (lw_pure (pur_lss rfl rfl) rfl (lw_pure (pur_pick_f rfl rfl rfl) rfl (cT ?_))))); refine cw_yes rfl (by assumption) ?_; refine cS (lw_loads_b' [_, _, _, _] tabOk rfl rfl rfl h5 rfl rfl rfl ?_); (refine lw_store' [_, _, _, _] [_, _, _, _] tabOk rfl rfl rfl rfl rfl rfl h4 rfl rfl ?_; intro wb9 nb10); have hb13 := nb10.blk; have fb11 := nb10.fr; have zb12 := nb10.size; clear nb10 h4; replace hP := hP.fr fb11 (by omega); replace h5 := h5.fr fb11 (by omega); replace hs := Nd.sits.fr hs fb11 (by omega); replace X := X.fr fb11 (by omega); clear fb11; refine cT (cw_ret (qw_then_ret (qw_block_ret (qw_then_ret (qw_block_ret (qw_retc rfl tabOk rfl rfl rfl hb13 rfl ?_)))))); rotate_left 1
    exact tree_ret (Nd.sits.wide hs (fun b h => h.1)) (by assumption) X
  · rw [show climbP c.ts c.n (j + 1) lv x σ' = climbP c.ts c.n j lv (.mk op 0 [] [x, (exprP c.ts c.n j (level op + 1) (nextP σ')).1]) (exprP c.ts c.n j (level op + 1) (nextP σ')).2 from by rw [climbP]; simp [hb, hl]]
    have hfe : 4 * mS c.ts (nextP σ') + 4 ≤ j := by omega
    have hle := ((expr_inv (ts := c.ts) (n := c.n) j).1 (level op + 1) (nextP σ') hin2).1; have hml := mS_le hle
    focus
     refine cw_block (cw_seq ?_); (refine cw_tdraw (fun wz => Ext w1 wz) 12 (.pure 0 (.pure 1 (.pure 2 (.pure 3 (.pure 4 (.fork 5 (.pure 6 (.pure 7 (.pure 8 (.pure 9 (.pure 10 (.pure 11 .tail)))))) .none)))))) mixed (by kernel_rfl) (panicOk_then (panicOk_block (panicOk_then (panicOk_block panicOk_body)))) ?_; intro wc1 xc2 _); have qsc3 : (fun wz => Ext w1 wz) wc1 := xc2; simp only at qsc3; have d_hP := hP; have d_h5 := h5; have d_hs := hs; have d_h4 := h4; have zc4 := xc2.size; replace hP := hP.ext xc2; replace h5 := h5.ext xc2; replace hs := Nd.sits.ext hs xc2; replace h4 := h4.ext xc2; replace X := X.ext xc2; clear xc2; refine ⟨qsc3, ?_⟩; refine tw_pure rfl (pur_move rfl) rfl (tw_pure rfl (pur_nilCheck rfl) rfl (tw_pure rfl (pur_fieldAddr tabOk rfl rfl rfl) rfl (tw_pure rfl (pur_load tabOk rfl rfl rfl (fun wz hz => Blk.cell (Blk.ext (PP.blk d_hP) hz) rfl)) rfl (tw_pure rfl (pur_move rfl) rfl ?_)))); refine tw_does rfl (does_call (by kernel_rfl) rfl (peek_c _ _ _ (by assumption)) (fun _ _ h => ⟨_, h.1⟩)) rfl ?_ (fun _ h => h) tw_none; rintro _ wc6 ⟨⟨⟩, xc5⟩; have zc7 := xc5.size; replace qsc3 := qsc3.ext xc5; replace hP := hP.ext xc5; replace h5 := h5.ext xc5; replace hs := Nd.sits.ext hs xc5; replace h4 := h4.ext xc5; replace X := X.ext xc5; clear xc5; refine ⟨qsc3, ?_⟩; refine tw_pure rfl (pur_field tabOk rfl rfl rfl rfl rfl rfl) rfl ?_; refine tw_pure rfl (pur_look_some tabOk rfl rfl rfl rfl rfl (fun wz hz => MapIs.ext (PP.map d_hP) hz) (by assumption)) rfl ?_; refine tw_pure rfl (pur_move rfl) rfl (tw_pure rfl (pur_extract rfl rfl) rfl (tw_pure rfl (pur_extract rfl rfl) rfl (tw_pure rfl (pur_assign rfl) rfl ?_)))
     clear d_hP d_h5 d_hs d_h4 qsc3; refine tw_tail rfl (cA rfl rfl (cT (cw_seq (cS (cM rfl rfl (lw_pure (pur_not rfl) rfl (cM rfl rfl (lw_on rfl rfl rfl (rfl) (cM rfl rfl (lw_on rfl rfl rfl (rfl) ?_)))))))))); refine cC (by kernel_rfl) rfl (arith_Level_c _ _ (by omega) (by omega)) rfl ?_; rintro _ wc8 ⟨⟨⟩, rfl⟩; refine lw_on rfl rfl rfl (rfl) (cM rfl rfl (lw_on rfl rfl rfl (rfl) (lw_pure (pur_lss rfl rfl) rfl (lw_pure (pur_pick_f rfl rfl rfl) rfl (cT ?_))))); refine cw_no rfl (by assumption) ?_; refine cw_skip (qw_then (cS (cM rfl rfl (lw_pure (pur_nilCheck rfl) rfl (lw_pure (pur_fieldAddr tabOk rfl rfl rfl) rfl (lw_load_b tabOk rfl rfl rfl (PP.blk hP) rfl rfl ?_)))))); refine lw_pure (pur_add rfl rfl (IntWalk.i64_in _ (by omega))) rfl ?_; refine lw_pure (pur_nilCheck rfl) rfl (lw_pure (pur_fieldAddr tabOk rfl rfl rfl) rfl ?_); refine lw_pp_at tabOk rfl rfl rfl rfl (by assumption) hin2 ?_; rintro wc9 hc10 fc11; have zc12 := fc11.size; clear hP; replace h5 := h5.fr fc11 (by omega); replace hs := Nd.sits.fr hs fc11 (by omega); replace h4 := h4.fr fc11 (by omega); replace X := X.fr fc11 (by omega); clear fc11; refine cN (cM rfl rfl (cM rfl rfl ?_)); refine cC (by kernel_rfl) rfl (arith_Level_c _ _ (by omega) (by omega)) rfl ?_; rintro _ wc13 ⟨⟨⟩, rfl⟩; refine lw_pure (pur_add rfl rfl (IntWalk.i64_in _ (by omega))) rfl ?_; refine cR (by kernel_rfl) rfl ((IH j (by omega)).expr _ _ _ (by assumption) hfe (by omega) (by omega)) (fun _ _ h => h.ret) rfl ?_; rintro _ wc19 ⟨ac14, ⟨kc15, ⟨⟨⟩, ⟨hc16, ⟨hc17, fc18⟩⟩⟩⟩⟩
     have zc20 := fc18.size; clear hc10; replace h5 := h5.fr fc18 (by omega); replace hs := Nd.sits.fr hs fc18 (by omega); replace h4 := h4.fr fc18 (by omega); replace X := X.fr fc18 (by omega); clear fc18; (refine lw_alloc' [_, _, _, _] zOk rfl rfl ?_; intro bc21 wc22 nc23); (refine lw_init' [_, _, _, _] tabOk rfl rfl rfl rfl rfl rfl nc23 rfl ?_; clear nc23; clear wc22; intro wc24 nc23); have hc25 := nc23.blk; have xc26 := nc23.ext; have pc27 := nc23.pos; have zc28 := nc23.size; clear nc23; replace hc16 := Nd.sits.ext hc16 xc26; replace hc17 := hc17.ext xc26; replace h5 := h5.ext xc26; replace hs := Nd.sits.ext hs xc26; replace h4 := h4.ext xc26; replace X := X.ext xc26; clear xc26; refine cT (cw_region (cM rfl rfl (lw_loads_b' [_, _, _, _] tabOk rfl rfl rfl h5 rfl rfl rfl (lw_loads_b' [_, _, _, _] tabOk rfl rfl rfl hc25 rfl rfl rfl ?_)))); (refine lw_does (does_slice' [_, _, _, _, _, _, _, _] tabOk zOk rfl rfl rfl rfl rfl rfl rfl rfl rfl) rfl ?_ (fun _ h => h); rintro _ wc30 ⟨bc29, rfl, nc31, tc32⟩); clear tc32; have hc33 := nc31.blk; have xc34 := nc31.ext; have pc35 := nc31.pos; have zc36 := nc31.size; clear nc31; replace hc25 := hc25.ext xc34; replace hc16 := Nd.sits.ext hc16 xc34; replace hc17 := hc17.ext xc34; replace h5 := h5.ext xc34; replace hs := Nd.sits.ext hs xc34; replace h4 := h4.ext xc34; replace X := X.ext xc34; clear xc34; refine lw_pure (pur_build' [_, _, _, _] tabOk zOk rfl rfl rfl rfl) rfl ?_; (refine lw_store' [_, _, _, _] [_, _, _, _] tabOk rfl rfl rfl rfl rfl rfl h5 rfl rfl ?_; intro wc37 nc38)
     have hc41 := nc38.blk; have fc39 := nc38.fr; have zc40 := nc38.size; clear nc38 h5; replace hc33 := hc33.fr fc39 (by omega); replace hc25 := hc25.fr fc39 (by omega); replace hc16 := Nd.sits.fr hc16 fc39 (by omega); replace hc17 := hc17.fr fc39 (by omega); replace hs := Nd.sits.fr hs fc39 (by omega); replace h4 := h4.fr fc39 (by omega); replace X := X.fr fc39 (by omega); clear fc39; refine lw_nil (qw_block_norm ?_); rotate_left 1
    refine qw_round (j, .mk op 0 [] [x, (exprP c.ts c.n j (level op + 1) (nextP σ')).1], some ⟨_, 0, none⟩, 2, (exprP c.ts c.n j (level op + 1) (nextP σ')).2) (by (refine sub_cons rfl ?_; refine sub_cons rfl ?_; refine sub_cons rfl ?_; refine sub_cons rfl ?_; exact sub_nil)) ⟨by assumption, by assumption, sits_2 (by assumption) ⟨by omega, by omega, by omega⟩ hs (fun b h => h) (by assumption) (fun b h => ⟨by omega, by omega, by omega⟩), by assumption, X, by omega, rfl, by simp only; omega, by simp only; omega⟩ (by simp)
theorem exprs_c (c : PC) (k : Nat) : ExprsC c k := by
 induction k using Nat.strongRecOn with
 | _ k ih =>
  cases k with
  | zero => exact ⟨fun _ _ _ _ h => by omega, fun _ _ _ h => by omega, fun _ _ _ h => by omega, fun _ _ _ h => by omega⟩
  | succ k =>
   have IH : ∀ j, j ≤ k → ExprsC c j := fun j hj => ih j (by omega)
   exact ⟨expr_w c k IH, unary_w c k IH, primary_w c k IH, place_w c k IH⟩
end Bk
