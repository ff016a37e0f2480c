/- Texts that the proofs of PrinterBlocksRound need. No condition. (Part 5 of 7.) -/
import Derived.Test.YtajjbkcpgfgbiaaGreatDoorPPrb4
set_option linter.unusedSimpArgs false
set_option linter.unusedVariables false
namespace Bk
open Go Go.RowKit Go.Proofs
attribute [local irreducible] Go.Calls
theorem rowDepth_snoc (l : List Nd) (x : Nd) : rowDepth (l ++ [x]) = max (rowDepth l) x.depth := by
 induction l with
 | nil => simp only [List.nil_append, rowDepth]; omega
 | cons y r ih => simp only [List.cons_append, rowDepth, ih]; omega
mutual
theorem depth_le : ∀ t : Nd, 1 ≤ t.depth ∧ t.depth ≤ t.size
 | .mk _ _ _ l => by
  have := rowDepth_le l
  simp only [Nd.depth, Nd.size]; omega
theorem rowDepth_le : ∀ l : List Nd, 0 ≤ rowDepth l ∧ rowDepth l ≤ rowSize l
 | [] => by simp [rowDepth, rowSize]
 | t :: r => by
  have h1 := depth_le t; have h2 := rowDepth_le r
  simp only [rowDepth, rowSize]; omega
end
theorem rowSize_snoc (l : List Nd) (x : Nd) : rowSize (l ++ [x]) = rowSize l + x.size := by
 induction l with
 | nil => simp [rowSize]
 | cons y r ih => simp only [List.cons_append, rowSize, ih]; omega
theorem rowSize_take (l : List Nd) (j : Nat) : rowSize (l.take j) ≤ rowSize l := by
 induction l generalizing j with
 | nil => simp
 | cons x r ih =>
  cases j with
  | zero => simp [rowSize]
  | succ j => simp only [List.take_succ_cons, rowSize]; have := ih j; omega
theorem length_rowSize (l : List Nd) : l.length ≤ rowSize l := by
 induction l with
 | nil => simp [rowSize]
 | cons x r ih => have := Nd.size_pos x; simp only [rowSize, List.length_cons]; omega
set_option maxRecDepth 100000 in
set_option maxHeartbeats 1000000 in
theorem Depth_c (N : Nat) : ∀ (t : Nd) (S : Nat → Prop) (a : Option Addr) (c : Nat) (w : World), t.size < N → t.size ≤ 1000000000 → t.sits S w a →
 Calls Tryz.prog 85 #[t.val a c] w fun e w' => e = .returned (.int .i64 t.depth) ∧ Ext w w' := by
 induction N with
 | zero => intro t S a c w h; omega
 | succ N ih =>
  rintro ⟨k, n, s, l⟩ S a c w hN hM hs
  have IH := Lib.hid ih; clear ih
  simp only [Nd.sits] at hs; simp only [Nd.size] at hN hM; have X := Ext.refl w; have hl := length_rowSize l; rw [show (Nd.mk k n s l).depth = rowDepth l + 1 from by simp only [Nd.depth]]; refine calls_in Tryz.func85 Tryz.ntmps85 rfl rfl ?_
  focus
   refine cS ?_; (refine lw_box' [_, _, _, _] rfl rfl rfl ?_; intro b1 w2 n3); have h4 := n3.blk; have x5 := n3.ext; have p6 := n3.pos; have z7 := n3.size; clear n3; replace hs := Bk.rowSits.ext hs x5; replace X := X.ext x5; clear x5; refine cA rfl rfl (cN (cA rfl rfl (cT (cw_seq (cS (lw_pure (pur_fieldAddr tabOk rfl rfl rfl) rfl (lw_load_b tabOk rfl rfl rfl h4 rfl rfl (lw_pure (pur_len_slice tabOk rfl rfl) rfl (cM rfl rfl (cT (cw_block ?_))))))))))); rotate_left 1
  refine cw_loop (ι := Nat) (fun j => [(9, .int .i64 j), (8, .int .i64 l.length), (7, .slice a l.length c), (3, .int .i64 (rowDepth (l.take j)))]) (fun j w' => rowSits S w' l a ∧ Ext w w' ∧ j ≤ l.length) (fun j => l.length - j) 0 (by (refine sub_cons rfl ?_; refine sub_cons rfl ?_; refine sub_cons rfl ?_; refine sub_cons rfl ?_; exact sub_nil)) ⟨hs, X, Nat.zero_le _⟩ ?_; rintro j w1 ⟨hs, X, hj⟩; clear h4
  by_cases hlt : j < l.length
  · obtain ⟨kb, ko, rfl, hkS, hkid⟩ := kidRows hs (by intro e; subst e; simp at hlt)
    obtain ⟨xa, xc, rx, sx⟩ := hkid j l[j] (List.getElem?_eq_getElem hlt); have hsz := size_mem (List.getElem_mem hlt)
    have ht : l.take (j + 1) = l.take j ++ [l[j]] := by rw [List.take_add_one, List.getElem?_eq_getElem hlt]; rfl
    have hb0 := rowDepth_le (l.take j); have hb1 := rowSize_take l j; have hb2 := rowSize_take l (j + 1); have hb3 := depth_le l[j]; rw [ht, rowSize_snoc] at hb2; clear hkid
    generalize l[j] = x at *
    focus
     refine cS (lw_pure (pur_lss rfl rfl) rfl (cT (cw_seq ?_))); refine cw_yes rfl (by omega) ?_; refine cw_skip (qw_then (cw_seq (cw_block (cS ?_)))); refine lw_pure (pur_indexAddr tabOk rfl rfl rfl rfl (by omega) (by omega)) rfl ?_; refine lw_loads_r0 tabOk rfl rfl rfl rx rfl rfl ?_; (refine lw_alloc' [_, _, _, _] zOk rfl rfl ?_; intro ba1 wa2 na3); (refine lw_init' [_, _, _, _] tabOk rfl rfl rfl rfl rfl rfl na3 rfl ?_; clear na3; clear wa2; intro wa4 na3); have ha5 := na3.blk; have xa6 := na3.ext; have pa7 := na3.pos; have za8 := na3.size; clear na3; replace X := X.ext xa6; replace hs := Bk.rowSits.ext hs xa6; replace rx := rx.ext xa6; replace sx := Nd.sits.ext sx xa6; clear xa6; refine cT (cw_region (cM rfl rfl (lw_loads_b' [_, _, _, _] tabOk rfl rfl rfl ha5 rfl rfl rfl ?_))); refine cC (by kernel_rfl) rfl (IH.out _ S _ _ _ (by omega) (by omega) (by assumption)) rfl ?_; rintro _ wa10 ⟨⟨⟩, xa9⟩; have za11 := xa9.size; replace ha5 := ha5.ext xa9; replace X := X.ext xa9; replace hs := Bk.rowSits.ext hs xa9; replace rx := rx.ext xa9; replace sx := Nd.sits.ext sx xa9; clear xa9; refine lw_pure (pur_max rfl rfl rfl) rfl (cA rfl rfl (lw_nil (qw_block_norm (qw_then (cw_region ?_))))); refine lw_pure (pur_add rfl rfl (IntWalk.i64_in _ (by omega))) rfl ?_; refine cM rfl rfl (lw_nil ?_); rotate_left 1
    refine qw_round (j + 1) ?_ ⟨hs, X, by omega⟩ (by omega); refine sub_cons rfl (sub_cons rfl (sub_cons rfl (sub_cons' rfl ?_ sub_nil))); rw [ht, rowDepth_snoc]
  · have : j = l.length := by omega
    subst this; have hb0 := rowDepth_le l; rw [List.take_length]
    focus
     refine cS (lw_pure (pur_lss rfl rfl) rfl (cT (cw_seq ?_))); refine cw_no rfl (by omega) ?_; refine cw_exit (qw_then_exit (qw_then_exit (qw_block_exit (qw_then (cS (cM rfl rfl ?_)))))); refine lw_pure (pur_add rfl rfl (IntWalk.i64_in _ (by omega))) rfl ?_; refine cA rfl rfl (cT (cw_ret (qw_ret1 rfl rfl ?_))); rotate_left 1
    exact ⟨rfl, X⟩
set_option maxRecDepth 100000 in
set_option maxHeartbeats 1000000 in
theorem Size_c (N : Nat) : ∀ (t : Nd) (S : Nat → Prop) (a : Option Addr) (c : Nat) (w : World), t.size < N → t.size ≤ 1000000000 → t.sits S w a →
 Calls Tryz.prog 86 #[t.val a c] w fun e w' => e = .returned (.int .i64 t.size) ∧ Ext w w' := by
 induction N with
 | zero => intro t S a c w h; omega
 | succ N ih =>
  rintro ⟨k, n, s, l⟩ S a c w hN hM hs
  have IH := Lib.hid ih; clear ih
  simp only [Nd.sits] at hs; simp only [Nd.size] at hN hM; have X := Ext.refl w; have hl := length_rowSize l; rw [show ((Nd.mk k n s l).size : Int) = ((rowSize l : Nat) : Int) + 1 from by simp only [Nd.size]; omega]; refine calls_in Tryz.func86 Tryz.ntmps86 rfl rfl ?_
  focus
   refine cS ?_; (refine lw_box' [_, _, _, _] rfl rfl rfl ?_; intro b1 w2 n3); have h4 := n3.blk; have x5 := n3.ext; have p6 := n3.pos; have z7 := n3.size; clear n3; replace hs := Bk.rowSits.ext hs x5; replace X := X.ext x5; clear x5; refine cA rfl rfl (cN (cA rfl rfl (cT (cw_seq (cS (lw_pure (pur_fieldAddr tabOk rfl rfl rfl) rfl (lw_load_b tabOk rfl rfl rfl h4 rfl rfl (lw_pure (pur_len_slice tabOk rfl rfl) rfl (cM rfl rfl (cT (cw_block ?_))))))))))); rotate_left 1
  refine cw_loop (ι := Nat) (fun j => [(9, .int .i64 j), (8, .int .i64 l.length), (7, .slice a l.length c), (3, .int .i64 (((rowSize (l.take j) : Nat) : Int) + 1))]) (fun j w' => rowSits S w' l a ∧ Ext w w' ∧ j ≤ l.length) (fun j => l.length - j) 0 (by (refine sub_cons rfl ?_; refine sub_cons rfl ?_; refine sub_cons rfl ?_; refine sub_cons rfl ?_; exact sub_nil)) ⟨hs, X, Nat.zero_le _⟩ ?_; rintro j w1 ⟨hs, X, hj⟩; clear h4
  by_cases hlt : j < l.length
  · obtain ⟨kb, ko, rfl, hkS, hkid⟩ := kidRows hs (by intro e; subst e; simp at hlt)
    obtain ⟨xa, xc, rx, sx⟩ := hkid j l[j] (List.getElem?_eq_getElem hlt); have hsz := size_mem (List.getElem_mem hlt)
    have ht : l.take (j + 1) = l.take j ++ [l[j]] := by rw [List.take_add_one, List.getElem?_eq_getElem hlt]; rfl
    have hb0 := rowDepth_le (l.take j); have hb1 := rowSize_take l j; have hb2 := rowSize_take l (j + 1); have hb3 := depth_le l[j]; rw [ht, rowSize_snoc] at hb2; clear hkid
    generalize l[j] = x at *
    focus
     refine cS (lw_pure (pur_lss rfl rfl) rfl (cT (cw_seq ?_))); refine cw_yes rfl (by omega) ?_; refine cw_skip (qw_then (cw_seq (cw_block (cS ?_)))); refine lw_pure (pur_indexAddr tabOk rfl rfl rfl rfl (by omega) (by omega)) rfl ?_; refine lw_loads_r0 tabOk rfl rfl rfl rx rfl rfl ?_; (refine lw_alloc' [_, _, _, _] zOk rfl rfl ?_; intro ba1 wa2 na3); (refine lw_init' [_, _, _, _] tabOk rfl rfl rfl rfl rfl rfl na3 rfl ?_; clear na3; clear wa2; intro wa4 na3); have ha5 := na3.blk; have xa6 := na3.ext; have pa7 := na3.pos; have za8 := na3.size; clear na3; replace X := X.ext xa6; replace hs := Bk.rowSits.ext hs xa6; replace rx := rx.ext xa6; replace sx := Nd.sits.ext sx xa6; clear xa6; refine cT (cw_region (cM rfl rfl (lw_loads_b' [_, _, _, _] tabOk rfl rfl rfl ha5 rfl rfl rfl ?_))); refine cC (by kernel_rfl) rfl (IH.out _ S _ _ _ (by omega) (by omega) (by assumption)) rfl ?_; rintro _ wa10 ⟨⟨⟩, xa9⟩; have za11 := xa9.size; replace ha5 := ha5.ext xa9; replace X := X.ext xa9; replace hs := Bk.rowSits.ext hs xa9; replace rx := rx.ext xa9; replace sx := Nd.sits.ext sx xa9; clear xa9; refine lw_pure (pur_add rfl rfl (IntWalk.i64_in _ (by omega))) rfl ?_; refine cA rfl rfl (lw_nil (qw_block_norm (qw_then (cw_region ?_)))); refine lw_pure (pur_add rfl rfl (IntWalk.i64_in _ (by omega))) rfl ?_; refine cM rfl rfl (lw_nil ?_); rotate_left 1
    refine qw_round (j + 1) ?_ ⟨hs, X, by omega⟩ (by omega); refine sub_cons rfl (sub_cons rfl (sub_cons rfl (sub_cons' rfl ?_ sub_nil))); rw [ht, rowSize_snoc]
    congr 1; omega
  · have : j = l.length := by omega
    subst this; have hb0 := rowDepth_le l; rw [List.take_length]
    focus
     refine cS (lw_pure (pur_lss rfl rfl) rfl (cT (cw_seq ?_))); refine cw_no rfl (by omega) ?_; refine cw_exit (qw_then_exit (qw_then_exit (qw_block_exit (qw_then (cS (cM rfl rfl (cA rfl rfl (cT (cw_ret (qw_ret1 rfl rfl ?_)))))))))); rotate_left 1
    exact ⟨rfl, X⟩
end Bk
namespace Bk
open Go Go.RowKit
abbrev VD.cells (v : VD) : List Value := [str v.name, .int .u8 v.kind, .int .i64 v.len]
abbrev VD.val (v : VD) : Value := .agg #[str v.name, .int .u8 v.kind, .int .i64 v.len]
def VDAt (w : World) (b o : Nat) (v : VD) : Prop := Row w ⟨b, o, none⟩ v.cells
def VDs (S : Nat → Prop) (w : World) (l : List VD) (a : Option Addr) : Prop := Arr S 3 VDAt w l a
abbrev PD.cells (p : PD) (pa : Option Addr) (pc : Nat) (ba : Option Addr) (bc : Nat) : List Value := [str p.name, .slice pa p.params.length pc, .int .u8 p.body.kind, .int .i64 p.body.num, str p.body.name, .slice ba p.body.kids.length bc]
def PDAt (S : Nat → Prop) (w : World) (b o : Nat) (p : PD) : Prop := ∃ pa pc ba bc, Row w ⟨b, o, none⟩ (p.cells pa pc ba bc) ∧ VDs S w p.params pa ∧ p.body.sits S w ba
def PDs (S : Nat → Prop) (w : World) (l : List PD) (a : Option Addr) : Prop := Arr S 6 (PDAt S) w l a
theorem VDs.ext {S : Nat → Prop} {w w' : World} {l : List VD} {a : Option Addr} (h : VDs S w l a) (x : Ext w w') : VDs S w' l a := h.mono (fun _ h => h) (fun _ _ _ _ _ h => Row.ext h x)
theorem PDs.ext {S : Nat → Prop} {w w' : World} {l : List PD} {a : Option Addr} (h : PDs S w l a) (x : Ext w w') : PDs S w' l a :=
 h.mono (fun _ h => h) (fun _ _ _ _ _ ⟨pa, pc, ba, bc, h1, h2, h3⟩ => ⟨pa, pc, ba, bc, h1.ext x, h2.ext x, h3.ext x⟩)
abbrev PG.cells (g : PG) (va : Option Addr) (vc : Nat) (pa : Option Addr) (pc : Nat) (ma : Option Addr) (mc : Nat) : List Value :=
 [.slice va g.vars.length vc, .slice pa g.procs.length pc, .int .u8 g.main.kind, .int .i64 g.main.num, str g.main.name, .slice ma g.main.kids.length mc]
structure PG.sits (S : Nat → Prop) (w : World) (g : PG) (va pa ma : Option Addr) : Prop where
 vars : VDs S w g.vars va
 procs : PDs S w g.procs pa
 main : g.main.sits S w ma
theorem PG.sits.ext {S : Nat → Prop} {w w' : World} {g : PG} {va pa ma : Option Addr} (h : g.sits S w va pa ma) (x : Ext w w') : g.sits S w' va pa ma := ⟨h.vars.ext x, h.procs.ext x, h.main.ext x⟩
theorem VDs.fr {S T : Nat → Prop} {w w' : World} {l : List VD} {a : Option Addr} (h : VDs S w l a) (x : Fr T w w') (hs : ∀ b, S b → ¬ T b) : VDs S w' l a := h.mono (fun _ h => h) (fun b _ _ _ hb h => Row.fr h x (hs b hb))
theorem PDs.fr {S T : Nat → Prop} {w w' : World} {l : List PD} {a : Option Addr} (h : PDs S w l a) (x : Fr T w w') (hs : ∀ b, S b → ¬ T b) : PDs S w' l a :=
 h.mono (fun _ h => h) (fun b _ _ _ hb ⟨pa, pc, ba, bc, h1, h2, h3⟩ => ⟨pa, pc, ba, bc, h1.fr x (hs b hb), h2.fr x hs, h3.fr x hs⟩)
theorem PG.sits.fr {S T : Nat → Prop} {w w' : World} {g : PG} {va pa ma : Option Addr} (h : g.sits S w va pa ma) (x : Fr T w w') (hs : ∀ b, S b → ¬ T b) : g.sits S w' va pa ma := ⟨h.vars.fr x hs, h.procs.fr x hs, h.main.fr x hs⟩
theorem VDs.wide {S S' : Nat → Prop} {w : World} {l : List VD} {a : Option Addr} (h : VDs S w l a) (hs : ∀ b, S b → S' b) : VDs S' w l a := h.mono hs (fun _ _ _ _ _ h => h)
theorem row_move {w w' : World} {b o : Nat} {vs : List Value} (h : Row w ⟨b, o, none⟩ vs) (hc : ∀ o v, w.cell? ⟨b, o, none⟩ = some v → w'.cell? ⟨b, o, none⟩ = some v) : Row w' ⟨b, o, none⟩ vs := fun i v hi => by
 have := h.at hi
 have e : (⟨b, o, none⟩ : Addr).add i = ⟨b, o + i, none⟩ := by unfold Addr.add; by_cases h0 : i = 0 <;> simp [h0]
 rw [e]; exact hc _ _ this
theorem VDs.move {S S' : Nat → Prop} {w w' : World} {l : List VD} {a : Option Addr} (h : VDs S w l a) (hS : ∀ b, S b → S' b) (hc : ∀ b o v, S b → w.cell? ⟨b, o, none⟩ = some v → w'.cell? ⟨b, o, none⟩ = some v) : VDs S' w' l a :=
 h.mono hS (fun b o x _ hb h => row_move h (fun o v => hc b o v hb))
theorem VDs.lt2 {S : Nat → Prop} {w : World} {l : List VD} {a : Option Addr} (h : VDs S w l a) : VDs (fun b => S b ∧ b < w.heap.size) w l a := by
 rcases h with h | ⟨b, o, h1, h2, h3⟩
 · exact Or.inl h
 · cases l with
   | nil => exact Or.inl rfl
   | cons v r => exact Or.inr ⟨b, o, h1, ⟨h2, cell_lt (Row.at0 (h3 0 v rfl) rfl)⟩, h3⟩
def vdShape : Shape VD where
 sz := 3
 rep := fun _ _ v cs => cs = v.cells
 len := fun h => by rw [h]; rfl
 one := fun h => by rw [h]; rfl
 mono := fun h _ _ => h
 lt := fun h => h
def pdShape : Shape PD where
 sz := 6
 rep := fun w S p cs => ∃ pa pc ba bc, cs = p.cells pa pc ba bc ∧ VDs S w p.params pa ∧ p.body.sits S w ba
 len := fun ⟨_, _, _, _, h, _⟩ => by rw [h]; rfl
 one := fun ⟨_, _, _, _, h, _⟩ => by rw [h]; rfl
 mono := fun ⟨pa, pc, ba, bc, h, h1, h2⟩ hS hc => ⟨pa, pc, ba, bc, h, h1.move hS hc, Nd.sits_mono hS hc _ ba h2⟩
 lt := fun ⟨pa, pc, ba, bc, h, h1, h2⟩ => ⟨pa, pc, ba, bc, h, h1.lt2, sits_lt2 _ ba h2⟩
theorem maxLen_one : 1 ≤ maxLen := by unfold maxLen; omega
theorem OwnL.lit {α : Type} {sh : Shape α} {w : World} {B b e : Nat} {x : α} {cs : List Value} (h : TB w b cs e) (hB : B ≤ b) (hr : sh.rep w (fun k => B ≤ k ∧ k ≠ b) x cs) : OwnL sh w B e (.slice (some ⟨b, 0, none⟩) 1 1) [x] := by
 have hl := sh.len hr; refine ⟨[cs], ⟨by simp [hl], Or.inr ⟨b, 1, cs.toArray, rfl, hB, h, Nat.le_refl _, maxLen_one, by simp [hl], by simp [← hl]⟩⟩, rfl, fun i y ds hy hd => ?_⟩
 match i, hy, hd with
 | 0, hy, hd =>
  simp at hy hd
  subst hy hd
  exact sh.mono hr (fun k hk => ⟨hk.1, fun e => hk.2 (by simpa [Value.ownBlock] using e.symm)⟩) (fun _ _ _ _ h => h)
end Bk
namespace Bk
section
variable {ts : List Tok} {n : Int}
theorem next_at (σ : PS) : (nextP σ).at_ = σ.at_ + 1 := rfl
theorem expr_size (k : Nat) : (∀ lv σ, σ.at_ ≤ ts.length → (exprP ts n k lv σ).1.size + 8 * σ.at_ ≤ 8 * (exprP ts n k lv σ).2.at_ + 1) ∧ (∀ lv x σ, σ.at_ ≤ ts.length → (climbP ts n k lv x σ).1.size + 8 * σ.at_ ≤ 8 * (climbP ts n k lv x σ).2.at_ + x.size) ∧
 (∀ σ, σ.at_ ≤ ts.length → (unaryP ts n k σ).1.size + 8 * σ.at_ ≤ 8 * (unaryP ts n k σ).2.at_ + 1) ∧ (∀ σ, σ.at_ ≤ ts.length → (primaryP ts n k σ).1.size + 8 * σ.at_ ≤ 8 * (primaryP ts n k σ).2.at_ + 1) ∧
 (∀ σ, σ.at_ ≤ ts.length → (placeP ts n k σ).1.size + 8 * σ.at_ ≤ 8 * (placeP ts n k σ).2.at_ + 1) := by
 induction k with
 | zero =>
  refine ⟨fun lv σ h => ?_, fun lv x σ h => ?_, fun σ h => ?_, fun σ h => ?_, fun σ h => ?_⟩
  · rw [exprP]; simp [Nd.size, rowSize]; omega
  · rw [climbP]; simp; omega
  · rw [unaryP]; simp [Nd.size, rowSize]; omega
  · rw [primaryP]; simp [Nd.size, rowSize]; omega
  · rw [placeP]; simp [Nd.size, rowSize]; omega
 | succ k ih =>
  obtain ⟨iE, iC, iU, iP, iL⟩ := ih; obtain ⟨lE, lC, lU, lP, lL⟩ := expr_inv (ts := ts) (n := n) k; refine ⟨fun lv σ h => ?_, fun lv x σ h => ?_, fun σ h => ?_, fun σ h => ?_, fun σ h => ?_⟩
  · rw [exprP]
    have h1 := iU σ h; have h2 := iC lv (unaryP ts n k σ).1 (unaryP ts n k σ).2 (lU σ h).1.wf
    omega
  · rw [climbP]
    split
    · simp; omega
    · rename_i op hop
      obtain ⟨hne, -⟩ := binOf_ne hop; have hn := next_le (peek_in h (Or.inl hne))
      split
      · simp; omega
      · have h1 := iE (level op + 1) (nextP σ) hn.wf
        have h2 := iC lv (.mk op 0 [] [x, (exprP ts n k (level op + 1) (nextP σ)).1]) (exprP ts n k (level op + 1) (nextP σ)).2 (lE (level op + 1) (nextP σ) hn.wf).1.wf; have h3 := (lE (level op + 1) (nextP σ) hn.wf).1.le; rw [next_at] at h1 h3; simp only [Nd.size, rowSize] at h2
        omega
  · rw [unaryP]
    split
    · rename_i hh
      have hn := next_le (has_in h hh (by decide)); have h1 := iU (nextP σ) hn.wf; rw [next_at] at h1
      simp only [Nd.size, rowSize]; omega
    · split
      · rename_i hh
        have hn := next_le (has_in h hh (by decide)); have h1 := iU (nextP σ) hn.wf; rw [next_at] at h1
        simp only [Nd.size, rowSize]; omega
      · exact iP σ h
  · rw [primaryP]
    split
    · have := (number_le (n := n) (a := 0) (b := 9223372036854775807) h).le
      simp only [Nd.size, rowSize]; omega
    · split
      · rename_i hh
        have h1 := next_le (has_in h hh (by decide)); have h2 := h1.trans (expect_le (n := n) (t := [40]) h1.wf (by decide)); have h3 := h2.trans (name_le (n := n) h2.wf); have h4 := (h3.trans (expect_le (n := n) (t := [41]) h3.wf (by decide))).le
        simp only [Nd.size, rowSize]; omega
      · split
        · rename_i hh
          have h1 := next_le (has_in h hh (by decide)); have h2 := h1.trans (expect_le (n := n) (t := [40]) h1.wf (by decide)); have h3 := h2.trans (name_le (n := n) h2.wf); have h4 := (h3.trans (expect_le (n := n) (t := [41]) h3.wf (by decide))).le
          simp only [Nd.size, rowSize]; omega
        · split
          · rename_i hh
            have hn := next_le (has_in h hh (by decide)); have h1 := iE 1 (nextP σ) hn.wf; have h2 := (expect_le (n := n) (t := [41]) (lE 1 (nextP σ) hn.wf).1.wf (by decide)).le; rw [next_at] at h1
            simp only; omega
          · exact iL σ h
  · rw [placeP]
    have h0 := name_le (n := n) h; have h0' := h0.le
    split
    · rename_i hh
      have hn := next_le (has_in h0.wf hh (by decide)); have h1 := iE 1 (nextP (nameP ts n σ).2) hn.wf; have h2 := (expect_le (n := n) (t := [93]) (lE 1 _ hn.wf).1.wf (by decide)).le; rw [next_at] at h1
      simp only [Nd.size, rowSize]; omega
    · simp only [Nd.size, rowSize]; omega
theorem rowSize_append (l m : List Nd) : rowSize (l ++ m) = rowSize l + rowSize m := by
 induction l with
 | nil => simp [rowSize]
 | cons x r ih => simp only [List.cons_append, rowSize, ih]; omega
theorem arg_size (σ : PS) : (argP ts n σ).1.size = 1 := rfl
theorem args_size : ∀ (k : Nat) (acc : List Nd) (σ : PS), σ.at_ ≤ ts.length → rowSize (argsP ts n k acc σ).1 + 8 * σ.at_ ≤ 8 * (argsP ts n k acc σ).2.at_ + rowSize acc
 | 0, acc, σ, h => by rw [argsP]; simp; omega
 | k + 1, acc, σ, h => by
  rw [argsP]
  split
  · rename_i hh
    have h1 := next_le (has_in h hh (by decide))
    generalize hS : (if acc.length = 8 ∧ isName (peekP ts (nextP σ)).text = true then failP (nextP σ) (peekP ts (nextP σ)).pos 5 else nextP σ) = ρ
    have h2 : Le ts (nextP σ) ρ := by
     rw [← hS]
     split
     · exact fail_le h1.wf _ _
     · exact Le.refl h1.wf
    have h3 := name_le (n := n) h2.wf; have h4 := args_size k (acc ++ [(argP ts n ρ).1]) (argP ts n ρ).2 h3.wf; rw [rowSize_append] at h4
    have h5 : (argP ts n ρ).2.at_ ≥ σ.at_ + 1 := by
     have e1 := h2.le; have e2 := h3.le
     rw [next_at] at e1
     show (nameP ts n ρ).2.at_ ≥ σ.at_ + 1
     omega
    simp only [rowSize, arg_size] at h4
    omega
  · simp; omega
theorem call_size {k : Nat} {kind : Int} {σ : PS} (hn : In ts σ) : (callP ts n k kind σ).1.size + 8 * σ.at_ ≤ 8 * (callP ts n k kind σ).2.at_ + 1 := by
 unfold callP
 dsimp only; have h1 := next_le hn; have h2 := h1.trans (name_le (n := n) h1.wf); have h3 := h2.trans (expect_le (n := n) (t := [40]) h2.wf (by decide)); have e1 := (name_le (n := n) h1.wf).le; have e2 := (expect_le (n := n) (t := [40]) h2.wf (by decide)).le; rw [next_at] at e1
 split
 · have := next_at (expectP ts n (nameP ts n (nextP σ)).2 [40])
   simp only [Nd.size, rowSize]; omega
 · have h4 := name_le (n := n) h3.wf
   have e3 := h4.le; have h5 := args_size (ts := ts) (n := n) k [(argP ts n (expectP ts n (nameP ts n (nextP σ)).2 [40])).1] (argP ts n (expectP ts n (nameP ts n (nextP σ)).2 [40])).2 h4.wf; have h6 := args_le (n := n) k [(argP ts n (expectP ts n (nameP ts n (nextP σ)).2 [40])).1] (argP ts n (expectP ts n (nameP ts n (nextP σ)).2 [40])).2 h4.wf; have e4 := (expect_le (n := n) (t := [41]) h6.wf (by decide)).le; have e5 : (argP ts n (expectP ts n (nameP ts n (nextP σ)).2 [40])).2.at_ ≥ (expectP ts n (nameP ts n (nextP σ)).2 [40]).at_ := e3; simp only [rowSize, arg_size] at h5
   simp only [Nd.size]; omega
theorem place_size {k : Nat} {σ : PS} (h : σ.at_ ≤ ts.length) : (placeP ts n k σ).1.size + 8 * σ.at_ ≤ 8 * (placeP ts n k σ).2.at_ + 1 := (expr_size k).2.2.2.2 σ h
theorem exprs_size {k : Nat} {lv : Int} {σ : PS} (h : σ.at_ ≤ ts.length) : (exprP ts n k lv σ).1.size + 8 * σ.at_ ≤ 8 * (exprP ts n k lv σ).2.at_ + 1 := (expr_size k).1 lv σ h
theorem update_size {k : Nat} {σ : PS} (h : σ.at_ ≤ ts.length) : (updateP ts n k σ).1.size + 8 * σ.at_ ≤ 8 * (updateP ts n k σ).2.at_ + 1 := by
 unfold updateP
 dsimp only; have h1 := place_size (n := n) (k := k) h; have l1 := place_le (n := n) (k := k) h
 split
 · rename_i hh
   have l2 := next_le (has_in l1.wf hh (by decide)); have h2 := place_size (n := n) (k := k) l2.wf; rw [next_at] at h2
   simp only [Nd.size, rowSize]; omega
 · split
   · have := (unexp_le (n := n) l1.wf).le
     have := l1.le
     simp only [Nd.size, rowSize]; omega
   · rename_i hh
     have l2 := next_le (peek_in l1.wf (Or.inl (upd_ne hh))); have h2 := exprs_size (n := n) (k := k) (lv := 1) l2.wf; rw [next_at] at h2
     simp only [Nd.size, rowSize]; omega
theorem stack_size {k : Nat} {kind : Int} {σ : PS} (hn : In ts σ) : (stackP ts n k kind σ).1.size + 8 * σ.at_ ≤ 8 * (stackP ts n k kind σ).2.at_ + 1 := by
 unfold stackP
 dsimp only; have h1 := next_le hn; have h2 := place_size (n := n) (k := k) h1.wf; have l2 := place_le (n := n) (k := k) h1.wf; have l3 := expect_le (n := n) (t := [44]) l2.wf (by decide); have l4 := (name_le (n := n) l3.wf).le; have l3' := l3.le; rw [next_at] at h2
 simp only [Nd.size, rowSize]; omega
theorem tape_size {k : Nat} {kind : Int} {σ : PS} (hn : In ts σ) : (tapeP ts n k kind σ).1.size + 8 * σ.at_ ≤ 8 * (tapeP ts n k kind σ).2.at_ + 1 := by
 unfold tapeP
 have h1 := next_le hn; have h2 := place_size (n := n) (k := k) h1.wf; rw [next_at] at h2
 simp only [Nd.size, rowSize]; omega
theorem stmt_size (k : Nat) : (∀ σ, σ.at_ ≤ ts.length → (stmtP ts n k σ).1.size + 8 * σ.at_ ≤ 8 * (stmtP ts n k σ).2.at_ + 1) ∧ (∀ kind mid last σ, In ts σ → mid ≠ [] → last ≠ [] → (branchesP ts n k kind mid last σ).1.size + 8 * σ.at_ ≤ 8 * (branchesP ts n k kind mid last σ).2.at_ + 1) ∧ (∀ σ, In ts σ → (localP ts n k σ).1.size + 8 * σ.at_ ≤ 8 * (localP ts n k σ).2.at_ + 1) ∧
 (∀ σ, σ.at_ ≤ ts.length → (blockP ts n k σ).1.size + 8 * σ.at_ ≤ 8 * (blockP ts n k σ).2.at_ + 2) ∧ (∀ acc σ, σ.at_ ≤ ts.length → rowSize (stmtsP ts n k acc σ).1 + 8 * σ.at_ ≤ 8 * (stmtsP ts n k acc σ).2.at_ + rowSize acc + (if σ.err = 0 then 1 else 0)) := by
 induction k with
 | zero =>
  refine ⟨fun σ h => ?_, fun kind mid last σ h _ _ => ?_, fun σ h => ?_, fun σ h => ?_, fun acc σ h => ?_⟩
  · rw [stmtP]; simp [Nd.size, rowSize]; omega
  · rw [branchesP]; simp [Nd.size, rowSize]; omega
  · rw [localP]; simp [Nd.size, rowSize]; omega
  · rw [blockP]; simp [Nd.size, rowSize]; omega
  · rw [stmtsP]; simp only; split <;> omega
 | succ k ih =>
  obtain ⟨iS, iB, iL, iK, iT⟩ := ih; obtain ⟨lS, lB, lL, lK, lT⟩ := stmt_inv (ts := ts) (n := n) k; refine ⟨fun σ h => ?_, fun kind mid last σ hn hmid hlast => ?_, fun σ hn => ?_, fun σ h => ?_, fun acc σ h => ?_⟩
  · have hin : ∀ t : List UInt8, (peekP ts σ).text = t → t ≠ [] → In ts σ := fun t e ht => peek_in h (Or.inl (by rw [e]; exact ht))
    rw [stmtP]
    by_cases e : (peekP ts σ).text = [112, 117, 115, 104]
    · rw [if_pos e]; exact stack_size (hin _ e (by decide))
    rw [if_neg e]; clear e
    by_cases e : (peekP ts σ).text = [112, 111, 112]
    · rw [if_pos e]; exact stack_size (hin _ e (by decide))
    rw [if_neg e]; clear e
    by_cases e : (peekP ts σ).text = [114, 101, 97, 100]
    · rw [if_pos e]; exact tape_size (hin _ e (by decide))
    rw [if_neg e]; clear e
    by_cases e : (peekP ts σ).text = [117, 110, 114, 101, 97, 100]
    · rw [if_pos e]; exact tape_size (hin _ e (by decide))
    rw [if_neg e]; clear e
    by_cases e : (peekP ts σ).text = [119, 114, 105, 116, 101]
    · rw [if_pos e]; exact tape_size (hin _ e (by decide))
    rw [if_neg e]; clear e
    by_cases e : (peekP ts σ).text = [117, 110, 119, 114, 105, 116, 101]
    · rw [if_pos e]; exact tape_size (hin _ e (by decide))
    rw [if_neg e]; clear e
    by_cases e : (peekP ts σ).text = [99, 97, 108, 108]
    · rw [if_pos e]; exact call_size (hin _ e (by decide))
    rw [if_neg e]; clear e
    by_cases e : (peekP ts σ).text = [117, 110, 99, 97, 108, 108]
    · rw [if_pos e]; exact call_size (hin _ e (by decide))
    rw [if_neg e]; clear e
    by_cases e : (peekP ts σ).text = [105, 102]
    · rw [if_pos e]; exact iB _ _ _ σ (hin _ e (by decide)) (by decide) (by decide)
    rw [if_neg e]; clear e
    by_cases e : (peekP ts σ).text = [102, 114, 111, 109]
    · rw [if_pos e]; exact iB _ _ _ σ (hin _ e (by decide)) (by decide) (by decide)
    rw [if_neg e]; clear e
    by_cases e : (peekP ts σ).text = [108, 111, 99, 97, 108]
    · rw [if_pos e]; exact iL σ (hin _ e (by decide))
    rw [if_neg e]; clear e
    exact update_size h
  · rw [branchesP]
    (try dsimp only); have l1 := next_le hn; have s2 := exprs_size (n := n) (k := k) (lv := 1) l1.wf; have l2 := expr_le (n := n) (k := k) (lv := 1) l1.wf; have s3 := iK _ l2.wf; have l3 := lK _ l2.wf; have l4 := expect_le (n := n) l3.wf hmid; have s5 := iK _ l4.wf; have l5 := lK _ l4.wf; have l6 := expect_le (n := n) l5.wf hlast; have s7 := exprs_size (n := n) (k := k) (lv := 1) l6.wf; have e4 := l4.le; have e6 := l6.le; rw [next_at] at s2
    simp only [Nd.size, rowSize]; omega
  · rw [localP]
    (try dsimp only); have l1 := next_le hn
    split
    · rename_i hh
      have l2 := next_le (has_in l1.wf hh (by decide)); have l3 := name_le (n := n) l2.wf; have s4 := iK _ l3.wf; have e3 := l3.le; rw [next_at, next_at] at e3
      simp only [Nd.size, rowSize]; omega
    · have l2 := name_le (n := n) l1.wf
      have l3 := expect_le (n := n) (t := [61]) l2.wf (by decide); have s4 := exprs_size (n := n) (k := k) (lv := 1) l3.wf; have l4 := expr_le (n := n) (k := k) (lv := 1) l3.wf; have s5 := iK _ l4.wf; have l5 := lK _ l4.wf; have l6 := expect_le (n := n) (t := [100, 101, 108, 111, 99, 97, 108]) l5.wf (by decide); have s7 := exprs_size (n := n) (k := k) (lv := 1) l6.wf; have e2 := l2.le; have e3 := l3.le; have e6 := l6.le; rw [next_at] at e2
      simp only [Nd.size, rowSize]; omega
  · rw [blockP]
    (try dsimp only); have l1 := expect_le (n := n) (t := [123]) h (by decide); have s2 := iT [] _ l1.wf; have e1 := l1.le; simp only [rowSize] at s2; simp only [Nd.size]
    split at s2 <;> omega
  · rw [stmtsP]
    split
    · simp only; (try split) <;> omega
    · rename_i he
      have h0 : σ.err = 0 := Decidable.byContradiction he
      split
      · rename_i hh
        have := next_at σ
        simp only; (try split) <;> omega
      · have s1 := iS σ h
        have l1 := lS σ h; have l2 := expect_le (n := n) (t := [59]) l1.wf (by decide); have s3 := iT (acc ++ [(stmtP ts n k σ).1]) _ l2.wf; rw [rowSize_append] at s3; simp only [rowSize] at s3; have e2 := l2.le
        have e3 : (expectP ts n (stmtP ts n k σ).2 [59]).err = 0 → (stmtP ts n k σ).2.at_ + 1 ≤ (expectP ts n (stmtP ts n k σ).2 [59]).at_ := fun e => expect_lt (n := n) e
        (try rw [if_pos h0])
        split at s3
        · rename_i e; have := e3 e; omega
        · omega
end
end Bk
namespace Bk
open Go Go.RowKit Go.Proofs
attribute [local irreducible] Go.Calls
set_option maxRecDepth 100000 in
set_option maxHeartbeats 1000000 in
theorem limit_c (c : PC) (σ : PS) (t : Nd) (S : Nat → Prop) (a : Option Addr) (k : Nat) (off : Int) (w : World) (hP : PP c σ w) (hz : t.size ≤ 1000000000) (hs : t.sits S w a) :
 Calls Tryz.prog 62 #[.pointer (some ⟨c.pb, 0, none⟩), t.val a k, .int .i64 off] w fun r w' => r = .returned (.tuple #[]) ∧ PP c (limitP t off σ) w' ∧ Fr (· = c.pb) w w' := by
 have X := Fr.refl (· = c.pb) w; have hpb := hP.pbB; have hB := hP.B
 by_cases h0 : σ.err = 0
 · by_cases hd : 80 < t.depth
   · rw [show limitP t off σ = failP σ off 19 from by simp [limitP, h0, hd]]
     refine calls_in Tryz.func62 Tryz.ntmps62 rfl rfl ?_
     focus
      refine cS ?_; (refine lw_box' [_, _, _, _] rfl rfl rfl ?_; intro b1 w2 n3); have h4 := n3.blk; have x5 := n3.ext; have p6 := n3.pos; have z7 := n3.size; clear n3; replace hP := hP.ext x5; replace hs := Nd.sits.ext hs x5; replace X := X.ext x5; clear x5; refine cT (cw_block (cS (cM rfl rfl (lw_pure (pur_nilCheck rfl) rfl (lw_pure (pur_fieldAddr tabOk rfl rfl rfl) rfl (lw_load_b tabOk rfl rfl rfl (PP.blk hP) rfl rfl (lw_pure (pur_neq rfl rfl) rfl (cA rfl rfl (cT ?_))))))))); refine cw_no rfl (by omega) ?_; refine cS (lw_loads_b' [_, _, _, _] tabOk rfl rfl rfl h4 rfl rfl rfl ?_); refine cC (by kernel_rfl) rfl (Depth_c _ _ _ _ _ _ (Nat.lt_succ_self _) (by omega) (by assumption)) rfl ?_; rintro _ w9 ⟨⟨⟩, x8⟩; have z10 := x8.size; replace h4 := h4.ext x8; replace hP := hP.ext x8; replace hs := Nd.sits.ext hs x8; replace X := X.ext x8; clear x8; refine lw_pure (pur_gtr rfl rfl) rfl (cA rfl rfl (cT ?_)); refine cw_yes rfl (by assumption) ?_; refine cw_region (cM rfl rfl (cM rfl rfl ?_)); refine cC (by kernel_rfl) rfl (fail_c _ _ _ _ _ (by assumption)) rfl ?_; rintro _ w13 ⟨⟨⟩, ⟨h11, f12⟩⟩; have z14 := f12.size; replace h4 := h4.fr f12 (by omega); clear hP hs; replace X := X.fr f12 (by omega); clear f12; refine lw_nil (qw_block_norm (qw_end0 rfl ?_)); rotate_left 1
     exact ⟨rfl, by assumption, X⟩
   · by_cases h2 : 2000 < t.size
     · rw [show limitP t off σ = failP σ off 5 from by simp [limitP, h0, hd, h2]]
       refine calls_in Tryz.func62 Tryz.ntmps62 rfl rfl ?_
       focus
        refine cS ?_; (refine lw_box' [_, _, _, _] rfl rfl rfl ?_; intro ba1 wa2 na3); have ha4 := na3.blk; have xa5 := na3.ext; have pa6 := na3.pos; have za7 := na3.size; clear na3; replace hP := hP.ext xa5; replace hs := Nd.sits.ext hs xa5; replace X := X.ext xa5; clear xa5; refine cT (cw_block (cS (cM rfl rfl (lw_pure (pur_nilCheck rfl) rfl (lw_pure (pur_fieldAddr tabOk rfl rfl rfl) rfl (lw_load_b tabOk rfl rfl rfl (PP.blk hP) rfl rfl (lw_pure (pur_neq rfl rfl) rfl (cA rfl rfl (cT ?_))))))))); refine cw_no rfl (by omega) ?_; refine cS (lw_loads_b' [_, _, _, _] tabOk rfl rfl rfl ha4 rfl rfl rfl ?_); refine cC (by kernel_rfl) rfl (Depth_c _ _ _ _ _ _ (Nat.lt_succ_self _) (by omega) (by assumption)) rfl ?_; rintro _ wa9 ⟨⟨⟩, xa8⟩; have za10 := xa8.size; replace ha4 := ha4.ext xa8; replace hP := hP.ext xa8; replace hs := Nd.sits.ext hs xa8; replace X := X.ext xa8; clear xa8; refine lw_pure (pur_gtr rfl rfl) rfl (cA rfl rfl (cT ?_)); refine cw_no rfl (by assumption) ?_; refine cS (lw_loads_b' [_, _, _, _] tabOk rfl rfl rfl ha4 rfl rfl rfl ?_); refine cC (by kernel_rfl) rfl (Size_c _ _ _ _ _ _ (Nat.lt_succ_self _) (by omega) (by assumption)) rfl ?_; rintro _ wa12 ⟨⟨⟩, xa11⟩; have za13 := xa11.size; replace ha4 := ha4.ext xa11; replace hP := hP.ext xa11; replace hs := Nd.sits.ext hs xa11; replace X := X.ext xa11; clear xa11; refine lw_pure (pur_gtr rfl rfl) rfl (cA rfl rfl (cT ?_)); refine cw_yes rfl (by omega) ?_; refine cw_region (cM rfl rfl (cM rfl rfl ?_)); refine cC (by kernel_rfl) rfl (fail_c _ _ _ _ _ (by assumption)) rfl ?_
        rintro _ wa16 ⟨⟨⟩, ⟨ha14, fa15⟩⟩; have za17 := fa15.size; replace ha4 := ha4.fr fa15 (by omega); clear hP hs; replace X := X.fr fa15 (by omega); clear fa15; refine lw_nil (qw_block_norm (qw_end0 rfl ?_)); rotate_left 1
       exact ⟨rfl, by assumption, X⟩
     · rw [show limitP t off σ = σ from by simp [limitP, h0, hd, h2]]
       refine calls_in Tryz.func62 Tryz.ntmps62 rfl rfl ?_
       focus
        refine cS ?_; (refine lw_box' [_, _, _, _] rfl rfl rfl ?_; intro bb1 wb2 nb3); have hb4 := nb3.blk; have xb5 := nb3.ext; have pb6 := nb3.pos; have zb7 := nb3.size; clear nb3; replace hP := hP.ext xb5; replace hs := Nd.sits.ext hs xb5; replace X := X.ext xb5; clear xb5; refine cT (cw_block (cS (cM rfl rfl (lw_pure (pur_nilCheck rfl) rfl (lw_pure (pur_fieldAddr tabOk rfl rfl rfl) rfl (lw_load_b tabOk rfl rfl rfl (PP.blk hP) rfl rfl (lw_pure (pur_neq rfl rfl) rfl (cA rfl rfl (cT ?_))))))))); refine cw_no rfl (by omega) ?_; refine cS (lw_loads_b' [_, _, _, _] tabOk rfl rfl rfl hb4 rfl rfl rfl ?_); refine cC (by kernel_rfl) rfl (Depth_c _ _ _ _ _ _ (Nat.lt_succ_self _) (by omega) (by assumption)) rfl ?_; rintro _ wb9 ⟨⟨⟩, xb8⟩; have zb10 := xb8.size; replace hb4 := hb4.ext xb8; replace hP := hP.ext xb8; replace hs := Nd.sits.ext hs xb8; replace X := X.ext xb8; clear xb8; refine lw_pure (pur_gtr rfl rfl) rfl (cA rfl rfl (cT ?_)); refine cw_no rfl (by assumption) ?_; refine cS (lw_loads_b' [_, _, _, _] tabOk rfl rfl rfl hb4 rfl rfl rfl ?_); refine cC (by kernel_rfl) rfl (Size_c _ _ _ _ _ _ (Nat.lt_succ_self _) (by omega) (by assumption)) rfl ?_; rintro _ wb12 ⟨⟨⟩, xb11⟩; have zb13 := xb11.size; replace hb4 := hb4.ext xb11; replace hP := hP.ext xb11; replace hs := Nd.sits.ext hs xb11; replace X := X.ext xb11; clear xb11; refine lw_pure (pur_gtr rfl rfl) rfl (cA rfl rfl (cT ?_)); refine cw_no rfl (by omega) ?_; refine cw_skip (qw_block_norm (qw_end0 rfl ?_)); rotate_left 1
       exact ⟨rfl, by assumption, X⟩
 · rw [show limitP t off σ = σ from by simp [limitP, h0]]
   refine calls_in Tryz.func62 Tryz.ntmps62 rfl rfl ?_
   focus
    refine cS ?_; (refine lw_box' [_, _, _, _] rfl rfl rfl ?_; intro bc1 wc2 nc3); have hc4 := nc3.blk; have xc5 := nc3.ext; have pc6 := nc3.pos; have zc7 := nc3.size; clear nc3; replace hP := hP.ext xc5; replace hs := Nd.sits.ext hs xc5; replace X := X.ext xc5; clear xc5; refine cT (cw_block (cS (cM rfl rfl (lw_pure (pur_nilCheck rfl) rfl (lw_pure (pur_fieldAddr tabOk rfl rfl rfl) rfl (lw_load_b tabOk rfl rfl rfl (PP.blk hP) rfl rfl (lw_pure (pur_neq rfl rfl) rfl (cA rfl rfl (cT ?_))))))))); refine cw_yes rfl (by assumption) ?_; refine cw_skip (qw_block_norm (qw_end0 rfl ?_)); rotate_left 1
   exact ⟨rfl, by assumption, X⟩
end Bk
namespace Bk
open Go
section
variable {ts : List Tok} {n : Int}
theorem block_le {k : Nat} {σ : PS} (h : σ.at_ ≤ ts.length) : Le ts σ (blockP ts n k σ).2 := (stmt_inv k).2.2.2.1 σ h
end
end Bk
namespace Bk
open Go
section
variable {ts : List Tok} {n : Int}
end
end Bk
namespace Bk
open Go
section
variable (ts : List Tok) (n : Int)
def posR (σ : PS) : Int := if ts.length ≤ σ.at_ then n else (ts.getD σ.at_ Tok.zero).pos
def declKind (t : List UInt8) : Int := if t = [105, 110, 116] then 1 else if t = [97, 114, 114, 97, 121] then 2 else 3
def declR (many most : Nat) (σ : PS) : VD × PS :=
 if atDeclP ts σ = false then (⟨[], 0, 0⟩, unexpP ts n σ)
 else if many = most then (⟨[], 0, 0⟩, failP σ (posR ts n σ) 5)
 else
  let m := nameP ts n (nextP σ)
  if declKind (peekP ts σ).text = 2 then
   let σ1 := expectP ts n m.2 [91]
   let r := numberR ts n σ1
   let σ2 := if r.2.err = 0 ∧ (r.1 < 1 ∨ 16 < r.1) then failP r.2 (posR ts n σ1) 2 else r.2
   (⟨m.1, 2, r.1⟩, expectP ts n σ2 [93])
  else (⟨m.1, declKind (peekP ts σ).text, 0⟩, m.2)
end
section
variable {ts : List Tok} {n : Int}
theorem decl_le {σ : PS} (h : σ.at_ ≤ ts.length) : Le ts σ (declP ts n σ).2 := by
 unfold declP
 split
 · rename_i hh
   have h1 := next_le (has_in h hh (by decide))
   exact h1.trans (name_le h1.wf)
 · split
   · rename_i hh
     have h1 := next_le (has_in h hh (by decide))
     exact h1.trans (name_le h1.wf)
   · split
     · rename_i hh
       have h1 := next_le (has_in h hh (by decide)); have h2 := h1.trans (name_le (n := n) h1.wf); have h3 := h2.trans (expect_le (n := n) (t := [91]) h2.wf (by decide)); have h4 := h3.trans (number_le (n := n) (a := 1) (b := 16) h3.wf)
       exact h4.trans (expect_le h4.wf (by decide))
     · exact unexp_le h
end
section
variable (ts : List Tok) (n : Int)
def paramsR : Nat → List VD → PS → List VD × PS
 | 0, acc, σ => (acc, σ)
 | k + 1, acc, σ =>
  if hasP ts (declR ts n acc.length 8 σ).2 [44] then paramsR k (acc ++ [(declR ts n acc.length 8 σ).1]) (nextP (declR ts n acc.length 8 σ).2)
  else (acc ++ [(declR ts n acc.length 8 σ).1], (declR ts n acc.length 8 σ).2)
end
section
variable {ts : List Tok} {n : Int}
theorem params_le (k : Nat) : ∀ acc σ, σ.at_ ≤ ts.length → Le ts σ (paramsP ts n k acc σ).2 := by
 induction k with
 | zero => intro acc σ h; rw [paramsP]; exact Le.refl h
 | succ k ih =>
  intro acc σ h; rw [paramsP]
  split
  · rename_i hh
    have h1 := next_le (has_in h hh (by decide)); simp only
    have h2 : Le ts σ (if acc.length = 8 ∧ atDeclP ts (nextP σ) = true then failP (nextP σ) (peekP ts (nextP σ)).pos 5 else nextP σ) := by
     split
     · exact h1.trans (fail_le h1.wf _ _)
     · exact h1
    generalize (if acc.length = 8 ∧ atDeclP ts (nextP σ) = true then failP (nextP σ) (peekP ts (nextP σ)).pos 5 else nextP σ) = τ at *
    have h3 := h2.trans (decl_le (n := n) h2.wf)
    exact h3.trans (ih _ _ h3.wf)
  · exact Le.refl h
end
section
variable (ts : List Tok) (n : Int)
def wholeR (k : Nat) (σ : PS) : Nd × PS := ((bodyR ts n k σ).1, limitP (bodyR ts n k σ).1 (posR ts n σ) (bodyR ts n k σ).2)
end
section
variable {ts : List Tok} {n : Int}
theorem limit_le {x : Nd} {off : Int} {σ : PS} (h : σ.at_ ≤ ts.length) : Le ts σ (limitP x off σ) := by
 unfold limitP
 split
 · exact Le.refl h
 · split
   · exact fail_le h _ _
   · split
     · exact fail_le h _ _
     · exact Le.refl h
end
section
variable (ts : List Tok) (n : Int)
def procR (k : Nat) (σ : PS) : PD × PS :=
 let m := nameP ts n (nextP σ)
 let σ1 := expectP ts n m.2 [40]
 let q := if σ1.err = 0 ∧ hasP ts σ1 [41] = false then paramsR ts n k [] σ1 else ([], σ1)
 let b := wholeR ts n k (expectP ts n q.2 [41])
 (⟨m.1, q.1, b.1⟩, b.2)
def varsR : Nat → List VD → PS → List VD × PS
 | 0, acc, σ => (acc, σ)
 | k + 1, acc, σ => if σ.err = 0 ∧ atDeclP ts σ = true then varsR k (acc ++ [(declR ts n acc.length 32 σ).1]) (declR ts n acc.length 32 σ).2 else (acc, σ)
def procsR : Nat → List PD → PS → List PD × PS
 | 0, acc, σ => (acc, σ)
 | k + 1, acc, σ =>
  if σ.err = 0 ∧ hasP ts σ [112, 114, 111, 99] = true then
   if acc.length = 64 then (acc, failP σ (posR ts n σ) 5)
   else procsR k (acc ++ [(procR ts n k σ).1]) (procR ts n k σ).2
  else (acc, σ)
def programR (k : Nat) (σ : PS) : PG × PS :=
 let v := varsR ts n k [] σ
 let p := procsR ts n k [] v.2
 let b := wholeR ts n k (expectP ts n p.2 [109, 97, 105, 110])
 (⟨v.1, p.1, b.1⟩, b.2)
end
section
variable {ts : List Tok} {n : Int}
theorem bodyP_le {k : Nat} {σ : PS} (h : σ.at_ ≤ ts.length) : Le ts σ (bodyP ts n k σ).2 := by
 unfold bodyP
 have h1 := block_le (n := n) (k := k) h
 exact h1.trans (limit_le h1.wf)
theorem vars_le (k : Nat) : ∀ acc σ, σ.at_ ≤ ts.length → Le ts σ (varsP ts n k acc σ).2 := by
 induction k with
 | zero => intro acc σ h; rw [varsP]; exact Le.refl h
 | succ k ih =>
  intro acc σ h; rw [varsP]
  split
  · have h2 : Le ts σ (if acc.length = 32 then failP σ (peekP ts σ).pos 5 else σ) := by
     split
     · exact fail_le h _ _
     · exact Le.refl h
    have h3 := h2.trans (decl_le (n := n) h2.wf)
    exact h3.trans (ih _ _ h3.wf)
  · exact Le.refl h
end
end Bk
namespace Bk
open Go
section
variable {ts : List Tok} {n : Int}
def procQ (ts : List Tok) (n : Int) (k : Nat) (σ : PS) : List VD × PS :=
 if hasP ts σ [41] then ([], nextP σ) else ((paramsP ts n k [(declP ts n σ).1] (declP ts n σ).2).1, expectP ts n (paramsP ts n k [(declP ts n σ).1] (declP ts n σ).2).2 [41])
def procQR (ts : List Tok) (n : Int) (k : Nat) (σ : PS) : List VD × PS :=
 ((if σ.err = 0 ∧ hasP ts σ [41] = false then paramsR ts n k [] σ else ([], σ)).1, expectP ts n (if σ.err = 0 ∧ hasP ts σ [41] = false then paramsR ts n k [] σ else ([], σ)).2 [41])
theorem procQ_le {k : Nat} {σ : PS} (h : σ.at_ ≤ ts.length) : Le ts σ (procQ ts n k σ).2 := by
 unfold procQ
 split
 · rename_i hh
   exact next_le (has_in h hh (by decide))
 · have h1 := decl_le (n := n) h
   have h2 := h1.trans (params_le (n := n) k [(declP ts n σ).1] _ h1.wf)
   exact h2.trans (expect_le h2.wf (by decide))
theorem procP_at {k : Nat} {σ : PS} : procP ts n k σ = (⟨(nameP ts n (expectP ts n σ [112, 114, 111, 99])).1, (procQ ts n k (expectP ts n (nameP ts n (expectP ts n σ [112, 114, 111, 99])).2 [40])).1, (bodyP ts n k (procQ ts n k (expectP ts n (nameP ts n (expectP ts n σ [112, 114, 111, 99])).2 [40])).2).1⟩, (bodyP ts n k (procQ ts n k (expectP ts n (nameP ts n (expectP ts n σ [112, 114, 111, 99])).2 [40])).2).2) := by
 simp only [procP, procQ]
theorem procP_le {k : Nat} {σ : PS} (h : σ.at_ ≤ ts.length) : Le ts σ (procP ts n k σ).2 := by
 rw [procP_at]; have h1 := expect_le (n := n) (t := [112, 114, 111, 99]) h (by decide); have h2 := h1.trans (name_le (n := n) h1.wf); have h3 := h2.trans (expect_le (n := n) (t := [40]) h2.wf (by decide)); have h4 := h3.trans (procQ_le (n := n) (k := k) h3.wf)
 exact h4.trans (bodyP_le h4.wf)
theorem procs_le (k : Nat) : ∀ acc σ, σ.at_ ≤ ts.length → Le ts σ (procsP ts n k acc σ).2 := by
 induction k with
 | zero => intro acc σ h; rw [procsP]; exact Le.refl h
 | succ k ih =>
  intro acc σ h; rw [procsP]
  split
  · have h2 : Le ts σ (if acc.length = 64 then failP σ (peekP ts σ).pos 5 else σ) := by
     split
     · exact fail_le h _ _
     · exact Le.refl h
    have h3 := h2.trans (procP_le (n := n) (k := k) h2.wf)
    exact h3.trans (ih _ _ h3.wf)
  · exact Le.refl h
end
end Bk
namespace Bk
open Go Go.RowKit Go.Proofs
attribute [local irreducible] Go.Calls
def VdsR (c : PC) (w : World) (r : List VD × PS) : Ending → World → Prop := fun e w' => ∃ a k, e = .returned (.slice a r.1.length k) ∧ VDs (fun b => w.heap.size ≤ b ∧ b < w'.heap.size) w' r.1 a ∧ PP c r.2 w' ∧ Fr (· = c.pb) w w'
theorem VdsR.ret {c : PC} {w : World} {r : List VD × PS} {e : Ending} {w' : World} (h : VdsR c w r e w') : ∃ v, e = .returned v := by
 obtain ⟨_, _, h, -⟩ := h
 exact ⟨_, h⟩
def PdR (c : PC) (w : World) (r : PD × PS) : Ending → World → Prop := fun e w' => ∃ pa pc ba bc, e = .returned (.agg (r.1.cells pa pc ba bc).toArray) ∧ VDs (fun b => w.heap.size ≤ b ∧ b < w'.heap.size) w' r.1.params pa ∧ r.1.body.sits (fun b => w.heap.size ≤ b ∧ b < w'.heap.size) w' ba ∧ PP c r.2 w' ∧ Fr (· = c.pb) w w'
theorem PdR.ret {c : PC} {w : World} {r : PD × PS} {e : Ending} {w' : World} (h : PdR c w r e w') : ∃ v, e = .returned v := by
 obtain ⟨_, _, _, _, h, -⟩ := h
 exact ⟨_, h⟩
end Bk
namespace Bk
open Go Go.RowKit Go.Proofs
attribute [local irreducible] Go.Calls
def PgR (c : PC) (w : World) (r : PG × PS) : Ending → World → Prop := fun e w' => ∃ va vc pa pc ma mc, e = .returned (.agg (r.1.cells va vc pa pc ma mc).toArray) ∧ r.1.sits (w.heap.size ≤ ·) w' va pa ma ∧ PP c r.2 w' ∧ Fr (· = c.pb) w w'
theorem PgR.ret {c : PC} {w : World} {r : PG × PS} {e : Ending} {w' : World} (h : PgR c w r e w') : ∃ v, e = .returned v := by
 obtain ⟨_, _, _, _, _, _, h, -⟩ := h
 exact ⟨_, h⟩
theorem PDs.wide {S S' : Nat → Prop} {w : World} {l : List PD} {a : Option Addr} (h : PDs S w l a) (hs : ∀ b, S b → S' b) : PDs S' w l a :=
 h.mono hs (fun _ _ _ _ _ ⟨pa, pc, ba, bc, h1, h2, h3⟩ => ⟨pa, pc, ba, bc, h1, h2.wide hs, h3.wide hs⟩)
end Bk
namespace Bk
open Go
theorem takeWhile_len {α : Type} (p : α → Bool) (l : List α) : (l.takeWhile p).length ≤ l.length := by
 induction l with
 | nil => simp
 | cons x r ih => simp only [List.takeWhile_cons]; split <;> simp; exact ih
theorem signLen_le (s : List UInt8) : signLen s ≤ s.length := by
 unfold signLen
 split
 · rename_i h
   rw [List.isPrefixOf_iff_prefix] at h
   exact h.length_le
 · split
   · rename_i h
     rcases s with _ | ⟨a, _ | ⟨b, r⟩⟩
     · exact absurd h (by decide)
     · exfalso
       simp [pairs] at h
     · simp
   · split
     · rename_i h
       cases s with
       | nil => simp at h
       | cons a r => simp
     · omega
theorem firstTok_le (s : List UInt8) : (firstTok s).2 ≤ s.length := by
 cases s with
 | nil => simp [firstTok]
 | cons c r =>
  simp only [firstTok, span]
  split
  · exact takeWhile_len _ _
  · split
    · exact takeWhile_len _ _
    · split
      · exact takeWhile_len _ _
      · split
        · exact takeWhile_len _ _
        · exact signLen_le _
theorem take_takeWhile {α : Type} (p : α → Bool) (l : List α) : l.take (l.takeWhile p).length = l.takeWhile p := by
 induction l with
 | nil => simp
 | cons x r ih => simp only [List.takeWhile_cons]; split <;> simp [ih]
theorem mem_takeWhile {α : Type} (p : α → Bool) (l : List α) : ∀ x ∈ l.takeWhile p, p x = true := by
 induction l with
 | nil => simp
 | cons y r ih =>
  simp only [List.takeWhile_cons]
  split
  · rename_i h
    intro x hx
    rcases List.mem_cons.1 hx with rfl | hx
    · exact h
    · exact ih x hx
  · simp
theorem letter_digit (c : UInt8) (h : letter c = true) : digit c = false := by
 simp only [letter, digit, Bool.and_eq_true, decide_eq_true_eq, Bool.and_eq_false_iff, decide_eq_false_iff_not] at h ⊢
 omega
theorem firstTok_num (s : List UInt8) (h : (firstTok s).1 = 2) : s.take (firstTok s).2 ≠ [] ∧ ∀ x ∈ s.take (firstTok s).2, digit x = true := by
 cases s with
 | nil => simp [firstTok] at h
 | cons c r =>
  simp only [firstTok] at h ⊢
  by_cases h1 : letter c = true
  · simp [h1] at h
  · by_cases h2 : digit c = true
    · simp only [h1, h2, if_true, Bool.false_eq_true, if_false, span]
      rw [take_takeWhile]; refine ⟨by simp [List.takeWhile_cons, h2], mem_takeWhile _ _⟩
    · exfalso
      simp only [h1, h2, Bool.false_eq_true, if_false] at h
      by_cases h3 : blank c = true
      · simp [h3] at h
      · by_cases h4 : c = 35
        · subst h4; simp [h3] at h
        · simp [h3, h4] at h
theorem firstTok_kind (s : List UInt8) (hs : s ≠ []) (h0 : (firstTok s).2 ≠ 0) : (firstTok s).1 = 2 ↔ startsDigit (s.take (firstTok s).2) = true := by
 cases s with
 | nil => exact absurd rfl hs
 | cons c r =>
  obtain ⟨m, hm⟩ : ∃ m, (firstTok (c :: r)).2 = m + 1 := ⟨(firstTok (c :: r)).2 - 1, by omega⟩; rw [hm]; simp only [List.take_succ_cons, startsDigit, firstTok]
  by_cases h1 : letter c = true
  · simp [h1, letter_digit c h1]
  · by_cases h2 : digit c = true
    · simp [h1, h2]
    · simp only [h1, h2, Bool.false_eq_true, if_false, iff_false]
      by_cases h3 : blank c = true
      · simp [h3]
      · by_cases h4 : c = 35
        · subst h4; simp [h3]
        · simp [h3, h4]
structure TokOk (n : Nat) (t : Tok) : Prop where
 len : t.text.length ≤ n
 num : t.kind = 2 → t.text ≠ [] ∧ ∀ x ∈ t.text, digit x = true
 dig : t.kind = 2 ↔ startsDigit t.text = true
 pos : 0 ≤ t.pos ∧ t.pos ≤ n
theorem lexGo_ok (s : List UInt8) : ∀ (k p : Nat) (acc : List Tok), (∀ t ∈ acc, TokOk s.length t) → ∀ t ∈ (lexGo k s p acc).1, TokOk s.length t
 | 0, p, acc, h => by rw [lexGo]; exact h
 | k + 1, p, acc, h => by
  rw [lexGo]
  split
  · rename_i hp
    split
    · simp
    · rename_i h0
      refine lexGo_ok s k _ _ ?_; intro t ht
      rcases List.mem_append.1 ht with ht | ht
      · exact h t ht
      · simp only [List.mem_singleton] at ht
        subst ht
        have hne : s.drop p ≠ [] := by
         intro e; have := congrArg List.length e
         simp at this; omega
        refine ⟨?_, ?_, ?_, ?_⟩
        · simp only [List.length_take, List.length_drop]; omega
        · intro hk
          have hk' : (firstTok (s.drop p)).1 = 2 := by simp only at hk; omega
          exact firstTok_num _ hk'
        · have := firstTok_kind (s.drop p) hne h0
          simp only; rw [← this]
          omega
        · simp only; omega
  · exact h
theorem lexT_ok (s : List UInt8) : ∀ t ∈ (lexT s).1, TokOk s.length t := by
 unfold lexT
 split
 · simp
 · have := lexGo_ok s (s.length + 1) 0 [] (by simp)
   split
   · rename_i l h; rw [h] at this; exact this
   · simp
theorem solid_ok (s : List UInt8) : ∀ t ∈ (startP s).1, TokOk s.length t := fun t ht => lexT_ok s t (List.mem_filter.1 ht).1
theorem digitKinds_start (s : List UInt8) : DigitKinds (startP s).1 := fun t ht => (solid_ok s t ht).dig
theorem lexGo_len (s : List UInt8) : ∀ (k p : Nat) (acc : List Tok), acc.length ≤ p → p ≤ s.length → (lexGo k s p acc).1.length ≤ s.length
 | 0, p, acc, h, hp => by rw [lexGo]; simp; omega
 | k + 1, p, acc, h, hp => by
  rw [lexGo]
  split
  · split
    · simp
    · rename_i h0
      have := firstTok_le (s.drop p); rw [List.length_drop] at this
      exact lexGo_len s k _ _ (by simp; omega) (by omega)
  · simp only; omega
theorem lexT_len (s : List UInt8) : (lexT s).1.length ≤ s.length := by
 unfold lexT
 split
 · simp
 · have := lexGo_len s (s.length + 1) 0 [] (by simp) (by omega)
   split
   · rename_i l h; rw [h] at this; exact this
   · simp
theorem start_len (s : List UInt8) : (startP s).1.length ≤ s.length := Nat.le_trans (List.length_filter_le _ _) (lexT_len s)
end Bk
namespace Bk
open Go Go.RowKit Go.Proofs
attribute [local irreducible] Go.Calls
def Toks (S : Nat → Prop) (w : World) (l : List Tok) (a : Option Addr) : Prop := Arr S 3 TokAt w l a
theorem Toks.ext {S : Nat → Prop} {w w' : World} {l : List Tok} {a : Option Addr} (h : Toks S w l a) (x : Ext w w') : Toks S w' l a := h.mono (fun _ h => h) (fun _ _ _ _ _ h => Row.ext h x)
theorem Toks.fr {S T : Nat → Prop} {w w' : World} {l : List Tok} {a : Option Addr} (h : Toks S w l a) (x : Fr T w w') (hs : ∀ b, S b → ¬ T b) : Toks S w' l a := h.mono (fun _ h => h) (fun b _ _ _ hb h => Row.fr h x (hs b hb))
theorem Toks.wide {S S' : Nat → Prop} {w : World} {l : List Tok} {a : Option Addr} (h : Toks S w l a) (hs : ∀ b, S b → S' b) : Toks S' w l a := h.mono hs (fun _ _ _ _ _ h => h)
theorem Toks.lt2 {S : Nat → Prop} {w : World} {l : List Tok} {a : Option Addr} (h : Toks S w l a) : Toks (fun b => S b ∧ b < w.heap.size) w l a := by
 rcases h with h | ⟨b, o, h1, h2, h3⟩
 · exact Or.inl h
 · cases l with
   | nil => exact Or.inl rfl
   | cons v r => exact Or.inr ⟨b, o, h1, ⟨h2, cell_lt (Row.at0 (h3 0 v rfl) rfl)⟩, h3⟩
def tokShape : Shape Tok where
 sz := 3
 rep := fun _ _ v cs => cs = v.cells
 len := fun h => by rw [h]; rfl
 one := fun h => by rw [h]; rfl
 mono := fun h _ _ => h
 lt := fun h => h
theorem OwnL.toks {w : World} {B e : Nat} {a : Option Addr} {len cap : Nat} {xs : List Tok} {S : Nat → Prop} (h : OwnL tokShape w B e (.slice a len cap) xs) (hS : ∀ b, B ≤ b → S b) : Toks S w xs a := by
 by_cases hx : xs = []
 · exact Or.inl hx
 · obtain ⟨g, cap', hv, hg, hall⟩ := h.rows hx
   simp only [Value.slice.injEq] at hv; obtain ⟨rfl, -, -⟩ := hv; refine Or.inr ⟨g, 0, rfl, hS g hg, fun i x hi => ?_⟩; obtain ⟨cs, hr, rfl⟩ := hall i x hi
   simpa [tokShape, TokAt] using hr
theorem first_s (t : List UInt8) (w : World) (ht : t ≠ []) (hl : t.length ≤ 9223372036854775807) : Calls Tryz.prog 74 #[str t] w fun e w' => e = .returned (.tuple #[.int .u8 (firstTok t).1, .int .i64 (firstTok t).2]) ∧ w = w' := by
 cases t with
 | nil => exact absurd rfl ht
 | cons c r => exact first_c c r w hl
def LexR (w : World) (r : List Tok × Int × Int) : Ending → World → Prop := fun e w' => ∃ a k, e = .returned (.tuple #[.slice a r.1.length k, .int .i64 r.2.1, .int .i64 r.2.2]) ∧ Toks (fun b => w.heap.size ≤ b ∧ b < w'.heap.size) w' r.1 a ∧ Ext w w'
theorem LexR.ret {w : World} {r : List Tok × Int × Int} {e : Ending} {w' : World} (h : LexR w r e w') : ∃ v, e = .returned v := by
 obtain ⟨_, _, h, -⟩ := h
 exact ⟨_, h⟩
set_option maxRecDepth 100000 in
set_option maxHeartbeats 2000000 in
theorem Lex_c (s : List UInt8) (w : World) (hs : s.length ≤ 1000000) : Calls Tryz.prog 56 #[str s] w (LexR w (lexT s)) := by
 have X := Ext.refl w
 by_cases h0 : 65536 < s.length
 · rw [show lexT s = ([], 0, 5) from by simp [lexT, h0]]
   refine calls_in Tryz.func56 Tryz.ntmps56 rfl rfl ?_
   focus
    refine cS (cA rfl rfl (cA rfl rfl (cA rfl rfl (cT (cw_seq (cS (cM rfl rfl (lw_pure (pur_len_s tabOk rfl rfl) rfl (lw_pure (pur_gtr rfl rfl) rfl (cT ?_)))))))))); refine cw_yes rfl (by omega) ?_; refine cS (cA rfl rfl (cA rfl rfl (cA rfl rfl (cT (cw_ret (qw_then_ret (qw_ret3 rfl rfl rfl rfl ?_))))))); rotate_left 1
   exact ⟨_, _, rfl, Or.inl rfl, X⟩
 have hun : ∀ r, lexGo (s.length + 1) s 0 [] = r → lexT s = match r with | (l, none) => (l, 0, 0) | (_, some p) => ([], (p : Int), 3) := fun r hr => by
  obtain ⟨l, o⟩ := r
  cases o <;> simp [lexT, h0, hr]
 have HU := Lib.hid hun; clear hun
 refine calls_in Tryz.func56 Tryz.ntmps56 rfl rfl ?_
 focus
  refine cS (cA rfl rfl (cA rfl rfl (cA rfl rfl (cT (cw_seq (cS (cM rfl rfl (lw_pure (pur_len_s tabOk rfl rfl) rfl (lw_pure (pur_gtr rfl rfl) rfl (cT ?_)))))))))); refine cw_no rfl (by omega) ?_; refine cw_skip (qw_then (cS (cA rfl rfl (cT (cw_seq (cS (cA rfl rfl (cT (cw_block ?_))))))))); rotate_left 1
 refine cw_loop (ι := Nat × Nat × List Tok × Option Addr × Nat) (fun x => [(0, str s), (5, .slice x.2.2.2.1 x.2.2.1.length x.2.2.2.2), (6, .int .i64 x.2.1)])
  (fun x w' => OwnL tokShape w' w.heap.size 96 (.slice x.2.2.2.1 x.2.2.1.length x.2.2.2.2) x.2.2.1 ∧ Ext w w' ∧ x.2.1 ≤ s.length ∧ x.2.2.1.length ≤ x.2.1 ∧ s.length + 1 ≤ x.1 + x.2.1 ∧
   lexGo (s.length + 1) s 0 [] = lexGo x.1 s x.2.1 x.2.2.1) (fun x => x.1) (s.length + 1, 0, [], none, 0) (by (refine sub_cons rfl ?_; refine sub_cons rfl ?_; refine sub_cons rfl ?_; exact sub_nil)) ⟨OwnL.nil, X, Nat.zero_le _, Nat.le_refl _, Nat.le_refl _, rfl⟩ ?_
 rintro ⟨j, p, acc, a, cap⟩ w1 ⟨hown, X, hp, hacc, hj, he⟩; simp only at hown hp hacc hj he; refine CW.sub (m := [(0, str s), (5, .slice a acc.length cap), (6, .int .i64 p)]) ?_ (by (refine sub_cons rfl ?_; refine sub_cons rfl ?_; refine sub_cons rfl ?_; exact sub_nil)); obtain ⟨j, rfl⟩ : ∃ i, j = i + 1 := ⟨j - 1, by omega⟩
 by_cases hlt : p < s.length
 · have hne : s.drop p ≠ [] := by
    intro e; have := congrArg List.length e
    simp at this; omega
   have hdl : (s.drop p).length = s.length - p := List.length_drop; have hfl := firstTok_le (s.drop p); rw [hdl] at hfl
   by_cases hz : (firstTok (s.drop p)).2 = 0
   · rw [HU.out ([], some p) (by rw [he, lexGo]; simp [hlt, hz])]
     focus
      refine cw_seq (cS (cM rfl rfl (cM rfl rfl (lw_pure (pur_len_s tabOk rfl rfl) rfl (lw_pure (pur_lss rfl rfl) rfl (cT ?_)))))); refine cw_yes rfl (by omega) ?_; refine cw_skip (qw_then (cw_block (cS (cM rfl rfl (cM rfl rfl ?_))))); refine lw_pure (pur_sfromN tabOk rfl rfl rfl (by omega)) rfl ?_; refine cC (by kernel_rfl) rfl (first_s _ _ hne (by omega)) rfl ?_; rintro _ wb1 ⟨⟨⟩, rfl⟩; refine cM rfl rfl (lw_pure (pur_extract rfl rfl) rfl (lw_pure (pur_extract rfl rfl) rfl (cA rfl rfl (cA rfl rfl (cT (cw_seq (cS (cM rfl rfl (lw_pure (pur_eql rfl rfl) rfl (cT ?_)))))))))); refine cw_yes rfl (by omega) ?_; refine cS (cM rfl rfl (cA rfl rfl (cA rfl rfl (cA rfl rfl (cT (cw_ret (qw_then_ret (qw_block_ret (qw_then_ret (qw_block_ret (qw_then_ret ?_))))))))))); refine qw_ret3 rfl rfl rfl rfl ?_; rotate_left 1
     exact ⟨_, _, rfl, Or.inl rfl, X⟩
   · have he2 : lexGo (s.length + 1) s 0 [] = lexGo j s (p + (firstTok (s.drop p)).2) (acc ++ [⟨((firstTok (s.drop p)).1 : Nat), (s.drop p).take (firstTok (s.drop p)).2, (p : Int)⟩]) := by rw [he, lexGo]; simp [hlt, hz]
     focus
      refine cw_seq (cS (cM rfl rfl (cM rfl rfl (lw_pure (pur_len_s tabOk rfl rfl) rfl (lw_pure (pur_lss rfl rfl) rfl (cT ?_)))))); refine cw_yes rfl (by omega) ?_; refine cw_skip (qw_then (cw_block (cS (cM rfl rfl (cM rfl rfl ?_))))); refine lw_pure (pur_sfromN tabOk rfl rfl rfl (by omega)) rfl ?_; refine cC (by kernel_rfl) rfl (first_s _ _ hne (by omega)) rfl ?_; rintro _ wc1 ⟨⟨⟩, rfl⟩; refine cM rfl rfl (lw_pure (pur_extract rfl rfl) rfl (lw_pure (pur_extract rfl rfl) rfl (cA rfl rfl (cA rfl rfl (cT (cw_seq (cS (cM rfl rfl (lw_pure (pur_eql rfl rfl) rfl (cT ?_)))))))))); refine cw_no rfl (by omega) ?_; refine cw_skip (qw_then (cS (cM rfl rfl (cM rfl rfl (cM rfl rfl (cM rfl rfl (cM rfl rfl (cM rfl rfl ?_)))))))); refine lw_pure (pur_add rfl rfl (IntWalk.i64_in _ (by omega))) rfl ?_; refine lw_pure (pur_spartN tabOk rfl rfl rfl rfl (by omega)) rfl ?_; refine cM rfl rfl (lw_pure (pur_build' [_, _, _] tabOk zOk rfl rfl rfl rfl) rfl ?_); (refine lw_does (does_slice' [_, _, _] tabOk zOk rfl rfl rfl rfl rfl rfl rfl rfl rfl) rfl ?_ (fun _ h => h); rintro _ wc3 ⟨bc2, rfl, nc4, tc5⟩); clear tc5; have hc6 := nc4.blk; have xc7 := nc4.ext; have pc8 := nc4.pos; have zc9 := nc4.size; clear nc4; replace hown := hown.ext xc7; replace X := X.ext xc7; clear xc7; refine lw_appendL (sh := tokShape) (z := ⟨((firstTok (s.drop p)).1 : Nat), (s.drop p).take (firstTok (s.drop p)).2, (p : Int)⟩) tabOk zOk rfl rfl rfl rfl (by kernel_rfl) rfl rfl rfl hown (Blk.row (by assumption)) rfl (by omega) (by have := Ext.size X; omega) rfl ?_
      rintro gc10 cap'c11 wc12 hc13 fc14; have zc15 := fc14.size; clear hc6 hown; replace X := X.fr fc14 (by omega); clear fc14; refine cA rfl rfl (cT (cw_region (cM rfl rfl (cM rfl rfl ?_)))); refine lw_pure (pur_add rfl rfl (IntWalk.i64_in _ (by omega))) rfl ?_; refine cA rfl rfl (lw_nil (qw_block_norm ?_)); rotate_left 1
     refine qw_round (j, p + (firstTok (s.drop p)).2, acc ++ [⟨((firstTok (s.drop p)).1 : Nat), (s.drop p).take (firstTok (s.drop p)).2, (p : Int)⟩], some ⟨_, 0, none⟩, _) (by (refine sub_cons rfl ?_; refine sub_cons rfl ?_; refine sub_cons rfl ?_; exact sub_nil)) ⟨by assumption, X, by simp only; omega, by simp only [List.length_append, List.length_cons, List.length_nil]; omega, by simp only; omega, he2⟩ (by simp)
 · rw [HU.out (acc, none) (by rw [he, lexGo]; simp [hlt])]
   focus
    refine cw_seq (cS (cM rfl rfl (cM rfl rfl (lw_pure (pur_len_s tabOk rfl rfl) rfl (lw_pure (pur_lss rfl rfl) rfl (cT ?_)))))); refine cw_no rfl (by omega) ?_; refine cw_exit (qw_then_exit (qw_then_exit (qw_block_exit (qw_then (cS (cM rfl rfl (cA rfl rfl (cA rfl rfl (cA rfl rfl (cT (cw_ret ?_))))))))))); refine qw_ret3 rfl rfl rfl rfl ?_; rotate_left 1
   exact ⟨_, _, rfl, Toks.lt2 (S := (w.heap.size ≤ ·)) (OwnL.toks hown (fun b h => h)), X⟩
theorem solid_snoc (l : List Tok) (t : Tok) : solidT (l ++ [t]) = solidT l ++ (if t.kind ≠ 4 ∧ t.kind ≠ 5 then [t] else []) := by
 unfold solidT
 rw [List.filter_append]
 congr 1
 by_cases h4 : t.kind = 4 <;> by_cases h5 : t.kind = 5 <;> simp [h4, h5]
def SolidR (w : World) (r : List Tok) : Ending → World → Prop := fun e w' => ∃ a k, e = .returned (.slice a r.length k) ∧ Toks (fun b => w.heap.size ≤ b ∧ b < w'.heap.size) w' r a ∧ Ext w w'
theorem SolidR.ret {w : World} {r : List Tok} {e : Ending} {w' : World} (h : SolidR w r e w') : ∃ v, e = .returned v := by
 obtain ⟨_, _, h, -⟩ := h
 exact ⟨_, h⟩
set_option maxRecDepth 100000 in
set_option maxHeartbeats 2000000 in
theorem Solid_c (ts : List Tok) (S : Nat → Prop) (b0 : Option Addr) (k0 : Nat) (w : World) (hl : ts.length ≤ 1000000) (hT : Toks S w ts b0) (hS : ∀ b, S b → b < w.heap.size) : Calls Tryz.prog 57 #[.slice b0 ts.length k0] w (SolidR w (solidT ts)) := by
 have X := Ext.refl w; refine calls_in Tryz.func57 Tryz.ntmps57 rfl rfl ?_
 focus
  refine cS (cA rfl rfl (cN (cA rfl rfl (cT (cw_seq (cS (cM rfl rfl (lw_pure (pur_len_slice tabOk rfl rfl) rfl (cM rfl rfl (cT (cw_block ?_))))))))))); rotate_left 1
 refine cw_loop (ι := Nat × Option Addr × Nat) (fun x => [(3, .slice x.2.1 (solidT (ts.take x.1)).length x.2.2), (6, .slice b0 ts.length k0), (7, .int .i64 ts.length), (8, .int .i64 x.1)])
  (fun x w' => OwnL tokShape w' w.heap.size 96 (.slice x.2.1 (solidT (ts.take x.1)).length x.2.2) (solidT (ts.take x.1)) ∧ Ext w w' ∧ x.1 ≤ ts.length ∧ Toks S w' ts b0) (fun x => ts.length - x.1) (0, none, 0) (by (refine sub_cons rfl ?_; refine sub_cons rfl ?_; refine sub_cons rfl ?_; refine sub_cons rfl ?_; exact sub_nil)) ⟨OwnL.nil, X, Nat.zero_le _, hT⟩ ?_
 rintro ⟨j, a, cap⟩ w1 ⟨hown, X, hj, hT⟩; simp only at hown hj hT; have hsz := X.size; refine CW.sub (m := [(3, .slice a (solidT (ts.take j)).length cap), (6, .slice b0 ts.length k0), (7, .int .i64 ts.length), (8, .int .i64 j)]) ?_ (by (refine sub_cons rfl ?_; refine sub_cons rfl ?_; refine sub_cons rfl ?_; refine sub_cons rfl ?_; exact sub_nil))
 by_cases hlt : j < ts.length
 · have htk : ts.take (j + 1) = ts.take j ++ [ts[j]] := by rw [List.take_add_one, List.getElem?_eq_getElem hlt]; rfl
   have hsn : solidT (ts.take (j + 1)) = solidT (ts.take j) ++ (if ts[j].kind ≠ 4 ∧ ts[j].kind ≠ 5 then [ts[j]] else []) := by rw [htk, solid_snoc]
   have hbd : (solidT (ts.take j)).length ≤ 1000000 := Nat.le_trans (List.length_filter_le _ _) (by rw [List.length_take]; omega); obtain ⟨tb, tof, rfl, hkS, hrow⟩ := hT.get (by omega); have hr : Row w1 ⟨tb, tof + j * 3, none⟩ ts[j].cells := hrow j _ (List.getElem?_eq_getElem hlt); have htb := hS tb hkS; clear hrow htk
   generalize ts[j] = t at *
   by_cases h4 : t.kind = 4
   · rw [show (if t.kind ≠ 4 ∧ t.kind ≠ 5 then [t] else []) = [] from by simp [h4], List.append_nil] at hsn
     focus
      refine cS (lw_pure (pur_lss rfl rfl) rfl (cT (cw_seq ?_))); refine cw_yes rfl (by omega) ?_; refine cw_skip (qw_then (cw_seq (cw_block (cS ?_)))); refine lw_pure (pur_indexAddr tabOk rfl rfl rfl rfl (by omega) (by omega)) rfl ?_; refine lw_loads_r0 tabOk rfl rfl rfl hr rfl rfl ?_; (refine lw_alloc' [_, _, _] zOk rfl rfl ?_; intro ba1 wa2 na3); (refine lw_init' [_, _, _] tabOk rfl rfl rfl rfl rfl rfl na3 rfl ?_; clear na3; clear wa2; intro wa4 na3); have ha5 := na3.blk; have xa6 := na3.ext; have pa7 := na3.pos; have za8 := na3.size; clear na3; replace hown := hown.ext xa6; replace X := X.ext xa6; replace hT := hT.ext xa6; replace hr := hr.ext xa6; clear xa6; refine cN (lw_pure (pur_fieldAddr0 tabOk rfl rfl rfl) rfl (lw_load_b tabOk rfl rfl rfl ha5 rfl rfl (lw_pure (pur_neq rfl rfl) rfl (cM rfl rfl ?_)))); refine lw_off rfl rfl rfl (gd_tf (by omega)) rfl ?_; refine lw_off rfl rfl rfl (gd_tf (by omega)) rfl ?_; refine lw_off rfl rfl rfl (gd_tf (by omega)) rfl ?_; refine lw_pure (pur_pick_no rfl rfl (by omega)) rfl ?_; refine cT (cw_cond_f rfl (cw_skip (qw_block_norm (qw_then (cw_region ?_))))); refine lw_pure (pur_add rfl rfl (IntWalk.i64_in _ (by omega))) rfl ?_; refine cM rfl rfl (lw_nil ?_); rotate_left 1
     refine qw_round (j + 1, a, cap) ?_ ⟨by rw [hsn]; exact hown, X, by simp only; omega, hT⟩ (by simp only; omega); refine sub_cons' rfl (by rw [hsn]) (sub_cons rfl (sub_cons rfl (sub_cons rfl sub_nil)))
   by_cases h5 : t.kind = 5
   · rw [show (if t.kind ≠ 4 ∧ t.kind ≠ 5 then [t] else []) = [] from by simp [h5], List.append_nil] at hsn
     focus
      refine cS (lw_pure (pur_lss rfl rfl) rfl (cT (cw_seq ?_))); refine cw_yes rfl (by omega) ?_; refine cw_skip (qw_then (cw_seq (cw_block (cS ?_)))); refine lw_pure (pur_indexAddr tabOk rfl rfl rfl rfl (by omega) (by omega)) rfl ?_; refine lw_loads_r0 tabOk rfl rfl rfl hr rfl rfl ?_; (refine lw_alloc' [_, _, _] zOk rfl rfl ?_; intro bb1 wb2 nb3); (refine lw_init' [_, _, _] tabOk rfl rfl rfl rfl rfl rfl nb3 rfl ?_; clear nb3; clear wb2; intro wb4 nb3); have hb5 := nb3.blk; have xb6 := nb3.ext; have pb7 := nb3.pos; have zb8 := nb3.size; clear nb3; replace hown := hown.ext xb6; replace X := X.ext xb6; replace hT := hT.ext xb6; replace hr := hr.ext xb6; clear xb6; refine cN (lw_pure (pur_fieldAddr0 tabOk rfl rfl rfl) rfl (lw_load_b tabOk rfl rfl rfl hb5 rfl rfl (lw_pure (pur_neq rfl rfl) rfl (cM rfl rfl ?_)))); refine lw_on rfl rfl rfl (gd_tt (by assumption)) ?_; refine lw_pure (pur_fieldAddr0 tabOk rfl rfl rfl) rfl ?_; refine lw_on rfl rfl rfl (gd_tt (by assumption)) ?_; refine lw_load_b tabOk rfl rfl rfl hb5 rfl rfl ?_; refine lw_on rfl rfl rfl (gd_tt (by assumption)) ?_; refine lw_pure (pur_neq rfl rfl) rfl ?_; refine lw_pure (pur_pick_yes rfl rfl (by assumption)) rfl ?_; refine cT ?_; refine cw_no rfl (by omega) ?_; refine cw_skip (qw_block_norm (qw_then (cw_region ?_))); refine lw_pure (pur_add rfl rfl (IntWalk.i64_in _ (by omega))) rfl ?_; refine cM rfl rfl (lw_nil ?_); rotate_left 1
     refine qw_round (j + 1, a, cap) ?_ ⟨by rw [hsn]; exact hown, X, by simp only; omega, hT⟩ (by simp only; omega); refine sub_cons' rfl (by rw [hsn]) (sub_cons rfl (sub_cons rfl (sub_cons rfl sub_nil)))
   · rw [show (if t.kind ≠ 4 ∧ t.kind ≠ 5 then [t] else []) = [t] from by simp [h4, h5]] at hsn
     focus
      refine cS (lw_pure (pur_lss rfl rfl) rfl (cT (cw_seq ?_))); refine cw_yes rfl (by omega) ?_; refine cw_skip (qw_then (cw_seq (cw_block (cS ?_)))); refine lw_pure (pur_indexAddr tabOk rfl rfl rfl rfl (by omega) (by omega)) rfl ?_; refine lw_loads_r0 tabOk rfl rfl rfl hr rfl rfl ?_; (refine lw_alloc' [_, _, _] zOk rfl rfl ?_; intro bc1 wc2 nc3); (refine lw_init' [_, _, _] tabOk rfl rfl rfl rfl rfl rfl nc3 rfl ?_; clear nc3; clear wc2; intro wc4 nc3); have hc5 := nc3.blk; have xc6 := nc3.ext; have pc7 := nc3.pos; have zc8 := nc3.size; clear nc3; replace hown := hown.ext xc6; replace X := X.ext xc6; replace hT := hT.ext xc6; replace hr := hr.ext xc6; clear xc6; refine cN (lw_pure (pur_fieldAddr0 tabOk rfl rfl rfl) rfl (lw_load_b tabOk rfl rfl rfl hc5 rfl rfl (lw_pure (pur_neq rfl rfl) rfl (cM rfl rfl ?_)))); refine lw_on rfl rfl rfl (gd_tt (by assumption)) ?_; refine lw_pure (pur_fieldAddr0 tabOk rfl rfl rfl) rfl ?_; refine lw_on rfl rfl rfl (gd_tt (by assumption)) ?_; refine lw_load_b tabOk rfl rfl rfl hc5 rfl rfl ?_; refine lw_on rfl rfl rfl (gd_tt (by assumption)) ?_; refine lw_pure (pur_neq rfl rfl) rfl ?_; refine lw_pure (pur_pick_yes rfl rfl (by assumption)) rfl ?_; refine cT ?_; refine cw_yes rfl (by assumption) ?_; refine cw_region (cM rfl rfl (lw_loads_b' [_, _, _] tabOk rfl rfl rfl hc5 rfl rfl rfl ?_)); (refine lw_does (does_slice' [_, _, _] tabOk zOk rfl rfl rfl rfl rfl rfl rfl rfl rfl) rfl ?_ (fun _ h => h); rintro _ wc10 ⟨bc9, rfl, nc11, tc12⟩); clear tc12; have hc13 := nc11.blk
      have xc14 := nc11.ext; have pc15 := nc11.pos; have zc16 := nc11.size; clear nc11; replace hc5 := hc5.ext xc14; replace hown := hown.ext xc14; replace X := X.ext xc14; replace hT := hT.ext xc14; replace hr := hr.ext xc14; clear xc14; refine lw_appendL (sh := tokShape) (z := t) tabOk zOk rfl rfl rfl rfl (by kernel_rfl) rfl rfl rfl hown (Blk.row (by assumption)) rfl (by omega) (by omega) rfl ?_; rintro gc17 cap'c18 wc19 hc20 fc21; have zc22 := fc21.size; clear hc13 hc5 hown; replace X := X.fr fc21 (by omega); replace hT := Toks.fr hT fc21 (fun k hk e => by have := hS k hk; omega); replace hr := Row.fr hr fc21 (by simp only; omega); clear fc21; refine cA rfl rfl (lw_nil (qw_block_norm (qw_then (cw_region ?_)))); refine lw_pure (pur_add rfl rfl (IntWalk.i64_in _ (by omega))) rfl ?_; refine cM rfl rfl (lw_nil ?_); rotate_left 1
     refine qw_round (j + 1, some ⟨_, 0, none⟩, _) ?_ ⟨by rw [hsn]; assumption, X, by simp only; omega, hT⟩ (by simp only; omega); refine sub_cons' rfl (by rw [hsn]) (sub_cons rfl (sub_cons rfl (sub_cons rfl sub_nil)))
 · have : j = ts.length := by omega
   subst this; rw [List.take_length] at hown
   focus
    refine cS (lw_pure (pur_lss rfl rfl) rfl (cT (cw_seq ?_))); refine cw_no rfl (by omega) ?_; refine cw_exit (qw_then_exit (qw_then_exit (qw_block_exit (qw_then (cS (cM rfl rfl (cA rfl rfl (cT (cw_ret (qw_ret1 rfl rfl ?_)))))))))); rotate_left 1
   rw [List.take_length]
   exact ⟨_, _, rfl, Toks.lt2 (S := (w.heap.size ≤ ·)) (OwnL.toks hown (fun b h => h)), X⟩
end Bk
namespace Bk
open Go Go.RowKit Go.Proofs
attribute [local irreducible] Go.Calls
section
variable {P : Program} {n : Nat} {ops : Array Oper} {Q : Exit → Act → World → Prop} {rest : List Oper} {l : Sl} {w : World} {tab : Tab} {ty : TypeId} {pos : String} {after : Array Edge}
theorem lw_mapput {x y z : Operand} {t kt e sz1 sz2 r : Nat} {k : List UInt8} {v : Value} {kvs : List (List UInt8 × Value)} (T : TabOk P tab) (ht : lookT tab t = some (.map kt e, sz1)) (hkt : lookT tab kt = some (.str, sz2)) (hx : ev l x = some (.map (some r))) (hy : ev l y = some (str k)) (hz : ev l z = some v) (hm : MapIs w r kvs)
 (kk : ∀ w1, MapIs w1 r (setS kvs k v) → Fr (· = r) w w1 → LW P n ops Q rest l w1) : LW P n ops Q (⟨none, .mapUpdate t x y z, ty, pos, after, none⟩ :: rest) l w := by
 refine lw_does0 (K := MapPut w r (setS kvs k v)) ?_ (fun v w1 h => by cases v with | none => exact kk w1 h.1 h.2.1 | some _ => exact h.elim)
 unfold Does
 intro a dst pos after g next Q ha _ hn; obtain ⟨w1, h1, h2, h3, h4⟩ := run_mapUpdate (P := P) (k := k) (v := v) T ht hkt hm
 have e1 : (execOp a.eval ⟨dst, .mapUpdate t x y z, ty, pos, after, g⟩).run P w = .ok .skip w1 := by
  simp only [execOp, ha.ev hx, ha.ev hy, ha.ev hz, Sem.run_bind, h1, Result.andThen, Sem.run_pure]
 unfold Oper.wp
 rw [e1]
 exact hn w1 ⟨h2, h3, h4⟩
theorem lw_makeMap {t d : Nat} (hd : Nat.blt d n = true) (k : ∀ r w1, r = w.heap.size → MapIs w1 r [] → Ext w w1 → w1.heap.size = r + 1 → LW P n ops Q rest ((d, .map (some r)) :: l) w1) : LW P n ops Q (⟨some d, .makeMap t none, ty, pos, after, none⟩ :: rest) l w :=
 lw_does does_makeMap hd (fun v w1 ⟨r, h1, h2, h3, h4, h5⟩ => by subst h1; exact k r w1 h2 h3 h4 h5) (fun _ h => h)
end
def u8Shape : Shape Int where
 sz := 1
 rep := fun _ _ v cs => cs = [.int .u8 v]
 len := fun h => by rw [h]; rfl
 one := fun h => by rw [h]; rfl
 mono := fun h _ _ => h
 lt := fun h => h
def ops8 (j : Nat) : List Int := (List.range j).map fun (i : Nat) => (8 : Int) + (i : Int)
theorem ops8_snoc (j : Nat) : ops8 (j + 1) = ops8 j ++ [8 + (j : Int)] := by simp [ops8, List.range_succ]
theorem ops8_len (j : Nat) : (ops8 j).length = j := by simp [ops8]
def OpsR (w : World) : Ending → World → Prop := fun e w' => ∃ b k, e = .returned (.slice (some ⟨b, 0, none⟩) 16 k) ∧ w.heap.size ≤ b ∧ b < w'.heap.size ∧ Row w' ⟨b, 0, none⟩ ((ops8 16).map (.int .u8 ·)) ∧ Ext w w'
theorem OpsR.ret {w : World} {e : Ending} {w' : World} (h : OpsR w e w') : ∃ v, e = .returned v := by
 obtain ⟨_, _, h, -⟩ := h
 exact ⟨_, h⟩
set_option maxRecDepth 100000 in
set_option maxHeartbeats 2000000 in
theorem Operators_c (w : World) : Calls Tryz.prog 58 #[] w (OpsR w) := by
 have X := Ext.refl w; refine calls_in (args := []) Tryz.func58 Tryz.ntmps58 rfl rfl ?_
 focus
  refine cS (cA rfl rfl (cN (cA rfl rfl (cT (cw_seq (cS (cA rfl rfl (cT (cw_block ?_))))))))); rotate_left 1
 refine cw_loop (ι := Nat × Option Addr × Nat) (fun x => [(1, .slice x.2.1 (ops8 x.1).length x.2.2), (2, .int .u8 (8 + (x.1 : Int)))])
  (fun x w' => OwnL u8Shape w' w.heap.size 5 (.slice x.2.1 (ops8 x.1).length x.2.2) (ops8 x.1) ∧ Ext w w' ∧ x.1 ≤ 16) (fun x => 16 - x.1) (0, none, 0) (by (refine sub_cons rfl ?_; refine sub_cons rfl ?_; exact sub_nil)) ⟨OwnL.nil, X, Nat.zero_le _⟩ ?_
 rintro ⟨j, a, cap⟩ w1 ⟨hown, X, hj⟩; simp only at hown hj; have hsz := X.size; have hl := ops8_len j; refine CW.sub (m := [(1, .slice a (ops8 j).length cap), (2, .int .u8 (8 + (j : Int)))]) ?_ (by (refine sub_cons rfl ?_; refine sub_cons rfl ?_; exact sub_nil))
 by_cases hlt : j < 16
 · have hsn := ops8_snoc j
   focus
    refine cw_seq (cS (cM rfl rfl (lw_pure (pur_leq rfl rfl) rfl (cT ?_)))); refine cw_yes rfl (by omega) ?_; refine cw_skip (qw_then (cw_seq (cw_block (cw_region (cM rfl rfl (cM rfl rfl ?_)))))); (refine lw_does (does_slice' [_] tabOk zOk rfl rfl rfl rfl rfl rfl rfl rfl rfl) rfl ?_ (fun _ h => h); rintro _ wa2 ⟨ba1, rfl, na3, ta4⟩); clear ta4; have ha5 := na3.blk; have xa6 := na3.ext; have pa7 := na3.pos; have za8 := na3.size; clear na3; replace hown := hown.ext xa6; replace X := X.ext xa6; clear xa6; refine lw_appendL (sh := u8Shape) (z := 8 + (j : Int)) tabOk zOk rfl rfl rfl rfl (by kernel_rfl) rfl rfl rfl hown (Blk.row (by assumption)) rfl (by omega) (by omega) rfl ?_; rintro ga9 cap'a10 wa11 ha12 fa13; have za14 := fa13.size; clear ha5 hown; replace X := X.fr fa13 (by omega); clear fa13; refine cA rfl rfl (lw_nil (qw_block_norm (qw_then (cw_region (cM rfl rfl ?_))))); refine lw_pure (pur_add rfl rfl (u8_wrap _ (by omega) (by omega))) rfl ?_; refine cA rfl rfl (lw_nil ?_); rotate_left 1
   refine qw_round (j + 1, some ⟨_, 0, none⟩, _) ?_ ⟨by rw [hsn]; assumption, X, by simp only; omega⟩ (by simp only; omega); refine sub_cons' rfl (by rw [hsn]) (sub_cons' rfl ?_ sub_nil)
   simp only [Value.int.injEq, true_and]; omega
 · have : j = 16 := by omega
   subst this
   focus
    refine cw_seq (cS (cM rfl rfl (lw_pure (pur_leq rfl rfl) rfl (cT ?_)))); refine cw_no rfl (by decide) ?_; refine cw_exit (qw_then_exit (qw_then_exit (qw_block_exit (qw_then (cS (cM rfl rfl (cA rfl rfl (cT (cw_ret (qw_ret1 rfl rfl ?_)))))))))); rotate_left 1
   obtain ⟨g, cap', hv, hg, hall⟩ := hown.rows (by decide); simp only [Value.slice.injEq] at hv; obtain ⟨rfl, -, -⟩ := hv
   have hrow : Row w1 ⟨g, 0, none⟩ ((ops8 16).map (.int .u8 ·)) := fun i v hi => by
    rw [List.getElem?_map, Option.map_eq_some_iff] at hi; obtain ⟨x, hx, rfl⟩ := hi; obtain ⟨cs, hr, rfl⟩ := hall i x hx; have := hr.at0 rfl
    have e : (⟨g, 0, none⟩ : Addr).add i = ⟨g, i * u8Shape.sz, none⟩ := by
     have : u8Shape.sz = 1 := rfl
     unfold Addr.add; by_cases h0 : i = 0 <;> simp [h0, this]
    rw [e]; exact this
   exact ⟨g, cap, by rw [ops8_len], hg, hown.lt rfl, hrow, X⟩
def wholeT (t : Nd) (σ : PS) : Nd × Int × Int := if σ.err ≠ 0 then (zeroNd, σ.off, σ.err) else (t, 0, 0)
def WholeR (w : World) (pb : Nat) (S : Nat → Prop) (r : Nd × Int × Int) : Ending → World → Prop := fun e w' => ∃ a k, e = .returned (.tuple #[r.1.val a k, .int .i64 r.2.1, .int .i64 r.2.2]) ∧ r.1.sits S w' a ∧ Fr (· = pb) w w'
theorem WholeR.ret {w : World} {pb : Nat} {S : Nat → Prop} {r : Nd × Int × Int} {e : Ending} {w' : World} (h : WholeR w pb S r e w') : ∃ v, e = .returned v := by
 obtain ⟨_, _, h, -⟩ := h
 exact ⟨_, h⟩
set_option maxRecDepth 100000 in
set_option maxHeartbeats 1000000 in
theorem whole_c (c : PC) (σ : PS) (t : Nd) (S : Nat → Prop) (a : Option Addr) (k : Nat) (w : World) (hP : PP c σ w) (hz : t.size ≤ 1000000000) (hs : t.sits S w a) (hS : ∀ b, S b → b ≠ c.pb ∧ b < w.heap.size) :
 Calls Tryz.prog 34 #[.pointer (some ⟨c.pb, 0, none⟩), t.val a k] w (WholeR w c.pb S (wholeT t (limitP t 0 σ))) := by
 have X := Fr.refl (· = c.pb) w; have hpb := hP.pbB; have hB := hP.B
 by_cases h : (limitP t 0 σ).err = 0
 · rw [show wholeT t (limitP t 0 σ) = (t, 0, 0) from by simp [wholeT, h]]
   refine calls_in Tryz.func34 Tryz.ntmps34 rfl rfl ?_
   focus
    refine cS ?_; (refine lw_box' [_, _, _, _] rfl rfl rfl ?_; intro b1 w2 n3); have h4 := n3.blk; have x5 := n3.ext; have p6 := n3.pos; have z7 := n3.size; clear n3; replace hP := hP.ext x5; replace hs := Nd.sits.ext hs x5; replace X := X.ext x5; clear x5; (refine lw_alloc' [_, _, _, _] zOk rfl rfl ?_; intro b8 w9 n10); have h12 := n10.blk; have x13 := n10.ext; have p14 := n10.pos; have z15 := n10.size; clear n10; replace h4 := h4.ext x13; replace hP := hP.ext x13; replace hs := Nd.sits.ext hs x13; replace X := X.ext x13; clear x13; refine cA rfl rfl (cA rfl rfl (cN (cM rfl rfl (lw_loads_b' [_, _, _, _] tabOk rfl rfl rfl h4 rfl rfl rfl ?_)))); refine cC (by kernel_rfl) rfl (limit_c _ _ _ _ _ _ _ _ (by assumption) (by omega) (by assumption)) rfl ?_; rintro _ w18 ⟨⟨⟩, ⟨h16, f17⟩⟩; have z19 := f17.size; replace h12 := h12.fr f17 (by omega); replace h4 := h4.fr f17 (by omega); clear hP; replace hs := Nd.sits.fr hs f17 (fun k hk e => by have := hS k hk; omega); replace X := X.fr f17 (by omega); clear f17; refine cT (cw_seq (cS (cM rfl rfl (lw_pure (pur_nilCheck rfl) rfl (lw_pure (pur_fieldAddr tabOk rfl rfl rfl) rfl (lw_load_b tabOk rfl rfl rfl (PP.blk h16) rfl rfl (lw_pure (pur_neq rfl rfl) rfl (cT ?_)))))))); refine cw_no rfl (by omega) ?_; refine cw_skip (qw_then (cS (lw_loads_b' [_, _, _, _] tabOk rfl rfl rfl h4 rfl rfl rfl ?_))); (refine lw_store' [_, _, _, _] [_, _, _, _] tabOk rfl rfl rfl rfl rfl rfl h12 rfl rfl ?_; intro w20 n21); have h24 := n21.blk; have f22 := n21.fr; have z23 := n21.size
    clear n21 h12; replace h16 := h16.fr f22 (by omega); replace h4 := h4.fr f22 (by omega); replace hs := Nd.sits.fr hs f22 (fun k hk e => by have := hS k hk; omega); replace X := X.fr f22 (by omega); clear f22; refine cA rfl rfl (cA rfl rfl (cT (cw_ret (qw_retc3 rfl tabOk rfl rfl rfl h24 rfl rfl rfl ?_)))); rotate_left 1
   exact ⟨_, _, rfl, by assumption, X⟩
 · rw [show wholeT t (limitP t 0 σ) = (zeroNd, (limitP t 0 σ).off, (limitP t 0 σ).err) from by simp [wholeT, h]]
   refine calls_in Tryz.func34 Tryz.ntmps34 rfl rfl ?_
   focus
    refine cS ?_; (refine lw_box' [_, _, _, _] rfl rfl rfl ?_; intro ba1 wa2 na3); have ha4 := na3.blk; have xa5 := na3.ext; have pa6 := na3.pos; have za7 := na3.size; clear na3; replace hP := hP.ext xa5; replace hs := Nd.sits.ext hs xa5; replace X := X.ext xa5; clear xa5; (refine lw_alloc' [_, _, _, _] zOk rfl rfl ?_; intro ba8 wa9 na10); have ha12 := na10.blk; have xa13 := na10.ext; have pa14 := na10.pos; have za15 := na10.size; clear na10; replace ha4 := ha4.ext xa13; replace hP := hP.ext xa13; replace hs := Nd.sits.ext hs xa13; replace X := X.ext xa13; clear xa13; refine cA rfl rfl (cA rfl rfl (cN (cM rfl rfl (lw_loads_b' [_, _, _, _] tabOk rfl rfl rfl ha4 rfl rfl rfl ?_)))); refine cC (by kernel_rfl) rfl (limit_c _ _ _ _ _ _ _ _ (by assumption) (by omega) (by assumption)) rfl ?_; rintro _ wa18 ⟨⟨⟩, ⟨ha16, fa17⟩⟩; have za19 := fa17.size; replace ha12 := ha12.fr fa17 (by omega); replace ha4 := ha4.fr fa17 (by omega); clear hP; replace hs := Nd.sits.fr hs fa17 (fun k hk e => by have := hS k hk; omega); replace X := X.fr fa17 (by omega); clear fa17; refine cT (cw_seq (cS (cM rfl rfl (lw_pure (pur_nilCheck rfl) rfl (lw_pure (pur_fieldAddr tabOk rfl rfl rfl) rfl (lw_load_b tabOk rfl rfl rfl (PP.blk ha16) rfl rfl (lw_pure (pur_neq rfl rfl) rfl (cT ?_)))))))); refine cw_yes rfl (by assumption) ?_; refine cw_seq ?_; (refine cw_tdraw (fun wz => Fr (fun x => x = ba8) wa18 wz) 11 (.pure 0 (.pure 1 (.pure 2 (.pure 3 (.pure 4 (.pure 5 (.pure 6 (.pure 7 (.pure 8 (.fork 9 (.pure 10 .tail) .none)))))))))) mixed (by kernel_rfl) (panicOk_then (panicOk_then panicOk_body)) ?_; intro wa20 xa21 _)
    have qsa22 : (fun wz => Fr (fun x => x = ba8) wa18 wz) wa20 := Fr.of_ext xa21; simp only at qsa22; have d_ha16 := ha16; have d_ha12 := ha12; have d_ha4 := ha4; have d_hs := hs; have za23 := xa21.size; replace ha16 := ha16.ext xa21; replace ha12 := ha12.ext xa21; replace ha4 := ha4.ext xa21; replace hs := Nd.sits.ext hs xa21; replace X := X.ext xa21; clear xa21; refine ⟨qsa22, ?_⟩; refine tw_pure rfl (pur_build' [_, _, _, _] tabOk zOk rfl rfl rfl rfl) rfl (tw_pure rfl (pur_move rfl) rfl (tw_pure rfl (pur_nilCheck rfl) rfl (tw_pure rfl (pur_fieldAddr tabOk rfl rfl rfl) rfl ?_))); refine tw_pure rfl (pur_load tabOk rfl rfl rfl (fun wz hz => Blk.cell (Blk.fr (PP.blk d_ha16) hz (by omega)) rfl)) rfl ?_; refine tw_pure rfl (pur_move rfl) rfl (tw_pure rfl (pur_nilCheck rfl) rfl (tw_pure rfl (pur_fieldAddr tabOk rfl rfl rfl) rfl ?_)); refine tw_pure rfl (pur_load tabOk rfl rfl rfl (fun wz hz => Blk.cell (Blk.fr (PP.blk d_ha16) hz (by omega)) rfl)) rfl ?_; (refine tw_store [_, _, _, _] [_, _, _, _] rfl tabOk rfl rfl rfl rfl rfl rfl ha12 rfl rfl ?_ tw_none; intro wa24 na25); have ha28 := na25.blk; have fa26 := na25.fr; have za27 := na25.size; clear na25 ha12; replace qsa22 := qsa22.fr fa26 (by omega); replace ha16 := ha16.fr fa26 (by omega); replace ha4 := ha4.fr fa26 (by omega); replace hs := Nd.sits.fr hs fa26 (fun k hk e => by have := hS k hk; omega); replace X := X.fr fa26 (by omega); clear fa26; refine ⟨qsa22, ?_⟩; refine tw_pure rfl (pur_assign rfl) rfl ?_; clear d_ha16 d_ha12 d_ha4 d_hs qsa22
    refine tw_tail rfl (cA rfl rfl (cT (cw_ret (qw_then_ret (qw_retc3 rfl tabOk rfl rfl rfl ha28 rfl rfl rfl ?_))))); rotate_left 1
   exact ⟨_, _, rfl, sits_nil, X⟩
end Bk
namespace Bk
open Go Go.RowKit Go.Proofs
attribute [local irreducible] Go.Calls
theorem setS_bin (j : Nat) (h : j < 16) : setS (binMap.take j) (symbol (8 + (j : Int))) (.int .u8 (8 + (j : Int))) = binMap.take (j + 1) := by
 have : j = 0 ∨ j = 1 ∨ j = 2 ∨ j = 3 ∨ j = 4 ∨ j = 5 ∨ j = 6 ∨ j = 7 ∨ j = 8 ∨ j = 9 ∨ j = 10 ∨ j = 11 ∨ j = 12 ∨ j = 13 ∨ j = 14 ∨ j = 15 := by omega
 rcases this with rfl | rfl | rfl | rfl | rfl | rfl | rfl | rfl | rfl | rfl | rfl | rfl | rfl | rfl | rfl | rfl <;> rfl
def StartR (s : List UInt8) (w : World) : Ending → World → Prop := fun e w' => ∃ c : PC, e = .returned (.pointer (some ⟨c.pb, 0, none⟩)) ∧ (c.ts = (startP s).1 ∧ c.n = s.length ∧ w.heap.size ≤ c.pb) ∧ PP c (startP s).2 w' ∧ Ext w w' ∧ c.B ≤ w'.heap.size
theorem StartR.ret {s : List UInt8} {w : World} {e : Ending} {w' : World} (h : StartR s w e w') : ∃ v, e = .returned v := by
 obtain ⟨_, h, -⟩ := h
 exact ⟨_, h⟩
theorem Syms.lt {w : World} (h : Syms w) : 0 < w.heap.size := cell_lt (h.sym 0 (by omega))
theorem Errs.lt {w : World} (h : Errs w) : 4 < w.heap.size := by
 obtain ⟨te, pe, h⟩ := h.ex
 exact cell_lt h
set_option maxRecDepth 100000 in
set_option maxHeartbeats 4000000 in
theorem start_c (s : List UInt8) (w : World) (hs : s.length ≤ 1000000) (hS : Syms w) (hE : Errs w) : Calls Tryz.prog 31 #[str s] w (StartR s w) := by
 have X := Ext.refl w; have hg1 := hS.lt; have hg2 := hE.lt; have hl1 := lexT_len s; refine calls_in Tryz.func31 Tryz.ntmps31 rfl rfl ?_
 focus
  refine cS (cA rfl rfl (cN (cM rfl rfl ?_))); refine cR (by kernel_rfl) rfl (Lex_c _ _ (by omega)) (fun _ _ h => h.ret) rfl ?_; rintro _ w5 ⟨a1, ⟨k2, ⟨⟨⟩, ⟨h3, x4⟩⟩⟩⟩; have z6 := x4.size; replace hS := hS.ext x4; replace hE := hE.ext x4; replace X := X.ext x4; clear x4; refine cM rfl rfl (lw_pure (pur_extract rfl rfl) rfl (lw_pure (pur_extract rfl rfl) rfl (lw_pure (pur_extract rfl rfl) rfl (cA rfl rfl (cA rfl rfl (cA rfl rfl (cN (cM rfl rfl ?_)))))))); refine cR (by kernel_rfl) rfl (Solid_c _ _ _ _ _ (by omega) (by assumption) (by intro b h; exact h.2)) (fun _ _ h => h.ret) rfl ?_; rintro _ w11 ⟨a7, ⟨k8, ⟨⟨⟩, ⟨h9, x10⟩⟩⟩⟩; have z12 := x10.size; replace h3 := h3.ext x10; replace hS := hS.ext x10; replace hE := hE.ext x10; replace X := X.ext x10; clear x10; refine cM rfl rfl (lw_pure (pur_len_s tabOk rfl rfl) rfl (lw_makeMap rfl ?_)); rintro r13 w14 rfl h15 x16 h17; have z18 := x16.size; replace h9 := h9.ext x16; replace h3 := h3.ext x16; replace hS := hS.ext x16; replace hE := hE.ext x16; replace X := X.ext x16; clear x16; refine cM rfl rfl (cM rfl rfl (lw_pure (pur_build' [_, _, _, _, _, _] tabOk zOk rfl rfl rfl rfl) rfl ?_)); (refine lw_box' [_, _, _, _, _, _] rfl rfl rfl ?_; intro b19 w20 n21); have h22 := n21.blk; have x23 := n21.ext; have p24 := n21.pos; have z25 := n21.size; clear n21; replace h15 := h15.ext x23; replace h9 := h9.ext x23; replace h3 := h3.ext x23; replace hS := hS.ext x23; replace hE := hE.ext x23; replace X := X.ext x23; clear x23; refine cA rfl rfl (cT (cw_seq (cS ?_)))
  refine cR (by kernel_rfl) rfl (Operators_c _) (fun _ _ h => h.ret) rfl ?_; rintro _ w32 ⟨b26, ⟨k27, ⟨⟨⟩, ⟨h28, ⟨h29, ⟨h30, x31⟩⟩⟩⟩⟩⟩; have z33 := x31.size; replace h22 := h22.ext x31; replace h15 := h15.ext x31; replace h9 := h9.ext x31; replace h3 := h3.ext x31; replace hS := hS.ext x31; replace hE := hE.ext x31; replace X := X.ext x31; clear x31; refine lw_pure (pur_len_slice tabOk rfl rfl) rfl (cM rfl rfl (cT (cw_block ?_))); rotate_left 1
 generalize hr : w11.heap.size = r at *
 refine cw_loop (ι := Nat) (fun j => [(6, .pointer (some ⟨b19, 0, none⟩)), (24, .slice (some ⟨b26, 0, none⟩) 16 k27), (25, .int .i64 16), (26, .int .i64 j)])
  (fun j w' => j ≤ 16 ∧ MapIs w' r (binMap.take j) ∧ Row w' ⟨b26, 0, none⟩ ((ops8 16).map (.int .u8 ·)) ∧ Blk w' b19 [.slice a7 (solidT (lexT s).1).length k8, .int .i64 0, .int .i64 s.length, .map (some r), .int .i64 (lexT s).2.1, .int .i64 (lexT s).2.2] ∧
   Toks (fun b => w5.heap.size ≤ b ∧ b < r) w' (solidT (lexT s).1) a7 ∧ Syms w' ∧ Errs w' ∧ Ext w w' ∧ w32.heap.size ≤ w'.heap.size) (fun j => 16 - j) 0 (by (refine sub_cons rfl ?_; refine sub_cons rfl ?_; refine sub_cons rfl ?_; refine sub_cons rfl ?_; exact sub_nil)) ⟨Nat.zero_le _, h15, h30, h22, h9, hS, hE, X, Nat.le_refl _⟩ ?_
 rintro j w1 ⟨hj, hM, hrow, hb, hT, hS, hE, X, hz⟩; clear h15 h30 h22 h9 h3
 by_cases hlt : j < 16
 · have hr1 : Row w1 ⟨b26, 0 + j * 1, none⟩ [.int .u8 (8 + (j : Int))] := by
    have h1 := hrow.sub j 1
    have e : (((ops8 16).map (.int .u8 ·)).drop j).take 1 = [Value.int .u8 (8 + (j : Int))] := by
     have : j = 0 ∨ j = 1 ∨ j = 2 ∨ j = 3 ∨ j = 4 ∨ j = 5 ∨ j = 6 ∨ j = 7 ∨ j = 8 ∨ j = 9 ∨ j = 10 ∨ j = 11 ∨ j = 12 ∨ j = 13 ∨ j = 14 ∨ j = 15 := by omega
     rcases this with rfl | rfl | rfl | rfl | rfl | rfl | rfl | rfl | rfl | rfl | rfl | rfl | rfl | rfl | rfl | rfl <;> rfl
    rw [e] at h1
    rw [Nat.mul_one]; exact h1
   have hset := setS_bin j hlt
   focus
    refine cS (lw_pure (pur_lss rfl rfl) rfl (cT (cw_seq ?_))); refine cw_yes rfl (by omega) ?_; refine cw_skip (qw_then (cw_seq (cw_block (cS ?_)))); refine lw_pure (pur_indexAddr tabOk rfl rfl rfl rfl (by omega) (by omega)) rfl ?_; refine lw_load_r0 tabOk rfl rfl rfl hr1 rfl rfl (cA rfl rfl (cT ?_)); (refine cw_tdraw (fun wz => Ext w1 wz) 7 (.pure 0 (.pure 1 (.pure 2 (.pure 3 (.pure 4 (.pure 6 (.fork 5 .tail .none))))))) mixed (by kernel_rfl) (panicOk_block (panicOk_then (panicOk_then (panicOk_block (panicOk_then panicOk_body))))) ?_; intro wa1 xa2 _); have qsa3 : (fun wz => Ext w1 wz) wa1 := xa2; simp only at qsa3; have d_hM := hM; have d_hrow := hrow; have d_hb := hb; have d_hT := hT; have d_hS := hS; have d_hE := hE; have d_hr1 := hr1; have za4 := xa2.size; replace hM := hM.ext xa2; replace hrow := hrow.ext xa2; replace hb := hb.ext xa2; replace hT := hT.ext xa2; replace hS := hS.ext xa2; replace hE := hE.ext xa2; replace X := X.ext xa2; replace hr1 := hr1.ext xa2; clear xa2; refine ⟨qsa3, ?_⟩; refine tw_pure rfl (pur_move rfl) rfl (tw_pure rfl (pur_nilCheck rfl) rfl (tw_pure rfl (pur_fieldAddr tabOk rfl rfl rfl) rfl (tw_pure rfl (pur_load tabOk rfl rfl rfl (fun wz hz => Blk.cell (Blk.ext d_hb hz) rfl)) rfl (tw_pure rfl (pur_move rfl) rfl (tw_pure rfl (pur_move rfl) rfl ?_))))); refine tw_does rfl (does_call (by kernel_rfl) rfl (arith_Symbol_s _ _ (by omega) (by omega) (by assumption)) (fun _ _ h => ⟨_, h.1⟩)) rfl ?_ (fun _ h => h) tw_none; rintro _ wa5 ⟨⟨⟩, rfl⟩; refine ⟨qsa3, ?_⟩
    clear qsa3 d_hM d_hrow d_hb d_hT d_hS d_hE d_hr1; refine tw_tail rfl (lw_mapput tabOk rfl rfl rfl rfl rfl hM ?_); rintro wa6 ha7 fa8; have za9 := fa8.size; clear hM; replace hrow := Row.fr hrow fa8 (by simp only; omega); replace hb := hb.fr fa8 (by omega); replace hT := hT.fr fa8 (by omega); replace hS := hS.fr fa8 (by omega); replace hE := hE.fr fa8 (by omega); replace X := X.fr fa8 (by omega); replace hr1 := Row.fr hr1 fa8 (by simp only; omega); clear fa8; refine lw_nil (qw_block_norm (qw_then (cw_region ?_))); refine lw_pure (pur_add rfl rfl (IntWalk.i64_in _ (by omega))) rfl ?_; refine cM rfl rfl (lw_nil ?_); rotate_left 1
   refine qw_round (j + 1) (by (refine sub_cons rfl ?_; refine sub_cons rfl ?_; refine sub_cons rfl ?_; refine sub_cons rfl ?_; exact sub_nil)) ⟨by omega, by rw [← hset]; assumption, hrow, hb, hT, hS, hE, X, by omega⟩ (by omega)
 · have : j = 16 := by omega
   subst this
   focus
    refine cS (lw_pure (pur_lss rfl rfl) rfl (cT (cw_seq ?_))); refine cw_no rfl (by decide) ?_; refine cw_exit (qw_then_exit (qw_then_exit (qw_block_exit (qw_then (cS (cM rfl rfl (cA rfl rfl (cT (cw_ret (qw_ret1 rfl rfl ?_)))))))))); rotate_left 1
   have hsz := X.size; refine ⟨⟨b19, w1.heap.size, solidT (lexT s).1, s.length, a7, k8, r⟩, rfl, ⟨rfl, rfl, by simp only; omega⟩, ?_, X, Nat.le_refl _⟩; refine ⟨hb, hT.wide (fun b h => ⟨by simp only; omega, by simp only; omega⟩), hM, by simp only; omega, by simp only; omega, by simp only; omega, Nat.le_refl _, Nat.zero_le _, ?_, fun t ht => ?_, fun t ht => (solid_ok s t ht).num, hE, by simp only; omega⟩
   · exact Nat.le_trans (start_len s) hs
   · exact Nat.le_trans (solid_ok s t ht).len hs
end Bk
namespace Bk
open Go Go.RowKit Go.Proofs
attribute [local irreducible] Go.Calls
theorem fuel_ok {c : PC} {s : List UInt8} (h : c.ts = (startP s).1) (σ : PS) : 4 * mS c.ts σ + 20 ≤ fuelP s := by
 have h1 := start_len s
 have h2 : mS c.ts σ ≤ c.ts.length := by unfold mS; split <;> omega
 rw [h] at h2
 unfold fuelP
 rw [h]
 omega
def ParseR (w : World) (r : Nd × Int × Int) : Ending → World → Prop := fun e w' => ∃ a k, e = .returned (.tuple #[r.1.val a k, .int .i64 r.2.1, .int .i64 r.2.2]) ∧ r.1.sits (w.heap.size ≤ ·) w' a ∧ Ext w w'
theorem ParseR.ret {w : World} {r : Nd × Int × Int} {e : Ending} {w' : World} (h : ParseR w r e w') : ∃ v, e = .returned v := by
 obtain ⟨_, _, h, -⟩ := h
 exact ⟨_, h⟩
def ParsePR (w : World) (r : PG × Int × Int) : Ending → World → Prop := fun e w' => ∃ va vc pa pc ma mc, e = .returned (.tuple #[.agg (r.1.cells va vc pa pc ma mc).toArray, .int .i64 r.2.1, .int .i64 r.2.2]) ∧ r.1.sits (w.heap.size ≤ ·) w' va pa ma ∧ Ext w w'
theorem ParsePR.ret {w : World} {r : PG × Int × Int} {e : Ending} {w' : World} (h : ParsePR w r e w') : ∃ v, e = .returned v := by
 obtain ⟨_, _, _, _, _, _, h, -⟩ := h
 exact ⟨_, h⟩
theorem PG.sits.wide {S S' : Nat → Prop} {w : World} {g : PG} {va pa ma : Option Addr} (h : g.sits S w va pa ma) (hs : ∀ b, S b → S' b) : g.sits S' w va pa ma := ⟨h.vars.wide hs, h.procs.wide hs, h.main.wide hs⟩
section
variable {ts : List Tok} {n : Int}
theorem lines_le (k : Nat) : ∀ acc σ, σ.at_ ≤ ts.length → Le ts σ (linesP ts n k acc σ).2 := by
 induction k with
 | zero => intro acc σ h; rw [linesP]; exact Le.refl h
 | succ k ih =>
  intro acc σ h; rw [linesP]
  split
  · have l1 := (stmt_inv (ts := ts) (n := n) k).1 σ h
    have l2 := expect_le (n := n) (t := [59]) l1.wf (by decide)
    exact (l1.trans l2).trans (ih _ _ l2.wf)
  · exact Le.refl h
theorem lines_size (k : Nat) : ∀ acc σ, σ.at_ ≤ ts.length → rowSize (linesP ts n k acc σ).1 + 8 * σ.at_ ≤ 8 * (linesP ts n k acc σ).2.at_ + rowSize acc + (if σ.err = 0 then 1 else 0) := by
 induction k with
 | zero => intro acc σ h; rw [linesP]; simp only; split <;> omega
 | succ k ih =>
  intro acc σ h; rw [linesP]
  split
  · rename_i h0
    have s1 := (stmt_size (ts := ts) (n := n) k).1 σ h; have l1 := (stmt_inv (ts := ts) (n := n) k).1 σ h; have l2 := expect_le (n := n) (t := [59]) l1.wf (by decide); have s3 := ih (acc ++ [(stmtP ts n k σ).1]) _ l2.wf; rw [rowSize_append] at s3; simp only [rowSize] at s3; have e2 := l2.le
    have e3 : (expectP ts n (stmtP ts n k σ).2 [59]).err = 0 → (stmtP ts n k σ).2.at_ + 1 ≤ (expectP ts n (stmtP ts n k σ).2 [59]).at_ := fun e => expect_lt (n := n) e
    rw [if_pos h0.1]
    split at s3
    · rename_i e; have := e3 e; omega
    · omega
  · simp only; split <;> omega
end
theorem parseBlock_whole (s : List UInt8) (c : PC) (h1 : c.ts = (startP s).1) (h2 : c.n = s.length) : parseBlock s = wholeT (.mk 57 0 [] (linesP c.ts c.n (fuelP s) [] (startP s).2).1) (limitP (.mk 57 0 [] (linesP c.ts c.n (fuelP s) [] (startP s).2).1) 0 (linesP c.ts c.n (fuelP s) [] (startP s).2).2) := by
 unfold parseBlock wholeT
 rw [h1, h2]
set_option maxRecDepth 100000 in
set_option maxHeartbeats 4000000 in
theorem Block_p (s : List UInt8) (w : World) (hs : s.length ≤ 1000000) (hS : Syms w) (hE : Errs w) : Calls Tryz.prog 16 #[str s] w (ParseR w (parseBlock s)) := by
 have X := Ext.refl w; refine calls_in Tryz.func16 Tryz.ntmps16 rfl rfl ?_
 focus
  refine cS ?_; (refine lw_alloc' [_, _, _, _] zOk rfl rfl ?_; intro b1 w2 n3); have h5 := n3.blk; have x6 := n3.ext; have p7 := n3.pos; have z8 := n3.size; clear n3; replace hS := hS.ext x6; replace hE := hE.ext x6; replace X := X.ext x6; clear x6; refine cA rfl rfl (cA rfl rfl (cN (cM rfl rfl ?_))); refine cR (by kernel_rfl) rfl (start_c s _ hs (by assumption) (by assumption)) (fun _ _ h => h.ret) rfl ?_; rintro _ w16 ⟨c9, ⟨⟨⟩, ⟨⟨h10, ⟨h11, h12⟩⟩, ⟨h13, ⟨x14, h15⟩⟩⟩⟩⟩; have z17 := x14.size; replace h5 := h5.ext x14; replace hS := hS.ext x14; replace hE := hE.ext x14; replace X := X.ext x14; clear x14; refine cA rfl rfl (cN (lw_pure (pur_build' [_, _, _, _] tabOk zOk rfl rfl rfl rfl) rfl ?_)); (refine lw_alloc' [_, _, _, _] zOk rfl rfl ?_; intro b18 w19 n20); (refine lw_init' [_, _, _, _] tabOk rfl rfl rfl rfl rfl rfl n20 rfl ?_; clear n20; clear w19; intro w21 n20); have h22 := n20.blk; have x23 := n20.ext; have p24 := n20.pos; have z25 := n20.size; clear n20; replace h13 := h13.ext x23; replace h5 := h5.ext x23; replace hS := hS.ext x23; replace hE := hE.ext x23; replace X := X.ext x23; clear x23; refine cT (cw_seq (cw_block ?_)); rotate_left 1
 have hf := fuel_ok h10 (startP s).2; have hat := h13.at_; have hlen := h13.len; have hpb := h13.pbB; have hB := h13.B; rw [parseBlock_whole s c9 h10 h11]; have hbs := lines_size (n := c9.n) (fuelP s) [] _ hat; have hbw := (lines_le (n := c9.n) (fuelP s) [] _ hat).wf
 have hsz : (Nd.mk 57 0 [] (linesP c9.ts c9.n (fuelP s) [] (startP s).2).1).size ≤ 1000000000 := by
  simp only [Nd.size, rowSize] at hbs ⊢
  split at hbs <;> omega
 have hmt : mS c9.ts (startP s).2 ≤ c9.ts.length := by unfold mS; split <;> omega
 clear hbs hbw; refine cw_loop (ι := Nat × List Nd × Option Addr × Nat × PS) (fun _ => [(2, .pointer (some ⟨b1, 0, none⟩)), (3, .int .i64 0), (4, .int .i64 0), (5, .pointer (some ⟨c9.pb, 0, none⟩)), (6, .pointer (some ⟨b18, 0, none⟩))])
  (fun x w' => PP c9 x.2.2.2.2 w' ∧ Blk w' b18 [.int .u8 57, .int .i64 0, str [], .slice x.2.2.1 x.2.1.length x.2.2.2.1] ∧ OwnL ndShape w' (b18 + 1) 24 (.slice x.2.2.1 x.2.1.length x.2.2.2.1) x.2.1 ∧
   Blk w' b1 [.int .u8 0, .int .i64 0, .string ⟨#[]⟩, .slice none 0 0] ∧ Ext w w' ∧ w21.heap.size ≤ w'.heap.size ∧
   linesP c9.ts c9.n (fuelP s) [] (startP s).2 = linesP c9.ts c9.n x.1 x.2.1 x.2.2.2.2 ∧ (x.2.2.2.2.err = 0 → 4 * mS c9.ts x.2.2.2.2 + 7 ≤ x.1) ∧ 1 ≤ x.1 ∧ (x.2.2.2.2.err = 0 → x.2.1.length + mS c9.ts x.2.2.2.2 ≤ 1000001)) (fun x => x.1) (fuelP s, [], none, 0, (startP s).2) (by (refine sub_cons rfl ?_; refine sub_cons rfl ?_; refine sub_cons rfl ?_; refine sub_cons rfl ?_; refine sub_cons rfl ?_; exact sub_nil))
  ⟨h13, h22, OwnL.nil, h5, X, Nat.le_refl _, rfl, fun _ => by simp only; omega, by simp only; omega, fun _ => by simp only [List.length_nil]; omega⟩ ?_
 rintro ⟨j, acc, a, cap, σ'⟩ w1 ⟨hP, hbn, hown, hbr, X, hz, he, hfj, hj1, hacc⟩; simp only at hP hbn hown he hfj hj1 hacc; clear h13 h22 h5 hS hE; rw [he] at hsz ⊢; obtain ⟨j, rfl⟩ : ∃ i, j = i + 1 := ⟨j - 1, by omega⟩
 have hob : ∀ g, (Value.slice a acc.length cap).ownBlock = some g → g < w1.heap.size := fun g h => hown.lt h
 by_cases hc : σ'.err = 0 ∧ σ'.at_ < c9.ts.length
 case neg =>
  rw [show linesP c9.ts c9.n (j + 1) acc σ' = (acc, σ') from by rw [linesP]; simp [hc]] at hsz ⊢; have hst : (Nd.mk 57 0 [] acc).sits (fun b => w.heap.size ≤ b ∧ b ≠ c9.pb ∧ b ≠ b1 ∧ b < w1.heap.size) w1 a := Nd.sits.wide (sits_lt2 _ _ (sits_mk (hown.sits (S := (b18 < ·)) (fun b h => h)))) (fun b h => ⟨by omega, by omega, by omega, h.2⟩)
  by_cases h0 : σ'.err = 0
  · have h1 : ¬ σ'.at_ < c9.ts.length := fun h => hc ⟨h0, h⟩
    focus
     refine cw_seq (cw_seq ?_); (refine cw_tdraw (fun wz => Ext w1 wz) 15 (.pure 0 (.pure 1 (.pure 2 (.pure 3 (.pure 4 (.pure 5 (.pure 6 (.pure 7 (.pure 8 (.pure 9 (.pure 10 (.pure 11 (.pure 12 (.pure 13 (.pure 14 .tail))))))))))))))) mixed (by kernel_rfl) (panicOk_then (panicOk_then (panicOk_then (panicOk_block (panicOk_then panicOk_body))))) ?_; intro wa1 xa2 _); have qsa3 : (fun wz => Ext w1 wz) wa1 := xa2; simp only at qsa3; have d_hP := hP; have d_hbn := hbn; have d_hown := hown; have d_hbr := hbr; have d_hst := hst; have za4 := xa2.size; replace hP := hP.ext xa2; replace hbn := hbn.ext xa2; replace hown := hown.ext xa2; replace hbr := hbr.ext xa2; replace X := X.ext xa2; replace hst := Nd.sits.ext hst xa2; clear xa2; refine ⟨qsa3, ?_⟩; refine tw_pure rfl (pur_move rfl) rfl (tw_pure rfl (pur_nilCheck rfl) rfl (tw_pure rfl (pur_fieldAddr tabOk rfl rfl rfl) rfl (tw_pure rfl (pur_load tabOk rfl rfl rfl (fun wz hz => Blk.cell (Blk.ext (PP.blk d_hP) hz) rfl)) rfl (tw_pure rfl (pur_eql rfl rfl) rfl (tw_pure rfl (pur_move rfl) rfl ?_))))); refine tw_on rfl rfl rfl rfl (gd_tt (by assumption)) (pur_move rfl) rfl ?_; refine tw_on rfl rfl rfl rfl (gd_tt (by assumption)) (pur_nilCheck rfl) rfl ?_; refine tw_on rfl rfl rfl rfl (gd_tt (by assumption)) (pur_fieldAddr tabOk rfl rfl rfl) rfl ?_; refine tw_on rfl rfl rfl rfl (gd_tt (by assumption)) (pur_load tabOk rfl rfl rfl (fun wz hz => Blk.cell (Blk.ext (PP.blk d_hP) hz) rfl)) rfl ?_; refine tw_on rfl rfl rfl rfl (gd_tt (by assumption)) (pur_move rfl) rfl ?_
     refine tw_on rfl rfl rfl rfl (gd_tt (by assumption)) (pur_nilCheck rfl) rfl ?_; refine tw_on rfl rfl rfl rfl (gd_tt (by assumption)) (pur_fieldAddr0 tabOk rfl rfl rfl) rfl ?_; refine tw_on rfl rfl rfl rfl (gd_tt (by assumption)) (pur_load tabOk rfl rfl rfl (fun wz hz => Blk.cell (Blk.ext (PP.blk d_hP) hz) rfl)) rfl ?_; refine tw_on rfl rfl rfl rfl (gd_tt (by assumption)) (pur_len_slice tabOk rfl rfl) rfl ?_; clear qsa3 d_hP d_hbn d_hown d_hbr d_hst; refine tw_tail rfl ?_; refine lw_on rfl rfl rfl (gd_tt (by assumption)) ?_; refine lw_pure (pur_lss rfl rfl) rfl ?_; refine lw_pure (pur_pick_yes rfl rfl (by assumption)) rfl ?_; refine cT ?_; refine cw_no rfl (by omega) ?_; refine cw_exit (qw_then_exit (qw_then_exit (qw_block_exit (qw_then (cS (cM rfl rfl (lw_loads_b' [_, _, _, _] tabOk rfl rfl rfl hbn rfl rfl rfl ?_))))))); refine cR (by kernel_rfl) rfl (whole_c _ _ (.mk 57 0 [] acc) _ _ _ _ (by assumption) hsz (by assumption) (by intro b h; exact ⟨by omega, by omega⟩)) (fun _ _ h => h.ret) rfl ?_; rintro _ wa9 ⟨aa5, ⟨ka6, ⟨⟨⟩, ⟨ha7, fa8⟩⟩⟩⟩; have za10 := fa8.size; clear hP; replace hbn := hbn.fr fa8 (by omega); replace hown := hown.fr fa8 (by omega); replace hbr := hbr.fr fa8 (by omega); replace X := X.fr fa8 (by omega); replace hst := Nd.sits.fr hst fa8 (by omega); clear fa8; refine lw_pure (pur_extract rfl rfl) rfl (lw_pure (pur_extract rfl rfl) rfl (lw_pure (pur_extract rfl rfl) rfl ?_)); (refine lw_store' [_, _, _, _] [_, _, _, _] tabOk rfl rfl rfl rfl rfl rfl hbr rfl rfl ?_; intro wa11 na12)
     have ha15 := na12.blk; have fa13 := na12.fr; have za14 := na12.size; clear na12 hbr; replace ha7 := Nd.sits.fr ha7 fa13 (by omega); replace hbn := hbn.fr fa13 (by omega); replace hown := hown.fr fa13 (by omega); replace X := X.fr fa13 (by omega); replace hst := Nd.sits.fr hst fa13 (by omega); clear fa13; refine cA rfl rfl (cA rfl rfl (cT (cw_ret (qw_retc3 rfl tabOk rfl rfl rfl ha15 rfl rfl rfl ?_)))); rotate_left 1
    exact ⟨_, _, rfl, Nd.sits.wide (by assumption) (fun b h => by omega), X⟩
  · focus
     refine cw_seq (cw_seq ?_); (refine cw_tdraw (fun wz => Ext w1 wz) 15 (.pure 0 (.pure 1 (.pure 2 (.pure 3 (.pure 4 (.pure 5 (.pure 6 (.pure 7 (.pure 8 (.pure 9 (.pure 10 (.pure 11 (.pure 12 (.pure 13 (.pure 14 .tail))))))))))))))) mixed (by kernel_rfl) (panicOk_then (panicOk_then (panicOk_then (panicOk_block (panicOk_then panicOk_body))))) ?_; intro wb1 xb2 _); have qsb3 : (fun wz => Ext w1 wz) wb1 := xb2; simp only at qsb3; have d_hP := hP; have d_hbn := hbn; have d_hown := hown; have d_hbr := hbr; have d_hst := hst; have zb4 := xb2.size; replace hP := hP.ext xb2; replace hbn := hbn.ext xb2; replace hown := hown.ext xb2; replace hbr := hbr.ext xb2; replace X := X.ext xb2; replace hst := Nd.sits.ext hst xb2; clear xb2; refine ⟨qsb3, ?_⟩; refine tw_pure rfl (pur_move rfl) rfl (tw_pure rfl (pur_nilCheck rfl) rfl (tw_pure rfl (pur_fieldAddr tabOk rfl rfl rfl) rfl (tw_pure rfl (pur_load tabOk rfl rfl rfl (fun wz hz => Blk.cell (Blk.ext (PP.blk d_hP) hz) rfl)) rfl (tw_pure rfl (pur_eql rfl rfl) rfl (tw_pure rfl (pur_move rfl) rfl ?_))))); refine tw_off rfl rfl rfl rfl (gd_tf (by assumption)) rfl ?_; refine tw_off rfl rfl rfl rfl (gd_tf (by assumption)) rfl ?_; refine tw_off rfl rfl rfl rfl (gd_tf (by assumption)) rfl ?_; refine tw_off rfl rfl rfl rfl (gd_tf (by assumption)) rfl ?_; refine tw_off rfl rfl rfl rfl (gd_tf (by assumption)) rfl ?_; refine tw_off rfl rfl rfl rfl (gd_tf (by assumption)) rfl ?_; refine tw_off rfl rfl rfl rfl (gd_tf (by assumption)) rfl ?_; refine tw_off rfl rfl rfl rfl (gd_tf (by assumption)) rfl ?_
     refine tw_off rfl rfl rfl rfl (gd_tf (by assumption)) rfl ?_; clear qsb3 d_hP d_hbn d_hown d_hbr d_hst; refine tw_tail rfl ?_; refine lw_off rfl rfl rfl (gd_tf (by assumption)) rfl ?_; refine lw_pure (pur_pick_no rfl rfl (by assumption)) rfl ?_; refine cT (cw_cond_f rfl (cw_exit (qw_then_exit (qw_then_exit (qw_block_exit (qw_then (cS (cM rfl rfl (lw_loads_b' [_, _, _, _] tabOk rfl rfl rfl hbn rfl rfl rfl ?_))))))))); refine cR (by kernel_rfl) rfl (whole_c _ _ (.mk 57 0 [] acc) _ _ _ _ (by assumption) hsz (by assumption) (by intro b h; exact ⟨by omega, by omega⟩)) (fun _ _ h => h.ret) rfl ?_; rintro _ wb9 ⟨ab5, ⟨kb6, ⟨⟨⟩, ⟨hb7, fb8⟩⟩⟩⟩; have zb10 := fb8.size; clear hP; replace hbn := hbn.fr fb8 (by omega); replace hown := hown.fr fb8 (by omega); replace hbr := hbr.fr fb8 (by omega); replace X := X.fr fb8 (by omega); replace hst := Nd.sits.fr hst fb8 (by omega); clear fb8; refine lw_pure (pur_extract rfl rfl) rfl (lw_pure (pur_extract rfl rfl) rfl (lw_pure (pur_extract rfl rfl) rfl ?_)); (refine lw_store' [_, _, _, _] [_, _, _, _] tabOk rfl rfl rfl rfl rfl rfl hbr rfl rfl ?_; intro wb11 nb12); have hb15 := nb12.blk; have fb13 := nb12.fr; have zb14 := nb12.size; clear nb12 hbr; replace hb7 := Nd.sits.fr hb7 fb13 (by omega); replace hbn := hbn.fr fb13 (by omega); replace hown := hown.fr fb13 (by omega); replace X := X.fr fb13 (by omega); replace hst := Nd.sits.fr hst fb13 (by omega); clear fb13; refine cA rfl rfl (cA rfl rfl (cT (cw_ret (qw_retc3 rfl tabOk rfl rfl rfl hb15 rfl rfl rfl ?_))))
     rotate_left 1
    exact ⟨_, _, rfl, Nd.sits.wide (by assumption) (fun b h => by omega), X⟩
 rw [show linesP c9.ts c9.n (j + 1) acc σ' = linesP c9.ts c9.n j (acc ++ [(stmtP c9.ts c9.n j σ').1]) (expectP c9.ts c9.n (stmtP c9.ts c9.n j σ').2 [59]) from by rw [linesP]; simp [hc]] at hsz ⊢; obtain ⟨h0, h1⟩ := hc; have l1 := (stmt_inv (ts := c9.ts) (n := c9.n) j).1 σ' hP.at_; have l2 := expect_le (n := c9.n) (t := [59]) l1.wf (by decide); have hlt : Lt σ' (expectP c9.ts c9.n (stmtP c9.ts c9.n j σ').2 [59]) := Lt.of_le l1 expect_lt; have hdrop := mS_drop (l1.trans l2) hlt; have hacc0 := hacc h0; have hfj0 := hfj h0; clear l1 l2
 focus
  refine cw_seq (cw_seq ?_); (refine cw_tdraw (fun wz => Ext w1 wz) 15 (.pure 0 (.pure 1 (.pure 2 (.pure 3 (.pure 4 (.pure 5 (.pure 6 (.pure 7 (.pure 8 (.pure 9 (.pure 10 (.pure 11 (.pure 12 (.pure 13 (.pure 14 .tail))))))))))))))) mixed (by kernel_rfl) (panicOk_then (panicOk_then (panicOk_then (panicOk_block (panicOk_then panicOk_body))))) ?_; intro wc1 xc2 _); have qsc3 : (fun wz => Ext w1 wz) wc1 := xc2; simp only at qsc3; have d_hP := hP; have d_hbn := hbn; have d_hown := hown; have d_hbr := hbr; have zc4 := xc2.size; replace hP := hP.ext xc2; replace hbn := hbn.ext xc2; replace hown := hown.ext xc2; replace hbr := hbr.ext xc2; replace X := X.ext xc2; clear xc2; refine ⟨qsc3, ?_⟩; refine tw_pure rfl (pur_move rfl) rfl (tw_pure rfl (pur_nilCheck rfl) rfl (tw_pure rfl (pur_fieldAddr tabOk rfl rfl rfl) rfl (tw_pure rfl (pur_load tabOk rfl rfl rfl (fun wz hz => Blk.cell (Blk.ext (PP.blk d_hP) hz) rfl)) rfl (tw_pure rfl (pur_eql rfl rfl) rfl (tw_pure rfl (pur_move rfl) rfl ?_))))); refine tw_on rfl rfl rfl rfl (gd_tt (by assumption)) (pur_move rfl) rfl ?_; refine tw_on rfl rfl rfl rfl (gd_tt (by assumption)) (pur_nilCheck rfl) rfl ?_; refine tw_on rfl rfl rfl rfl (gd_tt (by assumption)) (pur_fieldAddr tabOk rfl rfl rfl) rfl ?_; refine tw_on rfl rfl rfl rfl (gd_tt (by assumption)) (pur_load tabOk rfl rfl rfl (fun wz hz => Blk.cell (Blk.ext (PP.blk d_hP) hz) rfl)) rfl ?_; refine tw_on rfl rfl rfl rfl (gd_tt (by assumption)) (pur_move rfl) rfl ?_; refine tw_on rfl rfl rfl rfl (gd_tt (by assumption)) (pur_nilCheck rfl) rfl ?_
  refine tw_on rfl rfl rfl rfl (gd_tt (by assumption)) (pur_fieldAddr0 tabOk rfl rfl rfl) rfl ?_; refine tw_on rfl rfl rfl rfl (gd_tt (by assumption)) (pur_load tabOk rfl rfl rfl (fun wz hz => Blk.cell (Blk.ext (PP.blk d_hP) hz) rfl)) rfl ?_; refine tw_on rfl rfl rfl rfl (gd_tt (by assumption)) (pur_len_slice tabOk rfl rfl) rfl ?_; clear qsc3 d_hP d_hbn d_hown d_hbr; refine tw_tail rfl ?_; refine lw_on rfl rfl rfl (gd_tt (by assumption)) ?_; refine lw_pure (pur_lss rfl rfl) rfl ?_; refine lw_pure (pur_pick_yes rfl rfl (by assumption)) rfl ?_; refine cT ?_; refine cw_yes rfl (by omega) ?_; refine cw_skip (qw_then (cw_block (cw_seq ?_))); (refine cw_tdraw (fun wz => Fr (· = c9.pb) wc1 wz) 5 (.pure 0 (.pure 1 (.pure 2 (.fork 3 (.fork 4 .tail .none) .none)))) mixed (by kernel_rfl) (panicOk_then (panicOk_block (panicOk_then (panicOk_block (panicOk_then panicOk_body))))) ?_; intro wc5 xc6 _); have qsc7 : (fun wz => Fr (· = c9.pb) wc1 wz) wc5 := Fr.of_ext xc6; simp only at qsc7; have d_hP := hP; have d_hbn := hbn; have d_hown := hown; have d_hbr := hbr; have zc8 := xc6.size; replace hP := hP.ext xc6; replace hbn := hbn.ext xc6; replace hown := hown.ext xc6; replace hbr := hbr.ext xc6; replace X := X.ext xc6; clear xc6; refine ⟨qsc7, ?_⟩; refine tw_pure rfl (pur_fieldAddr tabOk rfl rfl rfl) rfl ?_; refine tw_pure rfl (pur_load tabOk rfl rfl rfl (fun wz hz => Blk.cell (Blk.fr d_hbn hz (by omega)) rfl)) rfl ?_; refine tw_pure rfl (pur_move rfl) rfl ?_; refine tw_does rfl (does_call (by kernel_rfl) rfl ((stmts_c c9 j).stmt _ _ (by assumption) (by omega)) (fun _ _ h => h.ret)) rfl ?_ (fun _ h => h) tw_none
  rintro _ wc14 ⟨ac9, ⟨kc10, ⟨⟨⟩, ⟨hc11, ⟨hc12, fc13⟩⟩⟩⟩⟩; have zc15 := fc13.size; replace qsc7 := qsc7.fr fc13 (by omega); clear hP; replace hbn := hbn.fr fc13 (by omega); replace hown := hown.fr fc13 (by omega); replace hbr := hbr.fr fc13 (by omega); replace X := X.fr fc13 (by omega); clear fc13; refine ⟨qsc7, ?_⟩; (refine tw_does rfl (does_slice' [_, _, _, _] tabOk zOk rfl rfl rfl rfl rfl rfl rfl rfl rfl) rfl ?_ (fun _ h => h) tw_none; rintro _ wc17 ⟨bc16, rfl, nc18, tc19⟩); clear tc19; have hc20 := nc18.blk; have xc21 := nc18.ext; have pc22 := nc18.pos; have zc23 := nc18.size; clear nc18; replace hc11 := Nd.sits.ext hc11 xc21; replace hc12 := hc12.ext xc21; replace qsc7 := qsc7.ext xc21; replace hbn := hbn.ext xc21; replace hown := hown.ext xc21; replace hbr := hbr.ext xc21; replace X := X.ext xc21; clear xc21; refine ⟨qsc7, ?_⟩; clear d_hP d_hbn d_hown d_hbr qsc7; refine tw_tail rfl ?_; refine lw_appendL (sh := ndShape) tabOk zOk rfl rfl rfl rfl (by kernel_rfl) rfl rfl rfl hown (Blk.row (by assumption)) ⟨_, _, rfl, Nd.sits.wide (by assumption) (fun b h => ⟨by omega, fun e => by have := hob _ e; omega⟩)⟩ (by omega) (by omega) rfl ?_; rintro gc24 cap'c25 wc26 hc27 fc28; have zc29 := fc28.size; clear hc20 hc11; replace hc12 := hc12.fr fc28 (by omega); replace hbn := hbn.fr fc28 (by omega); clear hown; replace hbr := hbr.fr fc28 (by omega); replace X := X.fr fc28 (by omega); clear fc28; refine lw_pure (pur_fieldAddr tabOk rfl rfl rfl) rfl ?_; (refine lw_store' [_] [_, _, _, _] tabOk rfl rfl rfl rfl rfl rfl hbn rfl rfl ?_; intro wc30 nc31)
  have hc34 := nc31.blk; have fc32 := nc31.fr; have zc33 := nc31.size; clear nc31 hbn; replace hc27 := hc27.fr fc32 (by omega); replace hc12 := hc12.fr fc32 (by omega); replace hbr := hbr.fr fc32 (by omega); replace X := X.fr fc32 (by omega); clear fc32; refine cT (cw_region (cM rfl rfl ?_)); refine cC (by kernel_rfl) rfl (expect_c _ _ _ _ (by assumption) (by decide)) rfl ?_; rintro _ wc37 ⟨⟨⟩, ⟨hc35, fc36⟩⟩; have zc38 := fc36.size; replace hc34 := hc34.fr fc36 (by omega); replace hc27 := hc27.fr fc36 (by omega); clear hc12; replace hbr := hbr.fr fc36 (by omega); replace X := X.fr fc36 (by omega); clear fc36; refine lw_nil (qw_block_norm ?_); rotate_left 1
 refine qw_round (j, acc ++ [(stmtP c9.ts c9.n j σ').1], some ⟨_, 0, none⟩, _, expectP c9.ts c9.n (stmtP c9.ts c9.n j σ').2 [59]) (by (refine sub_cons rfl ?_; refine sub_cons rfl ?_; refine sub_cons rfl ?_; refine sub_cons rfl ?_; refine sub_cons rfl ?_; exact sub_nil)) ⟨by assumption, by assumption, by assumption, by assumption, X, by omega, rfl, fun e => by have := hdrop e; simp only; omega, by simp only; omega, fun e => ?_⟩ (by simp); have := hdrop e; simp only [List.length_append, List.length_cons, List.length_nil]
 omega
end Bk
namespace Bk
open Go Go.RowKit Go.Proofs
attribute [local irreducible] Go.Calls
mutual
def Nd.eqb : Nd → Nd → Bool
 | .mk k n s l, .mk k' n' s' l' => decide (k = k') && (decide (n = n') && (decide (s = s') && rowEqb l l'))
def rowEqb : List Nd → List Nd → Bool
 | [], [] => true
 | x :: r, y :: q => x.eqb y && rowEqb r q
 | [], _ :: _ => false
 | _ :: _, [] => false
end
mutual
theorem eqb_iff : ∀ t u : Nd, t.eqb u = true ↔ t = u
 | .mk k n s l, .mk k' n' s' l' => by
  unfold Nd.eqb
  simp only [Bool.and_eq_true, decide_eq_true_eq, rowEqb_iff l l', Nd.mk.injEq]
theorem rowEqb_iff : ∀ l q : List Nd, rowEqb l q = true ↔ l = q
 | [], [] => by simp [rowEqb]
 | x :: r, y :: q => by
  unfold rowEqb
  simp only [Bool.and_eq_true, eqb_iff x y, rowEqb_iff r q, List.cons.injEq]
 | [], _ :: _ => by simp [rowEqb]
 | _ :: _, [] => by simp [rowEqb]
end
theorem rowEqb_len : ∀ {l q : List Nd}, l.length ≠ q.length → rowEqb l q = false
 | [], [], h => absurd rfl h
 | x :: r, y :: q, h => by
  unfold rowEqb
  rw [rowEqb_len (by simpa using h)]; simp
 | [], _ :: _, _ => by simp [rowEqb]
 | _ :: _, [], _ => by simp [rowEqb]
theorem rowEqb_at {l q : List Nd} {j : Nat} (hj : j < l.length) (hq : j < q.length) : rowEqb (l.drop j) (q.drop j) = (l[j].eqb q[j] && rowEqb (l.drop (j + 1)) (q.drop (j + 1))) := by
 rw [List.drop_eq_getElem_cons hj, List.drop_eq_getElem_cons hq, rowEqb]
mutual
theorem rowSits_ltA {S : Nat → Prop} {w : World} : ∀ (l : List Nd) (a : Option Addr), rowSits S w l a → rowSits (· < w.heap.size) w l a
 | [], _, _ => by simp [rowSits]
 | t :: r, a, h => by
  simp only [rowSits] at h ⊢; obtain ⟨b, o, a', c, rfl, hb, h0, h1, h2, h3, hs, hr⟩ := h
  exact ⟨b, o, a', c, rfl, cell_lt h0, h0, h1, h2, h3, sits_ltA t a' hs, rowSits_ltA r _ hr⟩
theorem sits_ltA {S : Nat → Prop} {w : World} : ∀ (t : Nd) (a : Option Addr), t.sits S w a → t.sits (· < w.heap.size) w a
 | .mk _ _ _ l, a, h => by
  simp only [Nd.sits] at h ⊢
  exact rowSits_ltA l a h
end
def EqC (x y : Nd) : Prop := ∀ (S S' : Nat → Prop) (a a' : Option Addr) (c c' : Nat) (w : World), x.sits S w a → y.sits S' w a' → Calls Tryz.prog 13 #[x.val a c, y.val a' c'] w fun e w' => e = .returned (.bool (x.eqb y)) ∧ Ext w w'
set_option maxRecDepth 100000 in
set_option maxHeartbeats 1000000 in
theorem EqualFunc_b (l q : List Nd) (h : ∀ x ∈ l, ∀ y, EqC x y) (S S' : Nat → Prop) (a a' : Option Addr) (c c' : Nat) (w : World) (hl : l.length ≤ 1000000000) (hs : rowSits S w l a) (hs' : rowSits S' w q a') :
 Calls Tryz.prog 35 #[.slice a l.length c, .slice a' q.length c', .func (.func 13) #[] #[]] w fun e w' => e = .returned (.bool (rowEqb l q)) ∧ Ext w w' := by
 have X := Ext.refl w
 have H := Lib.hid h; clear h
 by_cases hne : l.length = q.length
 · refine calls_in Tryz.func35 Tryz.ntmps35 rfl rfl ?_
   focus
    refine cS (cA rfl rfl (cT (cw_seq (cS (cM rfl rfl (lw_pure (pur_len_slice tabOk rfl rfl) rfl (cM rfl rfl (lw_pure (pur_len_slice tabOk rfl rfl) rfl (lw_pure (pur_neq rfl rfl) rfl (cT ?_)))))))))); refine cw_no rfl (by omega) ?_; refine cw_skip (qw_then (cw_seq (cS (cM rfl rfl (lw_pure (pur_len_slice tabOk rfl rfl) rfl (cM rfl rfl (cT (cw_block ?_)))))))); rotate_left 1
   replace hs := rowSits_ltA _ _ hs; replace hs' := rowSits_ltA _ _ hs'; refine cw_loop (ι := Nat) (fun j => [(1, .slice a' q.length c'), (2, .func (.func 13) #[] #[]), (15, .slice a l.length c), (16, .int .i64 l.length), (17, .int .i64 j)])
    (fun j w' => j ≤ l.length ∧ rowSits (· < w.heap.size) w' l a ∧ rowSits (· < w.heap.size) w' q a' ∧ rowEqb l q = rowEqb (l.drop j) (q.drop j) ∧ Ext w w') (fun j => l.length - j) 0 (by (refine sub_cons rfl ?_; refine sub_cons rfl ?_; refine sub_cons rfl ?_; refine sub_cons rfl ?_; refine sub_cons rfl ?_; exact sub_nil)) ⟨Nat.zero_le _, hs, hs', rfl, X⟩ ?_
   clear hs hs' X; rintro j w1 ⟨hj, hs, hs', he, X⟩; have hsz := X.size
   by_cases hlt : j < l.length
   · have hlt2 : j < q.length := by omega
     obtain ⟨kb, ko, rfl, hkS, hkid⟩ := kidRows hs (by intro e; subst e; simp at hlt); obtain ⟨kb', ko', rfl, hkS', hkid'⟩ := kidRows hs' (by intro e; subst e; simp at hlt2); obtain ⟨xa, xc, rx, sx⟩ := hkid j l[j] (List.getElem?_eq_getElem hlt); obtain ⟨ya, yc, ry, sy⟩ := hkid' j q[j] (List.getElem?_eq_getElem hlt2); have HC := H.out l[j] (List.getElem_mem hlt) q[j]; rw [rowEqb_at hlt hlt2] at he
     have H2 := Lib.hid HC; clear HC hkid hkid' H
     generalize l[j] = x at *
     generalize q[j] = y at *
     focus
      refine cS (lw_pure (pur_lss rfl rfl) rfl (cT (cw_seq ?_))); refine cw_yes rfl (by omega) ?_; refine cw_skip (qw_then (cw_seq (cw_block (cS (cM rfl rfl ?_))))); refine lw_pure (pur_indexAddr tabOk rfl rfl rfl rfl (by omega) (by omega)) rfl ?_; refine lw_loads_r0 tabOk rfl rfl rfl rx rfl rfl ?_; (refine lw_alloc' [_, _, _, _] zOk rfl rfl ?_; intro ba1 wa2 na3); have ha5 := na3.blk; have xa6 := na3.ext; have pa7 := na3.pos; have za8 := na3.size; clear na3; replace X := X.ext xa6; replace hs := Bk.rowSits.ext hs xa6; replace hs' := Bk.rowSits.ext hs' xa6; replace rx := rx.ext xa6; replace sx := Nd.sits.ext sx xa6; replace ry := ry.ext xa6; replace sy := Nd.sits.ext sy xa6; clear xa6; refine cA rfl rfl ?_; (refine lw_store' [_, _, _, _] [_, _, _, _] tabOk rfl rfl rfl rfl rfl rfl ha5 rfl rfl ?_; intro wa9 na10); have ha13 := na10.blk; have fa11 := na10.fr; have za12 := na10.size; clear na10 ha5; replace X := X.fr fa11 (by omega); replace hs := Bk.rowSits.fr hs fa11 (by omega); replace hs' := Bk.rowSits.fr hs' fa11 (by omega); replace rx := Row.fr rx fa11 (by simp only; omega); replace sx := Nd.sits.fr sx fa11 (by omega); replace ry := Row.fr ry fa11 (by simp only; omega); replace sy := Nd.sits.fr sy fa11 (by omega); clear fa11; refine cN (cM rfl rfl (cM rfl rfl ?_)); refine lw_pure (pur_indexAddr tabOk rfl rfl rfl rfl (by omega) (by omega)) rfl ?_; refine lw_loads_r0 tabOk rfl rfl rfl ry rfl rfl ?_; (refine lw_alloc' [_, _, _, _] zOk rfl rfl ?_; intro ba14 wa15 na16); (refine lw_init' [_, _, _, _] tabOk rfl rfl rfl rfl rfl rfl na16 rfl ?_; clear na16; clear wa15; intro wa17 na16)
      have ha18 := na16.blk; have xa19 := na16.ext; have pa20 := na16.pos; have za21 := na16.size; clear na16; replace ha13 := ha13.ext xa19; replace X := X.ext xa19; replace hs := Bk.rowSits.ext hs xa19; replace hs' := Bk.rowSits.ext hs' xa19; replace rx := rx.ext xa19; replace sx := Nd.sits.ext sx xa19; replace ry := ry.ext xa19; replace sy := Nd.sits.ext sy xa19; clear xa19; refine cN (cM rfl rfl (lw_loads_b' [_, _, _, _] tabOk rfl rfl rfl ha13 rfl rfl rfl (lw_loads_b' [_, _, _, _] tabOk rfl rfl rfl ha18 rfl rfl rfl ?_))); refine lw_does (does_callv (fi := []) (ca := []) (by kernel_rfl) rfl rfl (H2.out _ _ _ _ _ _ _ (by assumption) (by assumption)) (fun _ _ h => ⟨_, h.1⟩)) rfl ?_ (fun _ h => h); rintro va22 wa23 ⟨⟨⟩, xa24⟩; have za25 := xa24.size; replace ha18 := ha18.ext xa24; replace ha13 := ha13.ext xa24; replace X := X.ext xa24; replace hs := Bk.rowSits.ext hs xa24; replace hs' := Bk.rowSits.ext hs' xa24; replace rx := rx.ext xa24; replace sx := Nd.sits.ext sx xa24; replace ry := ry.ext xa24; replace sy := Nd.sits.ext sy xa24; clear xa24; refine lw_pure (pur_not rfl) rfl (cT ?_); refine cw_ncond rfl (fun ca26 => ?_) (fun ca26 => ?_); refine cS (cA rfl rfl (cT (cw_ret (qw_block_ret (qw_then_ret (qw_then_ret (qw_block_ret (qw_then_ret (qw_ret1 rfl rfl ?_))))))))); rotate_left 1; refine cw_skip (qw_block_norm (qw_then (cw_region ?_))); refine lw_pure (pur_add rfl rfl (IntWalk.i64_in _ (by omega))) rfl ?_; refine cM rfl rfl (lw_nil ?_); rotate_left 1
     · exact ⟨by rw [he, ca26]; rfl, X⟩
     · rw [ca26, Bool.true_and] at he
       exact qw_round (j + 1) (by (refine sub_cons rfl ?_; refine sub_cons rfl ?_; refine sub_cons rfl ?_; refine sub_cons rfl ?_; refine sub_cons rfl ?_; exact sub_nil)) ⟨by omega, hs, hs', he, X⟩ (by omega)
   · obtain rfl : j = l.length := by omega
     rw [List.drop_length, hne, List.drop_length] at he
     focus
      refine cS (lw_pure (pur_lss rfl rfl) rfl (cT (cw_seq ?_))); refine cw_no rfl (by omega) ?_; refine cw_exit (qw_then_exit (qw_then_exit (qw_block_exit (qw_then (cS (cA rfl rfl (cT (cw_ret (qw_ret1 rfl rfl ?_))))))))); rotate_left 1
     exact ⟨by rw [he]; rfl, X⟩
 · rw [rowEqb_len hne]
   refine calls_in Tryz.func35 Tryz.ntmps35 rfl rfl ?_
   focus
    refine cS (cA rfl rfl (cT (cw_seq (cS (cM rfl rfl (lw_pure (pur_len_slice tabOk rfl rfl) rfl (cM rfl rfl (lw_pure (pur_len_slice tabOk rfl rfl) rfl (lw_pure (pur_neq rfl rfl) rfl (cT ?_)))))))))); refine cw_yes rfl (by omega) ?_; refine cS (cA rfl rfl (cT (cw_ret (qw_then_ret (qw_ret1 rfl rfl ?_))))); rotate_left 1
   exact ⟨rfl, X⟩
theorem size_memA : ∀ {l : List Nd} {x : Nd}, x ∈ l → x.size ≤ rowSize l
 | [], x, hx => by cases hx
 | t :: r, x, hx => by
  simp only [rowSize]
  rcases List.mem_cons.1 hx with rfl | hx
  · omega
  · have := size_memA hx; omega
theorem length_rowA (l : List Nd) : l.length ≤ rowSize l := by
 induction l with
 | nil => simp [rowSize]
 | cons x r ih => have : 1 ≤ x.size := by cases x; simp only [Nd.size]; omega
                  simp only [rowSize, List.length_cons]; omega
set_option maxRecDepth 100000 in
set_option maxHeartbeats 1000000 in
theorem Equal_b (N : Nat) : ∀ (t u : Nd) (S S' : Nat → Prop) (a a' : Option Addr) (c c' : Nat) (w : World), t.size < N → t.size ≤ 1000000000 → t.sits S w a → u.sits S' w a' →
 Calls Tryz.prog 13 #[t.val a c, u.val a' c'] w fun e w' => e = .returned (.bool (t.eqb u)) ∧ Ext w w' := by
 induction N with
 | zero => intro t u S S' a a' c c' w h; omega
 | succ N ih =>
  rintro ⟨k, n, s, l⟩ ⟨k', n', s', q⟩ S S' a a' c c' w hN hM hs hs'; simp only [Nd.sits] at hs hs'; simp only [Nd.size] at hN hM; have hll := length_rowA l
  have hC : ∀ x ∈ l, ∀ y, EqC x y := fun x hx y S S' a a' c c' w h1 h2 => by
   have := size_memA hx
   exact ih x y S S' a a' c c' w (by omega) (by omega) h1 h2
  have HF := Lib.hid (fun w => EqualFunc_b l q hC S S' a a' c c' w (by omega)); clear hC ih; simp only [Nd.val, Nd.kind, Nd.num, Nd.name, Nd.kids]
  unfold Nd.eqb
  have X := Ext.refl w
  by_cases hk : k = k'
  · by_cases hn : n = n'
    · by_cases hsn : s = s'
      · rw [decide_eq_true hk, decide_eq_true hn, decide_eq_true hsn, Bool.true_and, Bool.true_and, Bool.true_and]
        subst hk hn hsn; refine calls_in Tryz.func13 Tryz.ntmps13 rfl rfl ?_
        focus
         refine cS ?_; (refine lw_box' [_, _, _, _] rfl rfl rfl ?_; intro b1 w2 n3); have h4 := n3.blk; have x5 := n3.ext; have p6 := n3.pos; have z7 := n3.size; clear n3; replace hs := Bk.rowSits.ext hs x5; replace hs' := Bk.rowSits.ext hs' x5; replace X := X.ext x5; clear x5; (refine lw_box' [_, _, _, _] rfl rfl rfl ?_; intro b8 w9 n10); have h11 := n10.blk; have x12 := n10.ext; have p13 := n10.pos; have z14 := n10.size; clear n10; replace h4 := h4.ext x12; replace hs := Bk.rowSits.ext hs x12; replace hs' := Bk.rowSits.ext hs' x12; replace X := X.ext x12; clear x12; refine cA rfl rfl (cN (lw_pure (pur_fieldAddr0 tabOk rfl rfl rfl) rfl (lw_load_b tabOk rfl rfl rfl h4 rfl rfl (lw_pure (pur_fieldAddr0 tabOk rfl rfl rfl) rfl (lw_load_b tabOk rfl rfl rfl h11 rfl rfl (lw_pure (pur_eql rfl rfl) rfl (cM rfl rfl ?_))))))); refine lw_on rfl rfl rfl (gd_tt (by omega)) ?_; refine lw_pure (pur_fieldAddr tabOk rfl rfl rfl) rfl ?_; refine lw_on rfl rfl rfl (gd_tt (by omega)) ?_; refine lw_load_b tabOk rfl rfl rfl h4 rfl rfl ?_; refine lw_on rfl rfl rfl (gd_tt (by omega)) ?_; refine lw_pure (pur_fieldAddr tabOk rfl rfl rfl) rfl ?_; refine lw_on rfl rfl rfl (gd_tt (by omega)) ?_; refine lw_load_b tabOk rfl rfl rfl h11 rfl rfl ?_; refine lw_on rfl rfl rfl (gd_tt (by omega)) ?_; refine lw_pure (pur_eql rfl rfl) rfl ?_; refine lw_pure (pur_pick_yes rfl rfl (by omega)) rfl ?_; refine cM rfl rfl ?_; refine lw_on rfl rfl rfl (gd_tt (by omega)) ?_; refine lw_pure (pur_fieldAddr tabOk rfl rfl rfl) rfl ?_
         refine lw_on rfl rfl rfl (gd_tt (by omega)) ?_; refine lw_load_b tabOk rfl rfl rfl h4 rfl rfl ?_; refine lw_on rfl rfl rfl (gd_tt (by omega)) ?_; refine lw_pure (pur_fieldAddr tabOk rfl rfl rfl) rfl ?_; refine lw_on rfl rfl rfl (gd_tt (by omega)) ?_; refine lw_load_b tabOk rfl rfl rfl h11 rfl rfl ?_; refine lw_on rfl rfl rfl (gd_tt (by omega)) ?_; refine lw_pure (pur_seql rfl rfl) rfl ?_; refine lw_pure (pur_pick_yes rfl rfl (by omega)) rfl ?_; refine cM rfl rfl (lw_on rfl rfl rfl (gd_tt (rfl)) (lw_pure (pur_fieldAddr tabOk rfl rfl rfl) rfl (lw_on rfl rfl rfl (gd_tt (rfl)) (lw_load_b tabOk rfl rfl rfl h4 rfl rfl (lw_on rfl rfl rfl (gd_tt (rfl)) (lw_pure (pur_fieldAddr tabOk rfl rfl rfl) rfl (lw_on rfl rfl rfl (gd_tt (rfl)) (lw_load_b tabOk rfl rfl rfl h11 rfl rfl (lw_on rfl rfl rfl (gd_tt (rfl)) ?_))))))))); refine cC (by kernel_rfl) rfl (HF.out _ (by assumption) (by assumption)) rfl ?_; rintro _ w16 ⟨⟨⟩, x15⟩; have z17 := x15.size; replace h11 := h11.ext x15; replace h4 := h4.ext x15; replace hs := Bk.rowSits.ext hs x15; replace hs' := Bk.rowSits.ext hs' x15; replace X := X.ext x15; clear x15; refine lw_pure (pur_pick_yes rfl rfl (rfl)) rfl (cA rfl rfl (cT (cw_ret (qw_ret1 rfl rfl ?_)))); rotate_left 1
        exact ⟨rfl, X⟩
      · rw [decide_eq_true hk, decide_eq_true hn, decide_eq_false hsn, Bool.true_and, Bool.true_and, Bool.false_and]
        subst hk hn; refine calls_in Tryz.func13 Tryz.ntmps13 rfl rfl ?_
        focus
         refine cS ?_; (refine lw_box' [_, _, _, _] rfl rfl rfl ?_; intro ba1 wa2 na3); have ha4 := na3.blk; have xa5 := na3.ext; have pa6 := na3.pos; have za7 := na3.size; clear na3; replace hs := Bk.rowSits.ext hs xa5; replace hs' := Bk.rowSits.ext hs' xa5; replace X := X.ext xa5; clear xa5; (refine lw_box' [_, _, _, _] rfl rfl rfl ?_; intro ba8 wa9 na10); have ha11 := na10.blk; have xa12 := na10.ext; have pa13 := na10.pos; have za14 := na10.size; clear na10; replace ha4 := ha4.ext xa12; replace hs := Bk.rowSits.ext hs xa12; replace hs' := Bk.rowSits.ext hs' xa12; replace X := X.ext xa12; clear xa12; refine cA rfl rfl (cN (lw_pure (pur_fieldAddr0 tabOk rfl rfl rfl) rfl (lw_load_b tabOk rfl rfl rfl ha4 rfl rfl (lw_pure (pur_fieldAddr0 tabOk rfl rfl rfl) rfl (lw_load_b tabOk rfl rfl rfl ha11 rfl rfl (lw_pure (pur_eql rfl rfl) rfl (cM rfl rfl ?_))))))); refine lw_on rfl rfl rfl (gd_tt (by omega)) ?_; refine lw_pure (pur_fieldAddr tabOk rfl rfl rfl) rfl ?_; refine lw_on rfl rfl rfl (gd_tt (by omega)) ?_; refine lw_load_b tabOk rfl rfl rfl ha4 rfl rfl ?_; refine lw_on rfl rfl rfl (gd_tt (by omega)) ?_; refine lw_pure (pur_fieldAddr tabOk rfl rfl rfl) rfl ?_; refine lw_on rfl rfl rfl (gd_tt (by omega)) ?_; refine lw_load_b tabOk rfl rfl rfl ha11 rfl rfl ?_; refine lw_on rfl rfl rfl (gd_tt (by omega)) ?_; refine lw_pure (pur_eql rfl rfl) rfl ?_; refine lw_pure (pur_pick_yes rfl rfl (by omega)) rfl ?_; refine cM rfl rfl ?_; refine lw_on rfl rfl rfl (gd_tt (by omega)) ?_; refine lw_pure (pur_fieldAddr tabOk rfl rfl rfl) rfl ?_
         refine lw_on rfl rfl rfl (gd_tt (by omega)) ?_; refine lw_load_b tabOk rfl rfl rfl ha4 rfl rfl ?_; refine lw_on rfl rfl rfl (gd_tt (by omega)) ?_; refine lw_pure (pur_fieldAddr tabOk rfl rfl rfl) rfl ?_; refine lw_on rfl rfl rfl (gd_tt (by omega)) ?_; refine lw_load_b tabOk rfl rfl rfl ha11 rfl rfl ?_; refine lw_on rfl rfl rfl (gd_tt (by omega)) ?_; refine lw_pure (pur_seql rfl rfl) rfl ?_; refine lw_pure (pur_pick_yes rfl rfl (by omega)) rfl ?_; refine cM rfl rfl ?_; refine lw_off rfl rfl rfl (gd_tf (by assumption)) rfl ?_; refine lw_off rfl rfl rfl (gd_tf (by assumption)) rfl ?_; refine lw_off rfl rfl rfl (gd_tf (by assumption)) rfl ?_; refine lw_off rfl rfl rfl (gd_tf (by assumption)) rfl ?_; refine lw_off rfl rfl rfl (gd_tf (by assumption)) rfl ?_; refine lw_pure (pur_pick_no rfl rfl (by assumption)) rfl ?_; refine cA rfl rfl (cT (cw_ret (qw_ret1 rfl rfl ?_))); rotate_left 1
        exact ⟨rfl, X⟩
    · rw [decide_eq_true hk, decide_eq_false hn, Bool.true_and, Bool.false_and]
      subst hk; refine calls_in Tryz.func13 Tryz.ntmps13 rfl rfl ?_
      focus
       refine cS ?_; (refine lw_box' [_, _, _, _] rfl rfl rfl ?_; intro bb1 wb2 nb3); have hb4 := nb3.blk; have xb5 := nb3.ext; have pb6 := nb3.pos; have zb7 := nb3.size; clear nb3; replace hs := Bk.rowSits.ext hs xb5; replace hs' := Bk.rowSits.ext hs' xb5; replace X := X.ext xb5; clear xb5; (refine lw_box' [_, _, _, _] rfl rfl rfl ?_; intro bb8 wb9 nb10); have hb11 := nb10.blk; have xb12 := nb10.ext; have pb13 := nb10.pos; have zb14 := nb10.size; clear nb10; replace hb4 := hb4.ext xb12; replace hs := Bk.rowSits.ext hs xb12; replace hs' := Bk.rowSits.ext hs' xb12; replace X := X.ext xb12; clear xb12; refine cA rfl rfl (cN (lw_pure (pur_fieldAddr0 tabOk rfl rfl rfl) rfl (lw_load_b tabOk rfl rfl rfl hb4 rfl rfl (lw_pure (pur_fieldAddr0 tabOk rfl rfl rfl) rfl (lw_load_b tabOk rfl rfl rfl hb11 rfl rfl (lw_pure (pur_eql rfl rfl) rfl (cM rfl rfl ?_))))))); refine lw_on rfl rfl rfl (gd_tt (by omega)) ?_; refine lw_pure (pur_fieldAddr tabOk rfl rfl rfl) rfl ?_; refine lw_on rfl rfl rfl (gd_tt (by omega)) ?_; refine lw_load_b tabOk rfl rfl rfl hb4 rfl rfl ?_; refine lw_on rfl rfl rfl (gd_tt (by omega)) ?_; refine lw_pure (pur_fieldAddr tabOk rfl rfl rfl) rfl ?_; refine lw_on rfl rfl rfl (gd_tt (by omega)) ?_; refine lw_load_b tabOk rfl rfl rfl hb11 rfl rfl ?_; refine lw_on rfl rfl rfl (gd_tt (by omega)) ?_; refine lw_pure (pur_eql rfl rfl) rfl ?_; refine lw_pure (pur_pick_yes rfl rfl (by omega)) rfl ?_; refine cM rfl rfl ?_; refine lw_off rfl rfl rfl (gd_tf (by assumption)) rfl ?_; refine lw_off rfl rfl rfl (gd_tf (by assumption)) rfl ?_
       refine lw_off rfl rfl rfl (gd_tf (by assumption)) rfl ?_; refine lw_off rfl rfl rfl (gd_tf (by assumption)) rfl ?_; refine lw_off rfl rfl rfl (gd_tf (by assumption)) rfl ?_; refine lw_pure (pur_pick_no rfl rfl (by assumption)) rfl ?_; refine cM rfl rfl (lw_off rfl rfl rfl (rfl) rfl (lw_off rfl rfl rfl (rfl) rfl (lw_off rfl rfl rfl (rfl) rfl (lw_off rfl rfl rfl (rfl) rfl (lw_off rfl rfl rfl (rfl) rfl (lw_pure (pur_pick_f rfl rfl rfl) rfl (cA rfl rfl (cT (cw_ret (qw_ret1 rfl rfl ?_)))))))))); rotate_left 1
      exact ⟨rfl, X⟩
  · rw [decide_eq_false hk, Bool.false_and]
    refine calls_in Tryz.func13 Tryz.ntmps13 rfl rfl ?_
    focus
     refine cS ?_; (refine lw_box' [_, _, _, _] rfl rfl rfl ?_; intro bc1 wc2 nc3); have hc4 := nc3.blk; have xc5 := nc3.ext; have pc6 := nc3.pos; have zc7 := nc3.size; clear nc3; replace hs := Bk.rowSits.ext hs xc5; replace hs' := Bk.rowSits.ext hs' xc5; replace X := X.ext xc5; clear xc5; (refine lw_box' [_, _, _, _] rfl rfl rfl ?_; intro bc8 wc9 nc10); have hc11 := nc10.blk; have xc12 := nc10.ext; have pc13 := nc10.pos; have zc14 := nc10.size; clear nc10; replace hc4 := hc4.ext xc12; replace hs := Bk.rowSits.ext hs xc12; replace hs' := Bk.rowSits.ext hs' xc12; replace X := X.ext xc12; clear xc12; refine cA rfl rfl (cN (lw_pure (pur_fieldAddr0 tabOk rfl rfl rfl) rfl (lw_load_b tabOk rfl rfl rfl hc4 rfl rfl (lw_pure (pur_fieldAddr0 tabOk rfl rfl rfl) rfl (lw_load_b tabOk rfl rfl rfl hc11 rfl rfl (lw_pure (pur_eql rfl rfl) rfl (cM rfl rfl ?_))))))); refine lw_off rfl rfl rfl (gd_tf (by assumption)) rfl ?_; refine lw_off rfl rfl rfl (gd_tf (by assumption)) rfl ?_; refine lw_off rfl rfl rfl (gd_tf (by assumption)) rfl ?_; refine lw_off rfl rfl rfl (gd_tf (by assumption)) rfl ?_; refine lw_off rfl rfl rfl (gd_tf (by assumption)) rfl ?_; refine lw_pure (pur_pick_no rfl rfl (by assumption)) rfl ?_; refine cM rfl rfl (lw_off rfl rfl rfl (rfl) rfl (lw_off rfl rfl rfl (rfl) rfl (lw_off rfl rfl rfl (rfl) rfl (lw_off rfl rfl rfl (rfl) rfl (lw_off rfl rfl rfl (rfl) rfl (lw_pure (pur_pick_f rfl rfl rfl) rfl (cM rfl rfl (lw_off rfl rfl rfl (rfl) rfl (lw_off rfl rfl rfl (rfl) rfl (lw_off rfl rfl rfl (rfl) rfl (lw_off rfl rfl rfl (rfl) rfl ?_)))))))))))
     refine lw_off rfl rfl rfl (rfl) rfl (lw_pure (pur_pick_f rfl rfl rfl) rfl (cA rfl rfl (cT (cw_ret (qw_ret1 rfl rfl ?_))))); rotate_left 1
    exact ⟨rfl, X⟩
end Bk
namespace Bk
open Go
def pre (acc : List Tok) (r : List Tok × Option Nat) : List Tok × Option Nat := match r.2 with
 | none => (acc ++ r.1, none)
 | some p => ([], some p)
theorem pre_pre (a b : List Tok) (r : List Tok × Option Nat) : pre a (pre b r) = pre (a ++ b) r := by
 rcases r with ⟨l, _ | p⟩ <;> simp [pre]
theorem lexGo_acc (s : List UInt8) : ∀ (k p : Nat) (acc : List Tok), lexGo k s p acc = pre acc (lexGo k s p [])
 | 0, p, acc => by simp [lexGo, pre]
 | k + 1, p, acc => by
  rw [lexGo, lexGo]
  split
  · split
    · simp [pre]
    · rw [lexGo_acc s k _ (acc ++ _), lexGo_acc s k _ ([] ++ _), pre_pre]
      simp
  · simp [pre]
theorem lexGo_fuel (s : List UInt8) : ∀ (k k' p : Nat) (acc : List Tok), s.length - p < k → s.length - p < k' → lexGo k s p acc = lexGo k' s p acc
 | 0, _, _, _, h, _ => by omega
 | _, 0, _, _, _, h => by omega
 | k + 1, k' + 1, p, acc, h, h' => by
  rw [lexGo, lexGo]
  split
  · split
    · rfl
    · exact lexGo_fuel s k k' _ _ (by omega) (by omega)
  · rfl
def lexFrom (s : List UInt8) (p : Nat) : List Tok × Option Nat := lexGo (s.length + 1) s p []
def tokAt (s : List UInt8) (p : Nat) : Tok := ⟨((firstTok (s.drop p)).1 : Nat), (s.drop p).take (firstTok (s.drop p)).2, (p : Int)⟩
theorem lexFrom_end {s : List UInt8} {p : Nat} (h : s.length ≤ p) : lexFrom s p = ([], none) := by
 unfold lexFrom; rw [lexGo, if_neg (by omega)]
theorem lexFrom_err {s : List UInt8} {p : Nat} (h : p < s.length) (h0 : (firstTok (s.drop p)).2 = 0) : lexFrom s p = ([], some p) := by
 unfold lexFrom; rw [lexGo, if_pos h, if_pos h0]
theorem lexFrom_step {s : List UInt8} {p : Nat} (h : p < s.length) (h0 : (firstTok (s.drop p)).2 ≠ 0) : lexFrom s p = pre [tokAt s p] (lexFrom s (p + (firstTok (s.drop p)).2)) := by
 unfold lexFrom
 rw [lexGo, if_pos h, if_neg h0, lexGo_acc]; rw [lexGo_fuel s s.length (s.length + 1) _ _ (by omega) (by omega)]
 rfl
def solidR (r : List Tok × Option Nat) : List Tok × Option Nat := match r.2 with
 | none => (solidT r.1, none)
 | some p => ([], some p)
def solidFrom (s : List UInt8) (p : Nat) : List Tok × Option Nat := solidR (lexFrom s p)
theorem solidR_pre (t : Tok) (r : List Tok × Option Nat) : solidR (pre [t] r) = if t.kind ≠ 4 ∧ t.kind ≠ 5 then pre [t] (solidR r) else solidR r := by
 rcases r with ⟨l, _ | p⟩
 · by_cases h : t.kind ≠ 4 ∧ t.kind ≠ 5
   · simp [pre, solidR, solidT, List.filter_cons, h]
   · rw [if_neg h]
     have : (decide (t.kind ≠ 4) && decide (t.kind ≠ 5)) = false := by
      simp only [Bool.and_eq_false_iff, decide_eq_false_iff_not]; omega
     simp only [pre, solidR, solidT, List.singleton_append, List.filter_cons, this]
     simp
 · simp [pre, solidR]
theorem solidFrom_end {s : List UInt8} {p : Nat} (h : s.length ≤ p) : solidFrom s p = ([], none) := by
 unfold solidFrom; rw [lexFrom_end h]; rfl
theorem solidFrom_err {s : List UInt8} {p : Nat} (h : p < s.length) (h0 : (firstTok (s.drop p)).2 = 0) : solidFrom s p = ([], some p) := by
 unfold solidFrom; rw [lexFrom_err h h0]; rfl
theorem solidFrom_tok {s : List UInt8} {p : Nat} (h : p < s.length) (h0 : (firstTok (s.drop p)).2 ≠ 0) (h4 : (firstTok (s.drop p)).1 ≠ 4) (h5 : (firstTok (s.drop p)).1 ≠ 5) :
 solidFrom s p = pre [tokAt s p] (solidFrom s (p + (firstTok (s.drop p)).2)) := by
 unfold solidFrom; rw [lexFrom_step h h0, solidR_pre, if_pos]
 constructor <;> simp only [tokAt] <;> omega
theorem solidFrom_skip {s : List UInt8} {p : Nat} (h : p < s.length) (h0 : (firstTok (s.drop p)).2 ≠ 0) (h4 : (firstTok (s.drop p)).1 = 4 ∨ (firstTok (s.drop p)).1 = 5) :
 solidFrom s p = solidFrom s (p + (firstTok (s.drop p)).2) := by
 unfold solidFrom; rw [lexFrom_step h h0, solidR_pre, if_neg]
 simp only [tokAt]; omega
theorem drop_at {s : List UInt8} {p : Nat} (h : p < s.length) : s.drop p = s[p] :: s.drop (p + 1) := List.drop_eq_getElem_cons h
theorem blank_parts {c : UInt8} (h : blank c = true) : letter c = false ∧ digit c = false ∧ c ≠ 35 := by
 simp only [blank, Bool.or_eq_true, decide_eq_true_eq] at h; refine ⟨?_, ?_, ?_⟩
 · simp only [letter, Bool.and_eq_false_iff, decide_eq_false_iff_not]; omega
 · simp only [digit, Bool.and_eq_false_iff, decide_eq_false_iff_not]; omega
 · rintro rfl; exact absurd h (by decide)
theorem firstTok_blank {c : UInt8} {r : List UInt8} (h : blank c = true) : firstTok (c :: r) = (4, 1 + span blank r) := by
 obtain ⟨h1, h2, -⟩ := blank_parts h
 simp [firstTok, h, h1, h2, span, List.takeWhile_cons]; omega
theorem firstTok_hash {r : List UInt8} : firstTok (35 :: r) = (5, 1 + span notLf r) := by
 have h1 : letter 35 = false := by decide
 have h2 : digit 35 = false := by decide
 have h3 : blank 35 = false := by decide
 have h4 : notLf 35 = true := by decide
 simp [firstTok, h1, h2, h3, h4, span, List.takeWhile_cons]; omega
theorem span_zero {p : UInt8 → Bool} {s : List UInt8} (h : ∀ c ∈ s.head?, p c = false) : span p s = 0 := by
 cases s with
 | nil => rfl
 | cons c r => simp [span, List.takeWhile_cons, h c (by simp)]
theorem solidFrom_blank {s : List UInt8} {p : Nat} (h : p < s.length) (hb : blank s[p] = true) : solidFrom s p = solidFrom s (p + 1) := by
 have e : firstTok (s.drop p) = (4, 1 + span blank (s.drop (p + 1))) := by rw [drop_at h]; exact firstTok_blank hb
 rw [solidFrom_skip h (by rw [e]; simp) (by rw [e]; simp), e]
 by_cases h1 : p + 1 < s.length
 · by_cases h2 : blank s[p + 1] = true
   · have e2 : firstTok (s.drop (p + 1)) = (4, 1 + span blank (s.drop (p + 1 + 1))) := by rw [drop_at h1]; exact firstTok_blank h2
     rw [solidFrom_skip h1 (by rw [e2]; simp) (by rw [e2]; simp), e2]
     have : span blank (s.drop (p + 1)) = 1 + span blank (s.drop (p + 1 + 1)) := by
      rw [drop_at h1]; simp only [span, List.takeWhile_cons, h2, if_true, List.length_cons]; omega
     rw [this]
     congr 1; omega
   · rw [span_zero (s := s.drop (p + 1))]
     rw [drop_at h1]; intro c hc; simp only [List.head?_cons, Option.mem_def, Option.some.injEq] at hc; rw [← hc]; simpa using h2
 · rw [span_zero (s := s.drop (p + 1))]
   rw [List.drop_eq_nil_of_le (by omega)]; simp
def signsL : List (List UInt8) := [[60, 61, 62], [58, 61], [43, 61], [45, 61], [94, 61], [61, 61], [33, 61], [60, 61], [62, 61], [38, 38], [124, 124], [43], [45], [42], [47], [37], [38], [124], [94], [33], [61], [60], [62], [40], [41], [123], [125], [91], [93], [59], [44]]
def pickLen (L : List (List UInt8)) (s : List UInt8) : Nat := ((L.find? (·.isPrefixOf s)).map List.length).getD 0
end Bk
namespace Bk
open Go
def Tok.sh (d : Nat) (t : Tok) : Tok := ⟨t.kind, t.text, t.pos + d⟩
def shR (d : Nat) (r : List Tok × Option Nat) : List Tok × Option Nat := (r.1.map (Tok.sh d), r.2.map (· + d))
theorem shR_pre (d : Nat) (t : Tok) (r : List Tok × Option Nat) : shR d (pre [t] r) = pre [t.sh d] (shR d r) := by
 obtain ⟨l, e⟩ := r
 cases e <;> simp [shR, pre]
theorem shR_0 (r : List Tok × Option Nat) : shR 0 r = r := by
 obtain ⟨l, e⟩ := r
 have : l.map (Tok.sh 0) = l := by
  conv => rhs; rw [← List.map_id l]
  congr 1
  funext t; cases t; simp [Tok.sh]
 cases e <;> simp [shR, this]
theorem shR_add (a b : Nat) (r : List Tok × Option Nat) : shR a (shR b r) = shR (b + a) r := by
 obtain ⟨l, e⟩ := r
 cases e <;> simp [shR, Tok.sh, Int.add_assoc, Nat.add_assoc]
theorem drop_shift (a u : List UInt8) (p : Nat) : (a ++ u).drop (a.length + p) = u.drop p := by
 rw [List.drop_append]; simp
theorem solidFrom_shift (a u : List UInt8) : ∀ (m p : Nat), u.length - p ≤ m → solidFrom (a ++ u) (a.length + p) = shR a.length (solidFrom u p) := by
 intro m
 induction m with
 | zero =>
  intro p h
  rw [solidFrom_end (by simp; omega), solidFrom_end (by omega)]; rfl
 | succ m ih =>
  intro p h
  by_cases hp : p < u.length
  · have hl : a.length + p < (a ++ u).length := by simp; omega
    have hd := drop_shift a u p
    by_cases h0 : (firstTok (u.drop p)).2 = 0
    · rw [solidFrom_err hl (by rw [hd]; exact h0), solidFrom_err hp h0]
      simp [shR, Nat.add_comm]
    · have hi := ih (p + (firstTok (u.drop p)).2) (by omega)
      by_cases h4 : (firstTok (u.drop p)).1 = 4 ∨ (firstTok (u.drop p)).1 = 5
      · rw [solidFrom_skip hl (by rw [hd]; exact h0) (by rw [hd]; exact h4), solidFrom_skip hp h0 h4, hd, Nat.add_assoc]
        exact hi
      · have h4' : (firstTok (u.drop p)).1 ≠ 4 ∧ (firstTok (u.drop p)).1 ≠ 5 := ⟨fun e => h4 (Or.inl e), fun e => h4 (Or.inr e)⟩
        rw [solidFrom_tok hl (by rw [hd]; exact h0) (by rw [hd]; exact h4'.1) (by rw [hd]; exact h4'.2), solidFrom_tok hp h0 h4'.1 h4'.2, hd, Nat.add_assoc, hi, shR_pre]
        congr 2
        unfold tokAt Tok.sh
        rw [hd]
        simp [Int.add_comm]
  · rw [solidFrom_end (by simp; omega), solidFrom_end (by omega)]; rfl
theorem solidFrom_cons (c : UInt8) (u : List UInt8) (p : Nat) : solidFrom (c :: u) (1 + p) = shR 1 (solidFrom u p) := solidFrom_shift [c] u _ p (Nat.le_refl _)
def sepC (c : UInt8) : Prop := blank c = true ∨ c = 35
theorem sep_not {c : UInt8} (h : sepC c) : wordish c = false ∧ digit c = false ∧ singles.contains c = false ∧ c ≠ 58 ∧ c ≠ 61 ∧ c ≠ 62 ∧ c ≠ 38 ∧ c ≠ 124 := by
 rcases h with h | rfl
 · have : c.toNat = 32 ∨ c.toNat = 9 ∨ c.toNat = 13 ∨ c.toNat = 10 := by
    simp only [blank, Bool.or_eq_true, decide_eq_true_eq] at h; omega
   have : c = 32 ∨ c = 9 ∨ c = 13 ∨ c = 10 := by
    rcases this with h | h | h | h
    · exact Or.inl (UInt8.toNat_inj.1 h)
    · exact Or.inr (Or.inl (UInt8.toNat_inj.1 h))
    · exact Or.inr (Or.inr (Or.inl (UInt8.toNat_inj.1 h)))
    · exact Or.inr (Or.inr (Or.inr (UInt8.toNat_inj.1 h)))
   rcases this with rfl | rfl | rfl | rfl <;> decide
 · decide
theorem span_sep {p : UInt8 → Bool} {c : UInt8} (h : p c = false) (r u : List UInt8) : span p (r ++ c :: u) = span p r := by
 unfold span
 induction r with
 | nil => simp [h]
 | cons x r ih =>
  simp only [List.cons_append, List.takeWhile_cons]
  split
  · simp [ih]
  · rfl
theorem pairs_second {c d : UInt8} (h : pairs.contains [c, d] = true) : d = 61 ∨ d = 38 ∨ d = 124 := by
 simp only [pairs, List.contains_cons, List.contains_nil, Bool.or_false, Bool.or_eq_true, beq_iff_eq, List.cons.injEq, and_true] at h
 rcases h with ⟨_, rfl⟩ | ⟨_, rfl⟩ | ⟨_, rfl⟩ | ⟨_, rfl⟩ | ⟨_, rfl⟩ | ⟨_, rfl⟩ | ⟨_, rfl⟩ | ⟨_, rfl⟩ | ⟨_, rfl⟩ | ⟨_, rfl⟩ <;> simp
end Bk
namespace Bk
open Go
theorem startOk {s : List UInt8} (h : ¬ 65536 < s.length) (h1 : (solidFrom s 0).2 = none) : startP s = ((solidFrom s 0).1, ⟨0, 0, 0⟩) := by
 unfold solidFrom lexFrom at *
 unfold startP lexT
 rw [if_neg h]
 generalize lexGo (s.length + 1) s 0 [] = r at *
 obtain ⟨l, e⟩ := r
 cases e with
 | none => rfl
 | some q => simp [solidR] at h1
theorem pairs_one (c : UInt8) : pairs.contains [c] = false := by
 cases hh : pairs.contains [c]
 · rfl
 · simp [pairs] at hh
structure CutAt (s : List UInt8) (p : Nat) (l : List Tok) (i : Nat) (q : Nat) : Prop where
 pos : (l.getD i Tok.zero).pos = (q : Int)
 le : p ≤ q
 ne : (l.getD i Tok.zero).text ≠ []
 text : (l.getD i Tok.zero).text = (s.drop q).take (l.getD i Tok.zero).text.length
 first : firstTok (s.drop q) = ((l.getD i Tok.zero).kind.toNat, (l.getD i Tok.zero).text.length)
 kind : (l.getD i Tok.zero).kind = (((firstTok (s.drop q)).1 : Nat) : Int)
 solid : (firstTok (s.drop q)).1 ≠ 4 ∧ (firstTok (s.drop q)).1 ≠ 5
 len : q + (l.getD i Tok.zero).text.length ≤ s.length
 before : solidFrom (s.take q) p = (l.take i, none)
 behind : solidFrom (s.take (q + (l.getD i Tok.zero).text.length)) p = (l.take (i + 1), none)
end Bk
namespace Bk
open Go
abbrev Txt := List (List UInt8)
inductive Nt where
 | ex (lv : Int) : Nt
 | cl (lv : Int) (x : Nd) : Nt
 | un : Nt
 | pl : Nt
def StopL (lv : Int) (b : Txt) : Prop := ∀ t ∈ b.head?, ∀ op, binOf t = some op → level op < lv
def NoBr (b : Txt) : Prop := ∀ t ∈ b.head?, t ≠ [91]
inductive G : Nt → Txt → Nd → Prop where
 | ex {lv : Int} {a b : Txt} {x y : Nd} : G .un a x → G (.cl lv x) b y → G (.ex lv) (a ++ b) y
 | cl0 {lv : Int} {x : Nd} : G (.cl lv x) [] x
 | cl1 {lv op : Int} {t : List UInt8} {a b : Txt} {x y z : Nd} : binOf t = some op → lv ≤ level op → G (.ex (level op + 1)) a y → StopL (level op + 1) b → G (.cl lv (.mk op 0 [] [x, y])) b z → G (.cl lv x) (t :: (a ++ b)) z
 | neg {a : Txt} {x : Nd} : G .un a x → G .un ([45] :: a) (.mk 6 0 [] [x])
 | not {a : Txt} {x : Nd} : G .un a x → G .un ([33] :: a) (.mk 7 0 [] [x])
 | num {t : List UInt8} : startsDigit t = true → (digitsVal t : Int) ≤ 9223372036854775807 → G .un [t] (.mk 1 (digitsVal t) [] [])
 | top {m : List UInt8} : isName m = true → G .un [[116, 111, 112], [40], m, [41]] (.mk 4 0 m [])
 | size {m : List UInt8} : isName m = true → G .un [[115, 105, 122, 101], [40], m, [41]] (.mk 5 0 m [])
 | par {a : Txt} {x : Nd} : G (.ex 1) a x → G .un ([40] :: (a ++ [[41]])) x
 | place {a : Txt} {x : Nd} : G .pl a x → G .un a x
 | var {m : List UInt8} : isName m = true → G .pl [m] (.mk 2 0 m [])
 | item {m : List UInt8} {a : Txt} {x : Nd} : isName m = true → G (.ex 1) a x → G .pl (m :: [91] :: (a ++ [[93]])) (.mk 3 0 m [x])
section
variable {ts : List Tok} {n : Int}
def txt (ts : List Tok) : Txt := ts.map Tok.text
def adv (σ : PS) (k : Nat) : PS := ⟨σ.at_ + k, σ.off, σ.err⟩
theorem adv_adv (σ : PS) (a b : Nat) : adv (adv σ a) b = adv σ (a + b) := by simp [adv, Nat.add_assoc]
theorem next_adv (σ : PS) : nextP σ = adv σ 1 := rfl
def rem (ts : List Tok) (σ : PS) : Txt := (txt ts).drop σ.at_
theorem rem_len (σ : PS) : (rem ts σ).length = ts.length - σ.at_ := by simp [rem, txt]
theorem rem_adv {σ : PS} {a b : Txt} (h : rem ts σ = a ++ b) : rem ts (adv σ a.length) = b := by
 unfold rem adv at *
 simp only; rw [← List.drop_drop, h]
 simp
theorem rem_cons {σ : PS} {t : List UInt8} {b : Txt} (h : rem ts σ = t :: b) : rem ts (adv σ 1) = b := rem_adv (a := [t]) h
theorem rem_lt {σ : PS} {t : List UInt8} {b : Txt} (h : rem ts σ = t :: b) : σ.at_ < ts.length := by
 have := rem_len (ts := ts) σ; rw [h] at this
 simp at this
 omega
theorem peek_cons {σ : PS} {t : List UInt8} {b : Txt} (h : rem ts σ = t :: b) (he : σ.err = 0) : (peekP ts σ).text = t := by
 have hl := rem_lt h
 unfold peekP
 rw [if_neg (by rintro (h | h); exact h he; omega)]
 unfold rem txt at h
 rw [List.drop_eq_getElem_cons (by simpa using hl)] at h; simp only [List.getElem_map, List.cons.injEq] at h; rw [List.getD_eq_getElem?_getD, List.getElem?_eq_getElem hl]
 exact h.1
theorem peek_nil {σ : PS} (hw : σ.at_ ≤ ts.length) (h : rem ts σ = []) : (peekP ts σ).text = [] := by
 have := rem_len (ts := ts) σ; rw [h] at this
 rw [peek_end (by simp at this; omega)]; rfl
theorem peek_rem {σ : PS} (hw : σ.at_ ≤ ts.length) (he : σ.err = 0) : (peekP ts σ).text = ((rem ts σ).head?).getD [] := by
 cases h : rem ts σ with
 | nil => rw [peek_nil hw h]; rfl
 | cons t b => rw [peek_cons h he]; rfl
theorem has_cons {σ : PS} {t u : List UInt8} {b : Txt} (h : rem ts σ = t :: b) (he : σ.err = 0) : hasP ts σ u = decide (t = u) := by unfold hasP; rw [peek_cons h he]
theorem peek_mem {σ : PS} (hl : σ.at_ < ts.length) (he : σ.err = 0) : peekP ts σ ∈ ts := by
 unfold peekP
 rw [if_neg (by rintro (h | h); exact h he; omega), List.getD_eq_getElem?_getD, List.getElem?_eq_getElem hl]
 exact List.getElem_mem hl
theorem kind_dig (hd : DigitKinds ts) {σ : PS} {t : List UInt8} {b : Txt} (h : rem ts σ = t :: b) (he : σ.err = 0) : (peekP ts σ).kind = 2 ↔ startsDigit t = true := by
 rw [← peek_cons h he]
 exact hd _ (peek_mem (rem_lt h) he)
theorem expect_cons {σ : PS} {t : List UInt8} {b : Txt} (h : rem ts σ = t :: b) (he : σ.err = 0) : expectP ts n σ t = adv σ 1 := by unfold expectP; rw [has_cons h he]; simp [next_adv]
theorem name_cons {σ : PS} {t : List UInt8} {b : Txt} (h : rem ts σ = t :: b) (he : σ.err = 0) (ht : isName t = true) : nameP ts n σ = (t, adv σ 1) := by unfold nameP; rw [peek_cons h he, if_pos ht]; rfl
end
theorem name_not {m : List UInt8} (h : isName m = true) : m ≠ [45] ∧ m ≠ [33] ∧ m ≠ [40] ∧ m ≠ [116, 111, 112] ∧ m ≠ [115, 105, 122, 101] ∧ startsDigit m = false := by
 refine ⟨?_, ?_, ?_, ?_, ?_, ?_⟩
 · rintro rfl; revert h; decide
 · rintro rfl; revert h; decide
 · rintro rfl; revert h; decide
 · rintro rfl; revert h; decide
 · rintro rfl; revert h; decide
 · cases m with
   | nil => rfl
   | cons c r =>
    have hk : (firstTok (c :: r)).1 = 1 := by
     simp only [isName, Bool.and_eq_true, beq_iff_eq] at h
     exact h.1.1.2
    cases hd : startsDigit (c :: r)
    · rfl
    · exfalso
      have hdg : digit c = true := by simpa [startsDigit] using hd
      have hl : letter c = false := by
       cases hl : letter c
       · rfl
       · simp only [letter, digit, Bool.and_eq_true, decide_eq_true_eq] at hl hdg; omega
      simp [firstTok, hl, hdg] at hk
theorem G.head {nt : Nt} {a : Txt} {x : Nd} (h : G nt a x) : match nt with
 | .cl lv _ => ∀ t r, a = t :: r → ∃ op, binOf t = some op ∧ lv ≤ level op
 | _ => a ≠ [] := by
 induction h with
 | ex _ _ i1 _ => simp only at *; intro h; exact i1 (List.append_eq_nil_iff.1 h).1
 | cl0 => intro t r h; cases h
 | cl1 h1 h2 => intro t r h; simp only [List.cons.injEq] at h; obtain ⟨rfl, -⟩ := h; exact ⟨_, h1, h2⟩
 | neg => simp
 | not => simp
 | num => simp
 | top => simp
 | size => simp
 | par => simp
 | place _ i => exact i
 | var => simp
 | item => simp
end Bk
namespace Bk
open Go
inductive Pc where
 | tk (t : List UInt8) : Pc
 | sp (s : List UInt8) : Pc
def flat : List Pc → List UInt8
 | [] => []
 | .tk t :: r => t ++ flat r
 | .sp s :: r => s ++ flat r
def toks : List Pc → Txt
 | [] => []
 | .tk t :: r => t :: toks r
 | .sp _ :: r => toks r
theorem flat_append : ∀ (a b : List Pc), flat (a ++ b) = flat a ++ flat b
 | [], b => rfl
 | .tk t :: r, b => by simp only [List.cons_append, flat, flat_append r b, List.append_assoc]
 | .sp t :: r, b => by simp only [List.cons_append, flat, flat_append r b, List.append_assoc]
theorem toks_append : ∀ (a b : List Pc), toks (a ++ b) = toks a ++ toks b
 | [], b => rfl
 | .tk t :: r, b => by simp only [List.cons_append, toks, toks_append r b]
 | .sp t :: r, b => by simp only [List.cons_append, toks, toks_append r b]
structure TokT (t : List UInt8) : Prop where
 ne : t ≠ []
 len : (firstTok t).2 = t.length
 kind : (firstTok t).1 = 1 ∨ (firstTok t).1 = 2 ∨ (firstTok t).1 = 3
structure Adj (t : List UInt8) (c : UInt8) : Prop where
 word : (firstTok t).1 = 1 → wordish c = false
 num : (firstTok t).1 = 2 → digit c = false
 sign : (firstTok t).1 = 3 → c ≠ 61 ∧ c ≠ 62 ∧ c ≠ 38 ∧ c ≠ 124
theorem adj_sep {t : List UInt8} {c : UInt8} (h : sepC c) : Adj t c := by
 obtain ⟨h1, h2, -, -, h61, h62, h38, h124⟩ := sep_not h
 exact ⟨fun _ => h1, fun _ => h2, fun _ => ⟨h61, h62, h38, h124⟩⟩
theorem signLen_adj {c : UInt8} (h61 : c ≠ 61) (h62 : c ≠ 62) (h38 : c ≠ 38) (h124 : c ≠ 124) (r u : List UInt8) (hr : r ≠ []) : signLen (r ++ c :: u) = signLen r := by
 cases r with
 | nil => exact absurd rfl hr
 | cons x r =>
  cases r with
  | nil =>
   have hp : pairs.contains [x, c] = false := by
    cases hh : pairs.contains [x, c]
    · rfl
    · rcases pairs_second hh with e | e | e
      · exact absurd e h61
      · exact absurd e h38
      · exact absurd e h124
   have hp1 := pairs_one x
   have h3 : List.isPrefixOf [60, 61, 62] ([x] ++ c :: u) = false := by
    simp only [List.cons_append, List.nil_append, List.isPrefixOf]
    have : (61 == c) = false := by simpa using fun e : 61 = c => h61 e.symm
    simp [this]
   have h31 : List.isPrefixOf [60, 61, 62] [x] = false := by simp [List.isPrefixOf]
   unfold signLen
   rw [h3, h31]; simp only [List.cons_append, List.nil_append, List.take_succ_cons, List.take_zero, List.take_nil, hp, hp1]
   rfl
  | cons y r =>
   have h3 : List.isPrefixOf [60, 61, 62] ((x :: y :: r) ++ c :: u) = List.isPrefixOf [60, 61, 62] (x :: y :: r) := by
    cases r with
    | nil =>
     simp only [List.cons_append, List.nil_append, List.isPrefixOf]
     have : (62 == c) = false := by simpa using fun e : 62 = c => h62 e.symm
     simp [this]
    | cons z r => simp [List.isPrefixOf]
   unfold signLen
   rw [h3]
   rfl
theorem firstTok_adj {t : List UInt8} {c : UInt8} (ht : TokT t) (h : Adj t c) (u : List UInt8) : firstTok (t ++ c :: u) = firstTok t := by
 obtain ⟨ne, hl, hk⟩ := ht
 cases t with
 | nil => exact absurd rfl ne
 | cons x r =>
  by_cases h1 : letter x = true
  · have hw := h.word (by simp [firstTok, h1])
    have e := span_sep hw (x :: r) u; simp only [List.cons_append] at e ⊢; simp only [firstTok, h1, if_true, e]
  · have h1' : letter x = false := by simpa using h1
    by_cases h2 : digit x = true
    · have hw := h.num (by simp [firstTok, h1', h2])
      have e := span_sep hw (x :: r) u; simp only [List.cons_append] at e ⊢; simp only [firstTok, h1', h2, if_true, if_false, Bool.false_eq_true, e]
    · have h2' : digit x = false := by simpa using h2
      by_cases h3 : blank x = true
      · exfalso; rw [firstTok_blank h3] at hk; simp at hk
      · have h3' : blank x = false := by simpa using h3
        by_cases h4 : x = 35
        · exfalso; subst h4; rw [firstTok_hash] at hk; simp at hk
        · obtain ⟨a, b, c', d⟩ := h.sign (by simp [firstTok, h1', h2', h3', h4])
          have e := signLen_adj a b c' d (x :: r) u (by simp); simp only [List.cons_append] at e ⊢; simp only [firstTok, h1', h2', h3', h4, if_false, Bool.false_eq_true, e]
def wf : Option (List UInt8) → List Pc → Prop
 | _, [] => True
 | p, .sp s :: r => (∀ c ∈ s, blank c = true) ∧ wf (if s.isEmpty then p else none) r
 | p, .tk t :: r => TokT t ∧ (∀ t0 ∈ p, ∀ c ∈ t.head?, Adj t0 c) ∧ wf (some t) r
def endOf : Option (List UInt8) → List Pc → Option (List UInt8)
 | p, [] => p
 | p, .sp s :: r => endOf (if s.isEmpty then p else none) r
 | _, .tk t :: r => endOf (some t) r
theorem wf_append : ∀ (a b : List Pc) (p : Option (List UInt8)), wf p (a ++ b) ↔ wf p a ∧ wf (endOf p a) b
 | [], b, p => by simp [wf, endOf]
 | .sp s :: r, b, p => by simp only [List.cons_append, wf, endOf, wf_append r b, and_assoc]
 | .tk t :: r, b, p => by simp only [List.cons_append, wf, endOf, wf_append r b, and_assoc]
theorem endOf_append : ∀ (a b : List Pc) (p : Option (List UInt8)), endOf p (a ++ b) = endOf (endOf p a) b
 | [], b, p => rfl
 | .sp s :: r, b, p => by simp only [List.cons_append, endOf, endOf_append r b]
 | .tk t :: r, b, p => by simp only [List.cons_append, endOf, endOf_append r b]
theorem wf_head : ∀ (r : List Pc) (t : List UInt8) (c : UInt8) (u : List UInt8), wf (some t) r → flat r = c :: u → Adj t c
 | [], t, c, u, _, h => by cases h
 | .sp s :: r, t, c, u, hw, h => by
  cases s with
  | nil => exact wf_head r t c u hw.2 h
  | cons d s =>
   simp only [flat, List.cons_append, List.cons.injEq] at h; rw [← h.1]
   exact adj_sep (Or.inl (hw.1 d (by simp)))
 | .tk t' :: r, t, c, u, hw, h => by
  cases t' with
  | nil => exact absurd rfl hw.1.ne
  | cons d s =>
   simp only [flat, List.cons_append, List.cons.injEq] at h; rw [← h.1]
   exact hw.2.1 t rfl d rfl
theorem blanks_step : ∀ (s u : List UInt8), (∀ c ∈ s, blank c = true) → solidFrom (s ++ u) 0 = shR s.length (solidFrom u 0)
 | [], u, _ => (shR_0 _).symm
 | c :: s, u, h => by
  have h1 := blanks_step s u (fun d hd => h d (by simp [hd])); rw [List.cons_append, solidFrom_blank (s := c :: (s ++ u)) (p := 0) (by simp) (h c (by simp))]; have h2 := solidFrom_cons c (s ++ u) 0; rw [Nat.add_comm] at h2
  rw [h2, h1, shR_add]; rfl
theorem pcs_solid : ∀ (L : List Pc) (p : Option (List UInt8)), wf p L → ∃ us, solidFrom (flat L) 0 = (us, none) ∧ txt us = toks L
 | [], p, _ => ⟨[], solidFrom_end (Nat.zero_le _), rfl⟩
 | .sp s :: r, p, h => by
  obtain ⟨us, h1, h2⟩ := pcs_solid r _ h.2; refine ⟨us.map (Tok.sh s.length), ?_, ?_⟩
  · show solidFrom (s ++ flat r) 0 = _
    rw [blanks_step s _ h.1, h1]; rfl
  · simp only [toks, ← h2]
    simp [txt, Tok.sh]
 | .tk t :: r, p, h => by
  obtain ⟨us, h1, h2⟩ := pcs_solid r _ h.2.2
  have hf : firstTok (t ++ flat r) = firstTok t := by
   cases hr : flat r with
   | nil => simp
   | cons c u => exact firstTok_adj h.1 (wf_head r t c u h.2.2 hr) u
  have hd0 : (t ++ flat r).drop 0 = t ++ flat r := rfl; have hl := h.1.len
  have hpos : t.length ≠ 0 := fun e => h.1.ne (List.eq_nil_of_length_eq_zero e)
  have hk4 : (firstTok t).1 ≠ 4 ∧ (firstTok t).1 ≠ 5 := by rcases h.1.kind with e | e | e <;> rw [e] <;> decide
  have hst := solidFrom_tok (s := t ++ flat r) (p := 0) (by simp; omega) (by rw [hd0, hf, hl]; exact hpos) (by rw [hd0, hf]; exact hk4.1) (by rw [hd0, hf]; exact hk4.2); have hsh := solidFrom_shift t (flat r) _ 0 (Nat.le_refl _); rw [Nat.add_zero] at hsh
  have ht : (tokAt (t ++ flat r) 0).text = t := by unfold tokAt; rw [hd0, hf, hl]; simp
  refine ⟨tokAt (t ++ flat r) 0 :: us.map (Tok.sh t.length), ?_, ?_⟩
  · show solidFrom (t ++ flat r) 0 = _
    rw [hst, hd0, hf, hl, Nat.zero_add, hsh, h1]; rfl
  · simp only [toks, ← h2]
    simp [txt, Tok.sh, ht]
theorem tokT_name {m : List UInt8} (h : isName m = true) : TokT m ∧ (firstTok m).1 = 1 := by
 simp only [isName, Bool.and_eq_true, beq_iff_eq, Bool.not_eq_true', decide_eq_true_eq] at h; obtain ⟨⟨⟨⟨h1, h2⟩, h3⟩, h4⟩, h5⟩ := h; refine ⟨⟨?_, h4, Or.inl h3⟩, h3⟩
 rintro rfl; simp at h1
theorem name_letter {m : List UInt8} (h : isName m = true) : ∀ c ∈ m.head?, letter c = true := by
 intro c hc
 cases m with
 | nil => cases hc
 | cons x r =>
  have : x = c := by simpa using hc
  subst this; have hk := (tokT_name h).2
  cases hl : letter x
  · exfalso
    simp only [firstTok, hl, if_false, Bool.false_eq_true] at hk
    split at hk
    · simp at hk
    · split at hk
      · simp at hk
      · split at hk <;> simp at hk
  · rfl
end Bk
namespace Bk
open Go
section
variable {ts : List Tok} {n : Int}
theorem bin_nil : binOf [] = none := by decide
theorem bin_br : binOf [91] = none := by decide
theorem has_rem {σ : PS} {u : List UInt8} (hw : σ.at_ ≤ ts.length) (he : σ.err = 0) : hasP ts σ u = decide (((rem ts σ).head?).getD [] = u) := by unfold hasP; rw [peek_rem hw he]
theorem nobr_has {σ : PS} (hw : σ.at_ ≤ ts.length) (he : σ.err = 0) (h : NoBr (rem ts σ)) : hasP ts σ [91] = false := by
 rw [has_rem hw he]
 cases hr : rem ts σ with
 | nil => simp
 | cons t b => have := h t (by rw [hr]; rfl); exact decide_eq_false this
theorem stop_bin {σ : PS} {lv : Int} (hw : σ.at_ ≤ ts.length) (he : σ.err = 0) (h : StopL lv (rem ts σ)) : ∀ op, binOf (peekP ts σ).text = some op → level op < lv := by
 intro op ho; rw [peek_rem hw he] at ho
 cases hr : rem ts σ with
 | nil => rw [hr] at ho; have ho' : binOf [] = some op := ho; rw [bin_nil] at ho'; cases ho'
 | cons t b => rw [hr] at ho; exact h t (by rw [hr]; rfl) op (by simpa using ho)
theorem rem_le {σ : PS} {a b : Txt} (h : rem ts σ = a ++ b) (ha : a ≠ []) : σ.at_ + a.length ≤ ts.length := by
 have := rem_len (ts := ts) σ; rw [h] at this
 cases a with
 | nil => exact absurd rfl ha
 | cons t r => simp only [List.length_append, List.length_cons] at this ⊢; omega
theorem rem_wf {σ : PS} {a b : Txt} (hw : σ.at_ ≤ ts.length) (h : rem ts σ = a ++ b) : (adv σ a.length).at_ ≤ ts.length := by
 cases a with
 | nil => exact hw
 | cons t r => exact rem_le h (by simp)
theorem G.pl_head {a : Txt} {x : Nd} (h : G .pl a x) : ∃ m r, a = m :: r ∧ isName m = true := by
 cases h with
 | var hm => exact ⟨_, _, rfl, hm⟩
 | item hm _ => exact ⟨_, _, rfl, hm⟩
def Reads (ts : List Tok) (n : Int) : Nt → Txt → Nd → Prop
 | .ex lv, a, x => ∀ (σ : PS) (k : Nat) (rest : Txt), σ.at_ ≤ ts.length → σ.err = 0 → rem ts σ = a ++ rest → StopL lv rest → NoBr rest → 4 * a.length + 4 ≤ k → exprP ts n k lv σ = (x, adv σ a.length)
 | .cl lv x0, a, x => ∀ (σ : PS) (k : Nat) (rest : Txt), σ.at_ ≤ ts.length → σ.err = 0 → rem ts σ = a ++ rest → StopL lv rest → NoBr rest → 4 * a.length + 1 ≤ k → climbP ts n k lv x0 σ = (x, adv σ a.length)
 | .un, a, x => ∀ (σ : PS) (k : Nat) (rest : Txt), σ.at_ ≤ ts.length → σ.err = 0 → rem ts σ = a ++ rest → NoBr rest → 4 * a.length + 3 ≤ k → unaryP ts n k σ = (x, adv σ a.length)
 | .pl, a, x => ∀ (σ : PS) (k : Nat) (rest : Txt), σ.at_ ≤ ts.length → σ.err = 0 → rem ts σ = a ++ rest → NoBr rest → 4 * a.length + 1 ≤ k → placeP ts n k σ = (x, adv σ a.length)
theorem G.cl_rest {lv : Int} {x y : Nd} {b rest : Txt} (h : G (.cl lv x) b y) (hs : StopL lv rest) (hn : NoBr rest) (op : Int) (hl : lv ≤ level op) (hb : StopL (level op + 1) b) : StopL (level op + 1) (b ++ rest) ∧ NoBr (b ++ rest) := by
 cases b with
 | nil => exact ⟨fun t ht o ho => by have := hs t ht o ho; omega, hn⟩
 | cons t r =>
  refine ⟨fun u hu => hb u (by simpa using hu), fun u hu => ?_⟩; obtain ⟨o, ho, -⟩ := h.head t r rfl
  have : u = t := by simpa using hu.symm
  subst this; rintro rfl
  rw [bin_br] at ho; cases ho
theorem G.cl_nobr {lv : Int} {x y : Nd} {b rest : Txt} (h : G (.cl lv x) b y) (hn : NoBr rest) : NoBr (b ++ rest) := by
 cases b with
 | nil => exact hn
 | cons t r =>
  intro u hu; obtain ⟨o, ho, -⟩ := h.head t r rfl
  have : u = t := by simpa using hu.symm
  subst this; rintro rfl
  rw [bin_br] at ho; cases ho
theorem stop_lit {lv : Int} {t : List UInt8} {r : Txt} (h : binOf t = none) : StopL lv (t :: r) := fun u hu op ho => by
 have : u = t := by simpa using hu.symm
 subst this
 rw [h] at ho; cases ho
theorem nobr_lit {t : List UInt8} {r : Txt} (h : t ≠ [91]) : NoBr (t :: r) := fun u hu => by
 have : u = t := by simpa using hu.symm
 subst this; exact h
theorem G.reads (hd : DigitKinds ts) {nt : Nt} {a : Txt} {x : Nd} (h : G nt a x) : Reads ts n nt a x := by
 induction h with
 | @ex lv a b x y h1 h2 i1 i2 =>
  intro σ k rest hw he hr hs hn hk; obtain ⟨k, rfl⟩ : ∃ j, k = j + 1 := ⟨k - 1, by omega⟩; simp only [List.length_append] at hk ⊢; rw [List.append_assoc] at hr; rw [exprP, i1 σ k _ hw he hr (h2.cl_nobr hn) (by omega)]; simp only; rw [i2 (adv σ a.length) k rest (rem_wf hw hr) he (rem_adv hr) hs hn (by omega), adv_adv]
 | @cl0 lv x =>
  intro σ k rest hw he hr hs hn hk; obtain ⟨k, rfl⟩ : ∃ j, k = j + 1 := ⟨k - 1, by omega⟩; rw [List.nil_append] at hr; have hb := stop_bin hw he (hr.symm ▸ hs); rw [climbP]
  split
  · rfl
  · rename_i op ho
    rw [if_pos (hb op ho)]; rfl
 | @cl1 lv op t a b x y z h1 h2 h3 h4 h5 i3 i5 =>
  intro σ k rest hw he hr hs hn hk; obtain ⟨k, rfl⟩ : ∃ j, k = j + 1 := ⟨k - 1, by omega⟩; simp only [List.length_cons, List.length_append] at hk ⊢
  have hr' : rem ts σ = t :: (a ++ (b ++ rest)) := by rw [hr]; simp
  obtain ⟨s1, s2⟩ := h5.cl_rest hs hn op h2 h4; have hl := rem_lt hr'; rw [climbP, peek_cons hr' he, h1]; simp only; rw [if_neg (by omega), next_adv, i3 (adv σ 1) k (b ++ rest) hl he (rem_cons hr') s1 s2 (by omega)]; simp only; have hr2 := rem_cons hr'; rw [i5 (adv (adv σ 1) a.length) k rest (rem_wf hl hr2) he (rem_adv hr2) hs hn (by omega), adv_adv, adv_adv]
  exact Prod.ext rfl (congrArg (adv σ) (by omega))
 | @neg a x h1 i1 =>
  intro σ k rest hw he hr hn hk; obtain ⟨k, rfl⟩ : ∃ j, k = j + 1 := ⟨k - 1, by omega⟩; simp only [List.length_cons] at hk ⊢; have hr' : rem ts σ = [45] :: (a ++ rest) := hr; rw [unaryP, has_cons hr' he, if_pos (by decide), next_adv, i1 (adv σ 1) k rest (rem_lt hr') he (rem_cons hr') hn (by omega), adv_adv, Nat.add_comm 1]
 | @not a x h1 i1 =>
  intro σ k rest hw he hr hn hk; obtain ⟨k, rfl⟩ : ∃ j, k = j + 1 := ⟨k - 1, by omega⟩; simp only [List.length_cons] at hk ⊢; have hr' : rem ts σ = [33] :: (a ++ rest) := hr; rw [unaryP, has_cons hr' he, if_neg (by decide), has_cons hr' he, if_pos (by decide), next_adv, i1 (adv σ 1) k rest (rem_lt hr') he (rem_cons hr') hn (by omega), adv_adv, Nat.add_comm 1]
 | @num t h1 h2 =>
  intro σ k rest hw he hr hn hk; obtain ⟨k, rfl⟩ : ∃ j, k = j + 2 := ⟨k - 2, by simp at hk; omega⟩; have hr' : rem ts σ = t :: rest := hr; have hne : t ≠ [45] ∧ t ≠ [33] := ⟨by rintro rfl; revert h1; decide, by rintro rfl; revert h1; decide⟩; rw [unaryP, has_cons hr' he, if_neg (by simpa using hne.1), has_cons hr' he, if_neg (by simpa using hne.2), primaryP, if_pos ((kind_dig hd hr' he).2 h1)]
  have hnum : numberP ts n 0 9223372036854775807 σ = ((digitsVal t : Int), adv σ 1) := by
   unfold numberP
   rw [if_pos ((kind_dig hd hr' he).2 h1), peek_cons hr' he, if_pos ⟨h2, by omega, h2⟩]; rfl
  rw [hnum]; rfl
 | @top m h1 =>
  intro σ k rest hw he hr hn hk; obtain ⟨k, rfl⟩ : ∃ j, k = j + 2 := ⟨k - 2, by simp at hk; omega⟩; have hr1 : rem ts σ = [116, 111, 112] :: ([40] :: m :: [41] :: rest) := hr; have hr2 := rem_cons hr1; have hr3 := rem_cons hr2; have hr4 := rem_cons hr3; rw [unaryP, has_cons hr1 he, if_neg (by decide), has_cons hr1 he, if_neg (by decide), primaryP, if_neg (fun e => by have := (kind_dig hd hr1 he).1 e; revert this; decide), has_cons hr1 he, if_pos (by decide), next_adv, expect_cons hr2 he, name_cons hr3 he h1]; simp only
  rw [expect_cons hr4 he]; rfl
 | @size m h1 =>
  intro σ k rest hw he hr hn hk; obtain ⟨k, rfl⟩ : ∃ j, k = j + 2 := ⟨k - 2, by simp at hk; omega⟩; have hr1 : rem ts σ = [115, 105, 122, 101] :: ([40] :: m :: [41] :: rest) := hr; have hr2 := rem_cons hr1; have hr3 := rem_cons hr2; have hr4 := rem_cons hr3; rw [unaryP, has_cons hr1 he, if_neg (by decide), has_cons hr1 he, if_neg (by decide), primaryP, if_neg (fun e => by have := (kind_dig hd hr1 he).1 e; revert this; decide), has_cons hr1 he, if_neg (by decide), has_cons hr1 he, if_pos (by decide), next_adv, expect_cons hr2 he, name_cons hr3 he h1]; simp only
  rw [expect_cons hr4 he]; rfl
 | @par a x h1 i1 =>
  intro σ k rest hw he hr hn hk; simp only [List.length_cons, List.length_append, List.length_nil] at hk ⊢; obtain ⟨k, rfl⟩ : ∃ j, k = j + 2 := ⟨k - 2, by omega⟩
  have hr1 : rem ts σ = [40] :: (a ++ ([41] :: rest)) := by rw [hr]; simp
  have hr2 := rem_cons hr1; have hr3 := rem_adv hr2
  rw [unaryP, has_cons hr1 he, if_neg (by decide), has_cons hr1 he, if_neg (by decide), primaryP, if_neg (fun e => by have := (kind_dig hd hr1 he).1 e; revert this; decide), has_cons hr1 he, if_neg (by decide), has_cons hr1 he, if_neg (by decide), has_cons hr1 he, if_pos (by decide), next_adv,
   i1 (adv σ 1) k _ (rem_lt hr1) he hr2 (stop_lit (by decide)) (nobr_lit (by decide)) (by omega)]
  simp only; rw [expect_cons hr3 he, adv_adv, adv_adv]
  exact Prod.ext rfl (congrArg (adv σ) (by omega))
 | @place a x h1 i1 =>
  intro σ k rest hw he hr hn hk; obtain ⟨k, rfl⟩ : ∃ j, k = j + 2 := ⟨k - 2, by omega⟩; obtain ⟨m, r, rfl, hm⟩ := h1.pl_head; have hr1 : rem ts σ = m :: (r ++ rest) := hr; obtain ⟨n1, n2, n3, n4, n5, n6⟩ := name_not hm; rw [unaryP, has_cons hr1 he, if_neg (by simpa using n1), has_cons hr1 he, if_neg (by simpa using n2), primaryP, if_neg (fun e => by have := (kind_dig hd hr1 he).1 e; rw [n6] at this; cases this), has_cons hr1 he, if_neg (by simpa using n4), has_cons hr1 he, if_neg (by simpa using n5), has_cons hr1 he, if_neg (by simpa using n3)]
  exact i1 σ k rest hw he hr hn (by omega)
 | @var m h1 =>
  intro σ k rest hw he hr hn hk; obtain ⟨k, rfl⟩ : ∃ j, k = j + 1 := ⟨k - 1, by omega⟩; have hr1 : rem ts σ = m :: rest := hr; rw [placeP, name_cons hr1 he h1]; simp only
  rw [nobr_has (σ := adv σ 1) (rem_lt hr1) he ((rem_cons hr1).symm ▸ hn), if_neg (by decide)]; rfl
 | @item m a x h1 h2 i2 =>
  intro σ k rest hw he hr hn hk; simp only [List.length_cons, List.length_append, List.length_nil] at hk ⊢; obtain ⟨k, rfl⟩ : ∃ j, k = j + 1 := ⟨k - 1, by omega⟩
  have hr1 : rem ts σ = m :: ([91] :: (a ++ ([93] :: rest))) := by rw [hr]; simp
  have hr2 := rem_cons hr1; have hr3 := rem_cons hr2; have hr4 := rem_adv hr3; rw [placeP, name_cons hr1 he h1]; simp only; rw [has_cons hr2 he, if_pos (by decide), next_adv, i2 (adv (adv σ 1) 1) k _ (rem_lt hr2) he hr3 (stop_lit (by decide)) (nobr_lit (by decide)) (by omega)]; simp only; rw [expect_cons hr4 he, adv_adv, adv_adv, adv_adv]
  exact Prod.ext rfl (congrArg (adv σ) (by omega))
end
end Bk
namespace Bk
open Go
section
variable {ts : List Tok} {n : Int}
def Seg (ts : List Tok) (σ σ' : PS) (a : Txt) : Prop := rem ts σ = a ++ rem ts σ'
theorem Seg.refl (σ : PS) : Seg ts σ σ [] := rfl
theorem Seg.trans {σ σ1 σ2 : PS} {a b : Txt} (h : Seg ts σ σ1 a) (k : Seg ts σ1 σ2 b) : Seg ts σ σ2 (a ++ b) := by unfold Seg at *; rw [h, k, List.append_assoc]
end
theorem G.valid {nt : Nt} {a : Txt} {x : Nd} (h : G nt a x) : match nt with
 | .cl _ y => y.isExpr = true → x.isExpr = true
 | .pl => x.isPlace = true
 | _ => x.isExpr = true := by
 induction h with
 | ex _ _ i1 i2 => exact i2 i1
 | cl0 => exact fun h => h
 | @cl1 lv op t a b x y z h1 h2 h3 h4 h5 i3 i5 =>
  intro hx; refine i5 ?_; obtain ⟨-, h8, h23, -⟩ := binOf_ne h1
  unfold Nd.isExpr
  rw [if_neg (by omega), if_neg (by omega), if_neg (by omega), if_neg (by omega), if_pos (by omega)]; simp only at i3 hx
  simp [plain, hx, i3]
 | neg _ i => unfold Nd.isExpr; simp only at i; simp [plain, i]
 | not _ i => unfold Nd.isExpr; simp only at i; simp [plain, i]
 | num => unfold Nd.isExpr; simp
 | top h => unfold Nd.isExpr; simp [named, h]
 | size h => unfold Nd.isExpr; simp [named, h]
 | par _ i => exact i
 | place _ i => simp only [Nd.isPlace, Bool.and_eq_true] at i; exact i.2
 | var h => simp [Nd.isPlace, Nd.isExpr, Nd.kind, named, h]
 | item h _ i => simp only at i; simp [Nd.isPlace, Nd.isExpr, Nd.kind, named, h, i]
end Bk
namespace Bk
open Go
section
variable {ts : List Tok} {n : Int}
end
end Bk
namespace Bk
open Go
def st00 : PS := ⟨0, 0, 0⟩
def endE (ts : List Tok) (n : Int) (r : Nd × PS) : Nd × Int × Int := if (limitP r.1 0 (finishP ts n r.2)).err ≠ 0 then (zeroNd, (limitP r.1 0 (finishP ts n r.2)).off, (limitP r.1 0 (finishP ts n r.2)).err) else (r.1, 0, 0)
theorem rem_st {ts : List Tok} : rem ts st00 = txt ts := rfl
theorem txt_len (ts : List Tok) : (txt ts).length = ts.length := by simp [txt]
def parT (i j : Nat) (s : List UInt8) : List UInt8 := List.replicate i 40 ++ s ++ 10 :: List.replicate j 41
end Bk
namespace Bk
open Go
theorem dec_val (u : Nat) : digitsVal (Lib.decDigits u) = u ∧ (∀ c ∈ Lib.decDigits u, digit c = true) ∧ Lib.decDigits u ≠ [] := by
 induction u using Nat.strongRecOn with
 | _ u ih =>
  have hd : ∀ k, k < 10 → (UInt8.ofNat (48 + k)).toNat = 48 + k := fun k hk => by rw [UInt8.toNat_ofNat']; omega
  have hdig : ∀ k, k < 10 → digit (UInt8.ofNat (48 + k)) = true := fun k hk => by
   simp only [digit, hd k hk, Bool.and_eq_true, decide_eq_true_eq]; omega
  rw [Lib.decDigits]
  split
  · rename_i h
    refine ⟨?_, ?_, by simp⟩
    · unfold digitsVal
      simp only [List.foldl_cons, List.foldl_nil, hd u h]; omega
    · intro c hc
      have : c = UInt8.ofNat (48 + u) := by simpa using hc
      subst this; exact hdig u h
  · rename_i h
    obtain ⟨h1, h2, h3⟩ := ih (u / 10) (by omega); refine ⟨?_, ?_, by simp⟩
    · unfold digitsVal at *
      rw [List.foldl_append, h1]; simp only [List.foldl_cons, List.foldl_nil, hd (u % 10) (by omega)]
      omega
    · intro c hc
      rcases List.mem_append.1 hc with hc | hc
      · exact h2 c hc
      · have : c = UInt8.ofNat (48 + u % 10) := by simpa using hc
        subst this; exact hdig _ (by omega)
theorem itoa_dec {n : Int} (h : 0 ≤ n) : Lib.itoa n = Lib.decDigits n.toNat := by unfold Lib.itoa; rw [if_neg (by omega)]
theorem span_all' {p : UInt8 → Bool} : ∀ (s : List UInt8), (∀ c ∈ s, p c = true) → span p s = s.length
 | [], _ => rfl
 | c :: r, h => by
  have := span_all' r (fun d hd => h d (by simp [hd]))
  unfold span at *
  rw [List.takeWhile_cons, if_pos (h c (by simp)), List.length_cons, List.length_cons, this]
theorem tokT_num {ds : List UInt8} (hne : ds ≠ []) (h : ∀ c ∈ ds, digit c = true) : TokT ds ∧ (firstTok ds).1 = 2 := by
 have : firstTok ds = (2, ds.length) := by
  cases ds with
  | nil => exact absurd rfl hne
  | cons c r =>
   have hd := h c (by simp)
   have hl : letter c = false := by
    cases hl : letter c
    · rfl
    · rw [letter_digit c hl] at hd; cases hd
   have hs := span_all' (p := digit) (c :: r) h; simp only [firstTok, hl, hd, if_true, if_false, Bool.false_eq_true, hs]
 exact ⟨⟨hne, by rw [this], by rw [this]; exact Or.inr (Or.inl rfl)⟩, by rw [this]⟩
def pw (b : Bool) (L : List Pc) : List Pc := if b then .tk [40] :: (L ++ [.tk [41]]) else L
def Nd.pcs : Nd → List Pc
 | .mk k n s l =>
  if k = 1 then [.tk (Lib.itoa n)] else if k = 2 then [.tk s]
  else if k = 3 then match l with | [x] => .tk s :: .tk [91] :: (x.pcs ++ [.tk [93]]) | _ => []
  else if k = 4 then [.tk [116, 111, 112], .tk [40], .tk s, .tk [41]] else if k = 5 then [.tk [115, 105, 122, 101], .tk [40], .tk s, .tk [41]]
  else if k = 6 ∨ k = 7 then match l with | [x] => .tk (symbol k) :: pw (isBin x.kind) x.pcs | _ => []
  else match l with
   | [x, y] => pw (parenL x.kind k) x.pcs ++ (.sp [32] :: .tk (symbol k) :: .sp [32] :: pw (parenR y.kind k) y.pcs)
   | _ => []
theorem flat_pw (b : Bool) (L : List Pc) : flat (pw b L) = wrap (flat L) b := by
 unfold pw wrap
 cases b
 · rfl
 · simp only [if_true, flat, flat_append, List.append_nil]; simp
theorem toks_pw (b : Bool) (L : List Pc) : toks (pw b L) = if b then [40] :: (toks L ++ [[41]]) else toks L := by
 unfold pw
 cases b
 · rfl
 · simp only [if_true, toks, toks_append]
def OpenP (p : Option (List UInt8)) : Prop := ∀ t ∈ p, (firstTok t).1 = 3
def CloseT (t : List UInt8) : Prop := Adj t 41 ∧ Adj t 93 ∧ Adj t 59 ∧ Adj t 44
theorem closeT_name {m : List UInt8} (h : (firstTok m).1 = 1) : CloseT m := by
 refine ⟨?_, ?_, ?_, ?_⟩ <;> exact ⟨fun _ => (by decide), fun e => (by rw [h] at e; cases e), fun e => (by rw [h] at e; cases e)⟩
theorem closeT_num {m : List UInt8} (h : (firstTok m).1 = 2) : CloseT m := by
 refine ⟨?_, ?_, ?_, ?_⟩ <;> exact ⟨fun e => (by rw [h] at e; cases e), fun _ => (by decide), fun e => (by rw [h] at e; cases e)⟩
theorem closeT_sign {m : List UInt8} (h : (firstTok m).1 = 3) : CloseT m := by
 refine ⟨?_, ?_, ?_, ?_⟩ <;> exact ⟨fun e => (by rw [h] at e; cases e), fun e => (by rw [h] at e; cases e), fun _ => (by decide)⟩
theorem adj_open {t : List UInt8} {c : UInt8} (h : (firstTok t).1 = 3) (hc : c ≠ 61 ∧ c ≠ 62 ∧ c ≠ 38 ∧ c ≠ 124) : Adj t c := ⟨fun e => (by rw [h] at e; cases e), fun e => (by rw [h] at e; cases e), fun _ => hc⟩
theorem letter_open {c : UInt8} (h : letter c = true) : c ≠ 61 ∧ c ≠ 62 ∧ c ≠ 38 ∧ c ≠ 124 := by
 simp only [letter, Bool.and_eq_true, decide_eq_true_eq] at h
 refine ⟨?_, ?_, ?_, ?_⟩ <;> (rintro rfl; simp at h)
theorem digit_open {c : UInt8} (h : digit c = true) : c ≠ 61 ∧ c ≠ 62 ∧ c ≠ 38 ∧ c ≠ 124 := by
 simp only [digit, Bool.and_eq_true, decide_eq_true_eq] at h
 refine ⟨?_, ?_, ?_, ?_⟩ <;> (rintro rfl; simp at h)
theorem tokT_lit {t : List UInt8} (h : (!t.isEmpty && ((firstTok t).2 == t.length) && (((firstTok t).1 == 1) || ((firstTok t).1 == 3))) = true) : TokT t := by
 simp only [Bool.and_eq_true, Bool.or_eq_true, beq_iff_eq, Bool.not_eq_true'] at h; obtain ⟨⟨h1, h2⟩, h3⟩ := h; refine ⟨by rintro rfl; simp at h1, h2, ?_⟩
 rcases h3 with h3 | h3
 · exact Or.inl h3
 · exact Or.inr (Or.inr h3)
theorem symbol_tok {k : Int} (h0 : 6 ≤ k) (h1 : k ≤ 23) : TokT (symbol k) ∧ (firstTok (symbol k)).1 = 3 := by
 have : k = 6 ∨ k = 7 ∨ k = 8 ∨ k = 9 ∨ k = 10 ∨ k = 11 ∨ k = 12 ∨ k = 13 ∨ k = 14 ∨ k = 15 ∨ k = 16 ∨ k = 17 ∨ k = 18 ∨ k = 19 ∨ k = 20 ∨ k = 21 ∨ k = 22 ∨ k = 23 := by omega
 rcases this with rfl | rfl | rfl | rfl | rfl | rfl | rfl | rfl | rfl | rfl | rfl | rfl | rfl | rfl | rfl | rfl | rfl | rfl <;> exact ⟨tokT_lit (by decide), by decide⟩
structure Nice (L : List Pc) : Prop where
 wf : ∀ p, OpenP p → wf p L
 fin : ∀ p, ∃ t, endOf p L = some t ∧ CloseT t
theorem openP_sign {t : List UInt8} (h : (firstTok t).1 = 3) : OpenP (some t) := fun u hu => by
 have : t = u := by simpa using hu
 rw [← this]; exact h
theorem openP_none : OpenP none := fun u hu => by cases hu
theorem Nice.par {L : List Pc} (h : Nice L) : Nice (.tk [40] :: (L ++ [.tk [41]])) := by
 have ho : TokT [40] := tokT_lit (by decide); have hc : TokT [41] := tokT_lit (by decide); refine ⟨fun p hp => ⟨ho, fun t ht c hc' => ?_, ?_⟩, fun p => ?_⟩
 · have : c = 40 := by simpa using hc'.symm
   subst this
   exact adj_open (hp t ht) (by decide)
 · rw [wf_append]
   refine ⟨h.wf _ (openP_sign (by decide)), ?_⟩; obtain ⟨t, e, ct⟩ := h.fin (some [40]); rw [e]
   exact ⟨hc, fun u hu c hc' => by
    have : c = 41 := by simpa using hc'.symm
    have : t = u := by simpa using hu
    subst_vars; exact ct.1, trivial⟩
 · refine ⟨[41], ?_, closeT_sign (by decide)⟩
   simp only [endOf, endOf_append]
theorem Nice.pw {L : List Pc} (h : Nice L) (b : Bool) : Nice (pw b L) := by
 unfold Bk.pw
 cases b
 · exact h
 · exact h.par
theorem nice_tok {t : List UInt8} (ht : TokT t) (ho : ∀ c ∈ t.head?, c ≠ 61 ∧ c ≠ 62 ∧ c ≠ 38 ∧ c ≠ 124) (hc : CloseT t) : Nice [.tk t] :=
 ⟨fun p hp => ⟨ht, fun u hu c hc => adj_open (hp u hu) (ho c hc), trivial⟩, fun p => ⟨t, rfl, hc⟩⟩
theorem head_of {t : List UInt8} {q : UInt8 → Prop} (h : ∀ c ∈ t, q c) : ∀ c ∈ t.head?, q c := fun c hc => by
 cases t with
 | nil => cases hc
 | cons x r => have : x = c := by simpa using hc
               subst this; exact h x (by simp)
theorem pcs_nice (N : Nat) : ∀ t : Nd, t.size < N → t.isExpr = true → Nice t.pcs := by
 induction N with
 | zero => intro t h; omega
 | succ N ih =>
  intro t hs he; obtain ⟨k, n, s, l⟩ := t; simp only [Nd.size] at hs
  unfold Nd.isExpr at he
  unfold Nd.pcs
  by_cases c1 : k = 1
  · rw [if_pos c1] at he ⊢
    simp only [Bool.and_eq_true, decide_eq_true_eq] at he; obtain ⟨h1, h2, h3⟩ := dec_val n.toNat; rw [itoa_dec he.1.1]
    exact nice_tok (tokT_num h3 h2).1 (head_of (fun c hc => digit_open (h2 c hc))) (closeT_num (tokT_num h3 h2).2)
  rw [if_neg c1] at he ⊢
  by_cases c2 : k = 2
  · rw [if_pos (Or.inl c2)] at he
    rw [if_pos c2]; simp only [Bool.and_eq_true, named] at he; have hn := he.1.2
    exact nice_tok (tokT_name hn).1 (fun c hc => letter_open (name_letter hn c hc)) (closeT_name (tokT_name hn).2)
  by_cases c4 : k = 4 ∨ k = 5
  · rw [if_pos (Or.inr c4)] at he
    simp only [Bool.and_eq_true, named] at he; have hn := he.1.2
    have key : ∀ kw : List UInt8, TokT kw → (firstTok kw).1 = 1 → (∀ c ∈ kw.head?, letter c = true) → Nice [.tk kw, .tk [40], .tk s, .tk [41]] := by
     intro kw hkw hk1 hkl; refine ⟨fun p hp => ⟨hkw, fun u hu c hc => adj_open (hp u hu) (letter_open (hkl c hc)), tokT_lit (by decide), fun u hu c hc => ?_, (tokT_name hn).1, fun u hu c hc => ?_, tokT_lit (by decide), fun u hu c hc => ?_, trivial⟩, fun p => ⟨_, rfl, closeT_sign (by decide)⟩⟩
     · have : c = 40 := by simpa using hc.symm
       have : kw = u := by simpa using hu
       subst_vars
       exact ⟨fun _ => (by decide), fun e => (by rw [hk1] at e; cases e), fun e => (by rw [hk1] at e; cases e)⟩
     · have : [40] = u := by simpa using hu
       rw [← this]
       exact adj_open (by decide) (letter_open (name_letter hn c hc))
     · have : c = 41 := by simpa using hc.symm
       have : s = u := by simpa using hu
       subst_vars
       exact (closeT_name (tokT_name hn).2).1
    rw [if_neg c2, if_neg (by omega)]
    rcases c4 with c4 | c4
    · rw [if_pos c4]; exact key _ (tokT_lit (by decide)) (by decide) (by simp; decide)
    · rw [if_neg (by omega), if_pos c4]; exact key _ (tokT_lit (by decide)) (by decide) (by simp; decide)
  rw [if_neg (by omega)] at he; rw [if_neg c2]
  by_cases c3 : k = 3
  · rw [if_pos c3] at he ⊢
    simp only [Bool.and_eq_true, named] at he; obtain ⟨⟨-, hn⟩, hx⟩ := he
    split at hx
    · rename_i x
      simp only [rowSize] at hs; have hi := ih x (by omega) hx; refine ⟨fun p hp => ⟨(tokT_name hn).1, fun u hu c hc => adj_open (hp u hu) (letter_open (name_letter hn c hc)), tokT_lit (by decide), fun u hu c hc => ?_, ?_⟩, fun p => ⟨[93], ?_, closeT_sign (by decide)⟩⟩
      · have : c = 91 := by simpa using hc.symm
        have : s = u := by simpa using hu
        subst_vars
        exact ⟨fun _ => (by decide), fun e => (by rw [(tokT_name hn).2] at e; cases e), fun e => (by rw [(tokT_name hn).2] at e; cases e)⟩
      · rw [wf_append]
        refine ⟨hi.wf _ (openP_sign (by decide)), ?_⟩; obtain ⟨t, e, ct⟩ := hi.fin (some [91]); rw [e]
        exact ⟨tokT_lit (by decide), fun u hu c hc => by
         have : c = 93 := by simpa using hc.symm
         have : t = u := by simpa using hu
         subst_vars; exact ct.2.1, trivial⟩
      · simp only [endOf, endOf_append]
    · cases hx
  rw [if_neg c3] at he ⊢; rw [if_neg (by omega), if_neg (by omega)]
  by_cases c6 : k = 6 ∨ k = 7
  · rw [if_pos c6] at he ⊢
    simp only [Bool.and_eq_true] at he; obtain ⟨-, hx⟩ := he
    split at hx
    · rename_i x
      simp only [rowSize] at hs; have hi := (ih x (by omega) hx).pw (isBin x.kind); have hsy := symbol_tok (k := k) (by omega) (by omega); refine ⟨fun p hp => ⟨hsy.1, fun u hu c hc => adj_open (hp u hu) ?_, hi.wf _ (openP_sign hsy.2)⟩, fun p => hi.fin _⟩
      rcases c6 with rfl | rfl
      · have : c = 45 := by simpa [symbol, symbols] using hc.symm
        subst this; decide
      · have : c = 33 := by simpa [symbol, symbols] using hc.symm
        subst this; decide
    · cases hx
  rw [if_neg c6] at he ⊢
  by_cases c8 : 8 ≤ k ∧ k ≤ 23
  · rw [if_pos c8] at he
    simp only [Bool.and_eq_true] at he; obtain ⟨-, hx⟩ := he
    split at hx
    · rename_i x y
      simp only [rowSize] at hs; simp only [Bool.and_eq_true] at hx; have h1 := (ih x (by omega) hx.1).pw (parenL x.kind k); have h2 := (ih y (by omega) hx.2).pw (parenR y.kind k); have hsy := symbol_tok (k := k) (by omega) (by omega); refine ⟨fun p hp => ?_, fun p => ?_⟩
      · rw [wf_append]
        refine ⟨h1.wf p hp, by simp; decide, hsy.1, ?_, by simp; decide, ?_⟩
        · intro u hu; simp at hu
        · exact h2.wf _ (by intro u hu; simp at hu)
      · simp only [endOf_append, endOf]
        exact h2.fin _
    · cases hx
  · rw [if_neg c8] at he; cases he
theorem flat_pcs (N : Nat) : ∀ t : Nd, t.size < N → t.isExpr = true → flat t.pcs = t.text := by
 induction N with
 | zero => intro t h; omega
 | succ N ih =>
  intro t hs he; obtain ⟨k, n, s, l⟩ := t; simp only [Nd.size] at hs
  unfold Nd.isExpr at he
  unfold Nd.pcs Nd.text
  by_cases c1 : k = 1
  · rw [if_pos c1, if_pos c1]; simp [flat]
  rw [if_neg c1] at he ⊢; rw [if_neg c1]
  by_cases c2 : k = 2
  · rw [if_pos c2, if_pos c2]; simp [flat]
  rw [if_neg c2, if_neg c2]
  by_cases c3 : k = 3
  · rw [if_neg (by omega), if_pos c3] at he
    rw [if_pos c3, if_pos c3]; simp only [Bool.and_eq_true] at he; obtain ⟨-, hx⟩ := he
    split at hx
    · rename_i x
      simp only [rowSize] at hs; simp only [flat, flat_append, ih x (by omega) hx]
      simp
    · cases hx
  rw [if_neg c3, if_neg c3]
  by_cases c4 : k = 4
  · rw [if_pos c4, if_pos c4]; simp [flat]
  rw [if_neg c4, if_neg c4]
  by_cases c5 : k = 5
  · rw [if_pos c5, if_pos c5]; simp [flat]
  rw [if_neg c5, if_neg c5]; rw [if_neg (by omega), if_neg (by omega)] at he
  by_cases c6 : k = 6 ∨ k = 7
  · rw [if_pos c6] at he
    rw [if_pos c6, if_pos c6]; simp only [Bool.and_eq_true] at he; obtain ⟨-, hx⟩ := he
    split at hx
    · rename_i x
      simp only [rowSize] at hs; simp only [flat, flat_pw, ih x (by omega) hx]
    · cases hx
  rw [if_neg c6] at he; rw [if_neg c6, if_neg c6]
  by_cases c8 : 8 ≤ k ∧ k ≤ 23
  · rw [if_pos c8] at he
    simp only [Bool.and_eq_true] at he; obtain ⟨-, hx⟩ := he
    split at hx
    · rename_i x y
      simp only [rowSize] at hs; simp only [Bool.and_eq_true] at hx; simp only [flat_append, flat, flat_pw, ih x (by omega) hx.1, ih y (by omega) hx.2]
      simp
    · cases hx
  · rw [if_neg c8] at he; cases he
end Bk
