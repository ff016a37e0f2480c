/- Texts that the proofs of ParserCut, ParserFirst, ParserLayout need. No condition. (Part 4 of 6.) -/
import Derived.Test.YtihgojmblldifaaDoorPLay3
set_option linter.unusedSimpArgs false
set_option linter.unusedVariables false
namespace Bk
open Go Go.RowKit Go.Proofs
attribute [local irreducible] Go.Calls
theorem rowDepth_snoc (l : List Nd) (x : Nd) : rowDepth (l ++ [x]) = max (rowDepth l) x.depth := by
 induction l with
 | nil => simp only [List.nil_append, rowDepth]; omega
 | cons y r ih => simp only [List.cons_append, rowDepth, ih]; omega
mutual
theorem depth_le : ∀ t : Nd, 1 ≤ t.depth ∧ t.depth ≤ t.size
 | .mk _ _ _ l => by
  have := rowDepth_le l
  simp only [Nd.depth, Nd.size]; omega
theorem rowDepth_le : ∀ l : List Nd, 0 ≤ rowDepth l ∧ rowDepth l ≤ rowSize l
 | [] => by simp [rowDepth, rowSize]
 | t :: r => by
  have h1 := depth_le t; have h2 := rowDepth_le r
  simp only [rowDepth, rowSize]; omega
end
theorem rowSize_snoc (l : List Nd) (x : Nd) : rowSize (l ++ [x]) = rowSize l + x.size := by
 induction l with
 | nil => simp [rowSize]
 | cons y r ih => simp only [List.cons_append, rowSize, ih]; omega
theorem rowSize_take (l : List Nd) (j : Nat) : rowSize (l.take j) ≤ rowSize l := by
 induction l generalizing j with
 | nil => simp
 | cons x r ih =>
  cases j with
  | zero => simp [rowSize]
  | succ j => simp only [List.take_succ_cons, rowSize]; have := ih j; omega
theorem length_rowSize (l : List Nd) : l.length ≤ rowSize l := by
 induction l with
 | nil => simp [rowSize]
 | cons x r ih => have := Nd.size_pos x; simp only [rowSize, List.length_cons]; omega
set_option maxRecDepth 100000 in
set_option maxHeartbeats 1000000 in
theorem Depth_c (N : Nat) : ∀ (t : Nd) (S : Nat → Prop) (a : Option Addr) (c : Nat) (w : World), t.size < N → t.size ≤ 1000000000 → t.sits S w a →
 Calls Tryd.prog 54 #[t.val a c] w fun e w' => e = .returned (.int .i64 t.depth) ∧ Ext w w' := by
 induction N with
 | zero => intro t S a c w h; omega
 | succ N ih =>
  rintro ⟨k, n, s, l⟩ S a c w hN hM hs
  have IH := Lib.hid ih; clear ih
  simp only [Nd.sits] at hs; simp only [Nd.size] at hN hM; have X := Ext.refl w; have hl := length_rowSize l; rw [show (Nd.mk k n s l).depth = rowDepth l + 1 from by simp only [Nd.depth]]; refine calls_in Tryd.func54 Tryd.ntmps54 rfl rfl ?_
  focus
   refine cS ?_; (refine lw_box' [_, _, _, _] rfl rfl rfl ?_; intro b1 w2 n3); have h4 := n3.blk; have x5 := n3.ext; have p6 := n3.pos; have z7 := n3.size; clear n3; replace hs := Bk.rowSits.ext hs x5; replace X := X.ext x5; clear x5; refine cA rfl rfl (cN (cA rfl rfl (cT (cw_seq (cS (lw_pure (pur_fieldAddr tabOk rfl rfl rfl) rfl (lw_load_b tabOk rfl rfl rfl h4 rfl rfl (lw_pure (pur_len_slice tabOk rfl rfl) rfl (cM rfl rfl (cT (cw_block ?_))))))))))); rotate_left 1
  refine cw_loop (ι := Nat) (fun j => [(9, .int .i64 j), (8, .int .i64 l.length), (7, .slice a l.length c), (3, .int .i64 (rowDepth (l.take j)))]) (fun j w' => rowSits S w' l a ∧ Ext w w' ∧ j ≤ l.length) (fun j => l.length - j) 0 (by (refine sub_cons rfl ?_; refine sub_cons rfl ?_; refine sub_cons rfl ?_; refine sub_cons rfl ?_; exact sub_nil)) ⟨hs, X, Nat.zero_le _⟩ ?_; rintro j w1 ⟨hs, X, hj⟩; clear h4
  by_cases hlt : j < l.length
  · obtain ⟨kb, ko, rfl, hkS, hkid⟩ := kidRows hs (by intro e; subst e; simp at hlt)
    obtain ⟨xa, xc, rx, sx⟩ := hkid j l[j] (List.getElem?_eq_getElem hlt); have hsz := size_mem (List.getElem_mem hlt)
    have ht : l.take (j + 1) = l.take j ++ [l[j]] := by rw [List.take_add_one, List.getElem?_eq_getElem hlt]; rfl
    have hb0 := rowDepth_le (l.take j); have hb1 := rowSize_take l j; have hb2 := rowSize_take l (j + 1); have hb3 := depth_le l[j]; rw [ht, rowSize_snoc] at hb2; clear hkid
    generalize l[j] = x at *
    focus
     refine cS (lw_pure (pur_lss rfl rfl) rfl (cT (cw_seq ?_))); refine cw_yes rfl (by omega) ?_; refine cw_skip (qw_then (cw_seq (cw_block (cS ?_)))); refine lw_pure (pur_indexAddr tabOk rfl rfl rfl rfl (by omega) (by omega)) rfl ?_; refine lw_loads_r0 tabOk rfl rfl rfl rx rfl rfl ?_; (refine lw_alloc' [_, _, _, _] zOk rfl rfl ?_; intro ba1 wa2 na3); (refine lw_init' [_, _, _, _] tabOk rfl rfl rfl rfl rfl rfl na3 rfl ?_; clear na3; clear wa2; intro wa4 na3); have ha5 := na3.blk; have xa6 := na3.ext; have pa7 := na3.pos; have za8 := na3.size; clear na3; replace X := X.ext xa6; replace hs := Bk.rowSits.ext hs xa6; replace rx := rx.ext xa6; replace sx := Nd.sits.ext sx xa6; clear xa6; refine cT (cw_region (cM rfl rfl (lw_loads_b' [_, _, _, _] tabOk rfl rfl rfl ha5 rfl rfl rfl ?_))); refine cC (by kernel_rfl) rfl (IH.out _ S _ _ _ (by omega) (by omega) (by assumption)) rfl ?_; rintro _ wa10 ⟨⟨⟩, xa9⟩; have za11 := xa9.size; replace ha5 := ha5.ext xa9; replace X := X.ext xa9; replace hs := Bk.rowSits.ext hs xa9; replace rx := rx.ext xa9; replace sx := Nd.sits.ext sx xa9; clear xa9; refine lw_pure (pur_max rfl rfl rfl) rfl (cA rfl rfl (lw_nil (qw_block_norm (qw_then (cw_region ?_))))); refine lw_pure (pur_add rfl rfl (IntWalk.i64_in _ (by omega))) rfl ?_; refine cM rfl rfl (lw_nil ?_); rotate_left 1
    refine qw_round (j + 1) ?_ ⟨hs, X, by omega⟩ (by omega); refine sub_cons rfl (sub_cons rfl (sub_cons rfl (sub_cons' rfl ?_ sub_nil))); rw [ht, rowDepth_snoc]
  · have : j = l.length := by omega
    subst this; have hb0 := rowDepth_le l; rw [List.take_length]
    focus
     refine cS (lw_pure (pur_lss rfl rfl) rfl (cT (cw_seq ?_))); refine cw_no rfl (by omega) ?_; refine cw_exit (qw_then_exit (qw_then_exit (qw_block_exit (qw_then (cS (cM rfl rfl ?_)))))); refine lw_pure (pur_add rfl rfl (IntWalk.i64_in _ (by omega))) rfl ?_; refine cA rfl rfl (cT (cw_ret (qw_ret1 rfl rfl ?_))); rotate_left 1
    exact ⟨rfl, X⟩
set_option maxRecDepth 100000 in
set_option maxHeartbeats 1000000 in
theorem Size_c (N : Nat) : ∀ (t : Nd) (S : Nat → Prop) (a : Option Addr) (c : Nat) (w : World), t.size < N → t.size ≤ 1000000000 → t.sits S w a →
 Calls Tryd.prog 55 #[t.val a c] w fun e w' => e = .returned (.int .i64 t.size) ∧ Ext w w' := by
 induction N with
 | zero => intro t S a c w h; omega
 | succ N ih =>
  rintro ⟨k, n, s, l⟩ S a c w hN hM hs
  have IH := Lib.hid ih; clear ih
  simp only [Nd.sits] at hs; simp only [Nd.size] at hN hM; have X := Ext.refl w; have hl := length_rowSize l; rw [show ((Nd.mk k n s l).size : Int) = ((rowSize l : Nat) : Int) + 1 from by simp only [Nd.size]; omega]; refine calls_in Tryd.func55 Tryd.ntmps55 rfl rfl ?_
  focus
   refine cS ?_; (refine lw_box' [_, _, _, _] rfl rfl rfl ?_; intro b1 w2 n3); have h4 := n3.blk; have x5 := n3.ext; have p6 := n3.pos; have z7 := n3.size; clear n3; replace hs := Bk.rowSits.ext hs x5; replace X := X.ext x5; clear x5; refine cA rfl rfl (cN (cA rfl rfl (cT (cw_seq (cS (lw_pure (pur_fieldAddr tabOk rfl rfl rfl) rfl (lw_load_b tabOk rfl rfl rfl h4 rfl rfl (lw_pure (pur_len_slice tabOk rfl rfl) rfl (cM rfl rfl (cT (cw_block ?_))))))))))); rotate_left 1
  refine cw_loop (ι := Nat) (fun j => [(9, .int .i64 j), (8, .int .i64 l.length), (7, .slice a l.length c), (3, .int .i64 (((rowSize (l.take j) : Nat) : Int) + 1))]) (fun j w' => rowSits S w' l a ∧ Ext w w' ∧ j ≤ l.length) (fun j => l.length - j) 0 (by (refine sub_cons rfl ?_; refine sub_cons rfl ?_; refine sub_cons rfl ?_; refine sub_cons rfl ?_; exact sub_nil)) ⟨hs, X, Nat.zero_le _⟩ ?_; rintro j w1 ⟨hs, X, hj⟩; clear h4
  by_cases hlt : j < l.length
  · obtain ⟨kb, ko, rfl, hkS, hkid⟩ := kidRows hs (by intro e; subst e; simp at hlt)
    obtain ⟨xa, xc, rx, sx⟩ := hkid j l[j] (List.getElem?_eq_getElem hlt); have hsz := size_mem (List.getElem_mem hlt)
    have ht : l.take (j + 1) = l.take j ++ [l[j]] := by rw [List.take_add_one, List.getElem?_eq_getElem hlt]; rfl
    have hb0 := rowDepth_le (l.take j); have hb1 := rowSize_take l j; have hb2 := rowSize_take l (j + 1); have hb3 := depth_le l[j]; rw [ht, rowSize_snoc] at hb2; clear hkid
    generalize l[j] = x at *
    focus
     refine cS (lw_pure (pur_lss rfl rfl) rfl (cT (cw_seq ?_))); refine cw_yes rfl (by omega) ?_; refine cw_skip (qw_then (cw_seq (cw_block (cS ?_)))); refine lw_pure (pur_indexAddr tabOk rfl rfl rfl rfl (by omega) (by omega)) rfl ?_; refine lw_loads_r0 tabOk rfl rfl rfl rx rfl rfl ?_; (refine lw_alloc' [_, _, _, _] zOk rfl rfl ?_; intro ba1 wa2 na3); (refine lw_init' [_, _, _, _] tabOk rfl rfl rfl rfl rfl rfl na3 rfl ?_; clear na3; clear wa2; intro wa4 na3); have ha5 := na3.blk; have xa6 := na3.ext; have pa7 := na3.pos; have za8 := na3.size; clear na3; replace X := X.ext xa6; replace hs := Bk.rowSits.ext hs xa6; replace rx := rx.ext xa6; replace sx := Nd.sits.ext sx xa6; clear xa6; refine cT (cw_region (cM rfl rfl (lw_loads_b' [_, _, _, _] tabOk rfl rfl rfl ha5 rfl rfl rfl ?_))); refine cC (by kernel_rfl) rfl (IH.out _ S _ _ _ (by omega) (by omega) (by assumption)) rfl ?_; rintro _ wa10 ⟨⟨⟩, xa9⟩; have za11 := xa9.size; replace ha5 := ha5.ext xa9; replace X := X.ext xa9; replace hs := Bk.rowSits.ext hs xa9; replace rx := rx.ext xa9; replace sx := Nd.sits.ext sx xa9; clear xa9; refine lw_pure (pur_add rfl rfl (IntWalk.i64_in _ (by omega))) rfl ?_; refine cA rfl rfl (lw_nil (qw_block_norm (qw_then (cw_region ?_)))); refine lw_pure (pur_add rfl rfl (IntWalk.i64_in _ (by omega))) rfl ?_; refine cM rfl rfl (lw_nil ?_); rotate_left 1
    refine qw_round (j + 1) ?_ ⟨hs, X, by omega⟩ (by omega); refine sub_cons rfl (sub_cons rfl (sub_cons rfl (sub_cons' rfl ?_ sub_nil))); rw [ht, rowSize_snoc]
    congr 1; omega
  · have : j = l.length := by omega
    subst this; have hb0 := rowDepth_le l; rw [List.take_length]
    focus
     refine cS (lw_pure (pur_lss rfl rfl) rfl (cT (cw_seq ?_))); refine cw_no rfl (by omega) ?_; refine cw_exit (qw_then_exit (qw_then_exit (qw_block_exit (qw_then (cS (cM rfl rfl (cA rfl rfl (cT (cw_ret (qw_ret1 rfl rfl ?_)))))))))); rotate_left 1
    exact ⟨rfl, X⟩
end Bk
namespace Bk
open Go Go.RowKit
abbrev VD.cells (v : VD) : List Value := [str v.name, .int .u8 v.kind, .int .i64 v.len]
abbrev VD.val (v : VD) : Value := .agg #[str v.name, .int .u8 v.kind, .int .i64 v.len]
def VDAt (w : World) (b o : Nat) (v : VD) : Prop := Row w ⟨b, o, none⟩ v.cells
def VDs (S : Nat → Prop) (w : World) (l : List VD) (a : Option Addr) : Prop := Arr S 3 VDAt w l a
abbrev PD.cells (p : PD) (pa : Option Addr) (pc : Nat) (ba : Option Addr) (bc : Nat) : List Value := [str p.name, .slice pa p.params.length pc, .int .u8 p.body.kind, .int .i64 p.body.num, str p.body.name, .slice ba p.body.kids.length bc]
def PDAt (S : Nat → Prop) (w : World) (b o : Nat) (p : PD) : Prop := ∃ pa pc ba bc, Row w ⟨b, o, none⟩ (p.cells pa pc ba bc) ∧ VDs S w p.params pa ∧ p.body.sits S w ba
def PDs (S : Nat → Prop) (w : World) (l : List PD) (a : Option Addr) : Prop := Arr S 6 (PDAt S) w l a
theorem VDs.ext {S : Nat → Prop} {w w' : World} {l : List VD} {a : Option Addr} (h : VDs S w l a) (x : Ext w w') : VDs S w' l a := h.mono (fun _ h => h) (fun _ _ _ _ _ h => Row.ext h x)
theorem PDs.ext {S : Nat → Prop} {w w' : World} {l : List PD} {a : Option Addr} (h : PDs S w l a) (x : Ext w w') : PDs S w' l a :=
 h.mono (fun _ h => h) (fun _ _ _ _ _ ⟨pa, pc, ba, bc, h1, h2, h3⟩ => ⟨pa, pc, ba, bc, h1.ext x, h2.ext x, h3.ext x⟩)
abbrev PG.cells (g : PG) (va : Option Addr) (vc : Nat) (pa : Option Addr) (pc : Nat) (ma : Option Addr) (mc : Nat) : List Value :=
 [.slice va g.vars.length vc, .slice pa g.procs.length pc, .int .u8 g.main.kind, .int .i64 g.main.num, str g.main.name, .slice ma g.main.kids.length mc]
structure PG.sits (S : Nat → Prop) (w : World) (g : PG) (va pa ma : Option Addr) : Prop where
 vars : VDs S w g.vars va
 procs : PDs S w g.procs pa
 main : g.main.sits S w ma
theorem PG.sits.ext {S : Nat → Prop} {w w' : World} {g : PG} {va pa ma : Option Addr} (h : g.sits S w va pa ma) (x : Ext w w') : g.sits S w' va pa ma := ⟨h.vars.ext x, h.procs.ext x, h.main.ext x⟩
theorem VDs.fr {S T : Nat → Prop} {w w' : World} {l : List VD} {a : Option Addr} (h : VDs S w l a) (x : Fr T w w') (hs : ∀ b, S b → ¬ T b) : VDs S w' l a := h.mono (fun _ h => h) (fun b _ _ _ hb h => Row.fr h x (hs b hb))
theorem PDs.fr {S T : Nat → Prop} {w w' : World} {l : List PD} {a : Option Addr} (h : PDs S w l a) (x : Fr T w w') (hs : ∀ b, S b → ¬ T b) : PDs S w' l a :=
 h.mono (fun _ h => h) (fun b _ _ _ hb ⟨pa, pc, ba, bc, h1, h2, h3⟩ => ⟨pa, pc, ba, bc, h1.fr x (hs b hb), h2.fr x hs, h3.fr x hs⟩)
theorem PG.sits.fr {S T : Nat → Prop} {w w' : World} {g : PG} {va pa ma : Option Addr} (h : g.sits S w va pa ma) (x : Fr T w w') (hs : ∀ b, S b → ¬ T b) : g.sits S w' va pa ma := ⟨h.vars.fr x hs, h.procs.fr x hs, h.main.fr x hs⟩
theorem VDs.wide {S S' : Nat → Prop} {w : World} {l : List VD} {a : Option Addr} (h : VDs S w l a) (hs : ∀ b, S b → S' b) : VDs S' w l a := h.mono hs (fun _ _ _ _ _ h => h)
theorem row_move {w w' : World} {b o : Nat} {vs : List Value} (h : Row w ⟨b, o, none⟩ vs) (hc : ∀ o v, w.cell? ⟨b, o, none⟩ = some v → w'.cell? ⟨b, o, none⟩ = some v) : Row w' ⟨b, o, none⟩ vs := fun i v hi => by
 have := h.at hi
 have e : (⟨b, o, none⟩ : Addr).add i = ⟨b, o + i, none⟩ := by unfold Addr.add; by_cases h0 : i = 0 <;> simp [h0]
 rw [e]; exact hc _ _ this
theorem VDs.move {S S' : Nat → Prop} {w w' : World} {l : List VD} {a : Option Addr} (h : VDs S w l a) (hS : ∀ b, S b → S' b) (hc : ∀ b o v, S b → w.cell? ⟨b, o, none⟩ = some v → w'.cell? ⟨b, o, none⟩ = some v) : VDs S' w' l a :=
 h.mono hS (fun b o x _ hb h => row_move h (fun o v => hc b o v hb))
theorem VDs.lt2 {S : Nat → Prop} {w : World} {l : List VD} {a : Option Addr} (h : VDs S w l a) : VDs (fun b => S b ∧ b < w.heap.size) w l a := by
 rcases h with h | ⟨b, o, h1, h2, h3⟩
 · exact Or.inl h
 · cases l with
   | nil => exact Or.inl rfl
   | cons v r => exact Or.inr ⟨b, o, h1, ⟨h2, cell_lt (Row.at0 (h3 0 v rfl) rfl)⟩, h3⟩
def vdShape : Shape VD where
 sz := 3
 rep := fun _ _ v cs => cs = v.cells
 len := fun h => by rw [h]; rfl
 one := fun h => by rw [h]; rfl
 mono := fun h _ _ => h
 lt := fun h => h
def pdShape : Shape PD where
 sz := 6
 rep := fun w S p cs => ∃ pa pc ba bc, cs = p.cells pa pc ba bc ∧ VDs S w p.params pa ∧ p.body.sits S w ba
 len := fun ⟨_, _, _, _, h, _⟩ => by rw [h]; rfl
 one := fun ⟨_, _, _, _, h, _⟩ => by rw [h]; rfl
 mono := fun ⟨pa, pc, ba, bc, h, h1, h2⟩ hS hc => ⟨pa, pc, ba, bc, h, h1.move hS hc, Nd.sits_mono hS hc _ ba h2⟩
 lt := fun ⟨pa, pc, ba, bc, h, h1, h2⟩ => ⟨pa, pc, ba, bc, h, h1.lt2, sits_lt2 _ ba h2⟩
theorem OwnL.vds {w : World} {B e : Nat} {a : Option Addr} {len cap : Nat} {xs : List VD} {S : Nat → Prop} (h : OwnL vdShape w B e (.slice a len cap) xs) (hS : ∀ b, B ≤ b → S b) : VDs S w xs a := by
 by_cases hx : xs = []
 · exact Or.inl hx
 · obtain ⟨g, cap', hv, hg, hall⟩ := h.rows hx
   simp only [Value.slice.injEq] at hv; obtain ⟨rfl, -, -⟩ := hv; refine Or.inr ⟨g, 0, rfl, hS g hg, fun i x hi => ?_⟩; obtain ⟨cs, hr, rfl⟩ := hall i x hi
   simpa [vdShape, VDAt] using hr
theorem OwnL.pds {w : World} {B e : Nat} {a : Option Addr} {len cap : Nat} {xs : List PD} {S : Nat → Prop} (h : OwnL pdShape w B e (.slice a len cap) xs) (hS : ∀ b, B ≤ b → S b) : PDs S w xs a := by
 by_cases hx : xs = []
 · exact Or.inl hx
 · obtain ⟨g, cap', hv, hg, hall⟩ := h.rows hx
   simp only [Value.slice.injEq] at hv; obtain ⟨rfl, -, -⟩ := hv; refine Or.inr ⟨g, 0, rfl, hS g hg, fun i x hi => ?_⟩; obtain ⟨cs, hr, pa, pc, ba, bc, rfl, h1, h2⟩ := hall i x hi
   exact ⟨pa, pc, ba, bc, by simpa [pdShape] using hr, h1.wide (fun b hb => hS b hb.1), h2.wide (fun b hb => hS b hb.1)⟩
theorem maxLen_one : 1 ≤ maxLen := by unfold maxLen; omega
theorem OwnL.lit {α : Type} {sh : Shape α} {w : World} {B b e : Nat} {x : α} {cs : List Value} (h : TB w b cs e) (hB : B ≤ b) (hr : sh.rep w (fun k => B ≤ k ∧ k ≠ b) x cs) : OwnL sh w B e (.slice (some ⟨b, 0, none⟩) 1 1) [x] := by
 have hl := sh.len hr; refine ⟨[cs], ⟨by simp [hl], Or.inr ⟨b, 1, cs.toArray, rfl, hB, h, Nat.le_refl _, maxLen_one, by simp [hl], by simp [← hl]⟩⟩, rfl, fun i y ds hy hd => ?_⟩
 match i, hy, hd with
 | 0, hy, hd =>
  simp at hy hd
  subst hy hd
  exact sh.mono hr (fun k hk => ⟨hk.1, fun e => hk.2 (by simpa [Value.ownBlock] using e.symm)⟩) (fun _ _ _ _ h => h)
end Bk
namespace Bk
section
variable {ts : List Tok} {n : Int}
theorem next_at (σ : PS) : (nextP σ).at_ = σ.at_ + 1 := rfl
theorem expr_size (k : Nat) : (∀ lv σ, σ.at_ ≤ ts.length → (exprP ts n k lv σ).1.size + 8 * σ.at_ ≤ 8 * (exprP ts n k lv σ).2.at_ + 1) ∧ (∀ lv x σ, σ.at_ ≤ ts.length → (climbP ts n k lv x σ).1.size + 8 * σ.at_ ≤ 8 * (climbP ts n k lv x σ).2.at_ + x.size) ∧
 (∀ σ, σ.at_ ≤ ts.length → (unaryP ts n k σ).1.size + 8 * σ.at_ ≤ 8 * (unaryP ts n k σ).2.at_ + 1) ∧ (∀ σ, σ.at_ ≤ ts.length → (primaryP ts n k σ).1.size + 8 * σ.at_ ≤ 8 * (primaryP ts n k σ).2.at_ + 1) ∧
 (∀ σ, σ.at_ ≤ ts.length → (placeP ts n k σ).1.size + 8 * σ.at_ ≤ 8 * (placeP ts n k σ).2.at_ + 1) := by
 induction k with
 | zero =>
  refine ⟨fun lv σ h => ?_, fun lv x σ h => ?_, fun σ h => ?_, fun σ h => ?_, fun σ h => ?_⟩
  · rw [exprP]; simp [Nd.size, rowSize]; omega
  · rw [climbP]; simp; omega
  · rw [unaryP]; simp [Nd.size, rowSize]; omega
  · rw [primaryP]; simp [Nd.size, rowSize]; omega
  · rw [placeP]; simp [Nd.size, rowSize]; omega
 | succ k ih =>
  obtain ⟨iE, iC, iU, iP, iL⟩ := ih; obtain ⟨lE, lC, lU, lP, lL⟩ := expr_inv (ts := ts) (n := n) k; refine ⟨fun lv σ h => ?_, fun lv x σ h => ?_, fun σ h => ?_, fun σ h => ?_, fun σ h => ?_⟩
  · rw [exprP]
    have h1 := iU σ h; have h2 := iC lv (unaryP ts n k σ).1 (unaryP ts n k σ).2 (lU σ h).1.wf
    omega
  · rw [climbP]
    split
    · simp; omega
    · rename_i op hop
      obtain ⟨hne, -⟩ := binOf_ne hop; have hn := next_le (peek_in h (Or.inl hne))
      split
      · simp; omega
      · have h1 := iE (level op + 1) (nextP σ) hn.wf
        have h2 := iC lv (.mk op 0 [] [x, (exprP ts n k (level op + 1) (nextP σ)).1]) (exprP ts n k (level op + 1) (nextP σ)).2 (lE (level op + 1) (nextP σ) hn.wf).1.wf; have h3 := (lE (level op + 1) (nextP σ) hn.wf).1.le; rw [next_at] at h1 h3; simp only [Nd.size, rowSize] at h2
        omega
  · rw [unaryP]
    split
    · rename_i hh
      have hn := next_le (has_in h hh (by decide)); have h1 := iU (nextP σ) hn.wf; rw [next_at] at h1
      simp only [Nd.size, rowSize]; omega
    · split
      · rename_i hh
        have hn := next_le (has_in h hh (by decide)); have h1 := iU (nextP σ) hn.wf; rw [next_at] at h1
        simp only [Nd.size, rowSize]; omega
      · exact iP σ h
  · rw [primaryP]
    split
    · have := (number_le (n := n) (a := 0) (b := 9223372036854775807) h).le
      simp only [Nd.size, rowSize]; omega
    · split
      · rename_i hh
        have h1 := next_le (has_in h hh (by decide)); have h2 := h1.trans (expect_le (n := n) (t := [40]) h1.wf (by decide)); have h3 := h2.trans (name_le (n := n) h2.wf); have h4 := (h3.trans (expect_le (n := n) (t := [41]) h3.wf (by decide))).le
        simp only [Nd.size, rowSize]; omega
      · split
        · rename_i hh
          have h1 := next_le (has_in h hh (by decide)); have h2 := h1.trans (expect_le (n := n) (t := [40]) h1.wf (by decide)); have h3 := h2.trans (name_le (n := n) h2.wf); have h4 := (h3.trans (expect_le (n := n) (t := [41]) h3.wf (by decide))).le
          simp only [Nd.size, rowSize]; omega
        · split
          · rename_i hh
            have hn := next_le (has_in h hh (by decide)); have h1 := iE 1 (nextP σ) hn.wf; have h2 := (expect_le (n := n) (t := [41]) (lE 1 (nextP σ) hn.wf).1.wf (by decide)).le; rw [next_at] at h1
            simp only; omega
          · exact iL σ h
  · rw [placeP]
    have h0 := name_le (n := n) h; have h0' := h0.le
    split
    · rename_i hh
      have hn := next_le (has_in h0.wf hh (by decide)); have h1 := iE 1 (nextP (nameP ts n σ).2) hn.wf; have h2 := (expect_le (n := n) (t := [93]) (lE 1 _ hn.wf).1.wf (by decide)).le; rw [next_at] at h1
      simp only [Nd.size, rowSize]; omega
    · simp only [Nd.size, rowSize]; omega
theorem rowSize_append (l m : List Nd) : rowSize (l ++ m) = rowSize l + rowSize m := by
 induction l with
 | nil => simp [rowSize]
 | cons x r ih => simp only [List.cons_append, rowSize, ih]; omega
theorem arg_size (σ : PS) : (argP ts n σ).1.size = 1 := rfl
theorem args_size : ∀ (k : Nat) (acc : List Nd) (σ : PS), σ.at_ ≤ ts.length → rowSize (argsP ts n k acc σ).1 + 8 * σ.at_ ≤ 8 * (argsP ts n k acc σ).2.at_ + rowSize acc
 | 0, acc, σ, h => by rw [argsP]; simp; omega
 | k + 1, acc, σ, h => by
  rw [argsP]
  split
  · rename_i hh
    have h1 := next_le (has_in h hh (by decide))
    generalize hS : (if acc.length = 8 ∧ isName (peekP ts (nextP σ)).text = true then failP (nextP σ) (peekP ts (nextP σ)).pos 5 else nextP σ) = ρ
    have h2 : Le ts (nextP σ) ρ := by
     rw [← hS]
     split
     · exact fail_le h1.wf _ _
     · exact Le.refl h1.wf
    have h3 := name_le (n := n) h2.wf; have h4 := args_size k (acc ++ [(argP ts n ρ).1]) (argP ts n ρ).2 h3.wf; rw [rowSize_append] at h4
    have h5 : (argP ts n ρ).2.at_ ≥ σ.at_ + 1 := by
     have e1 := h2.le; have e2 := h3.le
     rw [next_at] at e1
     show (nameP ts n ρ).2.at_ ≥ σ.at_ + 1
     omega
    simp only [rowSize, arg_size] at h4
    omega
  · simp; omega
theorem call_size {k : Nat} {kind : Int} {σ : PS} (hn : In ts σ) : (callP ts n k kind σ).1.size + 8 * σ.at_ ≤ 8 * (callP ts n k kind σ).2.at_ + 1 := by
 unfold callP
 dsimp only; have h1 := next_le hn; have h2 := h1.trans (name_le (n := n) h1.wf); have h3 := h2.trans (expect_le (n := n) (t := [40]) h2.wf (by decide)); have e1 := (name_le (n := n) h1.wf).le; have e2 := (expect_le (n := n) (t := [40]) h2.wf (by decide)).le; rw [next_at] at e1
 split
 · have := next_at (expectP ts n (nameP ts n (nextP σ)).2 [40])
   simp only [Nd.size, rowSize]; omega
 · have h4 := name_le (n := n) h3.wf
   have e3 := h4.le; have h5 := args_size (ts := ts) (n := n) k [(argP ts n (expectP ts n (nameP ts n (nextP σ)).2 [40])).1] (argP ts n (expectP ts n (nameP ts n (nextP σ)).2 [40])).2 h4.wf; have h6 := args_le (n := n) k [(argP ts n (expectP ts n (nameP ts n (nextP σ)).2 [40])).1] (argP ts n (expectP ts n (nameP ts n (nextP σ)).2 [40])).2 h4.wf; have e4 := (expect_le (n := n) (t := [41]) h6.wf (by decide)).le; have e5 : (argP ts n (expectP ts n (nameP ts n (nextP σ)).2 [40])).2.at_ ≥ (expectP ts n (nameP ts n (nextP σ)).2 [40]).at_ := e3; simp only [rowSize, arg_size] at h5
   simp only [Nd.size]; omega
theorem place_size {k : Nat} {σ : PS} (h : σ.at_ ≤ ts.length) : (placeP ts n k σ).1.size + 8 * σ.at_ ≤ 8 * (placeP ts n k σ).2.at_ + 1 := (expr_size k).2.2.2.2 σ h
theorem exprs_size {k : Nat} {lv : Int} {σ : PS} (h : σ.at_ ≤ ts.length) : (exprP ts n k lv σ).1.size + 8 * σ.at_ ≤ 8 * (exprP ts n k lv σ).2.at_ + 1 := (expr_size k).1 lv σ h
theorem update_size {k : Nat} {σ : PS} (h : σ.at_ ≤ ts.length) : (updateP ts n k σ).1.size + 8 * σ.at_ ≤ 8 * (updateP ts n k σ).2.at_ + 1 := by
 unfold updateP
 dsimp only; have h1 := place_size (n := n) (k := k) h; have l1 := place_le (n := n) (k := k) h
 split
 · rename_i hh
   have l2 := next_le (has_in l1.wf hh (by decide)); have h2 := place_size (n := n) (k := k) l2.wf; rw [next_at] at h2
   simp only [Nd.size, rowSize]; omega
 · split
   · have := (unexp_le (n := n) l1.wf).le
     have := l1.le
     simp only [Nd.size, rowSize]; omega
   · rename_i hh
     have l2 := next_le (peek_in l1.wf (Or.inl (upd_ne hh))); have h2 := exprs_size (n := n) (k := k) (lv := 1) l2.wf; rw [next_at] at h2
     simp only [Nd.size, rowSize]; omega
theorem stack_size {k : Nat} {kind : Int} {σ : PS} (hn : In ts σ) : (stackP ts n k kind σ).1.size + 8 * σ.at_ ≤ 8 * (stackP ts n k kind σ).2.at_ + 1 := by
 unfold stackP
 dsimp only; have h1 := next_le hn; have h2 := place_size (n := n) (k := k) h1.wf; have l2 := place_le (n := n) (k := k) h1.wf; have l3 := expect_le (n := n) (t := [44]) l2.wf (by decide); have l4 := (name_le (n := n) l3.wf).le; have l3' := l3.le; rw [next_at] at h2
 simp only [Nd.size, rowSize]; omega
theorem tape_size {k : Nat} {kind : Int} {σ : PS} (hn : In ts σ) : (tapeP ts n k kind σ).1.size + 8 * σ.at_ ≤ 8 * (tapeP ts n k kind σ).2.at_ + 1 := by
 unfold tapeP
 have h1 := next_le hn; have h2 := place_size (n := n) (k := k) h1.wf; rw [next_at] at h2
 simp only [Nd.size, rowSize]; omega
theorem stmt_size (k : Nat) : (∀ σ, σ.at_ ≤ ts.length → (stmtP ts n k σ).1.size + 8 * σ.at_ ≤ 8 * (stmtP ts n k σ).2.at_ + 1) ∧ (∀ kind mid last σ, In ts σ → mid ≠ [] → last ≠ [] → (branchesP ts n k kind mid last σ).1.size + 8 * σ.at_ ≤ 8 * (branchesP ts n k kind mid last σ).2.at_ + 1) ∧ (∀ σ, In ts σ → (localP ts n k σ).1.size + 8 * σ.at_ ≤ 8 * (localP ts n k σ).2.at_ + 1) ∧
 (∀ σ, σ.at_ ≤ ts.length → (blockP ts n k σ).1.size + 8 * σ.at_ ≤ 8 * (blockP ts n k σ).2.at_ + 2) ∧ (∀ acc σ, σ.at_ ≤ ts.length → rowSize (stmtsP ts n k acc σ).1 + 8 * σ.at_ ≤ 8 * (stmtsP ts n k acc σ).2.at_ + rowSize acc + (if σ.err = 0 then 1 else 0)) := by
 induction k with
 | zero =>
  refine ⟨fun σ h => ?_, fun kind mid last σ h _ _ => ?_, fun σ h => ?_, fun σ h => ?_, fun acc σ h => ?_⟩
  · rw [stmtP]; simp [Nd.size, rowSize]; omega
  · rw [branchesP]; simp [Nd.size, rowSize]; omega
  · rw [localP]; simp [Nd.size, rowSize]; omega
  · rw [blockP]; simp [Nd.size, rowSize]; omega
  · rw [stmtsP]; simp only; split <;> omega
 | succ k ih =>
  obtain ⟨iS, iB, iL, iK, iT⟩ := ih; obtain ⟨lS, lB, lL, lK, lT⟩ := stmt_inv (ts := ts) (n := n) k; refine ⟨fun σ h => ?_, fun kind mid last σ hn hmid hlast => ?_, fun σ hn => ?_, fun σ h => ?_, fun acc σ h => ?_⟩
  · have hin : ∀ t : List UInt8, (peekP ts σ).text = t → t ≠ [] → In ts σ := fun t e ht => peek_in h (Or.inl (by rw [e]; exact ht))
    rw [stmtP]
    by_cases e : (peekP ts σ).text = [112, 117, 115, 104]
    · rw [if_pos e]; exact stack_size (hin _ e (by decide))
    rw [if_neg e]; clear e
    by_cases e : (peekP ts σ).text = [112, 111, 112]
    · rw [if_pos e]; exact stack_size (hin _ e (by decide))
    rw [if_neg e]; clear e
    by_cases e : (peekP ts σ).text = [114, 101, 97, 100]
    · rw [if_pos e]; exact tape_size (hin _ e (by decide))
    rw [if_neg e]; clear e
    by_cases e : (peekP ts σ).text = [117, 110, 114, 101, 97, 100]
    · rw [if_pos e]; exact tape_size (hin _ e (by decide))
    rw [if_neg e]; clear e
    by_cases e : (peekP ts σ).text = [119, 114, 105, 116, 101]
    · rw [if_pos e]; exact tape_size (hin _ e (by decide))
    rw [if_neg e]; clear e
    by_cases e : (peekP ts σ).text = [117, 110, 119, 114, 105, 116, 101]
    · rw [if_pos e]; exact tape_size (hin _ e (by decide))
    rw [if_neg e]; clear e
    by_cases e : (peekP ts σ).text = [99, 97, 108, 108]
    · rw [if_pos e]; exact call_size (hin _ e (by decide))
    rw [if_neg e]; clear e
    by_cases e : (peekP ts σ).text = [117, 110, 99, 97, 108, 108]
    · rw [if_pos e]; exact call_size (hin _ e (by decide))
    rw [if_neg e]; clear e
    by_cases e : (peekP ts σ).text = [105, 102]
    · rw [if_pos e]; exact iB _ _ _ σ (hin _ e (by decide)) (by decide) (by decide)
    rw [if_neg e]; clear e
    by_cases e : (peekP ts σ).text = [102, 114, 111, 109]
    · rw [if_pos e]; exact iB _ _ _ σ (hin _ e (by decide)) (by decide) (by decide)
    rw [if_neg e]; clear e
    by_cases e : (peekP ts σ).text = [108, 111, 99, 97, 108]
    · rw [if_pos e]; exact iL σ (hin _ e (by decide))
    rw [if_neg e]; clear e
    exact update_size h
  · rw [branchesP]
    (try dsimp only); have l1 := next_le hn; have s2 := exprs_size (n := n) (k := k) (lv := 1) l1.wf; have l2 := expr_le (n := n) (k := k) (lv := 1) l1.wf; have s3 := iK _ l2.wf; have l3 := lK _ l2.wf; have l4 := expect_le (n := n) l3.wf hmid; have s5 := iK _ l4.wf; have l5 := lK _ l4.wf; have l6 := expect_le (n := n) l5.wf hlast; have s7 := exprs_size (n := n) (k := k) (lv := 1) l6.wf; have e4 := l4.le; have e6 := l6.le; rw [next_at] at s2
    simp only [Nd.size, rowSize]; omega
  · rw [localP]
    (try dsimp only); have l1 := next_le hn
    split
    · rename_i hh
      have l2 := next_le (has_in l1.wf hh (by decide)); have l3 := name_le (n := n) l2.wf; have s4 := iK _ l3.wf; have e3 := l3.le; rw [next_at, next_at] at e3
      simp only [Nd.size, rowSize]; omega
    · have l2 := name_le (n := n) l1.wf
      have l3 := expect_le (n := n) (t := [61]) l2.wf (by decide); have s4 := exprs_size (n := n) (k := k) (lv := 1) l3.wf; have l4 := expr_le (n := n) (k := k) (lv := 1) l3.wf; have s5 := iK _ l4.wf; have l5 := lK _ l4.wf; have l6 := expect_le (n := n) (t := [100, 101, 108, 111, 99, 97, 108]) l5.wf (by decide); have s7 := exprs_size (n := n) (k := k) (lv := 1) l6.wf; have e2 := l2.le; have e3 := l3.le; have e6 := l6.le; rw [next_at] at e2
      simp only [Nd.size, rowSize]; omega
  · rw [blockP]
    (try dsimp only); have l1 := expect_le (n := n) (t := [123]) h (by decide); have s2 := iT [] _ l1.wf; have e1 := l1.le; simp only [rowSize] at s2; simp only [Nd.size]
    split at s2 <;> omega
  · rw [stmtsP]
    split
    · simp only; (try split) <;> omega
    · rename_i he
      have h0 : σ.err = 0 := Decidable.byContradiction he
      split
      · rename_i hh
        have := next_at σ
        simp only; (try split) <;> omega
      · have s1 := iS σ h
        have l1 := lS σ h; have l2 := expect_le (n := n) (t := [59]) l1.wf (by decide); have s3 := iT (acc ++ [(stmtP ts n k σ).1]) _ l2.wf; rw [rowSize_append] at s3; simp only [rowSize] at s3; have e2 := l2.le
        have e3 : (expectP ts n (stmtP ts n k σ).2 [59]).err = 0 → (stmtP ts n k σ).2.at_ + 1 ≤ (expectP ts n (stmtP ts n k σ).2 [59]).at_ := fun e => expect_lt (n := n) e
        (try rw [if_pos h0])
        split at s3
        · rename_i e; have := e3 e; omega
        · omega
theorem block_size {k : Nat} {σ : PS} (h : σ.at_ ≤ ts.length) : (blockP ts n k σ).1.size ≤ 8 * ts.length + 2 := by
 have h1 := (stmt_size (ts := ts) (n := n) k).2.2.2.1 σ h; have h2 := ((stmt_inv (ts := ts) (n := n) k).2.2.2.1 σ h).wf
 omega
end
end Bk
namespace Bk
open Go Go.RowKit Go.Proofs
attribute [local irreducible] Go.Calls
set_option maxRecDepth 100000 in
set_option maxHeartbeats 1000000 in
theorem limit_c (c : PC) (σ : PS) (t : Nd) (S : Nat → Prop) (a : Option Addr) (k : Nat) (off : Int) (w : World) (hP : PP c σ w) (hz : t.size ≤ 1000000000) (hs : t.sits S w a) :
 Calls Tryd.prog 45 #[.pointer (some ⟨c.pb, 0, none⟩), t.val a k, .int .i64 off] w fun r w' => r = .returned (.tuple #[]) ∧ PP c (limitP t off σ) w' ∧ Fr (· = c.pb) w w' := by
 have X := Fr.refl (· = c.pb) w; have hpb := hP.pbB; have hB := hP.B
 by_cases h0 : σ.err = 0
 · by_cases hd : 80 < t.depth
   · rw [show limitP t off σ = failP σ off 19 from by simp [limitP, h0, hd]]
     refine calls_in Tryd.func45 Tryd.ntmps45 rfl rfl ?_
     focus
      refine cS ?_; (refine lw_box' [_, _, _, _] rfl rfl rfl ?_; intro b1 w2 n3); have h4 := n3.blk; have x5 := n3.ext; have p6 := n3.pos; have z7 := n3.size; clear n3; replace hP := hP.ext x5; replace hs := Nd.sits.ext hs x5; replace X := X.ext x5; clear x5; refine cT (cw_block (cS (cM rfl rfl (lw_pure (pur_nilCheck rfl) rfl (lw_pure (pur_fieldAddr tabOk rfl rfl rfl) rfl (lw_load_b tabOk rfl rfl rfl (PP.blk hP) rfl rfl (lw_pure (pur_neq rfl rfl) rfl (cA rfl rfl (cT ?_))))))))); refine cw_no rfl (by omega) ?_; refine cS (lw_loads_b' [_, _, _, _] tabOk rfl rfl rfl h4 rfl rfl rfl ?_); refine cC (by kernel_rfl) rfl (Depth_c _ _ _ _ _ _ (Nat.lt_succ_self _) (by omega) (by assumption)) rfl ?_; rintro _ w9 ⟨⟨⟩, x8⟩; have z10 := x8.size; replace h4 := h4.ext x8; replace hP := hP.ext x8; replace hs := Nd.sits.ext hs x8; replace X := X.ext x8; clear x8; refine lw_pure (pur_gtr rfl rfl) rfl (cA rfl rfl (cT ?_)); refine cw_yes rfl (by assumption) ?_; refine cw_region (cM rfl rfl (cM rfl rfl ?_)); refine cC (by kernel_rfl) rfl (fail_c _ _ _ _ _ (by assumption)) rfl ?_; rintro _ w13 ⟨⟨⟩, ⟨h11, f12⟩⟩; have z14 := f12.size; replace h4 := h4.fr f12 (by omega); clear hP hs; replace X := X.fr f12 (by omega); clear f12; refine lw_nil (qw_block_norm (qw_end0 rfl ?_)); rotate_left 1
     exact ⟨rfl, by assumption, X⟩
   · by_cases h2 : 2000 < t.size
     · rw [show limitP t off σ = failP σ off 5 from by simp [limitP, h0, hd, h2]]
       refine calls_in Tryd.func45 Tryd.ntmps45 rfl rfl ?_
       focus
        refine cS ?_; (refine lw_box' [_, _, _, _] rfl rfl rfl ?_; intro ba1 wa2 na3); have ha4 := na3.blk; have xa5 := na3.ext; have pa6 := na3.pos; have za7 := na3.size; clear na3; replace hP := hP.ext xa5; replace hs := Nd.sits.ext hs xa5; replace X := X.ext xa5; clear xa5; refine cT (cw_block (cS (cM rfl rfl (lw_pure (pur_nilCheck rfl) rfl (lw_pure (pur_fieldAddr tabOk rfl rfl rfl) rfl (lw_load_b tabOk rfl rfl rfl (PP.blk hP) rfl rfl (lw_pure (pur_neq rfl rfl) rfl (cA rfl rfl (cT ?_))))))))); refine cw_no rfl (by omega) ?_; refine cS (lw_loads_b' [_, _, _, _] tabOk rfl rfl rfl ha4 rfl rfl rfl ?_); refine cC (by kernel_rfl) rfl (Depth_c _ _ _ _ _ _ (Nat.lt_succ_self _) (by omega) (by assumption)) rfl ?_; rintro _ wa9 ⟨⟨⟩, xa8⟩; have za10 := xa8.size; replace ha4 := ha4.ext xa8; replace hP := hP.ext xa8; replace hs := Nd.sits.ext hs xa8; replace X := X.ext xa8; clear xa8; refine lw_pure (pur_gtr rfl rfl) rfl (cA rfl rfl (cT ?_)); refine cw_no rfl (by assumption) ?_; refine cS (lw_loads_b' [_, _, _, _] tabOk rfl rfl rfl ha4 rfl rfl rfl ?_); refine cC (by kernel_rfl) rfl (Size_c _ _ _ _ _ _ (Nat.lt_succ_self _) (by omega) (by assumption)) rfl ?_; rintro _ wa12 ⟨⟨⟩, xa11⟩; have za13 := xa11.size; replace ha4 := ha4.ext xa11; replace hP := hP.ext xa11; replace hs := Nd.sits.ext hs xa11; replace X := X.ext xa11; clear xa11; refine lw_pure (pur_gtr rfl rfl) rfl (cA rfl rfl (cT ?_)); refine cw_yes rfl (by omega) ?_; refine cw_region (cM rfl rfl (cM rfl rfl ?_)); refine cC (by kernel_rfl) rfl (fail_c _ _ _ _ _ (by assumption)) rfl ?_
        rintro _ wa16 ⟨⟨⟩, ⟨ha14, fa15⟩⟩; have za17 := fa15.size; replace ha4 := ha4.fr fa15 (by omega); clear hP hs; replace X := X.fr fa15 (by omega); clear fa15; refine lw_nil (qw_block_norm (qw_end0 rfl ?_)); rotate_left 1
       exact ⟨rfl, by assumption, X⟩
     · rw [show limitP t off σ = σ from by simp [limitP, h0, hd, h2]]
       refine calls_in Tryd.func45 Tryd.ntmps45 rfl rfl ?_
       focus
        refine cS ?_; (refine lw_box' [_, _, _, _] rfl rfl rfl ?_; intro bb1 wb2 nb3); have hb4 := nb3.blk; have xb5 := nb3.ext; have pb6 := nb3.pos; have zb7 := nb3.size; clear nb3; replace hP := hP.ext xb5; replace hs := Nd.sits.ext hs xb5; replace X := X.ext xb5; clear xb5; refine cT (cw_block (cS (cM rfl rfl (lw_pure (pur_nilCheck rfl) rfl (lw_pure (pur_fieldAddr tabOk rfl rfl rfl) rfl (lw_load_b tabOk rfl rfl rfl (PP.blk hP) rfl rfl (lw_pure (pur_neq rfl rfl) rfl (cA rfl rfl (cT ?_))))))))); refine cw_no rfl (by omega) ?_; refine cS (lw_loads_b' [_, _, _, _] tabOk rfl rfl rfl hb4 rfl rfl rfl ?_); refine cC (by kernel_rfl) rfl (Depth_c _ _ _ _ _ _ (Nat.lt_succ_self _) (by omega) (by assumption)) rfl ?_; rintro _ wb9 ⟨⟨⟩, xb8⟩; have zb10 := xb8.size; replace hb4 := hb4.ext xb8; replace hP := hP.ext xb8; replace hs := Nd.sits.ext hs xb8; replace X := X.ext xb8; clear xb8; refine lw_pure (pur_gtr rfl rfl) rfl (cA rfl rfl (cT ?_)); refine cw_no rfl (by assumption) ?_; refine cS (lw_loads_b' [_, _, _, _] tabOk rfl rfl rfl hb4 rfl rfl rfl ?_); refine cC (by kernel_rfl) rfl (Size_c _ _ _ _ _ _ (Nat.lt_succ_self _) (by omega) (by assumption)) rfl ?_; rintro _ wb12 ⟨⟨⟩, xb11⟩; have zb13 := xb11.size; replace hb4 := hb4.ext xb11; replace hP := hP.ext xb11; replace hs := Nd.sits.ext hs xb11; replace X := X.ext xb11; clear xb11; refine lw_pure (pur_gtr rfl rfl) rfl (cA rfl rfl (cT ?_)); refine cw_no rfl (by omega) ?_; refine cw_skip (qw_block_norm (qw_end0 rfl ?_)); rotate_left 1
       exact ⟨rfl, by assumption, X⟩
 · rw [show limitP t off σ = σ from by simp [limitP, h0]]
   refine calls_in Tryd.func45 Tryd.ntmps45 rfl rfl ?_
   focus
    refine cS ?_; (refine lw_box' [_, _, _, _] rfl rfl rfl ?_; intro bc1 wc2 nc3); have hc4 := nc3.blk; have xc5 := nc3.ext; have pc6 := nc3.pos; have zc7 := nc3.size; clear nc3; replace hP := hP.ext xc5; replace hs := Nd.sits.ext hs xc5; replace X := X.ext xc5; clear xc5; refine cT (cw_block (cS (cM rfl rfl (lw_pure (pur_nilCheck rfl) rfl (lw_pure (pur_fieldAddr tabOk rfl rfl rfl) rfl (lw_load_b tabOk rfl rfl rfl (PP.blk hP) rfl rfl (lw_pure (pur_neq rfl rfl) rfl (cA rfl rfl (cT ?_))))))))); refine cw_yes rfl (by assumption) ?_; refine cw_skip (qw_block_norm (qw_end0 rfl ?_)); rotate_left 1
   exact ⟨rfl, by assumption, X⟩
set_option maxRecDepth 100000 in
set_option maxHeartbeats 1000000 in
theorem body_c (c : PC) (k : Nat) (σ : PS) (w : World) (hP : PP c σ w) (hk : 4 * mS c.ts σ + 8 ≤ k) :
 Calls Tryd.prog 35 #[.pointer (some ⟨c.pb, 0, none⟩)] w (TreeR c w (bodyP c.ts c.n k σ)) := by
 have X := Fr.refl (· = c.pb) w; have hpb := hP.pbB; have hB := hP.B; have hlen := hP.len; have hbs := block_size (n := c.n) (k := k) hP.at_
 unfold bodyP
 refine calls_in Tryd.func35 Tryd.ntmps35 rfl rfl ?_
 focus
  refine cS ?_; (refine lw_alloc' [_, _, _, _] zOk rfl rfl ?_; intro b1 w2 n3); have h5 := n3.blk; have x6 := n3.ext; have p7 := n3.pos; have z8 := n3.size; clear n3; replace hP := hP.ext x6; replace X := X.ext x6; clear x6; refine cN (cM rfl rfl ?_); refine cC (by kernel_rfl) rfl (peek_c _ _ _ (by assumption)) rfl ?_; rintro _ w10 ⟨⟨⟩, x9⟩; have z11 := x9.size; replace h5 := h5.ext x9; replace hP := hP.ext x9; replace X := X.ext x9; clear x9; refine lw_pure (pur_field tabOk rfl rfl rfl rfl rfl rfl) rfl (cA rfl rfl (cN (cM rfl rfl ?_))); refine cR (by kernel_rfl) rfl ((stmts_c c k).block _ _ (by assumption) hk) (fun _ _ h => h.ret) rfl ?_; rintro _ w17 ⟨a12, ⟨k13, ⟨⟨⟩, ⟨h14, ⟨h15, f16⟩⟩⟩⟩⟩; have z18 := f16.size; replace h5 := h5.fr f16 (by omega); clear hP; replace X := X.fr f16 (by omega); clear f16; (refine lw_alloc' [_, _, _, _] zOk rfl rfl ?_; intro b19 w20 n21); (refine lw_init' [_, _, _, _] tabOk rfl rfl rfl rfl rfl rfl n21 rfl ?_; clear n21; clear w20; intro w22 n21); have h23 := n21.blk; have x24 := n21.ext; have p25 := n21.pos; have z26 := n21.size; clear n21; replace h14 := Nd.sits.ext h14 x24; replace h15 := h15.ext x24; replace h5 := h5.ext x24; replace X := X.ext x24; clear x24; refine cN (cM rfl rfl (lw_loads_b' [_, _, _, _] tabOk rfl rfl rfl h23 rfl rfl rfl (cM rfl rfl ?_))); refine cC (by kernel_rfl) rfl (limit_c _ _ _ _ _ _ _ _ (by assumption) (by omega) (by assumption)) rfl ?_; rintro _ w29 ⟨⟨⟩, ⟨h27, f28⟩⟩; have z30 := f28.size; replace h23 := h23.fr f28 (by omega)
  replace h14 := Nd.sits.fr h14 f28 (by omega); clear h15; replace h5 := h5.fr f28 (by omega); replace X := X.fr f28 (by omega); clear f28; refine cN (lw_loads_b' [_, _, _, _] tabOk rfl rfl rfl h23 rfl rfl rfl ?_); (refine lw_store' [_, _, _, _] [_, _, _, _] tabOk rfl rfl rfl rfl rfl rfl h5 rfl rfl ?_; intro w31 n32); have h35 := n32.blk; have f33 := n32.fr; have z34 := n32.size; clear n32 h5; replace h27 := h27.fr f33 (by omega); replace h23 := h23.fr f33 (by omega); replace h14 := Nd.sits.fr h14 f33 (by omega); replace X := X.fr f33 (by omega); clear f33; refine cT (cw_ret (qw_retc rfl tabOk rfl rfl rfl h35 rfl ?_)); rotate_left 1
 exact tree_ret (Nd.sits.wide (by assumption) (fun b h => by omega)) (by assumption) X
set_option maxRecDepth 100000 in
set_option maxHeartbeats 1000000 in
theorem atDecl_c (c : PC) (σ : PS) (w : World) (hP : PP c σ w) :
 Calls Tryd.prog 29 #[.pointer (some ⟨c.pb, 0, none⟩)] w fun r w' => r = .returned (.bool (atDeclP c.ts σ)) ∧ Ext w w' := by
 have X := Ext.refl w
 by_cases h1 : (peekP c.ts σ).text = [105, 110, 116]
 · rw [show atDeclP c.ts σ = true from by simp [atDeclP, hasP, h1]]
   refine calls_in Tryd.func29 Tryd.ntmps29 rfl rfl ?_
   focus
    refine cS (cA rfl rfl (cT (cw_seq (cS (cM rfl rfl ?_))))); refine cC (by kernel_rfl) rfl (peek_c _ _ _ (by assumption)) rfl ?_; rintro _ w2 ⟨⟨⟩, x1⟩; have z3 := x1.size; replace hP := hP.ext x1; replace X := X.ext x1; clear x1; refine lw_pure (pur_field tabOk rfl rfl rfl rfl rfl rfl) rfl (cT (cw_block (cw_seq (cS (lw_pure (pur_seql rfl rfl) rfl (cA rfl rfl (cT ?_))))))); refine cw_yes rfl (by assumption) ?_; refine cw_skip (qw_then ?_); refine cw_yes rfl (by assumption) ?_; refine cS (cA rfl rfl (cT (cw_ret (qw_block_ret (qw_then_ret (qw_ret1 rfl rfl ?_)))))); rotate_left 1
   exact ⟨rfl, X⟩
 by_cases h2 : (peekP c.ts σ).text = [97, 114, 114, 97, 121]
 · rw [show atDeclP c.ts σ = true from by simp [atDeclP, hasP, h2]]
   refine calls_in Tryd.func29 Tryd.ntmps29 rfl rfl ?_
   focus
    refine cS (cA rfl rfl (cT (cw_seq (cS (cM rfl rfl ?_))))); refine cC (by kernel_rfl) rfl (peek_c _ _ _ (by assumption)) rfl ?_; rintro _ wa2 ⟨⟨⟩, xa1⟩; have za3 := xa1.size; replace hP := hP.ext xa1; replace X := X.ext xa1; clear xa1; refine lw_pure (pur_field tabOk rfl rfl rfl rfl rfl rfl) rfl (cT (cw_block (cw_seq (cS (lw_pure (pur_seql rfl rfl) rfl (cA rfl rfl (cT ?_))))))); refine cw_no rfl (by assumption) ?_; refine cS (lw_pure (pur_seql rfl rfl) rfl (cA rfl rfl (cT ?_))); refine cw_yes rfl (by assumption) ?_; refine cw_skip (qw_then ?_); refine cw_yes rfl (by assumption) ?_; refine cS (cA rfl rfl (cT (cw_ret (qw_block_ret (qw_then_ret (qw_ret1 rfl rfl ?_)))))); rotate_left 1
   exact ⟨rfl, X⟩
 by_cases h3 : (peekP c.ts σ).text = [115, 116, 97, 99, 107]
 · rw [show atDeclP c.ts σ = true from by simp [atDeclP, hasP, h3]]
   refine calls_in Tryd.func29 Tryd.ntmps29 rfl rfl ?_
   focus
    refine cS (cA rfl rfl (cT (cw_seq (cS (cM rfl rfl ?_))))); refine cC (by kernel_rfl) rfl (peek_c _ _ _ (by assumption)) rfl ?_; rintro _ wb2 ⟨⟨⟩, xb1⟩; have zb3 := xb1.size; replace hP := hP.ext xb1; replace X := X.ext xb1; clear xb1; refine lw_pure (pur_field tabOk rfl rfl rfl rfl rfl rfl) rfl (cT (cw_block (cw_seq (cS (lw_pure (pur_seql rfl rfl) rfl (cA rfl rfl (cT ?_))))))); refine cw_no rfl (by assumption) ?_; refine cS (lw_pure (pur_seql rfl rfl) rfl (cA rfl rfl (cT ?_))); refine cw_no rfl (by assumption) ?_; refine cw_region (lw_pure (pur_seql rfl rfl) rfl (cA rfl rfl (cT ?_))); refine cw_yes rfl (by assumption) ?_; refine cS (cA rfl rfl (cT (cw_ret (qw_block_ret (qw_then_ret (qw_ret1 rfl rfl ?_)))))); rotate_left 1
   exact ⟨rfl, X⟩
 · rw [show atDeclP c.ts σ = false from by simp [atDeclP, hasP, h1, h2, h3]]
   refine calls_in Tryd.func29 Tryd.ntmps29 rfl rfl ?_
   focus
    refine cS (cA rfl rfl (cT (cw_seq (cS (cM rfl rfl ?_))))); refine cC (by kernel_rfl) rfl (peek_c _ _ _ (by assumption)) rfl ?_; rintro _ wc2 ⟨⟨⟩, xc1⟩; have zc3 := xc1.size; replace hP := hP.ext xc1; replace X := X.ext xc1; clear xc1; refine lw_pure (pur_field tabOk rfl rfl rfl rfl rfl rfl) rfl (cT (cw_block (cw_seq (cS (lw_pure (pur_seql rfl rfl) rfl (cA rfl rfl (cT ?_))))))); refine cw_no rfl (by assumption) ?_; refine cS (lw_pure (pur_seql rfl rfl) rfl (cA rfl rfl (cT ?_))); refine cw_no rfl (by assumption) ?_; refine cw_region (lw_pure (pur_seql rfl rfl) rfl (cA rfl rfl (cT ?_))); refine cw_no rfl (by assumption) ?_; refine cw_skip (qw_block_norm (qw_then (cS (cA rfl rfl (cT (cw_ret (qw_ret1 rfl rfl ?_))))))); rotate_left 1
   exact ⟨rfl, X⟩
set_option maxRecDepth 100000 in
set_option maxHeartbeats 1000000 in
theorem decl_p (c : PC) (σ : PS) (w : World) (hP : PP c σ w) :
 Calls Tryd.prog 32 #[.pointer (some ⟨c.pb, 0, none⟩)] w fun r w' => r = .returned (declP c.ts c.n σ).1.val ∧ PP c (declP c.ts c.n σ).2 w' ∧ Fr (· = c.pb) w w' := by
 have X := Fr.refl (· = c.pb) w; have hpb := hP.pbB; have hB := hP.B
 unfold declP
 cases h1 : hasP c.ts σ [105, 110, 116]
 case true =>
  simp only [if_true]; refine calls_in Tryd.func32 Tryd.ntmps32 rfl rfl ?_
  focus
   refine cS ?_; (refine lw_alloc' [_, _, _] zOk rfl rfl ?_; intro b1 w2 n3); have h5 := n3.blk; have x6 := n3.ext; have p7 := n3.pos; have z8 := n3.size; clear n3; replace hP := hP.ext x6; replace X := X.ext x6; clear x6; refine cT (cw_seq (cw_block (cS (cM rfl rfl ?_)))); refine cC (by kernel_rfl) rfl (accept_t _ _ _ _ (by assumption) (by decide) (by assumption)) rfl ?_; rintro _ w11 ⟨⟨⟩, ⟨h9, f10⟩⟩; have z12 := f10.size; replace h5 := h5.fr f10 (by omega); clear hP; replace X := X.fr f10 (by omega); clear f10; refine cA rfl rfl (cT (cw_cond_t rfl (cS (cM rfl rfl ?_)))); refine cC (by kernel_rfl) rfl (name_c _ _ _ (by assumption)) rfl ?_; rintro _ w15 ⟨⟨⟩, ⟨h13, f14⟩⟩; have z16 := f14.size; clear h9; replace h5 := h5.fr f14 (by omega); replace X := X.fr f14 (by omega); clear f14; refine lw_pure (pur_build' [_, _, _] tabOk zOk rfl rfl rfl rfl) rfl ?_; (refine lw_store' [_, _, _] [_, _, _] tabOk rfl rfl rfl rfl rfl rfl h5 rfl rfl ?_; intro w17 n18); have h21 := n18.blk; have f19 := n18.fr; have z20 := n18.size; clear n18 h5; replace h13 := h13.fr f19 (by omega); replace X := X.fr f19 (by omega); clear f19; refine cT (cw_ret (qw_block_ret (qw_then_ret (qw_retc rfl tabOk rfl rfl rfl h21 rfl ?_)))); rotate_left 1
  exact ⟨rfl, by assumption, X⟩
 simp only [Bool.false_eq_true, if_false]
 cases h2 : hasP c.ts σ [115, 116, 97, 99, 107]
 case true =>
  simp only [if_true]; refine calls_in Tryd.func32 Tryd.ntmps32 rfl rfl ?_
  focus
   refine cS ?_; (refine lw_alloc' [_, _, _] zOk rfl rfl ?_; intro ba1 wa2 na3); have ha5 := na3.blk; have xa6 := na3.ext; have pa7 := na3.pos; have za8 := na3.size; clear na3; replace hP := hP.ext xa6; replace X := X.ext xa6; clear xa6; refine cT (cw_seq (cw_block (cS (cM rfl rfl ?_)))); refine cC (by kernel_rfl) rfl (accept_f _ _ _ _ (by assumption) (by decide) (by assumption)) rfl ?_; rintro _ wa11 ⟨⟨⟩, ⟨ha9, fa10⟩⟩; have za12 := fa10.size; replace ha5 := ha5.fr fa10 (by omega); clear hP; replace X := X.fr fa10 (by omega); clear fa10; refine cA rfl rfl (cT (cw_cond_f rfl (cS (cM rfl rfl ?_)))); refine cC (by kernel_rfl) rfl (accept_t _ _ _ _ (by assumption) (by decide) (by assumption)) rfl ?_; rintro _ wa15 ⟨⟨⟩, ⟨ha13, fa14⟩⟩; have za16 := fa14.size; clear ha9; replace ha5 := ha5.fr fa14 (by omega); replace X := X.fr fa14 (by omega); clear fa14; refine cA rfl rfl (cT (cw_cond_t rfl (cS (cM rfl rfl ?_)))); refine cC (by kernel_rfl) rfl (name_c _ _ _ (by assumption)) rfl ?_; rintro _ wa19 ⟨⟨⟩, ⟨ha17, fa18⟩⟩; have za20 := fa18.size; clear ha13; replace ha5 := ha5.fr fa18 (by omega); replace X := X.fr fa18 (by omega); clear fa18; refine lw_pure (pur_build' [_, _, _] tabOk zOk rfl rfl rfl rfl) rfl ?_; (refine lw_store' [_, _, _] [_, _, _] tabOk rfl rfl rfl rfl rfl rfl ha5 rfl rfl ?_; intro wa21 na22); have ha25 := na22.blk; have fa23 := na22.fr; have za24 := na22.size; clear na22 ha5; replace ha17 := ha17.fr fa23 (by omega); replace X := X.fr fa23 (by omega); clear fa23; refine cT (cw_ret (qw_block_ret (qw_then_ret (qw_retc rfl tabOk rfl rfl rfl ha25 rfl ?_))))
   rotate_left 1
  exact ⟨rfl, by assumption, X⟩
 simp only [Bool.false_eq_true, if_false]
 cases h3 : hasP c.ts σ [97, 114, 114, 97, 121]
 case true =>
  simp only [if_true]; refine calls_in Tryd.func32 Tryd.ntmps32 rfl rfl ?_
  focus
   refine cS ?_; (refine lw_alloc' [_, _, _] zOk rfl rfl ?_; intro bb1 wb2 nb3); have hb5 := nb3.blk; have xb6 := nb3.ext; have pb7 := nb3.pos; have zb8 := nb3.size; clear nb3; replace hP := hP.ext xb6; replace X := X.ext xb6; clear xb6; refine cT (cw_seq (cw_block (cS (cM rfl rfl ?_)))); refine cC (by kernel_rfl) rfl (accept_f _ _ _ _ (by assumption) (by decide) (by assumption)) rfl ?_; rintro _ wb11 ⟨⟨⟩, ⟨hb9, fb10⟩⟩; have zb12 := fb10.size; replace hb5 := hb5.fr fb10 (by omega); clear hP; replace X := X.fr fb10 (by omega); clear fb10; refine cA rfl rfl (cT (cw_cond_f rfl (cS (cM rfl rfl ?_)))); refine cC (by kernel_rfl) rfl (accept_f _ _ _ _ (by assumption) (by decide) (by assumption)) rfl ?_; rintro _ wb15 ⟨⟨⟩, ⟨hb13, fb14⟩⟩; have zb16 := fb14.size; clear hb9; replace hb5 := hb5.fr fb14 (by omega); replace X := X.fr fb14 (by omega); clear fb14; refine cA rfl rfl (cT (cw_cond_f rfl (cS (cM rfl rfl ?_)))); refine cC (by kernel_rfl) rfl (accept_t _ _ _ _ (by assumption) (by decide) (by assumption)) rfl ?_; rintro _ wb19 ⟨⟨⟩, ⟨hb17, fb18⟩⟩; have zb20 := fb18.size; clear hb13; replace hb5 := hb5.fr fb18 (by omega); replace X := X.fr fb18 (by omega); clear fb18; refine cA rfl rfl (cT (cw_cond_t rfl (cS (cM rfl rfl ?_)))); refine cC (by kernel_rfl) rfl (name_c _ _ _ (by assumption)) rfl ?_; rintro _ wb23 ⟨⟨⟩, ⟨hb21, fb22⟩⟩; have zb24 := fb22.size; clear hb17; replace hb5 := hb5.fr fb22 (by omega); replace X := X.fr fb22 (by omega); clear fb22; refine lw_pure (pur_build' [_, _, _] tabOk zOk rfl rfl rfl rfl) rfl ?_
   (refine lw_alloc' [_, _, _] zOk rfl rfl ?_; intro bb25 wb26 nb27); (refine lw_init' [_, _, _] tabOk rfl rfl rfl rfl rfl rfl nb27 rfl ?_; clear nb27; clear wb26; intro wb28 nb27); have hb29 := nb27.blk; have xb30 := nb27.ext; have pb31 := nb27.pos; have zb32 := nb27.size; clear nb27; replace hb21 := hb21.ext xb30; replace hb5 := hb5.ext xb30; replace X := X.ext xb30; clear xb30; refine cN (cM rfl rfl ?_); refine cC (by kernel_rfl) rfl (expect_c _ _ _ _ (by assumption) (by decide)) rfl ?_; rintro _ wb35 ⟨⟨⟩, ⟨hb33, fb34⟩⟩; have zb36 := fb34.size; replace hb29 := hb29.fr fb34 (by omega); clear hb21; replace hb5 := hb5.fr fb34 (by omega); replace X := X.fr fb34 (by omega); clear fb34; refine cN (cM rfl rfl ?_); refine cC (by kernel_rfl) rfl (number_c _ _ _ _ _ (by assumption) (by decide)) rfl ?_; rintro _ wb39 ⟨⟨⟩, ⟨hb37, fb38⟩⟩; have zb40 := fb38.size; clear hb33; replace hb29 := hb29.fr fb38 (by omega); replace hb5 := hb5.fr fb38 (by omega); replace X := X.fr fb38 (by omega); clear fb38; refine lw_pure (pur_fieldAddr tabOk rfl rfl rfl) rfl ?_; (refine lw_store' [_] [_, _, _] tabOk rfl rfl rfl rfl rfl rfl hb29 rfl rfl ?_; intro wb41 nb42); have hb45 := nb42.blk; have fb43 := nb42.fr; have zb44 := nb42.size; clear nb42 hb29; replace hb37 := hb37.fr fb43 (by omega); replace hb5 := hb5.fr fb43 (by omega); replace X := X.fr fb43 (by omega); clear fb43; refine cN (cM rfl rfl ?_); refine cC (by kernel_rfl) rfl (expect_c _ _ _ _ (by assumption) (by decide)) rfl ?_; rintro _ wb48 ⟨⟨⟩, ⟨hb46, fb47⟩⟩
   have zb49 := fb47.size; replace hb45 := hb45.fr fb47 (by omega); clear hb37; replace hb5 := hb5.fr fb47 (by omega); replace X := X.fr fb47 (by omega); clear fb47; refine cN (lw_loads_b' [_, _, _] tabOk rfl rfl rfl hb45 rfl rfl rfl ?_); (refine lw_store' [_, _, _] [_, _, _] tabOk rfl rfl rfl rfl rfl rfl hb5 rfl rfl ?_; intro wb50 nb51); have hb54 := nb51.blk; have fb52 := nb51.fr; have zb53 := nb51.size; clear nb51 hb5; replace hb46 := hb46.fr fb52 (by omega); replace hb45 := hb45.fr fb52 (by omega); replace X := X.fr fb52 (by omega); clear fb52; refine cT (cw_ret (qw_block_ret (qw_then_ret (qw_retc rfl tabOk rfl rfl rfl hb54 rfl ?_)))); rotate_left 1
  exact ⟨rfl, by assumption, X⟩
 simp only [Bool.false_eq_true, if_false]; refine calls_in Tryd.func32 Tryd.ntmps32 rfl rfl ?_
 focus
  refine cS ?_; (refine lw_alloc' [_, _, _] zOk rfl rfl ?_; intro bc1 wc2 nc3); have hc5 := nc3.blk; have xc6 := nc3.ext; have pc7 := nc3.pos; have zc8 := nc3.size; clear nc3; replace hP := hP.ext xc6; replace X := X.ext xc6; clear xc6; refine cT (cw_seq (cw_block (cS (cM rfl rfl ?_)))); refine cC (by kernel_rfl) rfl (accept_f _ _ _ _ (by assumption) (by decide) (by assumption)) rfl ?_; rintro _ wc11 ⟨⟨⟩, ⟨hc9, fc10⟩⟩; have zc12 := fc10.size; replace hc5 := hc5.fr fc10 (by omega); clear hP; replace X := X.fr fc10 (by omega); clear fc10; refine cA rfl rfl (cT (cw_cond_f rfl (cS (cM rfl rfl ?_)))); refine cC (by kernel_rfl) rfl (accept_f _ _ _ _ (by assumption) (by decide) (by assumption)) rfl ?_; rintro _ wc15 ⟨⟨⟩, ⟨hc13, fc14⟩⟩; have zc16 := fc14.size; clear hc9; replace hc5 := hc5.fr fc14 (by omega); replace X := X.fr fc14 (by omega); clear fc14; refine cA rfl rfl (cT (cw_cond_f rfl (cS (cM rfl rfl ?_)))); refine cC (by kernel_rfl) rfl (accept_f _ _ _ _ (by assumption) (by decide) (by assumption)) rfl ?_; rintro _ wc19 ⟨⟨⟩, ⟨hc17, fc18⟩⟩; have zc20 := fc18.size; clear hc13; replace hc5 := hc5.fr fc18 (by omega); replace X := X.fr fc18 (by omega); clear fc18; refine cA rfl rfl (cT (cw_cond_f rfl (cw_skip (qw_block_norm (qw_then (cS (cM rfl rfl ?_))))))); refine cC (by kernel_rfl) rfl (unexpected_c _ _ _ (by assumption)) rfl ?_; rintro _ wc23 ⟨⟨⟩, ⟨hc21, fc22⟩⟩; have zc24 := fc22.size; clear hc17; replace hc5 := hc5.fr fc22 (by omega); replace X := X.fr fc22 (by omega); clear fc22
  refine cN (lw_pure (pur_build' [_, _, _] tabOk zOk rfl rfl rfl rfl) rfl ?_); (refine lw_store' [_, _, _] [_, _, _] tabOk rfl rfl rfl rfl rfl rfl hc5 rfl rfl ?_; intro wc25 nc26); have hc29 := nc26.blk; have fc27 := nc26.fr; have zc28 := nc26.size; clear nc26 hc5; replace hc21 := hc21.fr fc27 (by omega); replace X := X.fr fc27 (by omega); clear fc27; refine cT (cw_ret (qw_retc rfl tabOk rfl rfl rfl hc29 rfl ?_)); rotate_left 1
 exact ⟨rfl, by assumption, X⟩
end Bk
namespace Bk
open Go
section
variable {ts : List Tok} {n : Int}
theorem REq.of_err {α : Type} {a b : α × PS} {σ : PS} (e : σ.err ≠ 0) (ha : a.2 = σ) (hb : b.2 = σ) : REq a b := ⟨by rw [ha, hb], by rw [ha, hb], fun z => by rw [ha] at z; exact absurd z e⟩
theorem fail_on {σ : PS} {off e : Int} (h : σ.err = 0) : failP σ off e = ⟨σ.at_, off, e⟩ := by unfold failP; rw [if_pos h]
theorem fail_off {σ : PS} {off e : Int} (h : σ.err ≠ 0) : failP σ off e = σ := by unfold failP; rw [if_neg h]
theorem peek_at {σ : PS} (h : In ts σ) : peekP ts σ = ts.getD σ.at_ Tok.zero := by
 unfold peekP
 rw [if_neg]; rintro (h' | h')
 · exact h' h.1
 · have := h.2; omega
theorem has_err {σ : PS} {t : List UInt8} (e : σ.err ≠ 0) (ht : t ≠ []) : hasP ts σ t = false := by
 unfold hasP
 rw [peek_err e]
 exact decide_eq_false (fun h => ht h.symm)
theorem arg_err {σ : PS} (h : σ.at_ ≤ ts.length) (e : σ.err ≠ 0) : (argP ts n σ).2 = σ := (arg_le h).err e
theorem args_eq (m : Nat) : ∀ (acc : List Nd) (σ : PS), σ.at_ ≤ ts.length → mS ts σ ≤ m → acc.length ≤ 8 → ∀ k k', m + 1 ≤ k → m + 1 ≤ k' →
 REq (argsP ts n k (acc ++ [(argP ts n (if acc.length = 8 ∧ isName (peekP ts σ).text = true then failP σ (peekP ts σ).pos 5 else σ)).1]) (argP ts n (if acc.length = 8 ∧ isName (peekP ts σ).text = true then failP σ (peekP ts σ).pos 5 else σ)).2) (argsR ts n k' acc σ) := by
 induction m using Nat.strongRecOn with
 | _ m ih =>
  intro acc σ h hm hacc k k' hk hk'
  cases k with
  | zero => omega
  | succ k =>
   cases k' with
   | zero => omega
   | succ k' =>
    by_cases e : σ.err = 0
    · rw [argsR, if_neg (show ¬ σ.err ≠ 0 from fun c => c e)]
      simp only
      by_cases h8 : acc.length = 8
      · by_cases hnm : isName (peekP ts σ).text = true
        · have hin := peek_in h (Or.inl (isName_ne hnm))
          have hfe : (failP σ (peekP ts σ).pos 5).err ≠ 0 := fail_err (by decide); have hfw := (fail_le (off := (peekP ts σ).pos) (e := 5) h).wf; rw [if_pos (show acc.length = 8 ∧ isName (peekP ts σ).text = true from ⟨h8, hnm⟩), if_pos h8, arg_err hfw hfe]; have hla : (argsP ts n (k + 1) (acc ++ [(argP ts n (failP σ (peekP ts σ).pos 5)).1]) (failP σ (peekP ts σ).pos 5)).2 = failP σ (peekP ts σ).pos 5 := (args_le _ _ _ hfw).err hfe
          have hra : (argP ts n σ).2 = nextP σ := by unfold argP nameP; rw [if_pos hnm]
          have hpos : argsR.posR ts n σ = (peekP ts σ).pos := by unfold argsR.posR; rw [if_neg (by have := hin.2; omega), peek_at hin]
          have hf2 : failP (nextP σ) (argsR.posR ts n σ) 5 = ⟨σ.at_ + 1, (peekP ts σ).pos, 5⟩ := by rw [fail_on (by simpa [nextP] using e), hpos]; rfl
          rw [hra, hf2, if_neg (by rw [has_err (by simp) (by decide)]; simp)]; refine ⟨?_, ?_, fun z => ?_⟩
          · rw [hla, fail_on e]
          · rw [hla, fail_on e]
          · rw [hla] at z; exact absurd z hfe
        · have hue : (argP ts n σ).2.err ≠ 0 := by unfold argP nameP; rw [if_neg hnm]; exact unexp_err
          have haw := (arg_le (n := n) h).wf; rw [if_neg (show ¬ (acc.length = 8 ∧ isName (peekP ts σ).text = true) from fun c => hnm c.2), if_pos h8, fail_off hue, if_neg (by rw [has_err hue (by decide)]; simp)]
          exact REq.of_err hue ((args_le _ _ _ haw).err hue) rfl
      · rw [if_neg (show ¬ (acc.length = 8 ∧ isName (peekP ts σ).text = true) from fun c => h8 c.1), if_neg h8]
        have ha := arg_le (n := n) h
        by_cases hc : hasP ts (argP ts n σ).2 [44] = true
        · rw [if_pos hc, argsP, if_pos hc]
          have hin := has_in ha.wf hc (by decide); have hmn := mS_next hin; have hml := mS_le ha
          exact ih (mS ts (nextP (argP ts n σ).2)) (by omega) (acc ++ [(argP ts n σ).1]) (nextP (argP ts n σ).2) (next_le hin).wf (Nat.le_refl _) (by simp; omega) k k' (by omega) (by omega)
        · rw [if_neg hc, argsP, if_neg hc]
          exact REq.refl _
    · have hno : ¬ (acc.length = 8 ∧ isName (peekP ts σ).text = true) := fun c => by rw [peek_err e] at c; exact absurd c.2 (by decide)
      rw [if_neg hno, argsR, if_pos e]; have ha := arg_err (n := n) h e; refine REq.of_err e ?_ rfl; rw [ha]
      exact (args_le _ _ _ h).err e
theorem call_eq {k k' : Nat} {kind : Int} {σ : PS} (hn : In ts σ) (hk : mS ts σ + 1 ≤ k) (hk' : mS ts σ + 1 ≤ k') : REq (callP ts n k kind σ) (callR ts n k' kind σ) := by
 unfold callP callR
 simp only; have h1 := next_le hn; have h2 := h1.trans (name_le (n := n) h1.wf); have h3 := h2.trans (expect_le (n := n) (t := [40]) h2.wf (by decide))
 generalize hσ : expectP ts n (nameP ts n (nextP σ)).2 [40] = σ1 at h3 ⊢
 split
 · exact REq.refl _
 · have hm := mS_le h3
   have hA := args_eq (n := n) (mS ts σ1) [] σ1 h3.wf (Nat.le_refl _) (by simp) k k' (by omega) (by omega); simp only [List.length_nil, show ((0 : Nat) = 8) = False from by simp, false_and, if_false, List.nil_append] at hA; have ha := arg_le (n := n) h3.wf; refine REq.bind hA (f := fun a => (Nd.mk kind 0 (nameP ts n (nextP σ)).1 a.1, expectP ts n a.2 [41])) (g := fun b => (Nd.mk kind 0 (nameP ts n (nextP σ)).1 b.1, expectP ts n b.2 [41])) (fun e => expect_err (args_le _ _ _ ha.wf).wf (by decide) e) (fun e => expect_err (argsR_le _ _ _ h3.wf).wf (by decide) e) (fun e hab => ?_)
   rw [← hab]; exact REq.refl _
theorem place_eq (hd : DigitKinds ts) {k k' : Nat} {σ : PS} (h : σ.at_ ≤ ts.length) (hk : 4 * mS ts σ + 1 ≤ k) (hk' : 12 * mS ts σ + 1 ≤ k') : REq (placeP ts n k σ) (placeR ts n k' σ) := (expr_eq hd _ σ h (Nat.le_refl _)).1 k k' hk hk'
theorem expr1_eq (hd : DigitKinds ts) {k k' : Nat} {σ : PS} (h : σ.at_ ≤ ts.length) (hk : 4 * mS ts σ + 4 ≤ k) (hk' : 12 * mS ts σ + 11 ≤ k') : REq (exprP ts n k 1 σ) (exprR ts n k' 1 σ) := (expr_eq hd _ σ h (Nat.le_refl _)).2.2 1 k k' (by omega) (by omega) hk (by omega)
theorem stack_eq (hd : DigitKinds ts) {k k' : Nat} {kind : Int} {σ : PS} (hn : In ts σ) (hk : 4 * mS ts σ + 1 ≤ k) (hk' : 12 * mS ts σ + 1 ≤ k') : REq (stackP ts n k kind σ) (stackR ts n k' kind σ) := by
 have h1 := next_le hn; have hm := mS_next hn; have hp := place_le (n := n) (k := k) h1.wf; have hq := placeR_le (n := n) (k := k') h1.wf
 unfold stackP stackR
 refine REq.bind (place_eq (n := n) hd h1.wf (by omega) (by omega)) (f := fun a => (Nd.mk kind 0 (nameP ts n (expectP ts n a.2 [44])).1 [a.1], (nameP ts n (expectP ts n a.2 [44])).2)) (g := fun b => (Nd.mk kind 0 (nameP ts n (expectP ts n b.2 [44])).1 [b.1], (nameP ts n (expectP ts n b.2 [44])).2)) (fun e => ?_) (fun e => ?_) (fun e hab => ?_)
 · simp only; rw [expect_err hp.wf (by decide) e]; exact (name_le hp.wf).err e
 · simp only; rw [expect_err hq.wf (by decide) e]; exact (name_le hq.wf).err e
 · rw [← hab]; exact REq.refl _
theorem tape_eq (hd : DigitKinds ts) {k k' : Nat} {kind : Int} {σ : PS} (hn : In ts σ) (hk : 4 * mS ts σ + 1 ≤ k) (hk' : 12 * mS ts σ + 1 ≤ k') : REq (tapeP ts n k kind σ) (tapeR ts n k' kind σ) := by
 have h1 := next_le hn; have hm := mS_next hn
 unfold tapeP tapeR
 refine REq.bind (place_eq (n := n) hd h1.wf (by omega) (by omega)) (f := fun a => (Nd.mk kind 0 [] [a.1], a.2)) (g := fun b => (Nd.mk kind 0 [] [b.1], b.2)) (fun e => rfl) (fun e => rfl) (fun e hab => ?_)
 rw [← hab]; exact REq.refl _
theorem update_eq (hd : DigitKinds ts) {k k' : Nat} {σ : PS} (h : σ.at_ ≤ ts.length) (hk : 4 * mS ts σ + 4 ≤ k) (hk' : 12 * mS ts σ + 11 ≤ k') : REq (updateP ts n k σ) (updateR ts n k' σ) := by
 have hp := place_le (n := n) (k := k) h; have hq := placeR_le (n := n) (k := k') h
 unfold updateP updateR
 refine REq.bind (place_eq (n := n) hd h (by omega) (by omega)) (f := fun p => if hasP ts p.2 [60, 61, 62] then (Nd.mk 43 0 [] [p.1, (placeP ts n k (nextP p.2)).1], (placeP ts n k (nextP p.2)).2)
  else if updKind (peekP ts p.2).text = 0 then (Nd.mk 0 0 [] [], unexpP ts n p.2)
  else (Nd.mk (updKind (peekP ts p.2).text) 0 [] [p.1, (exprP ts n k 1 (nextP p.2)).1], (exprP ts n k 1 (nextP p.2)).2))
  (g := fun p => if (peekP ts p.2).text = [60, 61, 62] then (Nd.mk 43 0 [] [p.1, (placeR ts n k' (nextP p.2)).1], (placeR ts n k' (nextP p.2)).2)
   else if (peekP ts p.2).text = [43, 61] ∨ (peekP ts p.2).text = [45, 61] ∨ (peekP ts p.2).text = [94, 61] then (Nd.mk (updKind (peekP ts p.2).text) 0 [] [p.1, (exprR ts n k' 1 (nextP p.2)).1], (exprR ts n k' 1 (nextP p.2)).2)
   else (Nd.mk 56 0 [] [p.1, (exprR ts n k' 1 (expectP ts n p.2 [58, 61])).1], (exprR ts n k' 1 (expectP ts n p.2 [58, 61])).2)) (fun e => ?_) (fun e => ?_) (fun e hab => ?_)
 · rw [has_err e (by decide), peek_err e]
   simp only [Bool.false_eq_true, if_false]; rw [if_pos (by decide)]
   exact (unexp_le hp.wf).err e
 · rw [peek_err e, if_neg (by decide), if_neg (by decide)]
   simp only; rw [expect_err hq.wf (by decide) e]
   exact (exprR_le hq.wf).err e
 · rw [← hab]
   have hm := mS_le hp
   generalize placeP ts n k σ = p at *
   by_cases c1 : (peekP ts p.2).text = [60, 61, 62]
   · have c1' : hasP ts p.2 [60, 61, 62] = true := decide_eq_true c1
     have hin := has_in hp.wf c1' (by decide); have hmn := mS_next hin; rw [if_pos c1', if_pos c1]; refine REq.bind (place_eq (n := n) hd (next_le hin).wf (by omega) (by omega)) (f := fun a => (Nd.mk 43 0 [] [p.1, a.1], a.2)) (g := fun b => (Nd.mk 43 0 [] [p.1, b.1], b.2)) (fun e => rfl) (fun e => rfl) (fun e hab => ?_)
     rw [← hab]; exact REq.refl _
   · have c1' : ¬ hasP ts p.2 [60, 61, 62] = true := fun c => c1 (of_decide_eq_true c)
     rw [if_neg c1', if_neg c1]
     have hex : ∀ kd : Int, In ts p.2 → REq ((Nd.mk kd 0 [] [p.1, (exprP ts n k 1 (nextP p.2)).1], (exprP ts n k 1 (nextP p.2)).2) : Nd × PS) (Nd.mk kd 0 [] [p.1, (exprR ts n k' 1 (nextP p.2)).1], (exprR ts n k' 1 (nextP p.2)).2) := fun kd hin => by
      have hmn := mS_next hin; refine REq.bind (expr1_eq (n := n) hd (next_le hin).wf (by omega) (by omega)) (f := fun a => (Nd.mk kd 0 [] [p.1, a.1], a.2)) (g := fun b => (Nd.mk kd 0 [] [p.1, b.1], b.2)) (fun e => rfl) (fun e => rfl) (fun e hab => ?_)
      rw [← hab]; exact REq.refl _
     by_cases c2 : (peekP ts p.2).text = [43, 61] ∨ (peekP ts p.2).text = [45, 61] ∨ (peekP ts p.2).text = [94, 61]
     · have hk0 : ¬ updKind (peekP ts p.2).text = 0 := by rcases c2 with c | c | c <;> (rw [c]; decide)
       rw [if_neg hk0, if_pos c2]
       exact hex _ (peek_in hp.wf (Or.inl (upd_ne hk0)))
     · rw [if_neg c2]
       by_cases c3 : (peekP ts p.2).text = [58, 61]
       · have hk0 : updKind (peekP ts p.2).text = 56 := by rw [c3]; decide
         have c3' : hasP ts p.2 [58, 61] = true := decide_eq_true c3; rw [if_neg (by rw [hk0]; decide), hk0, show expectP ts n p.2 [58, 61] = nextP p.2 from by unfold expectP; rw [if_pos c3']]
         exact hex 56 (has_in hp.wf c3' (by decide))
       · have hk0 : updKind (peekP ts p.2).text = 0 := by
          unfold updKind
          rw [if_neg (fun c => c2 (Or.inl c)), if_neg (fun c => c2 (Or.inr (Or.inl c))), if_neg (fun c => c2 (Or.inr (Or.inr c))), if_neg c3]
         have c3' : ¬ hasP ts p.2 [58, 61] = true := fun c => c3 (of_decide_eq_true c)
         rw [if_pos hk0, show expectP ts n p.2 [58, 61] = unexpP ts n p.2 from by unfold expectP; rw [if_neg c3']]; have hue : (unexpP ts n p.2).err ≠ 0 := unexp_err
         exact REq.of_err hue rfl ((exprR_le (unexp_le hp.wf).wf).err hue)
theorem block_le {k : Nat} {σ : PS} (h : σ.at_ ≤ ts.length) : Le ts σ (blockP ts n k σ).2 := (stmt_inv k).2.2.2.1 σ h
theorem body_le {k : Nat} {σ : PS} (h : σ.at_ ≤ ts.length) : Le ts σ (bodyR ts n k σ).2 := (stmtR_inv k).2.2.2.1 σ h
theorem last_eq (hd : DigitKinds ts) {k k' : Nat} {σ : PS} (h : σ.at_ ≤ ts.length) (hk : 4 * mS ts σ + 4 ≤ k) (hk' : 12 * mS ts σ + 11 ≤ k') (F : Nd → Nd) : REq ((F (exprP ts n k 1 σ).1, (exprP ts n k 1 σ).2) : Nd × PS) (F (exprR ts n k' 1 σ).1, (exprR ts n k' 1 σ).2) := by
 refine REq.bind (expr1_eq (n := n) hd h hk hk') (f := fun a => (F a.1, a.2)) (g := fun b => (F b.1, b.2)) (fun e => rfl) (fun e => rfl) (fun e hab => ?_)
 rw [← hab]; exact REq.refl _
theorem branches_eq (hd : DigitKinds ts) {k k' : Nat} {kind : Int} {mid last : List UInt8} {σ : PS} (hn : In ts σ) (hmid : mid ≠ []) (hlast : last ≠ [])
 (IB : ∀ σ', σ'.at_ ≤ ts.length → mS ts σ' < mS ts σ → ∀ k k', 4 * mS ts σ' + 8 ≤ k → 12 * mS ts σ' + 16 ≤ k' → REq (blockP ts n k σ') (bodyR ts n k' σ'))
 (hk : 4 * mS ts σ + 5 ≤ k) (hk' : 12 * mS ts σ + 13 ≤ k') : REq (branchesP ts n k kind mid last σ) (branchesR ts n k' kind mid last σ) := by
 have hm := mS_next hn; have h1 := next_le hn
 cases k with
 | zero => omega
 | succ k =>
  cases k' with
  | zero => omega
  | succ k' =>
   rw [branchesP, branchesR]; have ha := expr_le (n := n) (k := k) (lv := 1) h1.wf; have ha' := exprR_le (n := n) (k := k') (lv := 1) h1.wf; have hma := mS_le ha; refine REq.bind (expr1_eq (n := n) hd h1.wf (by omega) (by omega)) (f := fun a => (Nd.mk kind 0 [] [a.1, (blockP ts n k a.2).1, (blockP ts n k (expectP ts n (blockP ts n k a.2).2 mid)).1, (exprP ts n k 1 (expectP ts n (blockP ts n k (expectP ts n (blockP ts n k a.2).2 mid)).2 last)).1], (exprP ts n k 1 (expectP ts n (blockP ts n k (expectP ts n (blockP ts n k a.2).2 mid)).2 last)).2))
    (g := fun a => (Nd.mk kind 0 [] [a.1, (bodyR ts n k' a.2).1, (bodyR ts n k' (expectP ts n (bodyR ts n k' a.2).2 mid)).1, (exprR ts n k' 1 (expectP ts n (bodyR ts n k' (expectP ts n (bodyR ts n k' a.2).2 mid)).2 last)).1], (exprR ts n k' 1 (expectP ts n (bodyR ts n k' (expectP ts n (bodyR ts n k' a.2).2 mid)).2 last)).2)) (fun e => ?_) (fun e => ?_) (fun e hab => ?_)
   · have g1 := block_le (n := n) (k := k) ha.wf
     have g2 := g1.trans (expect_le (n := n) (t := mid) g1.wf hmid); have g3 := g2.trans (block_le (n := n) (k := k) g2.wf); have g4 := g3.trans (expect_le (n := n) (t := last) g3.wf hlast)
     exact (g4.trans (expr_le g4.wf)).err e
   · have g1 := body_le (n := n) (k := k') ha'.wf
     have g2 := g1.trans (expect_le (n := n) (t := mid) g1.wf hmid); have g3 := g2.trans (body_le (n := n) (k := k') g2.wf); have g4 := g3.trans (expect_le (n := n) (t := last) g3.wf hlast)
     exact (g4.trans (exprR_le g4.wf)).err e
   · rw [← hab]
     generalize exprP ts n k 1 (nextP σ) = a at *
     have g1 := block_le (n := n) (k := k) ha.wf; have g1' := body_le (n := n) (k := k') ha.wf; have hm1 := mS_le g1; refine REq.bind (IB a.2 ha.wf (by omega) k k' (by omega) (by omega)) (f := fun x => (Nd.mk kind 0 [] [a.1, x.1, (blockP ts n k (expectP ts n x.2 mid)).1, (exprP ts n k 1 (expectP ts n (blockP ts n k (expectP ts n x.2 mid)).2 last)).1], (exprP ts n k 1 (expectP ts n (blockP ts n k (expectP ts n x.2 mid)).2 last)).2))
      (g := fun x => (Nd.mk kind 0 [] [a.1, x.1, (bodyR ts n k' (expectP ts n x.2 mid)).1, (exprR ts n k' 1 (expectP ts n (bodyR ts n k' (expectP ts n x.2 mid)).2 last)).1], (exprR ts n k' 1 (expectP ts n (bodyR ts n k' (expectP ts n x.2 mid)).2 last)).2)) (fun e => ?_) (fun e => ?_) (fun e hab => ?_)
     · have g2 := expect_le (n := n) (t := mid) g1.wf hmid
       have g3 := g2.trans (block_le (n := n) (k := k) g2.wf); have g4 := g3.trans (expect_le (n := n) (t := last) g3.wf hlast)
       exact (g4.trans (expr_le g4.wf)).err e
     · have g2 := expect_le (n := n) (t := mid) g1'.wf hmid
       have g3 := g2.trans (body_le (n := n) (k := k') g2.wf); have g4 := g3.trans (expect_le (n := n) (t := last) g3.wf hlast)
       exact (g4.trans (exprR_le g4.wf)).err e
     · rw [← hab]
       generalize blockP ts n k a.2 = x at *
       have g2 := expect_le (n := n) (t := mid) g1.wf hmid; have hm2 := mS_le g2; have g3 := block_le (n := n) (k := k) g2.wf; have g3' := body_le (n := n) (k := k') g2.wf; have hm3 := mS_le g3; refine REq.bind (IB _ g2.wf (by omega) k k' (by omega) (by omega)) (f := fun y => (Nd.mk kind 0 [] [a.1, x.1, y.1, (exprP ts n k 1 (expectP ts n y.2 last)).1], (exprP ts n k 1 (expectP ts n y.2 last)).2))
        (g := fun y => (Nd.mk kind 0 [] [a.1, x.1, y.1, (exprR ts n k' 1 (expectP ts n y.2 last)).1], (exprR ts n k' 1 (expectP ts n y.2 last)).2)) (fun e => ?_) (fun e => ?_) (fun e hab => ?_)
       · have g4 := expect_le (n := n) (t := last) g3.wf hlast
         exact (g4.trans (expr_le g4.wf)).err e
       · have g4 := expect_le (n := n) (t := last) g3'.wf hlast
         exact (g4.trans (exprR_le g4.wf)).err e
       · rw [← hab]
         generalize blockP ts n k (expectP ts n x.2 mid) = y at *
         have g4 := expect_le (n := n) (t := last) g3.wf hlast; have hm4 := mS_le g4
         exact last_eq hd g4.wf (by omega) (by omega) (fun z => Nd.mk kind 0 [] [a.1, x.1, y.1, z])
theorem local_eq (hd : DigitKinds ts) {k k' : Nat} {σ : PS} (hn : In ts σ)
 (IB : ∀ σ', σ'.at_ ≤ ts.length → mS ts σ' < mS ts σ → ∀ k k', 4 * mS ts σ' + 8 ≤ k → 12 * mS ts σ' + 16 ≤ k' → REq (blockP ts n k σ') (bodyR ts n k' σ'))
 (hk : 4 * mS ts σ + 5 ≤ k) (hk' : 12 * mS ts σ + 13 ≤ k') : REq (localP ts n k σ) (localR ts n k' σ) := by
 have hm := mS_next hn; have h1 := next_le hn
 cases k with
 | zero => omega
 | succ k =>
  cases k' with
  | zero => omega
  | succ k' =>
   rw [localP, localR]
   split
   · rename_i hh
     have hin := has_in h1.wf hh (by decide); have hm2 := mS_next hin; have h2 := next_le hin; have h3 := name_le (n := n) h2.wf; have hm3 := mS_le h3; refine REq.bind (IB _ h3.wf (by omega) k k' (by omega) (by omega)) (f := fun x => (Nd.mk 55 0 (nameP ts n (nextP (nextP σ))).1 [x.1], x.2)) (g := fun x => (Nd.mk 55 0 (nameP ts n (nextP (nextP σ))).1 [x.1], x.2)) (fun e => rfl) (fun e => rfl) (fun e hab => ?_)
     rw [← hab]; exact REq.refl _
   · have h2 := name_le (n := n) h1.wf
     have h3 := h2.trans (expect_le (n := n) (t := [61]) h2.wf (by decide)); have hm3 := mS_le h3; dsimp only
     generalize (nameP ts n (nextP σ)).1 = nm
     generalize expectP ts n (nameP ts n (nextP σ)).2 [61] = τ at *
     have ha := expr_le (n := n) (k := k) (lv := 1) h3.wf; have ha' := exprR_le (n := n) (k := k') (lv := 1) h3.wf; have hma := mS_le ha; refine REq.bind (expr1_eq (n := n) (k := k) (k' := k') hd h3.wf (by omega) (by omega)) (f := fun a => (Nd.mk 54 0 nm [a.1, (blockP ts n k a.2).1, (exprP ts n k 1 (expectP ts n (blockP ts n k a.2).2 [100, 101, 108, 111, 99, 97, 108])).1], (exprP ts n k 1 (expectP ts n (blockP ts n k a.2).2 [100, 101, 108, 111, 99, 97, 108])).2))
      (g := fun a => (Nd.mk 54 0 nm [a.1, (bodyR ts n k' a.2).1, (exprR ts n k' 1 (expectP ts n (bodyR ts n k' a.2).2 [100, 101, 108, 111, 99, 97, 108])).1], (exprR ts n k' 1 (expectP ts n (bodyR ts n k' a.2).2 [100, 101, 108, 111, 99, 97, 108])).2)) (fun e => ?_) (fun e => ?_) (fun e hab => ?_)
     · have g1 := block_le (n := n) (k := k) ha.wf
       have g2 := g1.trans (expect_le (n := n) (t := [100, 101, 108, 111, 99, 97, 108]) g1.wf (by decide))
       exact (g2.trans (expr_le g2.wf)).err e
     · have g1 := body_le (n := n) (k := k') ha'.wf
       have g2 := g1.trans (expect_le (n := n) (t := [100, 101, 108, 111, 99, 97, 108]) g1.wf (by decide))
       exact (g2.trans (exprR_le g2.wf)).err e
     · rw [← hab]
       generalize exprP ts n k 1 τ = a at *
       have g1 := block_le (n := n) (k := k) ha.wf; have g1' := body_le (n := n) (k := k') ha.wf; have hm4 := mS_le g1; refine REq.bind (IB a.2 ha.wf (by omega) k k' (by omega) (by omega)) (f := fun x => (Nd.mk 54 0 nm [a.1, x.1, (exprP ts n k 1 (expectP ts n x.2 [100, 101, 108, 111, 99, 97, 108])).1], (exprP ts n k 1 (expectP ts n x.2 [100, 101, 108, 111, 99, 97, 108])).2))
        (g := fun x => (Nd.mk 54 0 nm [a.1, x.1, (exprR ts n k' 1 (expectP ts n x.2 [100, 101, 108, 111, 99, 97, 108])).1], (exprR ts n k' 1 (expectP ts n x.2 [100, 101, 108, 111, 99, 97, 108])).2)) (fun e => ?_) (fun e => ?_) (fun e hab => ?_)
       · have g2 := expect_le (n := n) (t := [100, 101, 108, 111, 99, 97, 108]) g1.wf (by decide)
         exact (g2.trans (expr_le g2.wf)).err e
       · have g2 := expect_le (n := n) (t := [100, 101, 108, 111, 99, 97, 108]) g1'.wf (by decide)
         exact (g2.trans (exprR_le g2.wf)).err e
       · rw [← hab]
         generalize blockP ts n k a.2 = x at *
         have g2 := expect_le (n := n) (t := [100, 101, 108, 111, 99, 97, 108]) g1.wf (by decide); have hm5 := mS_le g2
         exact last_eq hd g2.wf (by omega) (by omega) (fun z => Nd.mk 54 0 nm [a.1, x.1, z])
theorem stmt1_eq (hd : DigitKinds ts) {k k' : Nat} {σ : PS} (h : σ.at_ ≤ ts.length)
 (IB : ∀ σ', σ'.at_ ≤ ts.length → mS ts σ' < mS ts σ → ∀ k k', 4 * mS ts σ' + 8 ≤ k → 12 * mS ts σ' + 16 ≤ k' → REq (blockP ts n k σ') (bodyR ts n k' σ'))
 (hk : 4 * mS ts σ + 6 ≤ k) (hk' : 12 * mS ts σ + 14 ≤ k') : REq (stmtP ts n k σ) (stmtR ts n k' σ) := by
 cases k with
 | zero => omega
 | succ k =>
  cases k' with
  | zero => omega
  | succ k' =>
   have hin : ∀ t : List UInt8, t ≠ [] → (peekP ts σ).text = t → In ts σ := fun t ht e => peek_in h (Or.inl (by rw [e]; exact ht))
   rw [stmtP, stmtR]
   by_cases c : (peekP ts σ).text = [112, 117, 115, 104]
   · rw [if_pos c, if_pos c]; exact stack_eq hd (hin _ (by decide) c) (by omega) (by omega)
   rw [if_neg c, if_neg c]; clear c
   by_cases c : (peekP ts σ).text = [112, 111, 112]
   · rw [if_pos c, if_pos c]; exact stack_eq hd (hin _ (by decide) c) (by omega) (by omega)
   rw [if_neg c, if_neg c]; clear c
   by_cases c : (peekP ts σ).text = [114, 101, 97, 100]
   · rw [if_pos c, if_pos c]; exact tape_eq hd (hin _ (by decide) c) (by omega) (by omega)
   rw [if_neg c, if_neg c]; clear c
   by_cases c : (peekP ts σ).text = [117, 110, 114, 101, 97, 100]
   · rw [if_pos c, if_pos c]; exact tape_eq hd (hin _ (by decide) c) (by omega) (by omega)
   rw [if_neg c, if_neg c]; clear c
   by_cases c : (peekP ts σ).text = [119, 114, 105, 116, 101]
   · rw [if_pos c, if_pos c]; exact tape_eq hd (hin _ (by decide) c) (by omega) (by omega)
   rw [if_neg c, if_neg c]; clear c
   by_cases c : (peekP ts σ).text = [117, 110, 119, 114, 105, 116, 101]
   · rw [if_pos c, if_pos c]; exact tape_eq hd (hin _ (by decide) c) (by omega) (by omega)
   rw [if_neg c, if_neg c]; clear c
   by_cases c : (peekP ts σ).text = [99, 97, 108, 108]
   · rw [if_pos c, if_pos c]; exact call_eq (hin _ (by decide) c) (by omega) (by omega)
   rw [if_neg c, if_neg c]; clear c
   by_cases c : (peekP ts σ).text = [117, 110, 99, 97, 108, 108]
   · rw [if_pos c, if_pos c]; exact call_eq (hin _ (by decide) c) (by omega) (by omega)
   rw [if_neg c, if_neg c]; clear c
   by_cases c : (peekP ts σ).text = [105, 102]
   · rw [if_pos c, if_pos c]; exact branches_eq hd (hin _ (by decide) c) (by decide) (by decide) IB (by omega) (by omega)
   rw [if_neg c, if_neg c]; clear c
   by_cases c : (peekP ts σ).text = [102, 114, 111, 109]
   · rw [if_pos c, if_pos c]; exact branches_eq hd (hin _ (by decide) c) (by decide) (by decide) IB (by omega) (by omega)
   rw [if_neg c, if_neg c]; clear c
   by_cases c : (peekP ts σ).text = [108, 111, 99, 97, 108]
   · rw [if_pos c, if_pos c]; exact local_eq hd (hin _ (by decide) c) IB (by omega) (by omega)
   rw [if_neg c, if_neg c]; clear c
   exact update_eq hd h (by omega) (by omega)
end
end Bk
namespace Bk
open Go
section
variable {ts : List Tok} {n : Int}
theorem stmts_le {k : Nat} {acc : List Nd} {σ : PS} (h : σ.at_ ≤ ts.length) : Le ts σ (stmtsP ts n k acc σ).2 := (stmt_inv k).2.2.2.2 acc σ h
theorem stmtsR_le {k : Nat} {acc : List Nd} {σ : PS} (h : σ.at_ ≤ ts.length) : Le ts σ (stmtsR ts n k acc σ).2 := (stmtR_inv k).2.2.2.2 acc σ h
theorem stmt_le {k : Nat} {σ : PS} (h : σ.at_ ≤ ts.length) : Le ts σ (stmtP ts n k σ).2 := (stmt_inv k).1 σ h
theorem stmtR_le {k : Nat} {σ : PS} (h : σ.at_ ≤ ts.length) : Le ts σ (stmtR ts n k σ).2 := (stmtR_inv k).1 σ h
theorem stmt_end {k : Nat} {σ : PS} (h : σ.at_ = ts.length) (hk : 2 ≤ k) : (stmtP ts n k σ).2 = unexpP ts n σ := by
 have hp : (peekP ts σ).text = [] := by rw [peek_end h]; rfl
 cases k with
 | zero => omega
 | succ k =>
  cases k with
  | zero => omega
  | succ k =>
   have hue : (unexpP ts n σ).err ≠ 0 := unexp_err; have huw : (unexpP ts n σ).at_ ≤ ts.length := (unexp_le (by omega)).wf
   have hnm : nameP ts n σ = ([], unexpP ts n σ) := by unfold nameP; rw [hp]; rfl
   have hpl : placeP ts n (k + 1) σ = (Nd.mk 2 0 [] [], unexpP ts n σ) := by
    rw [placeP, hnm]; simp only; rw [if_neg (by rw [has_err hue (by decide)]; simp)]
   rw [stmtP, hp]; rw [if_neg (by decide), if_neg (by decide), if_neg (by decide), if_neg (by decide), if_neg (by decide), if_neg (by decide), if_neg (by decide), if_neg (by decide), if_neg (by decide), if_neg (by decide), if_neg (by decide)]
   unfold updateP
   rw [hpl]; simp only; rw [if_neg (by rw [has_err hue (by decide)]; simp), peek_err hue, if_pos (by decide)]
   exact (unexp_le huw).err hue
theorem block_eq (hd : DigitKinds ts) (m : Nat) : ∀ σ, σ.at_ ≤ ts.length → mS ts σ ≤ m →
 (∀ acc k k', 4 * mS ts σ + 7 ≤ k → 12 * mS ts σ + 15 ≤ k' → REq (stmtsP ts n k acc σ) ((stmtsR ts n k' acc σ).1, expectP ts n (stmtsR ts n k' acc σ).2 [125])) ∧
 (∀ k k', 4 * mS ts σ + 8 ≤ k → 12 * mS ts σ + 16 ≤ k' → REq (blockP ts n k σ) (bodyR ts n k' σ)) := by
 induction m using Nat.strongRecOn with
 | _ m ih =>
  intro σ h hm
  have IB : ∀ σ', σ'.at_ ≤ ts.length → mS ts σ' < mS ts σ → ∀ k k', 4 * mS ts σ' + 8 ≤ k → 12 * mS ts σ' + 16 ≤ k' → REq (blockP ts n k σ') (bodyR ts n k' σ') := fun σ' h' hlt => (ih (mS ts σ') (by omega) σ' h' (Nat.le_refl _)).2
  have IS : ∀ σ', σ'.at_ ≤ ts.length → (σ'.err = 0 → σ.err = 0 ∧ σ.at_ < σ'.at_) → ∀ acc k k', 4 * mS ts σ + 3 ≤ k → 12 * mS ts σ + 3 ≤ k' → REq (stmtsP ts n k acc σ') ((stmtsR ts n k' acc σ').1, expectP ts n (stmtsR ts n k' acc σ').2 [125]) := by
   intro σ' h' hlt acc k k' hk hk'
   by_cases e : σ'.err = 0
   · obtain ⟨e0, hat⟩ := hlt e
     have hms : mS ts σ' + 1 ≤ mS ts σ := by unfold mS; rw [if_pos e, if_pos e0]; omega
     exact (ih (mS ts σ') (by omega) σ' h' (Nat.le_refl _)).1 acc k k' (by omega) (by omega)
   · have hr := (stmtsR_le (n := n) (k := k') (acc := acc) h').err e
     refine REq.of_err e ((stmts_le h').err e) ?_; simp only [hr]
     exact expect_err h' (by decide) e
  refine ⟨fun acc k k' hk hk' => ?_, fun k k' hk hk' => ?_⟩
  · cases k with
    | zero => omega
    | succ k =>
     cases k' with
     | zero => omega
     | succ k' =>
      rw [stmtsP, stmtsR]
      by_cases e : σ.err = 0
      · rw [if_neg (show ¬ σ.err ≠ 0 from fun c => c e)]
        by_cases hb : hasP ts σ [125] = true
        · rw [if_pos hb, if_neg (fun c => by rw [hb] at c; simp at c)]
          have : expectP ts n σ [125] = nextP σ := by unfold expectP; rw [if_pos hb]
          simp only [this]
          exact REq.refl _
        · rw [if_neg hb]
          have hb' : hasP ts σ [125] = false := by simpa using hb
          by_cases hat : σ.at_ < ts.length
          · rw [if_pos ⟨e, hat, hb'⟩]
            have hs := stmt_le (n := n) (k := k) h; have hs' := stmtR_le (n := n) (k := k') h; refine REq.bind (stmt1_eq (n := n) (k := k) (k' := k') hd h IB (by omega) (by omega)) (f := fun s => stmtsP ts n k (acc ++ [s.1]) (expectP ts n s.2 [59])) (g := fun s => ((stmtsR ts n k' (acc ++ [s.1]) (expectP ts n s.2 [59])).1, expectP ts n (stmtsR ts n k' (acc ++ [s.1]) (expectP ts n s.2 [59])).2 [125])) (fun e => ?_) (fun e => ?_) (fun e hab => ?_)
            · have g1 := expect_le (n := n) (t := [59]) hs.wf (by decide)
              exact (g1.trans (stmts_le g1.wf)).err e
            · have g1 := expect_le (n := n) (t := [59]) hs'.wf (by decide)
              have g2 := g1.trans (stmtsR_le (n := n) (k := k') (acc := acc ++ [(stmtR ts n k' σ).1]) g1.wf)
              exact (g2.trans (expect_le g2.wf (by decide))).err e
            · rw [← hab]
              have g1 := expect_le (n := n) (t := [59]) hs.wf (by decide); refine IS _ g1.wf (fun z => ⟨by assumption, ?_⟩) _ k k' (by omega) (by omega); have := expect_lt (ts := ts) (n := n) (t := [59]) (σ := (stmtP ts n k σ).2) z; have := hs.le
              omega
          · rw [if_neg (fun c => hat c.2.1)]
            have hend : σ.at_ = ts.length := by omega
            have hue : (unexpP ts n σ).err ≠ 0 := unexp_err
            have hx : expectP ts n σ [125] = unexpP ts n σ := by unfold expectP; rw [if_neg hb]
            have hse := stmt_end (n := n) (k := k) hend (by omega); have huw : (unexpP ts n σ).at_ ≤ ts.length := (unexp_le h).wf; refine REq.of_err hue ?_ hx; rw [hse, expect_err huw (by decide) hue]
            exact (stmts_le huw).err hue
      · rw [if_pos e, if_neg (fun c => e c.1)]
        exact REq.of_err e rfl (expect_err h (by decide) e)
  · cases k with
    | zero => omega
    | succ k =>
     cases k' with
     | zero => omega
     | succ k' =>
      rw [blockP, bodyR]; have g1 := expect_le (n := n) (t := [123]) h (by decide); refine REq.bind (IS _ g1.wf (fun z => ⟨g1.ok z, expect_lt z⟩) [] k k' (by omega) (by omega)) (f := fun a => (Nd.mk 57 0 [] a.1, a.2)) (g := fun b => (Nd.mk 57 0 [] b.1, b.2)) (fun e => rfl) (fun e => rfl) (fun e hab => ?_)
      rw [← hab]; exact REq.refl _
end
end Bk
namespace Bk
open Go
section
variable (ts : List Tok) (n : Int)
def posR (σ : PS) : Int := if ts.length ≤ σ.at_ then n else (ts.getD σ.at_ Tok.zero).pos
def declKind (t : List UInt8) : Int := if t = [105, 110, 116] then 1 else if t = [97, 114, 114, 97, 121] then 2 else 3
def declR (many most : Nat) (σ : PS) : VD × PS :=
 if atDeclP ts σ = false then (⟨[], 0, 0⟩, unexpP ts n σ)
 else if many = most then (⟨[], 0, 0⟩, failP σ (posR ts n σ) 5)
 else
  let m := nameP ts n (nextP σ)
  if declKind (peekP ts σ).text = 2 then
   let σ1 := expectP ts n m.2 [91]
   let r := numberR ts n σ1
   let σ2 := if r.2.err = 0 ∧ (r.1 < 1 ∨ 16 < r.1) then failP r.2 (posR ts n σ1) 2 else r.2
   (⟨m.1, 2, r.1⟩, expectP ts n σ2 [93])
  else (⟨m.1, declKind (peekP ts σ).text, 0⟩, m.2)
end
section
variable {ts : List Tok} {n : Int}
theorem pos_in {σ : PS} (h : In ts σ) : posR ts n σ = (peekP ts σ).pos := by unfold posR; rw [if_neg (by have := h.2; omega), peek_at h]
theorem decl_le {σ : PS} (h : σ.at_ ≤ ts.length) : Le ts σ (declP ts n σ).2 := by
 unfold declP
 split
 · rename_i hh
   have h1 := next_le (has_in h hh (by decide))
   exact h1.trans (name_le h1.wf)
 · split
   · rename_i hh
     have h1 := next_le (has_in h hh (by decide))
     exact h1.trans (name_le h1.wf)
   · split
     · rename_i hh
       have h1 := next_le (has_in h hh (by decide)); have h2 := h1.trans (name_le (n := n) h1.wf); have h3 := h2.trans (expect_le (n := n) (t := [91]) h2.wf (by decide)); have h4 := h3.trans (number_le (n := n) (a := 1) (b := 16) h3.wf)
       exact h4.trans (expect_le h4.wf (by decide))
     · exact unexp_le h
theorem number16_eq (hd : DigitKinds ts) {σ : PS} (h : σ.at_ ≤ ts.length) : REq (numberP ts n 1 16 σ) ((numberR ts n σ).1, if (numberR ts n σ).2.err = 0 ∧ ((numberR ts n σ).1 < 1 ∨ 16 < (numberR ts n σ).1) then failP (numberR ts n σ).2 (posR ts n σ) 2 else (numberR ts n σ).2) := by
 by_cases hk : (peekP ts σ).kind = 2
 · have hs := (peek_digit hd h).1 hk
   have hn := peek_in h (Or.inr (by rw [hk]; decide)); have hne : (nextP σ).err = 0 := hn.1
   unfold numberP numberR
   rw [if_pos hk, if_pos hs]
   by_cases hv : (digitsVal (peekP ts σ).text : Int) ≤ 9223372036854775807
   · simp only [if_pos hv]
     by_cases hr : 1 ≤ (digitsVal (peekP ts σ).text : Int) ∧ (digitsVal (peekP ts σ).text : Int) ≤ 16
     · rw [if_pos ⟨hv, hr⟩, if_neg (by omega)]; exact REq.refl _
     · rw [if_neg (fun c => hr c.2), if_pos ⟨hne, by omega⟩, fail_on hne, fail_on hne, pos_in hn]
       exact ⟨rfl, rfl, fun z => by simp at z⟩
   · simp only [if_neg hv]
     rw [if_neg (fun c => hv c.1), fail_on hne, fail_on hn.1]; simp only; rw [if_neg (by simp)]
     exact ⟨rfl, rfl, fun z => by simp at z⟩
 · have hs : ¬ startsDigit (peekP ts σ).text = true := fun e => hk ((peek_digit hd h).2 e)
   have hue : (unexpP ts n σ).err ≠ 0 := unexp_err
   unfold numberP numberR
   rw [if_neg hk, if_neg hs]; simp only; rw [if_neg (fun c => hue c.1)]
   exact REq.refl _
theorem has_iff {σ : PS} {t : List UInt8} : hasP ts σ t = true ↔ (peekP ts σ).text = t := by unfold hasP; exact decide_eq_true_iff
theorem decl_eq (hd : DigitKinds ts) {many most : Nat} {σ : PS} (h : σ.at_ ≤ ts.length) :
 REq (declP ts n (if many = most ∧ atDeclP ts σ = true then failP σ (peekP ts σ).pos 5 else σ)) (declR ts n many most σ) := by
 unfold declR
 by_cases ha : atDeclP ts σ = true
 · rw [if_neg (show ¬ atDeclP ts σ = false from by rw [ha]; simp)]
   have hin : In ts σ := by
    unfold atDeclP at ha
    simp only [Bool.or_eq_true] at ha
    rcases ha with (c | c) | c <;> exact has_in h c (by decide)
   by_cases hm : many = most
   · rw [if_pos (show many = most ∧ atDeclP ts σ = true from ⟨hm, ha⟩), if_pos hm, pos_in hin]
     have hfe : (failP σ (peekP ts σ).pos 5).err ≠ 0 := fail_err (by decide)
     exact REq.of_err hfe ((decl_le (fail_le h _ _).wf).err hfe) rfl
   · rw [if_neg (show ¬ (many = most ∧ atDeclP ts σ = true) from fun c => hm c.1), if_neg hm]
     unfold atDeclP at ha
     simp only [Bool.or_eq_true] at ha
     unfold declP
     by_cases c1 : hasP ts σ [105, 110, 116] = true
     · have ht := has_iff.1 c1
       rw [if_pos c1, ht]
       exact REq.refl _
     · rw [if_neg c1]
       by_cases c2 : hasP ts σ [115, 116, 97, 99, 107] = true
       · have ht := has_iff.1 c2
         rw [if_pos c2, ht]
         exact REq.refl _
       · have c3 : hasP ts σ [97, 114, 114, 97, 121] = true := by rcases ha with (c | c) | c <;> simp_all
         have ht := has_iff.1 c3; rw [if_neg c2, if_pos c3, ht]; simp only; rw [if_pos (by decide)]; have h1 := next_le hin; have h2 := name_le (n := n) h1.wf; have h3 := expect_le (n := n) (t := [91]) h2.wf (by decide)
         generalize expectP ts n (nameP ts n (nextP σ)).2 [91] = τ at *
         have hnl := number_le (n := n) (a := 1) (b := 16) h3.wf; have hN := number16_eq (n := n) hd h3.wf
         have hRl : (if (numberR ts n τ).2.err = 0 ∧ ((numberR ts n τ).1 < 1 ∨ 16 < (numberR ts n τ).1) then failP (numberR ts n τ).2 (posR ts n τ) 2 else (numberR ts n τ).2).at_ ≤ ts.length := by
          split
          · exact (fail_le (numberR_le h3.wf).wf _ _).wf
          · exact (numberR_le h3.wf).wf
         refine REq.bind hN (f := fun r => ((⟨(nameP ts n (nextP σ)).1, 2, r.1⟩ : VD), expectP ts n r.2 [93])) (g := fun r => ((⟨(nameP ts n (nextP σ)).1, 2, r.1⟩ : VD), expectP ts n r.2 [93])) (fun e => expect_err hnl.wf (by decide) e) (fun e => expect_err hRl (by decide) e) (fun e hab => ?_)
         rw [← hab]; exact REq.refl _
 · have hf : atDeclP ts σ = false := by simpa using ha
   rw [if_pos hf, if_neg (show ¬ (many = most ∧ atDeclP ts σ = true) from fun c => ha c.2)]
   unfold atDeclP at hf
   simp only [Bool.or_eq_false_iff] at hf
   unfold declP
   rw [if_neg (by rw [hf.1.1]; simp), if_neg (by rw [hf.2]; simp), if_neg (by rw [hf.1.2]; simp)]
   exact REq.refl _
end
section
variable (ts : List Tok) (n : Int)
def paramsR : Nat → List VD → PS → List VD × PS
 | 0, acc, σ => (acc, σ)
 | k + 1, acc, σ =>
  if hasP ts (declR ts n acc.length 8 σ).2 [44] then paramsR k (acc ++ [(declR ts n acc.length 8 σ).1]) (nextP (declR ts n acc.length 8 σ).2)
  else (acc ++ [(declR ts n acc.length 8 σ).1], (declR ts n acc.length 8 σ).2)
end
section
variable {ts : List Tok} {n : Int}
theorem declR_le {a b : Nat} {σ : PS} (h : σ.at_ ≤ ts.length) : Le ts σ (declR ts n a b σ).2 := by
 unfold declR
 split
 · exact unexp_le h
 · rename_i hf
   split
   · exact fail_le h _ _
   · have ha : atDeclP ts σ = true := by simpa using hf
     have hin : In ts σ := by
      unfold atDeclP at ha
      simp only [Bool.or_eq_true] at ha
      rcases ha with (c | c) | c <;> exact has_in h c (by decide)
     have h1 := next_le hin; have h2 := h1.trans (name_le (n := n) h1.wf); simp only
     split
     · have h3 := h2.trans (expect_le (n := n) (t := [91]) h2.wf (by decide))
       have h4 := h3.trans (numberR_le (n := n) h3.wf)
       have h5 := h4.trans (show Le ts _ (if (numberR ts n (expectP ts n (nameP ts n (nextP σ)).2 [91])).2.err = 0 ∧ ((numberR ts n (expectP ts n (nameP ts n (nextP σ)).2 [91])).1 < 1 ∨ 16 < (numberR ts n (expectP ts n (nameP ts n (nextP σ)).2 [91])).1) then failP (numberR ts n (expectP ts n (nameP ts n (nextP σ)).2 [91])).2 (posR ts n (expectP ts n (nameP ts n (nextP σ)).2 [91])) 2 else (numberR ts n (expectP ts n (nameP ts n (nextP σ)).2 [91])).2) from by
        split
        · exact fail_le h4.wf _ _
        · exact Le.refl h4.wf)
       exact h5.trans (expect_le h5.wf (by decide))
     · exact h2
theorem params_le (k : Nat) : ∀ acc σ, σ.at_ ≤ ts.length → Le ts σ (paramsP ts n k acc σ).2 := by
 induction k with
 | zero => intro acc σ h; rw [paramsP]; exact Le.refl h
 | succ k ih =>
  intro acc σ h; rw [paramsP]
  split
  · rename_i hh
    have h1 := next_le (has_in h hh (by decide)); simp only
    have h2 : Le ts σ (if acc.length = 8 ∧ atDeclP ts (nextP σ) = true then failP (nextP σ) (peekP ts (nextP σ)).pos 5 else nextP σ) := by
     split
     · exact h1.trans (fail_le h1.wf _ _)
     · exact h1
    generalize (if acc.length = 8 ∧ atDeclP ts (nextP σ) = true then failP (nextP σ) (peekP ts (nextP σ)).pos 5 else nextP σ) = τ at *
    have h3 := h2.trans (decl_le (n := n) h2.wf)
    exact h3.trans (ih _ _ h3.wf)
  · exact Le.refl h
theorem params_eq (hd : DigitKinds ts) (m : Nat) : ∀ (acc : List VD) (σ : PS), σ.at_ ≤ ts.length → mS ts σ ≤ m → ∀ k k', m + 1 ≤ k → m + 1 ≤ k' →
 REq (paramsP ts n k (acc ++ [(declP ts n (if acc.length = 8 ∧ atDeclP ts σ = true then failP σ (peekP ts σ).pos 5 else σ)).1]) (declP ts n (if acc.length = 8 ∧ atDeclP ts σ = true then failP σ (peekP ts σ).pos 5 else σ)).2) (paramsR ts n k' acc σ) := by
 induction m using Nat.strongRecOn with
 | _ m ih =>
  intro acc σ h hm k k' hk hk'
  cases k with
  | zero => omega
  | succ k =>
   cases k' with
   | zero => omega
   | succ k' =>
    rw [paramsR]
    have hw : (if acc.length = 8 ∧ atDeclP ts σ = true then failP σ (peekP ts σ).pos 5 else σ).at_ ≤ ts.length := by
     split
     · exact (fail_le h _ _).wf
     · exact h
    have hle : Le ts σ (if acc.length = 8 ∧ atDeclP ts σ = true then failP σ (peekP ts σ).pos 5 else σ) := by
     split
     · exact fail_le h _ _
     · exact Le.refl h
    have hD := decl_eq (n := n) (many := acc.length) (most := 8) hd h; have hdl := decl_le (n := n) hw; have hdr := declR_le (n := n) (a := acc.length) (b := 8) h
    generalize (if acc.length = 8 ∧ atDeclP ts σ = true then failP σ (peekP ts σ).pos 5 else σ) = τ at *
    refine REq.bind hD (f := fun d => paramsP ts n (k + 1) (acc ++ [d.1]) d.2) (g := fun d => if hasP ts d.2 [44] then paramsR ts n k' (acc ++ [d.1]) (nextP d.2) else (acc ++ [d.1], d.2)) (fun e => (params_le _ _ _ hdl.wf).err e) (fun e => ?_) (fun e hab => ?_)
    · rw [if_neg (by rw [has_err e (by decide)]; simp)]
    · rw [← hab, paramsP]
      by_cases hc : hasP ts (declP ts n τ).2 [44] = true
      · rw [if_pos hc, if_pos hc]
        have hin := has_in hdl.wf hc (by decide); have hmn := mS_next hin; have hml := mS_le (hle.trans hdl)
        exact ih (mS ts (nextP (declP ts n τ).2)) (by omega) (acc ++ [(declP ts n τ).1]) (nextP (declP ts n τ).2) (next_le hin).wf (Nat.le_refl _) k k' (by omega) (by omega)
      · rw [if_neg hc, if_neg hc]
        exact REq.refl _
end
section
variable (ts : List Tok) (n : Int)
def wholeR (k : Nat) (σ : PS) : Nd × PS := ((bodyR ts n k σ).1, limitP (bodyR ts n k σ).1 (posR ts n σ) (bodyR ts n k σ).2)
end
section
variable {ts : List Tok} {n : Int}
theorem limit_le {x : Nd} {off : Int} {σ : PS} (h : σ.at_ ≤ ts.length) : Le ts σ (limitP x off σ) := by
 unfold limitP
 split
 · exact Le.refl h
 · split
   · exact fail_le h _ _
   · split
     · exact fail_le h _ _
     · exact Le.refl h
theorem whole_eq (hd : DigitKinds ts) {k k' : Nat} {σ : PS} (h : σ.at_ ≤ ts.length) (hk : 4 * mS ts σ + 8 ≤ k) (hk' : 12 * mS ts σ + 16 ≤ k') : REq (bodyP ts n k σ) (wholeR ts n k' σ) := by
 unfold bodyP wholeR
 have hb := block_le (n := n) (k := k) h; have hb' := body_le (n := n) (k := k') h; refine REq.bind ((block_eq (n := n) hd _ σ h (Nat.le_refl _)).2 k k' hk hk') (f := fun b => (b.1, limitP b.1 (peekP ts σ).pos b.2)) (g := fun b => (b.1, limitP b.1 (posR ts n σ) b.2)) (fun e => (limit_le hb.wf).err e) (fun e => (limit_le hb'.wf).err e) (fun e hab => ?_); rw [← hab]
 have hin : In ts σ := by
  have e0 := hb.ok e
  by_cases hat : σ.at_ < ts.length
  · exact ⟨e0, hat⟩
  · exfalso
    have hend : σ.at_ = ts.length := by omega
    cases k with
    | zero => omega
    | succ k =>
     rw [blockP] at e
     have hnb : ¬ hasP ts σ [123] = true := fun c => by have := has_in h c (by decide); omega
     have hx : expectP ts n σ [123] = unexpP ts n σ := by unfold expectP; rw [if_neg hnb]
     have hue : (unexpP ts n σ).err ≠ 0 := unexp_err; simp only [hx] at e; rw [(stmts_le (unexp_le h).wf).err hue] at e
     exact hue e
 rw [pos_in hin]
 exact REq.refl _
end
section
variable (ts : List Tok) (n : Int)
def procR (k : Nat) (σ : PS) : PD × PS :=
 let m := nameP ts n (nextP σ)
 let σ1 := expectP ts n m.2 [40]
 let q := if σ1.err = 0 ∧ hasP ts σ1 [41] = false then paramsR ts n k [] σ1 else ([], σ1)
 let b := wholeR ts n k (expectP ts n q.2 [41])
 (⟨m.1, q.1, b.1⟩, b.2)
def varsR : Nat → List VD → PS → List VD × PS
 | 0, acc, σ => (acc, σ)
 | k + 1, acc, σ => if σ.err = 0 ∧ atDeclP ts σ = true then varsR k (acc ++ [(declR ts n acc.length 32 σ).1]) (declR ts n acc.length 32 σ).2 else (acc, σ)
def procsR : Nat → List PD → PS → List PD × PS
 | 0, acc, σ => (acc, σ)
 | k + 1, acc, σ =>
  if σ.err = 0 ∧ hasP ts σ [112, 114, 111, 99] = true then
   if acc.length = 64 then (acc, failP σ (posR ts n σ) 5)
   else procsR k (acc ++ [(procR ts n k σ).1]) (procR ts n k σ).2
  else (acc, σ)
def programR (k : Nat) (σ : PS) : PG × PS :=
 let v := varsR ts n k [] σ
 let p := procsR ts n k [] v.2
 let b := wholeR ts n k (expectP ts n p.2 [109, 97, 105, 110])
 (⟨v.1, p.1, b.1⟩, b.2)
end
section
variable {ts : List Tok} {n : Int}
theorem whole_le {k : Nat} {σ : PS} (h : σ.at_ ≤ ts.length) : Le ts σ (wholeR ts n k σ).2 := by
 unfold wholeR
 have h1 := body_le (n := n) (k := k) h
 exact h1.trans (limit_le h1.wf)
theorem bodyP_le {k : Nat} {σ : PS} (h : σ.at_ ≤ ts.length) : Le ts σ (bodyP ts n k σ).2 := by
 unfold bodyP
 have h1 := block_le (n := n) (k := k) h
 exact h1.trans (limit_le h1.wf)
theorem paramsR_le (k : Nat) : ∀ acc σ, σ.at_ ≤ ts.length → Le ts σ (paramsR ts n k acc σ).2 := by
 induction k with
 | zero => intro acc σ h; rw [paramsR]; exact Le.refl h
 | succ k ih =>
  intro acc σ h; rw [paramsR]; have h1 := declR_le (n := n) (a := acc.length) (b := 8) h
  split
  · rename_i hh
    have h2 := h1.trans (next_le (has_in h1.wf hh (by decide)))
    exact h2.trans (ih _ _ h2.wf)
  · exact h1
theorem vars_le (k : Nat) : ∀ acc σ, σ.at_ ≤ ts.length → Le ts σ (varsP ts n k acc σ).2 := by
 induction k with
 | zero => intro acc σ h; rw [varsP]; exact Le.refl h
 | succ k ih =>
  intro acc σ h; rw [varsP]
  split
  · have h2 : Le ts σ (if acc.length = 32 then failP σ (peekP ts σ).pos 5 else σ) := by
     split
     · exact fail_le h _ _
     · exact Le.refl h
    have h3 := h2.trans (decl_le (n := n) h2.wf)
    exact h3.trans (ih _ _ h3.wf)
  · exact Le.refl h
theorem varsR_le (k : Nat) : ∀ acc σ, σ.at_ ≤ ts.length → Le ts σ (varsR ts n k acc σ).2 := by
 induction k with
 | zero => intro acc σ h; rw [varsR]; exact Le.refl h
 | succ k ih =>
  intro acc σ h; rw [varsR]
  split
  · have h3 := declR_le (n := n) (a := acc.length) (b := 32) h
    exact h3.trans (ih _ _ h3.wf)
  · exact Le.refl h
theorem decl_lt {σ : PS} (h : σ.at_ ≤ ts.length) : Lt σ (declP ts n σ).2 := by
 unfold declP
 split
 · rename_i hh
   have h1 := next_le (has_in h hh (by decide))
   exact Lt.of_le (ts := ts) h1 name_lt
 · split
   · rename_i hh
     have h1 := next_le (has_in h hh (by decide))
     exact Lt.of_le (ts := ts) h1 name_lt
   · split
     · rename_i hh
       have h1 := next_le (has_in h hh (by decide)); have h2 := h1.trans (name_le (n := n) h1.wf); have h3 := h2.trans (expect_le (n := n) (t := [91]) h2.wf (by decide)); have h4 := h3.trans (number_le (n := n) (a := 1) (b := 16) h3.wf)
       exact Lt.of_le (ts := ts) h4 expect_lt
     · exact unexp_lt
theorem vars_eq (hd : DigitKinds ts) (m : Nat) : ∀ (acc : List VD) (σ : PS), σ.at_ ≤ ts.length → mS ts σ ≤ m → ∀ k k', m + 1 ≤ k → m + 1 ≤ k' → REq (varsP ts n k acc σ) (varsR ts n k' acc σ) := by
 induction m using Nat.strongRecOn with
 | _ m ih =>
  intro acc σ h hm k k' hk hk'
  cases k with
  | zero => omega
  | succ k =>
   cases k' with
   | zero => omega
   | succ k' =>
    rw [varsP, varsR]
    by_cases ha : atDeclP ts σ = true
    · have hin : In ts σ := by
       have ha' := ha
       unfold atDeclP at ha'
       simp only [Bool.or_eq_true] at ha'
       rcases ha' with (c | c) | c <;> exact has_in h c (by decide)
      rw [if_pos ha, if_pos (show σ.err = 0 ∧ atDeclP ts σ = true from ⟨hin.1, ha⟩)]; have hD := decl_eq (n := n) (many := acc.length) (most := 32) hd h
      have heq : (if acc.length = 32 ∧ atDeclP ts σ = true then failP σ (peekP ts σ).pos 5 else σ) = (if acc.length = 32 then failP σ (peekP ts σ).pos 5 else σ) := by simp [ha]
      rw [heq] at hD
      have hle : Le ts σ (if acc.length = 32 then failP σ (peekP ts σ).pos 5 else σ) := by
       split
       · exact fail_le h _ _
       · exact Le.refl h
      have hdr := declR_le (n := n) (a := acc.length) (b := 32) h; simp only
      generalize (if acc.length = 32 then failP σ (peekP ts σ).pos 5 else σ) = τ at *
      have hdl := decl_le (n := n) hle.wf; have hlt := decl_lt (n := n) hle.wf; refine REq.bind hD (f := fun d => varsP ts n k (acc ++ [d.1]) d.2) (g := fun d => varsR ts n k' (acc ++ [d.1]) d.2) (fun e => (vars_le _ _ _ hdl.wf).err e) (fun e => (varsR_le _ _ _ hdr.wf).err e) (fun e hab => ?_); rw [← hab]
      have hms : mS ts (declP ts n τ).2 + 1 ≤ mS ts σ := by
       have h1 := hlt e; have h2 := hle.le; have h3 := hdl.wf
       unfold mS; rw [if_pos e, if_pos hin.1]; omega
      exact ih (mS ts (declP ts n τ).2) (by omega) _ _ hdl.wf (Nat.le_refl _) k k' (by omega) (by omega)
    · rw [if_neg ha, if_neg (show ¬ (σ.err = 0 ∧ atDeclP ts σ = true) from fun c => ha c.2)]
      exact REq.refl _
end
end Bk
namespace Bk
open Go
section
variable {ts : List Tok} {n : Int}
def procQ (ts : List Tok) (n : Int) (k : Nat) (σ : PS) : List VD × PS :=
 if hasP ts σ [41] then ([], nextP σ) else ((paramsP ts n k [(declP ts n σ).1] (declP ts n σ).2).1, expectP ts n (paramsP ts n k [(declP ts n σ).1] (declP ts n σ).2).2 [41])
def procQR (ts : List Tok) (n : Int) (k : Nat) (σ : PS) : List VD × PS :=
 ((if σ.err = 0 ∧ hasP ts σ [41] = false then paramsR ts n k [] σ else ([], σ)).1, expectP ts n (if σ.err = 0 ∧ hasP ts σ [41] = false then paramsR ts n k [] σ else ([], σ)).2 [41])
theorem procQ_le {k : Nat} {σ : PS} (h : σ.at_ ≤ ts.length) : Le ts σ (procQ ts n k σ).2 := by
 unfold procQ
 split
 · rename_i hh
   exact next_le (has_in h hh (by decide))
 · have h1 := decl_le (n := n) h
   have h2 := h1.trans (params_le (n := n) k [(declP ts n σ).1] _ h1.wf)
   exact h2.trans (expect_le h2.wf (by decide))
theorem procQR_le {k : Nat} {σ : PS} (h : σ.at_ ≤ ts.length) : Le ts σ (procQR ts n k σ).2 := by
 unfold procQR
 have h1 : Le ts σ (if σ.err = 0 ∧ hasP ts σ [41] = false then paramsR ts n k [] σ else ([], σ)).2 := by
  split
  · exact paramsR_le _ _ _ h
  · exact Le.refl h
 exact h1.trans (expect_le h1.wf (by decide))
theorem procQ_eq (hd : DigitKinds ts) {k k' : Nat} {σ : PS} (h : σ.at_ ≤ ts.length) (hk : mS ts σ + 1 ≤ k) (hk' : mS ts σ + 1 ≤ k') : REq (procQ ts n k σ) (procQR ts n k' σ) := by
 by_cases e0 : σ.err = 0
 · unfold procQ procQR
   by_cases hh : hasP ts σ [41] = true
   · rw [if_pos hh, if_neg (show ¬ (σ.err = 0 ∧ hasP ts σ [41] = false) from fun c => by rw [hh] at c; exact absurd c.2 (by decide))]
     have : expectP ts n σ [41] = nextP σ := by unfold expectP; rw [if_pos hh]
     simp only [this]
     exact REq.refl _
   · have hf : hasP ts σ [41] = false := by cases hq : hasP ts σ [41] <;> simp_all
     rw [if_neg hh, if_pos (show σ.err = 0 ∧ hasP ts σ [41] = false from ⟨e0, hf⟩)]; have hp := params_eq (n := n) hd _ [] σ h (Nat.le_refl _) k k' hk hk'
     have : (if ([] : List VD).length = 8 ∧ atDeclP ts σ = true then failP σ (peekP ts σ).pos 5 else σ) = σ := by simp
     rw [this, List.nil_append] at hp; have h1 := decl_le (n := n) h; have h2 := params_le (n := n) k [(declP ts n σ).1] _ h1.wf; have h3 := paramsR_le (n := n) k' [] σ h; refine REq.bind hp (f := fun q => (q.1, expectP ts n q.2 [41])) (g := fun q => (q.1, expectP ts n q.2 [41])) (fun e => (expect_le h2.wf (by decide)).err e) (fun e => (expect_le h3.wf (by decide)).err e) (fun e hab => ?_); rw [← hab]
     exact REq.refl _
 · exact REq.of_err e0 ((procQ_le h).err e0) ((procQR_le h).err e0)
theorem procP_at {k : Nat} {σ : PS} : procP ts n k σ = (⟨(nameP ts n (expectP ts n σ [112, 114, 111, 99])).1, (procQ ts n k (expectP ts n (nameP ts n (expectP ts n σ [112, 114, 111, 99])).2 [40])).1, (bodyP ts n k (procQ ts n k (expectP ts n (nameP ts n (expectP ts n σ [112, 114, 111, 99])).2 [40])).2).1⟩, (bodyP ts n k (procQ ts n k (expectP ts n (nameP ts n (expectP ts n σ [112, 114, 111, 99])).2 [40])).2).2) := by
 simp only [procP, procQ]
theorem procR_at {k : Nat} {σ : PS} : procR ts n k σ = (⟨(nameP ts n (nextP σ)).1, (procQR ts n k (expectP ts n (nameP ts n (nextP σ)).2 [40])).1, (wholeR ts n k (procQR ts n k (expectP ts n (nameP ts n (nextP σ)).2 [40])).2).1⟩, (wholeR ts n k (procQR ts n k (expectP ts n (nameP ts n (nextP σ)).2 [40])).2).2) := by
 simp only [procR, procQR]
theorem procP_le {k : Nat} {σ : PS} (h : σ.at_ ≤ ts.length) : Le ts σ (procP ts n k σ).2 := by
 rw [procP_at]; have h1 := expect_le (n := n) (t := [112, 114, 111, 99]) h (by decide); have h2 := h1.trans (name_le (n := n) h1.wf); have h3 := h2.trans (expect_le (n := n) (t := [40]) h2.wf (by decide)); have h4 := h3.trans (procQ_le (n := n) (k := k) h3.wf)
 exact h4.trans (bodyP_le h4.wf)
theorem procR_le {k : Nat} {σ : PS} (h : In ts σ) : Le ts σ (procR ts n k σ).2 := by
 rw [procR_at]; have h1 := next_le h; have h2 := h1.trans (name_le (n := n) h1.wf); have h3 := h2.trans (expect_le (n := n) (t := [40]) h2.wf (by decide)); have h4 := h3.trans (procQR_le (n := n) (k := k) h3.wf)
 exact h4.trans (whole_le h4.wf)
theorem procP_lt {k : Nat} {σ : PS} (h : σ.at_ ≤ ts.length) : Lt σ (procP ts n k σ).2 := by
 rw [procP_at]; have h1 := expect_le (n := n) (t := [112, 114, 111, 99]) h (by decide); have h2 := name_le (n := n) h1.wf; have h3 := h2.trans (expect_le (n := n) (t := [40]) h2.wf (by decide)); have h4 := h3.trans (procQ_le (n := n) (k := k) h3.wf)
 exact Lt.of_lt (expect_lt (ts := ts) (n := n)) (h4.trans (bodyP_le h4.wf))
theorem proc_eq (hd : DigitKinds ts) {k k' : Nat} {σ : PS} (h : σ.at_ ≤ ts.length) (hp : hasP ts σ [112, 114, 111, 99] = true) (hk : 4 * mS ts σ + 8 ≤ k) (hk' : 12 * mS ts σ + 16 ≤ k') : REq (procP ts n k σ) (procR ts n k' σ) := by
 have hin := has_in h hp (by decide)
 have hx : expectP ts n σ [112, 114, 111, 99] = nextP σ := by unfold expectP; rw [if_pos hp]
 rw [procP_at, procR_at, hx]; have h1 := next_le hin; have h2 := h1.trans (name_le (n := n) h1.wf); have h3 := h2.trans (expect_le (n := n) (t := [40]) h2.wf (by decide)); have m3 := mS_le h3
 generalize (nameP ts n (nextP σ)).1 = nm
 generalize expectP ts n (nameP ts n (nextP σ)).2 [40] = τ at *
 have h4 := procQ_le (n := n) (k := k) h3.wf; have h5 := procQR_le (n := n) (k := k') h3.wf; have m4 := mS_le h4; refine REq.bind (procQ_eq (n := n) hd h3.wf (by omega) (by omega)) (f := fun q => ((⟨nm, q.1, (bodyP ts n k q.2).1⟩ : PD), (bodyP ts n k q.2).2)) (g := fun q => ((⟨nm, q.1, (wholeR ts n k' q.2).1⟩ : PD), (wholeR ts n k' q.2).2)) (fun e => (bodyP_le h4.wf).err e) (fun e => (whole_le h5.wf).err e) (fun e hab => ?_); rw [← hab]; have hw := whole_eq (n := n) hd (k := k) (k' := k') h4.wf (by omega) (by omega)
 generalize procQ ts n k τ = q at *
 exact ⟨hw.err, hw.off, fun e => ⟨(hw.ok e).1, by rw [(hw.ok e).2]⟩⟩
theorem procs_le (k : Nat) : ∀ acc σ, σ.at_ ≤ ts.length → Le ts σ (procsP ts n k acc σ).2 := by
 induction k with
 | zero => intro acc σ h; rw [procsP]; exact Le.refl h
 | succ k ih =>
  intro acc σ h; rw [procsP]
  split
  · have h2 : Le ts σ (if acc.length = 64 then failP σ (peekP ts σ).pos 5 else σ) := by
     split
     · exact fail_le h _ _
     · exact Le.refl h
    have h3 := h2.trans (procP_le (n := n) (k := k) h2.wf)
    exact h3.trans (ih _ _ h3.wf)
  · exact Le.refl h
theorem procsR_le (k : Nat) : ∀ acc σ, σ.at_ ≤ ts.length → Le ts σ (procsR ts n k acc σ).2 := by
 induction k with
 | zero => intro acc σ h; rw [procsR]; exact Le.refl h
 | succ k ih =>
  intro acc σ h; rw [procsR]
  split
  · rename_i hh
    split
    · exact fail_le h _ _
    · have h3 := procR_le (n := n) (k := k) (has_in h hh.2 (by decide))
      exact h3.trans (ih _ _ h3.wf)
  · exact Le.refl h
theorem procs_eq (hd : DigitKinds ts) (m : Nat) : ∀ (acc : List PD) (σ : PS), σ.at_ ≤ ts.length → mS ts σ ≤ m → ∀ k k', 4 * m + 9 ≤ k → 12 * m + 17 ≤ k' → REq (procsP ts n k acc σ) (procsR ts n k' acc σ) := by
 induction m using Nat.strongRecOn with
 | _ m ih =>
  intro acc σ h hm k k' hk hk'
  cases k with
  | zero => omega
  | succ k =>
   cases k' with
   | zero => omega
   | succ k' =>
    rw [procsP, procsR]
    by_cases ha : hasP ts σ [112, 114, 111, 99] = true
    · have hin : In ts σ := has_in h ha (by decide)
      rw [if_pos ha, if_pos (show σ.err = 0 ∧ hasP ts σ [112, 114, 111, 99] = true from ⟨hin.1, ha⟩)]
      by_cases hc : acc.length = 64
      · simp only [hc, if_true]
        have hf : (failP σ (peekP ts σ).pos 5).err ≠ 0 := by rw [fail_on hin.1]; show (5 : Int) ≠ 0; decide
        have hl := fail_le h (peekP ts σ).pos 5; have h3 := procP_le (n := n) (k := k) hl.wf; refine REq.of_err hf ?_ ?_
        · have := h3.trans (procs_le (n := n) k (acc ++ [(procP ts n k (failP σ (peekP ts σ).pos 5)).1]) _ h3.wf)
          exact this.err hf
        · simp only [pos_in hin]
      · simp only [hc, if_false]
        have hdl := procP_le (n := n) (k := k) h; have hdr := procR_le (n := n) (k := k') hin; have hlt := procP_lt (n := n) (k := k) h; refine REq.bind (proc_eq (n := n) hd (k := k) (k' := k') h ha (by omega) (by omega)) (f := fun d => procsP ts n k (acc ++ [d.1]) d.2) (g := fun d => procsR ts n k' (acc ++ [d.1]) d.2) (fun e => (procs_le _ _ _ hdl.wf).err e) (fun e => (procsR_le _ _ _ hdr.wf).err e) (fun e hab => ?_); rw [← hab]
        have hms : mS ts (procP ts n k σ).2 + 1 ≤ mS ts σ := by
         have h1 := hlt e; have h3 := hdl.wf
         unfold mS; rw [if_pos e, if_pos hin.1]; omega
        exact ih (mS ts (procP ts n k σ).2) (by omega) _ _ hdl.wf (Nat.le_refl _) k k' (by omega) (by omega)
    · rw [if_neg ha, if_neg (show ¬ (σ.err = 0 ∧ hasP ts σ [112, 114, 111, 99] = true) from fun c => ha c.2)]
      exact REq.refl _
theorem programP_le {k : Nat} {σ : PS} (h : σ.at_ ≤ ts.length) : Le ts σ (programP ts n k σ).2 := by
 unfold programP
 have h1 := vars_le (n := n) k [] σ h; have h2 := h1.trans (procs_le (n := n) k [] _ h1.wf); have h3 := h2.trans (expect_le (n := n) (t := [109, 97, 105, 110]) h2.wf (by decide))
 exact h3.trans (bodyP_le h3.wf)
theorem program_eq (hd : DigitKinds ts) {k k' : Nat} {σ : PS} (h : σ.at_ ≤ ts.length) (hk : 4 * mS ts σ + 9 ≤ k) (hk' : 12 * mS ts σ + 17 ≤ k') : REq (programP ts n k σ) (programR ts n k' σ) := by
 unfold programP programR
 have h1 := vars_le (n := n) k [] σ h; have h1' := varsR_le (n := n) k' [] σ h; have m1 := mS_le h1
 have t1 : ∀ (v : List VD) (τ : PS), τ.at_ ≤ ts.length → Le ts τ (bodyP ts n k (expectP ts n (procsP ts n k [] τ).2 [109, 97, 105, 110])).2 := fun v τ ht => by
  have h2 := procs_le (n := n) k [] _ ht; have h3 := h2.trans (expect_le (n := n) (t := [109, 97, 105, 110]) h2.wf (by decide))
  exact h3.trans (bodyP_le h3.wf)
 have t2 : ∀ (v : List VD) (τ : PS), τ.at_ ≤ ts.length → Le ts τ (wholeR ts n k' (expectP ts n (procsR ts n k' [] τ).2 [109, 97, 105, 110])).2 := fun v τ ht => by
  have h2 := procsR_le (n := n) k' [] _ ht; have h3 := h2.trans (expect_le (n := n) (t := [109, 97, 105, 110]) h2.wf (by decide))
  exact h3.trans (whole_le h3.wf)
 refine REq.bind (vars_eq (n := n) hd _ [] σ h (Nat.le_refl _) k k' (by omega) (by omega)) (f := fun v => ((⟨v.1, (procsP ts n k [] v.2).1, (bodyP ts n k (expectP ts n (procsP ts n k [] v.2).2 [109, 97, 105, 110])).1⟩ : PG), (bodyP ts n k (expectP ts n (procsP ts n k [] v.2).2 [109, 97, 105, 110])).2))
  (g := fun v => ((⟨v.1, (procsR ts n k' [] v.2).1, (wholeR ts n k' (expectP ts n (procsR ts n k' [] v.2).2 [109, 97, 105, 110])).1⟩ : PG), (wholeR ts n k' (expectP ts n (procsR ts n k' [] v.2).2 [109, 97, 105, 110])).2)) (fun e => (t1 [] _ h1.wf).err e) (fun e => (t2 [] _ h1'.wf).err e) (fun e hab => ?_)
 rw [← hab]
 generalize varsP ts n k [] σ = v at *
 have h2 := procs_le (n := n) k [] _ h1.wf; have h2' := procsR_le (n := n) k' [] _ h1.wf; have m2 := mS_le h2; have h3 := expect_le (n := n) (t := [109, 97, 105, 110]) h2.wf (by decide); have h3' := expect_le (n := n) (t := [109, 97, 105, 110]) h2'.wf (by decide); have m3 := mS_le h3; refine REq.bind (procs_eq (n := n) hd _ [] v.2 h1.wf (Nat.le_refl _) k k' (by omega) (by omega)) (f := fun p => ((⟨v.1, p.1, (bodyP ts n k (expectP ts n p.2 [109, 97, 105, 110])).1⟩ : PG), (bodyP ts n k (expectP ts n p.2 [109, 97, 105, 110])).2))
  (g := fun p => ((⟨v.1, p.1, (wholeR ts n k' (expectP ts n p.2 [109, 97, 105, 110])).1⟩ : PG), (wholeR ts n k' (expectP ts n p.2 [109, 97, 105, 110])).2)) (fun e => (h3.trans (bodyP_le h3.wf)).err e) (fun e => (h3'.trans (whole_le h3'.wf)).err e) (fun e hab => ?_)
 rw [← hab]
 generalize procsP ts n k [] v.2 = p at *
 have hw := whole_eq (n := n) hd (k := k) (k' := k') h3.wf (by omega) (by omega)
 exact ⟨hw.err, hw.off, fun e => ⟨(hw.ok e).1, by rw [(hw.ok e).2]⟩⟩
end
end Bk
namespace Bk
open Go Go.RowKit Go.Proofs
attribute [local irreducible] Go.Calls
def VdsR (c : PC) (w : World) (r : List VD × PS) : Ending → World → Prop := fun e w' => ∃ a k, e = .returned (.slice a r.1.length k) ∧ VDs (fun b => w.heap.size ≤ b ∧ b < w'.heap.size) w' r.1 a ∧ PP c r.2 w' ∧ Fr (· = c.pb) w w'
theorem VdsR.ret {c : PC} {w : World} {r : List VD × PS} {e : Ending} {w' : World} (h : VdsR c w r e w') : ∃ v, e = .returned v := by
 obtain ⟨_, _, h, -⟩ := h
 exact ⟨_, h⟩
set_option maxRecDepth 100000 in
set_option maxHeartbeats 2000000 in
theorem params_c (c : PC) (k : Nat) (σ : PS) (w : World) (hP : PP c σ w) (hk : mS c.ts σ + 1 ≤ k) :
 Calls Tryd.prog 49 #[.pointer (some ⟨c.pb, 0, none⟩)] w (VdsR c w (paramsP c.ts c.n k [(declP c.ts c.n σ).1] (declP c.ts c.n σ).2)) := by
 have X := Fr.refl (· = c.pb) w; have hpb := hP.pbB; have hB := hP.B; have hlen := hP.len; have hd := mS_le (decl_le (n := c.n) hP.at_)
 have hmt : mS c.ts σ ≤ c.ts.length := by unfold mS; split <;> omega
 refine calls_in Tryd.func49 Tryd.ntmps49 rfl rfl ?_
 focus
  refine cS (cA rfl rfl (cN (cM rfl rfl ?_))); refine cC (by kernel_rfl) rfl (decl_p _ _ _ (by assumption)) rfl ?_; rintro _ w3 ⟨⟨⟩, ⟨h1, f2⟩⟩; have z4 := f2.size; clear hP; replace X := X.fr f2 (by omega); clear f2; (refine lw_does (does_slice' [_, _, _] tabOk zOk rfl rfl rfl rfl rfl rfl rfl rfl rfl) rfl ?_ (fun _ h => h); rintro _ w6 ⟨b5, rfl, n7, t8⟩); have t9 : TB _ _ _ _ := t8; clear t8; have x10 := n7.ext; have p11 := n7.pos; have z12 := n7.size; clear n7; replace h1 := h1.ext x10; replace X := X.ext x10; clear x10; refine cA rfl rfl (cT (cw_seq (cw_block ?_))); rotate_left 1
 have hown := OwnL.lit (sh := vdShape) (B := w.heap.size) (x := (declP c.ts c.n σ).1) (by assumption) (by omega) rfl
 generalize declP c.ts c.n σ = D at *
 refine cw_loop (ι := Nat × List VD × Nat × Nat × PS) (fun x => [(0, .pointer (some ⟨c.pb, 0, none⟩)), (3, .slice (some ⟨x.2.2.1, 0, none⟩) x.2.1.length x.2.2.2.1)])
  (fun x w' => PP c x.2.2.2.2 w' ∧ OwnL vdShape w' w.heap.size 77 (.slice (some ⟨x.2.2.1, 0, none⟩) x.2.1.length x.2.2.2.1) x.2.1 ∧ Fr (· = c.pb) w w' ∧ w6.heap.size ≤ w'.heap.size ∧
   paramsP c.ts c.n k [D.1] D.2 = paramsP c.ts c.n x.1 x.2.1 x.2.2.2.2 ∧ mS c.ts x.2.2.2.2 + 1 ≤ x.1 ∧ x.2.1.length + mS c.ts x.2.2.2.2 ≤ 1000001) (fun x => x.1) (k, [D.1], b5, 1, D.2) (by (refine sub_cons rfl ?_; refine sub_cons rfl ?_; exact sub_nil))
  ⟨h1, hown, X, Nat.le_refl _, rfl, by simp only; omega, by simp only [List.length_cons, List.length_nil]; omega⟩ ?_
 rintro ⟨j, acc, g, cap, σ'⟩ w1 ⟨hP, hown, X, hz, he, hfj, hacc⟩; simp only at hP hown he hfj hacc; clear t9 h1; rw [he]; refine CW.sub (m := [(0, .pointer (some ⟨c.pb, 0, none⟩)), (3, .slice (some ⟨g, 0, none⟩) acc.length cap)]) ?_ (by (refine sub_cons rfl ?_; refine sub_cons rfl ?_; exact sub_nil)); obtain ⟨j, rfl⟩ : ∃ i, j = i + 1 := ⟨j - 1, by omega⟩
 cases hc : hasP c.ts σ' [44]
 case false =>
  rw [show paramsP c.ts c.n (j + 1) acc σ' = (acc, σ') from by rw [paramsP]; simp [hc]]
  focus
   refine cw_seq (cS (cM rfl rfl ?_)); refine cC (by kernel_rfl) rfl (accept_f _ _ _ _ (by assumption) (by decide) (by assumption)) rfl ?_; rintro _ wa3 ⟨⟨⟩, ⟨ha1, fa2⟩⟩; have za4 := fa2.size; clear hP; replace hown := hown.fr fa2 (by omega); replace X := X.fr fa2 (by omega); clear fa2; refine cT (cw_cond_f rfl (cw_exit (qw_then_exit (qw_then_exit (qw_block_exit (qw_then (cS (cM rfl rfl (cA rfl rfl (cT (cw_ret ?_))))))))))); refine qw_ret1 rfl rfl ?_; rotate_left 1
  exact ⟨_, _, rfl, VDs.lt2 (S := (w.heap.size ≤ ·)) (OwnL.vds (by assumption) (fun b h => h)), by assumption, X⟩
 have hin := has_in hP.at_ hc (by decide); have hmn := mS_next hin
 by_cases h8 : acc.length = 8
 · cases hnm : atDeclP c.ts (nextP σ')
   · have hml := mS_le (decl_le (n := c.n) (show (nextP σ').at_ ≤ c.ts.length from hin.2))
     rw [show paramsP c.ts c.n (j + 1) acc σ' = paramsP c.ts c.n j (acc ++ [(declP c.ts c.n (nextP σ')).1]) (declP c.ts c.n (nextP σ')).2 from by rw [paramsP]; simp [hc, h8, hnm]]
     focus
      refine cw_seq (cS (cM rfl rfl ?_)); refine cC (by kernel_rfl) rfl (accept_t _ _ _ _ (by assumption) (by decide) (by assumption)) rfl ?_; rintro _ wb3 ⟨⟨⟩, ⟨hb1, fb2⟩⟩; have zb4 := fb2.size; clear hP; replace hown := hown.fr fb2 (by omega); replace X := X.fr fb2 (by omega); clear fb2; refine cT (cw_cond_t rfl (cw_skip (qw_then (cw_block (cw_seq (cS (cM rfl rfl (lw_pure (pur_len_slice tabOk rfl rfl) rfl (lw_pure (pur_eql rfl rfl) rfl (cM rfl rfl ?_)))))))))); refine lw_on rfl rfl rfl (gd_tt (by omega)) ?_; refine cM rfl rfl ?_; refine lw_on rfl rfl rfl (gd_tt (by omega)) ?_; refine cC (by kernel_rfl) rfl (atDecl_c _ _ _ (by assumption)) rfl ?_; rintro _ wb6 ⟨⟨⟩, xb5⟩; have zb7 := xb5.size; replace hb1 := hb1.ext xb5; replace hown := hown.ext xb5; replace X := X.ext xb5; clear xb5; refine lw_pure (pur_pick_yes rfl rfl (by omega)) rfl ?_; refine cT ?_; refine cw_bf rfl (by assumption) ?_; refine cw_skip (qw_then (cw_region (cM rfl rfl (cM rfl rfl ?_)))); refine cC (by kernel_rfl) rfl (decl_p _ _ _ (by assumption)) rfl ?_; rintro _ wb10 ⟨⟨⟩, ⟨hb8, fb9⟩⟩; have zb11 := fb9.size; clear hb1; replace hown := hown.fr fb9 (by omega); replace X := X.fr fb9 (by omega); clear fb9; (refine lw_does (does_slice' [_, _, _] tabOk zOk rfl rfl rfl rfl rfl rfl rfl rfl rfl) rfl ?_ (fun _ h => h); rintro _ wb13 ⟨bb12, rfl, nb14, tb15⟩); clear tb15; have hb16 := nb14.blk; have xb17 := nb14.ext; have pb18 := nb14.pos; have zb19 := nb14.size; clear nb14; replace hb8 := hb8.ext xb17; replace hown := hown.ext xb17
      replace X := X.ext xb17; clear xb17; refine lw_appendL (sh := vdShape) tabOk zOk rfl rfl rfl rfl (by kernel_rfl) rfl rfl rfl hown (Blk.row (by assumption)) rfl (by omega) (by omega) rfl ?_; rintro gb20 cap'b21 wb22 hb23 fb24; have zb25 := fb24.size; clear hb16; replace hb8 := hb8.fr fb24 (by omega); clear hown; replace X := X.fr fb24 (by omega); clear fb24; refine cA rfl rfl (lw_nil (qw_block_norm ?_)); rotate_left 1
     refine qw_round (j, acc ++ [(declP c.ts c.n (nextP σ')).1], _, _, (declP c.ts c.n (nextP σ')).2) (by (refine sub_cons rfl ?_; refine sub_cons rfl ?_; exact sub_nil)) ⟨by assumption, by assumption, X, by omega, rfl, by simp only; omega, by simp only [List.length_append, List.length_cons, List.length_nil]; omega⟩ (by simp)
   · have hfl := fail_le (show (nextP σ').at_ ≤ c.ts.length from hin.2) (peekP c.ts (nextP σ')).pos 5
     have hml := mS_le (hfl.trans (decl_le (n := c.n) hfl.wf)); rw [show paramsP c.ts c.n (j + 1) acc σ' = paramsP c.ts c.n j (acc ++ [(declP c.ts c.n (failP (nextP σ') (peekP c.ts (nextP σ')).pos 5)).1]) (declP c.ts c.n (failP (nextP σ') (peekP c.ts (nextP σ')).pos 5)).2 from by rw [paramsP]; simp [hc, h8, hnm]]
     focus
      refine cw_seq (cS (cM rfl rfl ?_)); refine cC (by kernel_rfl) rfl (accept_t _ _ _ _ (by assumption) (by decide) (by assumption)) rfl ?_; rintro _ wc3 ⟨⟨⟩, ⟨hc1, fc2⟩⟩; have zc4 := fc2.size; clear hP; replace hown := hown.fr fc2 (by omega); replace X := X.fr fc2 (by omega); clear fc2; refine cT (cw_cond_t rfl (cw_skip (qw_then (cw_block (cw_seq (cS (cM rfl rfl (lw_pure (pur_len_slice tabOk rfl rfl) rfl (lw_pure (pur_eql rfl rfl) rfl (cM rfl rfl ?_)))))))))); refine lw_on rfl rfl rfl (gd_tt (by omega)) ?_; refine cM rfl rfl ?_; refine lw_on rfl rfl rfl (gd_tt (by omega)) ?_; refine cC (by kernel_rfl) rfl (atDecl_c _ _ _ (by assumption)) rfl ?_; rintro _ wc6 ⟨⟨⟩, xc5⟩; have zc7 := xc5.size; replace hc1 := hc1.ext xc5; replace hown := hown.ext xc5; replace X := X.ext xc5; clear xc5; refine lw_pure (pur_pick_yes rfl rfl (by omega)) rfl ?_; refine cT ?_; refine cw_bt rfl (by assumption) ?_; refine cw_region (cM rfl rfl (cM rfl rfl ?_)); refine cC (by kernel_rfl) rfl (peek_c _ _ _ (by assumption)) rfl ?_; rintro _ wc9 ⟨⟨⟩, xc8⟩; have zc10 := xc8.size; replace hc1 := hc1.ext xc8; replace hown := hown.ext xc8; replace X := X.ext xc8; clear xc8; refine lw_pure (pur_field tabOk rfl rfl rfl rfl rfl rfl) rfl ?_; refine cC (by kernel_rfl) rfl (fail_c _ _ _ _ _ (by assumption)) rfl ?_; rintro _ wc13 ⟨⟨⟩, ⟨hc11, fc12⟩⟩; have zc14 := fc12.size; clear hc1; replace hown := hown.fr fc12 (by omega); replace X := X.fr fc12 (by omega); clear fc12; refine cT (cw_region (cM rfl rfl (cM rfl rfl ?_)))
      refine cC (by kernel_rfl) rfl (decl_p _ _ _ (by assumption)) rfl ?_; rintro _ wc17 ⟨⟨⟩, ⟨hc15, fc16⟩⟩; have zc18 := fc16.size; clear hc11; replace hown := hown.fr fc16 (by omega); replace X := X.fr fc16 (by omega); clear fc16; (refine lw_does (does_slice' [_, _, _] tabOk zOk rfl rfl rfl rfl rfl rfl rfl rfl rfl) rfl ?_ (fun _ h => h); rintro _ wc20 ⟨bc19, rfl, nc21, tc22⟩); clear tc22; have hc23 := nc21.blk; have xc24 := nc21.ext; have pc25 := nc21.pos; have zc26 := nc21.size; clear nc21; replace hc15 := hc15.ext xc24; replace hown := hown.ext xc24; replace X := X.ext xc24; clear xc24; refine lw_appendL (sh := vdShape) tabOk zOk rfl rfl rfl rfl (by kernel_rfl) rfl rfl rfl hown (Blk.row (by assumption)) rfl (by omega) (by omega) rfl ?_; rintro gc27 cap'c28 wc29 hc30 fc31; have zc32 := fc31.size; clear hc23; replace hc15 := hc15.fr fc31 (by omega); clear hown; replace X := X.fr fc31 (by omega); clear fc31; refine cA rfl rfl (lw_nil (qw_block_norm ?_)); rotate_left 1
     refine qw_round (j, acc ++ [(declP c.ts c.n (failP (nextP σ') (peekP c.ts (nextP σ')).pos 5)).1], _, _, (declP c.ts c.n (failP (nextP σ') (peekP c.ts (nextP σ')).pos 5)).2) (by (refine sub_cons rfl ?_; refine sub_cons rfl ?_; exact sub_nil)) ⟨by assumption, by assumption, X, by omega, rfl, by simp only; omega, by simp only [List.length_append, List.length_cons, List.length_nil]; omega⟩ (by simp)
 · have hml := mS_le (decl_le (n := c.n) (show (nextP σ').at_ ≤ c.ts.length from hin.2))
   rw [show paramsP c.ts c.n (j + 1) acc σ' = paramsP c.ts c.n j (acc ++ [(declP c.ts c.n (nextP σ')).1]) (declP c.ts c.n (nextP σ')).2 from by rw [paramsP]; simp [hc, h8]]
   focus
    refine cw_seq (cS (cM rfl rfl ?_)); refine cC (by kernel_rfl) rfl (accept_t _ _ _ _ (by assumption) (by decide) (by assumption)) rfl ?_; rintro _ wd3 ⟨⟨⟩, ⟨hd1, fd2⟩⟩; have zd4 := fd2.size; clear hP; replace hown := hown.fr fd2 (by omega); replace X := X.fr fd2 (by omega); clear fd2; refine cT (cw_cond_t rfl (cw_skip (qw_then (cw_block (cw_seq (cS (cM rfl rfl (lw_pure (pur_len_slice tabOk rfl rfl) rfl (lw_pure (pur_eql rfl rfl) rfl (cM rfl rfl ?_)))))))))); refine lw_off rfl rfl rfl (gd_tf (by omega)) rfl ?_; refine lw_off rfl rfl rfl (gd_tf (by omega)) rfl ?_; refine lw_pure (pur_pick_no rfl rfl (by omega)) rfl ?_; refine cT (cw_cond_f rfl (cw_skip (qw_then (cw_region (cM rfl rfl (cM rfl rfl ?_)))))); refine cC (by kernel_rfl) rfl (decl_p _ _ _ (by assumption)) rfl ?_; rintro _ wd7 ⟨⟨⟩, ⟨hd5, fd6⟩⟩; have zd8 := fd6.size; clear hd1; replace hown := hown.fr fd6 (by omega); replace X := X.fr fd6 (by omega); clear fd6; (refine lw_does (does_slice' [_, _, _] tabOk zOk rfl rfl rfl rfl rfl rfl rfl rfl rfl) rfl ?_ (fun _ h => h); rintro _ wd10 ⟨bd9, rfl, nd11, td12⟩); clear td12; have hd13 := nd11.blk; have xd14 := nd11.ext; have pd15 := nd11.pos; have zd16 := nd11.size; clear nd11; replace hd5 := hd5.ext xd14; replace hown := hown.ext xd14; replace X := X.ext xd14; clear xd14; refine lw_appendL (sh := vdShape) tabOk zOk rfl rfl rfl rfl (by kernel_rfl) rfl rfl rfl hown (Blk.row (by assumption)) rfl (by omega) (by omega) rfl ?_; rintro gd17 cap'd18 wd19 hd20 fd21; have zd22 := fd21.size
    clear hd13; replace hd5 := hd5.fr fd21 (by omega); clear hown; replace X := X.fr fd21 (by omega); clear fd21; refine cA rfl rfl (lw_nil (qw_block_norm ?_)); rotate_left 1
   refine qw_round (j, acc ++ [(declP c.ts c.n (nextP σ')).1], _, _, (declP c.ts c.n (nextP σ')).2) (by (refine sub_cons rfl ?_; refine sub_cons rfl ?_; exact sub_nil)) ⟨by assumption, by assumption, X, by omega, rfl, by simp only; omega, by simp only [List.length_append, List.length_cons, List.length_nil]; omega⟩ (by simp)
def PdR (c : PC) (w : World) (r : PD × PS) : Ending → World → Prop := fun e w' => ∃ pa pc ba bc, e = .returned (.agg (r.1.cells pa pc ba bc).toArray) ∧ VDs (fun b => w.heap.size ≤ b ∧ b < w'.heap.size) w' r.1.params pa ∧ r.1.body.sits (fun b => w.heap.size ≤ b ∧ b < w'.heap.size) w' ba ∧ PP c r.2 w' ∧ Fr (· = c.pb) w w'
theorem PdR.ret {c : PC} {w : World} {r : PD × PS} {e : Ending} {w' : World} (h : PdR c w r e w') : ∃ v, e = .returned v := by
 obtain ⟨_, _, _, _, h, -⟩ := h
 exact ⟨_, h⟩
set_option maxRecDepth 100000 in
set_option maxHeartbeats 2000000 in
theorem proc_c (c : PC) (k : Nat) (σ : PS) (w : World) (hP : PP c σ w) (hk : 4 * mS c.ts σ + 8 ≤ k) :
 Calls Tryd.prog 33 #[.pointer (some ⟨c.pb, 0, none⟩)] w (PdR c w (procP c.ts c.n k σ)) := by
 have X := Fr.refl (· = c.pb) w; have hpb := hP.pbB; have hB := hP.B; have hlen := hP.len; have l1 := expect_le (n := c.n) (t := [112, 114, 111, 99]) hP.at_ (by decide); have l2 := l1.trans (name_le (n := c.n) l1.wf); have l3 := l2.trans (expect_le (n := c.n) (t := [40]) l2.wf (by decide)); have l4 := l3.trans (procQ_le (n := c.n) (k := k) l3.wf); have m3 := mS_le l3; have m4 := mS_le l4; rw [procP_at]
 generalize hM : nameP c.ts c.n (expectP c.ts c.n σ [112, 114, 111, 99]) = M at *
 have hname : ∀ {w' : World}, PP c (expectP c.ts c.n σ [112, 114, 111, 99]) w' → Calls Tryd.prog 47 #[.pointer (some ⟨c.pb, 0, none⟩)] w' fun r w'' => r = .returned (str M.1) ∧ PP c M.2 w'' ∧ Fr (· = c.pb) w' w'' := fun h => hM ▸ name_c c _ _ h
 clear l1 l2 l3 l4 hM
 cases hh : hasP c.ts (expectP c.ts c.n M.2 [40]) [41]
 case true =>
  rw [show procQ c.ts c.n k (expectP c.ts c.n M.2 [40]) = ([], nextP (expectP c.ts c.n M.2 [40])) from by simp [procQ, hh]] at m4 ⊢; simp only at m4 ⊢; refine calls_in Tryd.func33 Tryd.ntmps33 rfl rfl ?_
  focus
   refine cS ?_; (refine lw_alloc' [_, _, _, _, _, _] zOk rfl rfl ?_; intro b1 w2 n3); have h5 := n3.blk; have x6 := n3.ext; have p7 := n3.pos; have z8 := n3.size; clear n3; replace hP := hP.ext x6; replace X := X.ext x6; clear x6; refine cN (cM rfl rfl ?_); refine cC (by kernel_rfl) rfl (expect_c _ _ _ _ (by assumption) (by decide)) rfl ?_; rintro _ w11 ⟨⟨⟩, ⟨h9, f10⟩⟩; have z12 := f10.size; replace h5 := h5.fr f10 (by omega); clear hP; replace X := X.fr f10 (by omega); clear f10; refine cN (cM rfl rfl ?_); refine cC (by kernel_rfl) rfl (hname (by assumption)) rfl ?_; rintro _ w15 ⟨⟨⟩, ⟨h13, f14⟩⟩; have z16 := f14.size; clear h9; replace h5 := h5.fr f14 (by omega); replace X := X.fr f14 (by omega); clear f14; refine lw_pure (pur_build' [_, _, _, _, _, _] tabOk zOk rfl rfl rfl rfl) rfl ?_; (refine lw_alloc' [_, _, _, _, _, _] zOk rfl rfl ?_; intro b17 w18 n19); (refine lw_init' [_, _, _, _, _, _] tabOk rfl rfl rfl rfl rfl rfl n19 rfl ?_; clear n19; clear w18; intro w20 n19); have h21 := n19.blk; have x22 := n19.ext; have p23 := n19.pos; have z24 := n19.size; clear n19; replace h13 := h13.ext x22; replace h5 := h5.ext x22; replace X := X.ext x22; clear x22; refine cN (cM rfl rfl ?_); refine cC (by kernel_rfl) rfl (expect_c _ _ _ _ (by assumption) (by decide)) rfl ?_; rintro _ w27 ⟨⟨⟩, ⟨h25, f26⟩⟩; have z28 := f26.size; replace h21 := h21.fr f26 (by omega); clear h13; replace h5 := h5.fr f26 (by omega); replace X := X.fr f26 (by omega); clear f26; refine cT (cw_seq (cS (cM rfl rfl ?_)))
   refine cC (by kernel_rfl) rfl (accept_t _ _ _ _ (by assumption) (by decide) (by assumption)) rfl ?_; rintro _ w31 ⟨⟨⟩, ⟨h29, f30⟩⟩; have z32 := f30.size; clear h25; replace h21 := h21.fr f30 (by omega); replace h5 := h5.fr f30 (by omega); replace X := X.fr f30 (by omega); clear f30; refine lw_pure (pur_not rfl) rfl (cT (cw_cond_f rfl (cw_skip (qw_then (cS (cM rfl rfl ?_)))))); refine cR (by kernel_rfl) rfl (body_c c k _ _ (by assumption) (by omega)) (fun _ _ h => h.ret) rfl ?_; rintro _ w38 ⟨a33, ⟨k34, ⟨⟨⟩, ⟨h35, ⟨h36, f37⟩⟩⟩⟩⟩; have z39 := f37.size; clear h29; replace h21 := h21.fr f37 (by omega); replace h5 := h5.fr f37 (by omega); replace X := X.fr f37 (by omega); clear f37; refine lw_pure (pur_fieldAddr tabOk rfl rfl rfl) rfl ?_; (refine lw_store' [_, _, _, _] [_, _, _, _, _, _] tabOk rfl rfl rfl rfl rfl rfl h21 rfl rfl ?_; intro w40 n41); have h44 := n41.blk; have f42 := n41.fr; have z43 := n41.size; clear n41 h21; replace h35 := Nd.sits.fr h35 f42 (by omega); replace h36 := h36.fr f42 (by omega); replace h5 := h5.fr f42 (by omega); replace X := X.fr f42 (by omega); clear f42; refine cN (lw_loads_b' [_, _, _, _, _, _] tabOk rfl rfl rfl h44 rfl rfl rfl ?_); (refine lw_store' [_, _, _, _, _, _] [_, _, _, _, _, _] tabOk rfl rfl rfl rfl rfl rfl h5 rfl rfl ?_; intro w45 n46); have h49 := n46.blk; have f47 := n46.fr; have z48 := n46.size; clear n46 h5; replace h44 := h44.fr f47 (by omega); replace h35 := Nd.sits.fr h35 f47 (by omega); replace h36 := h36.fr f47 (by omega); replace X := X.fr f47 (by omega)
   clear f47; refine cT (cw_ret (qw_retc rfl tabOk rfl rfl rfl h49 rfl ?_)); rotate_left 1
  exact ⟨_, _, _, _, rfl, Or.inl rfl, Nd.sits.wide (by assumption) (fun b h => by omega), by assumption, X⟩
 rw [show procQ c.ts c.n k (expectP c.ts c.n M.2 [40]) = ((paramsP c.ts c.n k [(declP c.ts c.n (expectP c.ts c.n M.2 [40])).1] (declP c.ts c.n (expectP c.ts c.n M.2 [40])).2).1, expectP c.ts c.n (paramsP c.ts c.n k [(declP c.ts c.n (expectP c.ts c.n M.2 [40])).1] (declP c.ts c.n (expectP c.ts c.n M.2 [40])).2).2 [41]) from by simp [procQ, hh]] at m4 ⊢; simp only at m4 ⊢; refine calls_in Tryd.func33 Tryd.ntmps33 rfl rfl ?_
 focus
  refine cS ?_; (refine lw_alloc' [_, _, _, _, _, _] zOk rfl rfl ?_; intro ba1 wa2 na3); have ha5 := na3.blk; have xa6 := na3.ext; have pa7 := na3.pos; have za8 := na3.size; clear na3; replace hP := hP.ext xa6; replace X := X.ext xa6; clear xa6; refine cN (cM rfl rfl ?_); refine cC (by kernel_rfl) rfl (expect_c _ _ _ _ (by assumption) (by decide)) rfl ?_; rintro _ wa11 ⟨⟨⟩, ⟨ha9, fa10⟩⟩; have za12 := fa10.size; replace ha5 := ha5.fr fa10 (by omega); clear hP; replace X := X.fr fa10 (by omega); clear fa10; refine cN (cM rfl rfl ?_); refine cC (by kernel_rfl) rfl (hname (by assumption)) rfl ?_; rintro _ wa15 ⟨⟨⟩, ⟨ha13, fa14⟩⟩; have za16 := fa14.size; clear ha9; replace ha5 := ha5.fr fa14 (by omega); replace X := X.fr fa14 (by omega); clear fa14; refine lw_pure (pur_build' [_, _, _, _, _, _] tabOk zOk rfl rfl rfl rfl) rfl ?_; (refine lw_alloc' [_, _, _, _, _, _] zOk rfl rfl ?_; intro ba17 wa18 na19); (refine lw_init' [_, _, _, _, _, _] tabOk rfl rfl rfl rfl rfl rfl na19 rfl ?_; clear na19; clear wa18; intro wa20 na19); have ha21 := na19.blk; have xa22 := na19.ext; have pa23 := na19.pos; have za24 := na19.size; clear na19; replace ha13 := ha13.ext xa22; replace ha5 := ha5.ext xa22; replace X := X.ext xa22; clear xa22; refine cN (cM rfl rfl ?_); refine cC (by kernel_rfl) rfl (expect_c _ _ _ _ (by assumption) (by decide)) rfl ?_; rintro _ wa27 ⟨⟨⟩, ⟨ha25, fa26⟩⟩; have za28 := fa26.size; replace ha21 := ha21.fr fa26 (by omega); clear ha13; replace ha5 := ha5.fr fa26 (by omega); replace X := X.fr fa26 (by omega)
  clear fa26; refine cT (cw_seq (cS (cM rfl rfl ?_))); refine cC (by kernel_rfl) rfl (accept_f _ _ _ _ (by assumption) (by decide) (by assumption)) rfl ?_; rintro _ wa31 ⟨⟨⟩, ⟨ha29, fa30⟩⟩; have za32 := fa30.size; clear ha25; replace ha21 := ha21.fr fa30 (by omega); replace ha5 := ha5.fr fa30 (by omega); replace X := X.fr fa30 (by omega); clear fa30; refine lw_pure (pur_not rfl) rfl (cT (cw_cond_t rfl (cS (cM rfl rfl ?_)))); refine cR (by kernel_rfl) rfl (params_c c k _ _ (by assumption) (by omega)) (fun _ _ h => h.ret) rfl ?_; rintro _ wa38 ⟨aa33, ⟨ka34, ⟨⟨⟩, ⟨ha35, ⟨ha36, fa37⟩⟩⟩⟩⟩; have za39 := fa37.size; clear ha29; replace ha21 := ha21.fr fa37 (by omega); replace ha5 := ha5.fr fa37 (by omega); replace X := X.fr fa37 (by omega); clear fa37; refine lw_pure (pur_fieldAddr tabOk rfl rfl rfl) rfl ?_; (refine lw_store' [_] [_, _, _, _, _, _] tabOk rfl rfl rfl rfl rfl rfl ha21 rfl rfl ?_; intro wa40 na41); have ha44 := na41.blk; have fa42 := na41.fr; have za43 := na41.size; clear na41 ha21; replace ha35 := ha35.fr fa42 (by omega); replace ha36 := ha36.fr fa42 (by omega); replace ha5 := ha5.fr fa42 (by omega); replace X := X.fr fa42 (by omega); clear fa42; refine cT (cw_region (cM rfl rfl ?_)); refine cC (by kernel_rfl) rfl (expect_c _ _ _ _ (by assumption) (by decide)) rfl ?_; rintro _ wa47 ⟨⟨⟩, ⟨ha45, fa46⟩⟩; have za48 := fa46.size; replace ha44 := ha44.fr fa46 (by omega); replace ha35 := ha35.fr fa46 (by omega); clear ha36; replace ha5 := ha5.fr fa46 (by omega); replace X := X.fr fa46 (by omega)
  clear fa46; refine cN (cM rfl rfl ?_); refine cR (by kernel_rfl) rfl (body_c c k _ _ (by assumption) (by omega)) (fun _ _ h => h.ret) rfl ?_; rintro _ wa54 ⟨aa49, ⟨ka50, ⟨⟨⟩, ⟨ha51, ⟨ha52, fa53⟩⟩⟩⟩⟩; have za55 := fa53.size; clear ha45; replace ha44 := ha44.fr fa53 (by omega); replace ha35 := ha35.fr fa53 (by omega); replace ha5 := ha5.fr fa53 (by omega); replace X := X.fr fa53 (by omega); clear fa53; refine lw_pure (pur_fieldAddr tabOk rfl rfl rfl) rfl ?_; (refine lw_store' [_, _, _, _] [_, _, _, _, _, _] tabOk rfl rfl rfl rfl rfl rfl ha44 rfl rfl ?_; intro wa56 na57); have ha60 := na57.blk; have fa58 := na57.fr; have za59 := na57.size; clear na57 ha44; replace ha51 := Nd.sits.fr ha51 fa58 (by omega); replace ha52 := ha52.fr fa58 (by omega); replace ha35 := ha35.fr fa58 (by omega); replace ha5 := ha5.fr fa58 (by omega); replace X := X.fr fa58 (by omega); clear fa58; refine cN (lw_loads_b' [_, _, _, _, _, _] tabOk rfl rfl rfl ha60 rfl rfl rfl ?_); (refine lw_store' [_, _, _, _, _, _] [_, _, _, _, _, _] tabOk rfl rfl rfl rfl rfl rfl ha5 rfl rfl ?_; intro wa61 na62); have ha65 := na62.blk; have fa63 := na62.fr; have za64 := na62.size; clear na62 ha5; replace ha60 := ha60.fr fa63 (by omega); replace ha51 := Nd.sits.fr ha51 fa63 (by omega); replace ha52 := ha52.fr fa63 (by omega); replace ha35 := ha35.fr fa63 (by omega); replace X := X.fr fa63 (by omega); clear fa63; refine cT (cw_ret (qw_retc rfl tabOk rfl rfl rfl ha65 rfl ?_)); rotate_left 1
 exact ⟨_, _, _, _, rfl, VDs.wide (by assumption) (fun b h => by omega), Nd.sits.wide (by assumption) (fun b h => by omega), by assumption, X⟩
end Bk
namespace Bk
open Go Go.RowKit Go.Proofs
attribute [local irreducible] Go.Calls
def PgR (c : PC) (w : World) (r : PG × PS) : Ending → World → Prop := fun e w' => ∃ va vc pa pc ma mc, e = .returned (.agg (r.1.cells va vc pa pc ma mc).toArray) ∧ r.1.sits (w.heap.size ≤ ·) w' va pa ma ∧ PP c r.2 w' ∧ Fr (· = c.pb) w w'
theorem PgR.ret {c : PC} {w : World} {r : PG × PS} {e : Ending} {w' : World} (h : PgR c w r e w') : ∃ v, e = .returned v := by
 obtain ⟨_, _, _, _, _, _, h, -⟩ := h
 exact ⟨_, h⟩
theorem PDs.wide {S S' : Nat → Prop} {w : World} {l : List PD} {a : Option Addr} (h : PDs S w l a) (hs : ∀ b, S b → S' b) : PDs S' w l a :=
 h.mono hs (fun _ _ _ _ _ ⟨pa, pc, ba, bc, h1, h2, h3⟩ => ⟨pa, pc, ba, bc, h1, h2.wide hs, h3.wide hs⟩)
set_option maxRecDepth 100000 in
set_option maxHeartbeats 4000000 in
theorem program_c (c : PC) (k : Nat) (σ : PS) (w : World) (hP : PP c σ w) (hk : 4 * mS c.ts σ + 9 ≤ k) :
 Calls Tryd.prog 23 #[.pointer (some ⟨c.pb, 0, none⟩)] w (PgR c w (programP c.ts c.n k σ)) := by
 have X := Fr.refl (· = c.pb) w; have hpb := hP.pbB; have hB := hP.B; have hlen := hP.len; have hat := hP.at_
 have hmt : mS c.ts σ ≤ c.ts.length := by unfold mS; split <;> omega
 unfold programP
 (try dsimp only); refine calls_in Tryd.func23 Tryd.ntmps23 rfl rfl ?_
 focus
  refine cS ?_; (refine lw_alloc' [_, _, _, _, _, _] zOk rfl rfl ?_; intro b1 w2 n3); have h5 := n3.blk; have x6 := n3.ext; have p7 := n3.pos; have z8 := n3.size; clear n3; replace hP := hP.ext x6; replace X := X.ext x6; clear x6; refine cN ?_; (refine lw_alloc' [_, _, _, _, _, _] zOk rfl rfl ?_; intro b9 w10 n11); have h13 := n11.blk; have x14 := n11.ext; have p15 := n11.pos; have z16 := n11.size; clear n11; replace h5 := h5.ext x14; replace hP := hP.ext x14; replace X := X.ext x14; clear x14; refine cT (cw_seq (cw_block ?_)); rotate_left 1
 refine cw_loop (ι := Nat × List VD × Option Addr × Nat × PS) (fun _ => [(0, .pointer (some ⟨c.pb, 0, none⟩)), (2, .pointer (some ⟨b1, 0, none⟩)), (3, .pointer (some ⟨b9, 0, none⟩))])
  (fun x w' => PP c x.2.2.2.2 w' ∧ Blk w' b9 [.slice x.2.2.1 x.2.1.length x.2.2.2.1, .slice none 0 0, .int .u8 0, .int .i64 0, .string ⟨#[]⟩, .slice none 0 0] ∧ OwnL vdShape w' (b9 + 1) 77 (.slice x.2.2.1 x.2.1.length x.2.2.2.1) x.2.1 ∧
   Blk w' b1 [.slice none 0 0, .slice none 0 0, .int .u8 0, .int .i64 0, .string ⟨#[]⟩, .slice none 0 0] ∧ Fr (· = c.pb) w w' ∧ w10.heap.size ≤ w'.heap.size ∧ Le c.ts σ x.2.2.2.2 ∧
   varsP c.ts c.n k [] σ = varsP c.ts c.n x.1 x.2.1 x.2.2.2.2 ∧ (x.2.2.2.2.err = 0 → mS c.ts x.2.2.2.2 + 1 ≤ x.1) ∧ 1 ≤ x.1 ∧ (x.2.2.2.2.err = 0 → x.2.1.length + mS c.ts x.2.2.2.2 ≤ 1000001)) (fun x => x.1) (k, [], none, 0, σ) (by (refine sub_cons rfl ?_; refine sub_cons rfl ?_; refine sub_cons rfl ?_; exact sub_nil))
  ⟨hP, h13, OwnL.nil, h5, X, Nat.le_refl _, Le.refl hat, rfl, fun _ => by simp only; omega, by simp only; omega, fun _ => by simp only [List.length_nil]; omega⟩ ?_
 rintro ⟨j, acc, a, cap, σ'⟩ w1 ⟨hP, hbn, hown, hbr, X, hz, hle, he, hfj, hj1, hacc⟩; simp only at hP hbn hown hle he hfj hj1 hacc; clear h13 h5; rw [he]; obtain ⟨j, rfl⟩ : ∃ i, j = i + 1 := ⟨j - 1, by omega⟩
 cases hc : atDeclP c.ts σ'
 case true =>
  have hin : In c.ts σ' := by
   simp only [atDeclP, Bool.or_eq_true] at hc
   rcases hc with (h | h) | h <;> exact has_in hP.at_ h (by decide)
  have h0 := hin.1; have hf0 := hfj h0; have ha0 := hacc h0; have hm1 := mS_pos hin
  by_cases h8 : acc.length = 32
  · rw [show varsP c.ts c.n (j + 1) acc σ' = varsP c.ts c.n j (acc ++ [(declP c.ts c.n (failP σ' (peekP c.ts σ').pos 5)).1]) (declP c.ts c.n (failP σ' (peekP c.ts σ').pos 5)).2 from by rw [varsP]; simp [hc, h8]]
    have hfl := fail_le (show σ'.at_ ≤ c.ts.length from hP.at_) (peekP c.ts σ').pos 5; have hdl := hfl.trans (decl_le (n := c.n) hfl.wf); have hdt : Lt σ' (declP c.ts c.n (failP σ' (peekP c.ts σ').pos 5)).2 := Lt.of_le hfl (decl_lt hfl.wf); have hdr := mS_drop hdl hdt; have hle2 := hle.trans hdl
    focus
     refine cw_seq (cS (cM rfl rfl ?_)); refine cC (by kernel_rfl) rfl (atDecl_c _ _ _ (by assumption)) rfl ?_; rintro _ wa2 ⟨⟨⟩, xa1⟩; have za3 := xa1.size; replace hP := hP.ext xa1; replace hbn := hbn.ext xa1; replace hown := hown.ext xa1; replace hbr := hbr.ext xa1; replace X := X.ext xa1; clear xa1; refine cT ?_; refine cw_bt rfl (by assumption) ?_; refine cw_skip (qw_then (cw_block (cw_seq (cS (lw_pure (pur_fieldAddr0 tabOk rfl rfl rfl) rfl (lw_load_b tabOk rfl rfl rfl hbn rfl rfl (lw_pure (pur_len_slice tabOk rfl rfl) rfl (lw_pure (pur_eql rfl rfl) rfl (cT ?_))))))))); refine cw_yes rfl (by omega) ?_; refine cw_region (cM rfl rfl (cM rfl rfl ?_)); refine cC (by kernel_rfl) rfl (peek_c _ _ _ (by assumption)) rfl ?_; rintro _ wa5 ⟨⟨⟩, xa4⟩; have za6 := xa4.size; replace hP := hP.ext xa4; replace hbn := hbn.ext xa4; replace hown := hown.ext xa4; replace hbr := hbr.ext xa4; replace X := X.ext xa4; clear xa4; refine lw_pure (pur_field tabOk rfl rfl rfl rfl rfl rfl) rfl ?_; refine cC (by kernel_rfl) rfl (fail_c _ _ _ _ _ (by assumption)) rfl ?_; rintro _ wa9 ⟨⟨⟩, ⟨ha7, fa8⟩⟩; have za10 := fa8.size; clear hP; replace hbn := hbn.fr fa8 (by omega); replace hown := hown.fr fa8 (by omega); replace hbr := hbr.fr fa8 (by omega); replace X := X.fr fa8 (by omega); clear fa8; refine cT ?_; (refine cw_tdraw (fun wz => Fr (· = c.pb) wa9 wz) 5 (.pure 0 (.pure 1 (.pure 2 (.fork 3 (.fork 4 .tail .none) .none)))) mixed (by kernel_rfl) (panicOk_block (panicOk_then (panicOk_block (panicOk_then panicOk_body)))) ?_; intro wa11 xa12 _)
     have qsa13 : (fun wz => Fr (· = c.pb) wa9 wz) wa11 := Fr.of_ext xa12; simp only at qsa13; have d_ha7 := ha7; have d_hbn := hbn; have d_hown := hown; have d_hbr := hbr; have za14 := xa12.size; replace ha7 := ha7.ext xa12; replace hbn := hbn.ext xa12; replace hown := hown.ext xa12; replace hbr := hbr.ext xa12; replace X := X.ext xa12; clear xa12; refine ⟨qsa13, ?_⟩; refine tw_pure rfl (pur_fieldAddr0 tabOk rfl rfl rfl) rfl ?_; refine tw_pure rfl (pur_load tabOk rfl rfl rfl (fun wz hz => Blk.cell (Blk.fr d_hbn hz (by omega)) rfl)) rfl ?_; refine tw_pure rfl (pur_move rfl) rfl ?_; refine tw_does rfl (does_call (by kernel_rfl) rfl (decl_p _ _ _ (by assumption)) (fun _ _ h => ⟨_, h.1⟩)) rfl ?_ (fun _ h => h) tw_none; rintro _ wa17 ⟨⟨⟩, ⟨ha15, fa16⟩⟩; have za18 := fa16.size; replace qsa13 := qsa13.fr fa16 (by omega); clear ha7; replace hbn := hbn.fr fa16 (by omega); replace hown := hown.fr fa16 (by omega); replace hbr := hbr.fr fa16 (by omega); replace X := X.fr fa16 (by omega); clear fa16; refine ⟨qsa13, ?_⟩; (refine tw_does rfl (does_slice' [_, _, _] tabOk zOk rfl rfl rfl rfl rfl rfl rfl rfl rfl) rfl ?_ (fun _ h => h) tw_none; rintro _ wa20 ⟨ba19, rfl, na21, ta22⟩); clear ta22; have ha23 := na21.blk; have xa24 := na21.ext; have pa25 := na21.pos; have za26 := na21.size; clear na21; replace ha15 := ha15.ext xa24; replace qsa13 := qsa13.ext xa24; replace hbn := hbn.ext xa24; replace hown := hown.ext xa24; replace hbr := hbr.ext xa24; replace X := X.ext xa24; clear xa24; refine ⟨qsa13, ?_⟩
     clear d_ha7 d_hbn d_hown d_hbr qsa13; refine tw_tail rfl ?_; refine lw_appendL (sh := vdShape) tabOk zOk rfl rfl rfl rfl (by kernel_rfl) rfl rfl rfl hown (Blk.row (by assumption)) rfl (by omega) (by omega) rfl ?_; rintro ga27 cap'a28 wa29 ha30 fa31; have za32 := fa31.size; clear ha23; replace ha15 := ha15.fr fa31 (by omega); replace hbn := hbn.fr fa31 (by omega); clear hown; replace hbr := hbr.fr fa31 (by omega); replace X := X.fr fa31 (by omega); clear fa31; refine lw_pure (pur_fieldAddr0 tabOk rfl rfl rfl) rfl ?_; (refine lw_store' [_] [_, _, _, _, _, _] tabOk rfl rfl rfl rfl rfl rfl hbn rfl rfl ?_; intro wa33 na34); have ha37 := na34.blk; have fa35 := na34.fr; have za36 := na34.size; clear na34 hbn; replace ha30 := ha30.fr fa35 (by omega); replace ha15 := ha15.fr fa35 (by omega); replace hbr := hbr.fr fa35 (by omega); replace X := X.fr fa35 (by omega); clear fa35; refine lw_nil (qw_block_norm ?_); rotate_left 1
    refine qw_round (j, acc ++ [(declP c.ts c.n (failP σ' (peekP c.ts σ').pos 5)).1], some ⟨_, 0, none⟩, _, (declP c.ts c.n (failP σ' (peekP c.ts σ').pos 5)).2) (by (refine sub_cons rfl ?_; refine sub_cons rfl ?_; refine sub_cons rfl ?_; exact sub_nil)) ⟨by assumption, by assumption, by assumption, by assumption, X, by omega, hle2, rfl, fun e => by have := hdr e; simp only; omega, by simp only; omega, fun e => by have := hdr e; simp only [List.length_append, List.length_cons, List.length_nil]; omega⟩ (by simp)
  · rw [show varsP c.ts c.n (j + 1) acc σ' = varsP c.ts c.n j (acc ++ [(declP c.ts c.n σ').1]) (declP c.ts c.n σ').2 from by rw [varsP]; simp [hc, h8]]
    have hdl := decl_le (n := c.n) hP.at_; have hdr := mS_drop hdl (decl_lt hP.at_); have hle2 := hle.trans hdl
    focus
     refine cw_seq (cS (cM rfl rfl ?_)); refine cC (by kernel_rfl) rfl (atDecl_c _ _ _ (by assumption)) rfl ?_; rintro _ wb2 ⟨⟨⟩, xb1⟩; have zb3 := xb1.size; replace hP := hP.ext xb1; replace hbn := hbn.ext xb1; replace hown := hown.ext xb1; replace hbr := hbr.ext xb1; replace X := X.ext xb1; clear xb1; refine cT ?_; refine cw_bt rfl (by assumption) ?_; refine cw_skip (qw_then (cw_block (cw_seq (cS (lw_pure (pur_fieldAddr0 tabOk rfl rfl rfl) rfl (lw_load_b tabOk rfl rfl rfl hbn rfl rfl (lw_pure (pur_len_slice tabOk rfl rfl) rfl (lw_pure (pur_eql rfl rfl) rfl (cT ?_))))))))); refine cw_no rfl (by omega) ?_; refine cw_skip (qw_then ?_); (refine cw_tdraw (fun wz => Fr (· = c.pb) wb2 wz) 5 (.pure 0 (.pure 1 (.pure 2 (.fork 3 (.fork 4 .tail .none) .none)))) mixed (by kernel_rfl) (panicOk_block (panicOk_then (panicOk_block (panicOk_then panicOk_body)))) ?_; intro wb4 xb5 _); have qsb6 : (fun wz => Fr (· = c.pb) wb2 wz) wb4 := Fr.of_ext xb5; simp only at qsb6; have d_hP := hP; have d_hbn := hbn; have d_hown := hown; have d_hbr := hbr; have zb7 := xb5.size; replace hP := hP.ext xb5; replace hbn := hbn.ext xb5; replace hown := hown.ext xb5; replace hbr := hbr.ext xb5; replace X := X.ext xb5; clear xb5; refine ⟨qsb6, ?_⟩; refine tw_pure rfl (pur_fieldAddr0 tabOk rfl rfl rfl) rfl ?_; refine tw_pure rfl (pur_load tabOk rfl rfl rfl (fun wz hz => Blk.cell (Blk.fr d_hbn hz (by omega)) rfl)) rfl ?_; refine tw_pure rfl (pur_move rfl) rfl ?_; refine tw_does rfl (does_call (by kernel_rfl) rfl (decl_p _ _ _ (by assumption)) (fun _ _ h => ⟨_, h.1⟩)) rfl ?_ (fun _ h => h) tw_none
     rintro _ wb10 ⟨⟨⟩, ⟨hb8, fb9⟩⟩; have zb11 := fb9.size; replace qsb6 := qsb6.fr fb9 (by omega); clear hP; replace hbn := hbn.fr fb9 (by omega); replace hown := hown.fr fb9 (by omega); replace hbr := hbr.fr fb9 (by omega); replace X := X.fr fb9 (by omega); clear fb9; refine ⟨qsb6, ?_⟩; (refine tw_does rfl (does_slice' [_, _, _] tabOk zOk rfl rfl rfl rfl rfl rfl rfl rfl rfl) rfl ?_ (fun _ h => h) tw_none; rintro _ wb13 ⟨bb12, rfl, nb14, tb15⟩); clear tb15; have hb16 := nb14.blk; have xb17 := nb14.ext; have pb18 := nb14.pos; have zb19 := nb14.size; clear nb14; replace hb8 := hb8.ext xb17; replace qsb6 := qsb6.ext xb17; replace hbn := hbn.ext xb17; replace hown := hown.ext xb17; replace hbr := hbr.ext xb17; replace X := X.ext xb17; clear xb17; refine ⟨qsb6, ?_⟩; clear d_hP d_hbn d_hown d_hbr qsb6; refine tw_tail rfl ?_; refine lw_appendL (sh := vdShape) tabOk zOk rfl rfl rfl rfl (by kernel_rfl) rfl rfl rfl hown (Blk.row (by assumption)) rfl (by omega) (by omega) rfl ?_; rintro gb20 cap'b21 wb22 hb23 fb24; have zb25 := fb24.size; clear hb16; replace hb8 := hb8.fr fb24 (by omega); replace hbn := hbn.fr fb24 (by omega); clear hown; replace hbr := hbr.fr fb24 (by omega); replace X := X.fr fb24 (by omega); clear fb24; refine lw_pure (pur_fieldAddr0 tabOk rfl rfl rfl) rfl ?_; (refine lw_store' [_] [_, _, _, _, _, _] tabOk rfl rfl rfl rfl rfl rfl hbn rfl rfl ?_; intro wb26 nb27); have hb30 := nb27.blk; have fb28 := nb27.fr; have zb29 := nb27.size; clear nb27 hbn; replace hb23 := hb23.fr fb28 (by omega)
     replace hb8 := hb8.fr fb28 (by omega); replace hbr := hbr.fr fb28 (by omega); replace X := X.fr fb28 (by omega); clear fb28; refine lw_nil (qw_block_norm ?_); rotate_left 1
    refine qw_round (j, acc ++ [(declP c.ts c.n σ').1], some ⟨_, 0, none⟩, _, (declP c.ts c.n σ').2) (by (refine sub_cons rfl ?_; refine sub_cons rfl ?_; refine sub_cons rfl ?_; exact sub_nil)) ⟨by assumption, by assumption, by assumption, by assumption, X, by omega, hle2, rfl, fun e => by have := hdr e; simp only; omega, by simp only; omega, fun e => by have := hdr e; simp only [List.length_append, List.length_cons, List.length_nil]; omega⟩ (by simp)
 rw [show varsP c.ts c.n (j + 1) acc σ' = (acc, σ') from by rw [varsP]; simp [hc]]; simp only; have hm' := mS_le hle; have hat' := hP.at_
 focus
  refine cw_seq (cS (cM rfl rfl ?_)); refine cC (by kernel_rfl) rfl (atDecl_c _ _ _ (by assumption)) rfl ?_; rintro _ wc2 ⟨⟨⟩, xc1⟩; have zc3 := xc1.size; replace hP := hP.ext xc1; replace hbn := hbn.ext xc1; replace hown := hown.ext xc1; replace hbr := hbr.ext xc1; replace X := X.ext xc1; clear xc1; refine cT ?_; refine cw_bf rfl (by assumption) ?_; refine cw_exit (qw_then_exit (qw_then_exit (qw_block_exit (qw_then (cw_seq (cw_block ?_)))))); rotate_left 1
 have hvs : VDs (fun b => b9 < b ∧ b < wc2.heap.size) wc2 acc a := (OwnL.vds (S := (b9 < ·)) hown (fun b h => h)).lt2; clear hown; refine cw_loop (ι := Nat × List PD × Option Addr × Nat × PS) (fun _ => [(0, .pointer (some ⟨c.pb, 0, none⟩)), (2, .pointer (some ⟨b1, 0, none⟩)), (3, .pointer (some ⟨b9, 0, none⟩))])
  (fun x w' => PP c x.2.2.2.2 w' ∧ Blk w' b9 [.slice a acc.length cap, .slice x.2.2.1 x.2.1.length x.2.2.2.1, .int .u8 0, .int .i64 0, .string ⟨#[]⟩, .slice none 0 0] ∧ OwnL pdShape w' wc2.heap.size 59 (.slice x.2.2.1 x.2.1.length x.2.2.2.1) x.2.1 ∧ VDs (fun b => b9 < b ∧ b < wc2.heap.size) w' acc a ∧
   Blk w' b1 [.slice none 0 0, .slice none 0 0, .int .u8 0, .int .i64 0, .string ⟨#[]⟩, .slice none 0 0] ∧ Fr (· = c.pb) w w' ∧ wc2.heap.size ≤ w'.heap.size ∧ Le c.ts σ' x.2.2.2.2 ∧
   procsP c.ts c.n k [] σ' = procsP c.ts c.n x.1 x.2.1 x.2.2.2.2 ∧ (x.2.2.2.2.err = 0 → 4 * mS c.ts x.2.2.2.2 + 9 ≤ x.1) ∧ 1 ≤ x.1 ∧ x.1 ≤ k ∧ (x.2.2.2.2.err = 0 → x.2.1.length + mS c.ts x.2.2.2.2 ≤ 1000001)) (fun x => x.1) (k, [], none, 0, σ') (by (refine sub_cons rfl ?_; refine sub_cons rfl ?_; refine sub_cons rfl ?_; exact sub_nil))
  ⟨hP, hbn, OwnL.nil, hvs, hbr, X, Nat.le_refl _, Le.refl hat', rfl, fun _ => by simp only; omega, by simp only; omega, Nat.le_refl _, fun _ => by simp only [List.length_nil]; omega⟩ ?_
 rintro ⟨i, pacc, pa, pcap, ρ'⟩ w5 ⟨hP, hbn, hown2, hvs, hbr, X, hz5, hle5, he5, hfi, hi1, hik, hpacc⟩; simp only at hP hbn hown2 hle5 he5 hfi hi1 hik hpacc; rw [he5]; clear he hfj hacc he5; obtain ⟨i, rfl⟩ : ∃ m, i = m + 1 := ⟨i - 1, by omega⟩
 have hob : ∀ g, (Value.slice pa pacc.length pcap).ownBlock = some g → g < w5.heap.size := fun g h => hown2.lt h
 by_cases hp : (peekP c.ts ρ').text = [112, 114, 111, 99]
 · have hc2 : hasP c.ts ρ' [112, 114, 111, 99] = true := by simp [hasP, hp]
   have hin := has_in hP.at_ hc2 (by decide); have h0 := hin.1; have hf0 := hfi h0; have ha0 := hpacc h0; have hm1 := mS_pos hin
   by_cases h8 : pacc.length = 64
   · rw [show procsP c.ts c.n (i + 1) pacc ρ' = procsP c.ts c.n i (pacc ++ [(procP c.ts c.n i (failP ρ' (peekP c.ts ρ').pos 5)).1]) (procP c.ts c.n i (failP ρ' (peekP c.ts ρ').pos 5)).2 from by rw [procsP]; simp [hc2, h8]]
     have hfl := fail_le (show ρ'.at_ ≤ c.ts.length from hP.at_) (peekP c.ts ρ').pos 5; have hfm := mS_le hfl; have hdl := hfl.trans (procP_le (n := c.n) (k := i) hfl.wf); have hdr := mS_drop hdl (Lt.of_le hfl (procP_lt (n := c.n) (k := i) hfl.wf)); have hle2 := hle5.trans hdl
     focus
      refine cw_seq (cS (cM rfl rfl ?_)); refine cC (by kernel_rfl) rfl (peek_c _ _ _ (by assumption)) rfl ?_; rintro _ wd2 ⟨⟨⟩, xd1⟩; have zd3 := xd1.size; replace hP := hP.ext xd1; replace hbn := hbn.ext xd1; replace hown2 := hown2.ext xd1; replace hvs := hvs.ext xd1; replace hbr := hbr.ext xd1; replace X := X.ext xd1; clear xd1; refine lw_pure (pur_field tabOk rfl rfl rfl rfl rfl rfl) rfl (lw_pure (pur_seql rfl rfl) rfl (cT ?_)); refine cw_yes rfl (by assumption) ?_; refine cw_skip (qw_then (cw_block (cw_seq (cS (lw_pure (pur_fieldAddr tabOk rfl rfl rfl) rfl (lw_load_b tabOk rfl rfl rfl hbn rfl rfl (lw_pure (pur_len_slice tabOk rfl rfl) rfl (lw_pure (pur_eql rfl rfl) rfl (cT ?_))))))))); refine cw_yes rfl (by omega) ?_; refine cw_region (cM rfl rfl (cM rfl rfl ?_)); refine cC (by kernel_rfl) rfl (peek_c _ _ _ (by assumption)) rfl ?_; rintro _ wd5 ⟨⟨⟩, xd4⟩; have zd6 := xd4.size; replace hP := hP.ext xd4; replace hbn := hbn.ext xd4; replace hown2 := hown2.ext xd4; replace hvs := hvs.ext xd4; replace hbr := hbr.ext xd4; replace X := X.ext xd4; clear xd4; refine lw_pure (pur_field tabOk rfl rfl rfl rfl rfl rfl) rfl ?_; refine cC (by kernel_rfl) rfl (fail_c _ _ _ _ _ (by assumption)) rfl ?_; rintro _ wd9 ⟨⟨⟩, ⟨hd7, fd8⟩⟩; have zd10 := fd8.size; clear hP; replace hbn := hbn.fr fd8 (by omega); replace hown2 := hown2.fr fd8 (by omega); replace hvs := hvs.fr fd8 (by omega); replace hbr := hbr.fr fd8 (by omega); replace X := X.fr fd8 (by omega); clear fd8; refine cT ?_; (refine cw_tdraw (fun wz => Fr (· = c.pb) wd9 wz) 5 (.pure 0 (.pure 1 (.pure 2 (.fork 3 (.fork 4 .tail .none) .none)))) mixed (by kernel_rfl) (panicOk_block (panicOk_then (panicOk_block (panicOk_then panicOk_body)))) ?_; intro wd11 xd12 _)
      have qsd13 : (fun wz => Fr (· = c.pb) wd9 wz) wd11 := Fr.of_ext xd12; simp only at qsd13; have d_hd7 := hd7; have d_hbn := hbn; have d_hown2 := hown2; have d_hvs := hvs; have d_hbr := hbr; have zd14 := xd12.size; replace hd7 := hd7.ext xd12; replace hbn := hbn.ext xd12; replace hown2 := hown2.ext xd12; replace hvs := hvs.ext xd12; replace hbr := hbr.ext xd12; replace X := X.ext xd12; clear xd12; refine ⟨qsd13, ?_⟩; refine tw_pure rfl (pur_fieldAddr tabOk rfl rfl rfl) rfl ?_; refine tw_pure rfl (pur_load tabOk rfl rfl rfl (fun wz hz => Blk.cell (Blk.fr d_hbn hz (by omega)) rfl)) rfl ?_; refine tw_pure rfl (pur_move rfl) rfl ?_; refine tw_does rfl (does_call (by kernel_rfl) rfl (proc_c c i _ _ (by assumption) (by omega)) (fun _ _ h => h.ret)) rfl ?_ (fun _ h => h) tw_none; rintro _ wd23 ⟨pad15, ⟨pcd16, ⟨bad17, ⟨bcd18, ⟨⟨⟩, ⟨hd19, ⟨hd20, ⟨hd21, fd22⟩⟩⟩⟩⟩⟩⟩⟩; have zd24 := fd22.size; replace qsd13 := qsd13.fr fd22 (by omega); clear hd7; replace hbn := hbn.fr fd22 (by omega); replace hown2 := hown2.fr fd22 (by omega); replace hvs := hvs.fr fd22 (by omega); replace hbr := hbr.fr fd22 (by omega); replace X := X.fr fd22 (by omega); clear fd22; refine ⟨qsd13, ?_⟩; (refine tw_does rfl (does_slice' [_, _, _, _, _, _] tabOk zOk rfl rfl rfl rfl rfl rfl rfl rfl rfl) rfl ?_ (fun _ h => h) tw_none; rintro _ wd26 ⟨bd25, rfl, nd27, td28⟩); clear td28; have hd29 := nd27.blk; have xd30 := nd27.ext; have pd31 := nd27.pos; have zd32 := nd27.size; clear nd27; replace hd19 := hd19.ext xd30; replace hd20 := Nd.sits.ext hd20 xd30
      replace hd21 := hd21.ext xd30; replace qsd13 := qsd13.ext xd30; replace hbn := hbn.ext xd30; replace hown2 := hown2.ext xd30; replace hvs := hvs.ext xd30; replace hbr := hbr.ext xd30; replace X := X.ext xd30; clear xd30; refine ⟨qsd13, ?_⟩; clear d_hd7 d_hbn d_hown2 d_hvs d_hbr qsd13; refine tw_tail rfl ?_; refine lw_appendL (sh := pdShape) tabOk zOk rfl rfl rfl rfl (by kernel_rfl) rfl rfl rfl hown2 (Blk.row (by assumption)) ⟨_, _, _, _, rfl, VDs.wide (by assumption) (fun b h => ⟨by omega, fun e => by have := hob _ e; omega⟩), Nd.sits.wide (by assumption) (fun b h => ⟨by omega, fun e => by have := hob _ e; omega⟩)⟩ (by omega) (by omega) rfl ?_; rintro gd33 cap'd34 wd35 hd36 fd37; have zd38 := fd37.size; clear hd29 hd19 hd20; replace hd21 := hd21.fr fd37 (by omega); replace hbn := hbn.fr fd37 (by omega); clear hown2; replace hvs := hvs.fr fd37 (by omega); replace hbr := hbr.fr fd37 (by omega); replace X := X.fr fd37 (by omega); clear fd37; refine lw_pure (pur_fieldAddr tabOk rfl rfl rfl) rfl ?_; (refine lw_store' [_] [_, _, _, _, _, _] tabOk rfl rfl rfl rfl rfl rfl hbn rfl rfl ?_; intro wd39 nd40); have hd43 := nd40.blk; have fd41 := nd40.fr; have zd42 := nd40.size; clear nd40 hbn; replace hd36 := hd36.fr fd41 (by omega); replace hd21 := hd21.fr fd41 (by omega); replace hvs := hvs.fr fd41 (by omega); replace hbr := hbr.fr fd41 (by omega); replace X := X.fr fd41 (by omega); clear fd41; refine lw_nil (qw_block_norm ?_); rotate_left 1
     refine qw_round (i, pacc ++ [(procP c.ts c.n i (failP ρ' (peekP c.ts ρ').pos 5)).1], some ⟨_, 0, none⟩, _, (procP c.ts c.n i (failP ρ' (peekP c.ts ρ').pos 5)).2) (by (refine sub_cons rfl ?_; refine sub_cons rfl ?_; refine sub_cons rfl ?_; exact sub_nil)) ⟨by assumption, by assumption, by assumption, by assumption, by assumption, X, by omega, hle2, rfl, fun e => by have := hdr e; simp only; omega, by simp only; omega, by simp only; omega, fun e => by have := hdr e; simp only [List.length_append, List.length_cons, List.length_nil]; omega⟩ (by simp)
   · rw [show procsP c.ts c.n (i + 1) pacc ρ' = procsP c.ts c.n i (pacc ++ [(procP c.ts c.n i ρ').1]) (procP c.ts c.n i ρ').2 from by rw [procsP]; simp [hc2, h8]]
     have hdl := procP_le (n := c.n) (k := i) hP.at_; have hdr := mS_drop hdl (procP_lt (n := c.n) (k := i) hP.at_); have hle2 := hle5.trans hdl
     focus
      refine cw_seq (cS (cM rfl rfl ?_)); refine cC (by kernel_rfl) rfl (peek_c _ _ _ (by assumption)) rfl ?_; rintro _ we2 ⟨⟨⟩, xe1⟩; have ze3 := xe1.size; replace hP := hP.ext xe1; replace hbn := hbn.ext xe1; replace hown2 := hown2.ext xe1; replace hvs := hvs.ext xe1; replace hbr := hbr.ext xe1; replace X := X.ext xe1; clear xe1; refine lw_pure (pur_field tabOk rfl rfl rfl rfl rfl rfl) rfl (lw_pure (pur_seql rfl rfl) rfl (cT ?_)); refine cw_yes rfl (by assumption) ?_; refine cw_skip (qw_then (cw_block (cw_seq (cS (lw_pure (pur_fieldAddr tabOk rfl rfl rfl) rfl (lw_load_b tabOk rfl rfl rfl hbn rfl rfl (lw_pure (pur_len_slice tabOk rfl rfl) rfl (lw_pure (pur_eql rfl rfl) rfl (cT ?_))))))))); refine cw_no rfl (by omega) ?_; refine cw_skip (qw_then ?_); (refine cw_tdraw (fun wz => Fr (· = c.pb) we2 wz) 5 (.pure 0 (.pure 1 (.pure 2 (.fork 3 (.fork 4 .tail .none) .none)))) mixed (by kernel_rfl) (panicOk_block (panicOk_then (panicOk_block (panicOk_then panicOk_body)))) ?_; intro we4 xe5 _); have qse6 : (fun wz => Fr (· = c.pb) we2 wz) we4 := Fr.of_ext xe5; simp only at qse6; have d_hP := hP; have d_hbn := hbn; have d_hown2 := hown2; have d_hvs := hvs; have d_hbr := hbr; have ze7 := xe5.size; replace hP := hP.ext xe5; replace hbn := hbn.ext xe5; replace hown2 := hown2.ext xe5; replace hvs := hvs.ext xe5; replace hbr := hbr.ext xe5; replace X := X.ext xe5; clear xe5; refine ⟨qse6, ?_⟩; refine tw_pure rfl (pur_fieldAddr tabOk rfl rfl rfl) rfl ?_; refine tw_pure rfl (pur_load tabOk rfl rfl rfl (fun wz hz => Blk.cell (Blk.fr d_hbn hz (by omega)) rfl)) rfl ?_
      refine tw_pure rfl (pur_move rfl) rfl ?_; refine tw_does rfl (does_call (by kernel_rfl) rfl (proc_c c i _ _ (by assumption) (by omega)) (fun _ _ h => h.ret)) rfl ?_ (fun _ h => h) tw_none; rintro _ we16 ⟨pae8, ⟨pce9, ⟨bae10, ⟨bce11, ⟨⟨⟩, ⟨he12, ⟨he13, ⟨he14, fe15⟩⟩⟩⟩⟩⟩⟩⟩; have ze17 := fe15.size; replace qse6 := qse6.fr fe15 (by omega); clear hP; replace hbn := hbn.fr fe15 (by omega); replace hown2 := hown2.fr fe15 (by omega); replace hvs := hvs.fr fe15 (by omega); replace hbr := hbr.fr fe15 (by omega); replace X := X.fr fe15 (by omega); clear fe15; refine ⟨qse6, ?_⟩; (refine tw_does rfl (does_slice' [_, _, _, _, _, _] tabOk zOk rfl rfl rfl rfl rfl rfl rfl rfl rfl) rfl ?_ (fun _ h => h) tw_none; rintro _ we19 ⟨be18, rfl, ne20, te21⟩); clear te21; have he22 := ne20.blk; have xe23 := ne20.ext; have pe24 := ne20.pos; have ze25 := ne20.size; clear ne20; replace he12 := he12.ext xe23; replace he13 := Nd.sits.ext he13 xe23; replace he14 := he14.ext xe23; replace qse6 := qse6.ext xe23; replace hbn := hbn.ext xe23; replace hown2 := hown2.ext xe23; replace hvs := hvs.ext xe23; replace hbr := hbr.ext xe23; replace X := X.ext xe23; clear xe23; refine ⟨qse6, ?_⟩; clear d_hP d_hbn d_hown2 d_hvs d_hbr qse6; refine tw_tail rfl ?_; refine lw_appendL (sh := pdShape) tabOk zOk rfl rfl rfl rfl (by kernel_rfl) rfl rfl rfl hown2 (Blk.row (by assumption)) ⟨_, _, _, _, rfl, VDs.wide (by assumption) (fun b h => ⟨by omega, fun e => by have := hob _ e; omega⟩), Nd.sits.wide (by assumption) (fun b h => ⟨by omega, fun e => by have := hob _ e; omega⟩)⟩ (by omega) (by omega) rfl ?_
      rintro ge26 cap'e27 we28 he29 fe30; have ze31 := fe30.size; clear he22 he12 he13; replace he14 := he14.fr fe30 (by omega); replace hbn := hbn.fr fe30 (by omega); clear hown2; replace hvs := hvs.fr fe30 (by omega); replace hbr := hbr.fr fe30 (by omega); replace X := X.fr fe30 (by omega); clear fe30; refine lw_pure (pur_fieldAddr tabOk rfl rfl rfl) rfl ?_; (refine lw_store' [_] [_, _, _, _, _, _] tabOk rfl rfl rfl rfl rfl rfl hbn rfl rfl ?_; intro we32 ne33); have he36 := ne33.blk; have fe34 := ne33.fr; have ze35 := ne33.size; clear ne33 hbn; replace he29 := he29.fr fe34 (by omega); replace he14 := he14.fr fe34 (by omega); replace hvs := hvs.fr fe34 (by omega); replace hbr := hbr.fr fe34 (by omega); replace X := X.fr fe34 (by omega); clear fe34; refine lw_nil (qw_block_norm ?_); rotate_left 1
     refine qw_round (i, pacc ++ [(procP c.ts c.n i ρ').1], some ⟨_, 0, none⟩, _, (procP c.ts c.n i ρ').2) (by (refine sub_cons rfl ?_; refine sub_cons rfl ?_; refine sub_cons rfl ?_; exact sub_nil)) ⟨by assumption, by assumption, by assumption, by assumption, by assumption, X, by omega, hle2, rfl, fun e => by have := hdr e; simp only; omega, by simp only; omega, by simp only; omega, fun e => by have := hdr e; simp only [List.length_append, List.length_cons, List.length_nil]; omega⟩ (by simp)
 · have hc2 : hasP c.ts ρ' [112, 114, 111, 99] = false := by simp [hasP, hp]
   rw [show procsP c.ts c.n (i + 1) pacc ρ' = (pacc, ρ') from by rw [procsP]; simp [hc2]]; simp only; have hle6 := expect_le (n := c.n) (t := [109, 97, 105, 110]) hle5.wf (by decide); have hm6 := mS_le hle6; have hm5 := mS_le hle5
   focus
    refine cw_seq (cS (cM rfl rfl ?_)); refine cC (by kernel_rfl) rfl (peek_c _ _ _ (by assumption)) rfl ?_; rintro _ wf2 ⟨⟨⟩, xf1⟩; have zf3 := xf1.size; replace hP := hP.ext xf1; replace hbn := hbn.ext xf1; replace hown2 := hown2.ext xf1; replace hvs := hvs.ext xf1; replace hbr := hbr.ext xf1; replace X := X.ext xf1; clear xf1; refine lw_pure (pur_field tabOk rfl rfl rfl rfl rfl rfl) rfl (lw_pure (pur_seql rfl rfl) rfl (cT ?_)); refine cw_no rfl (by assumption) ?_; refine cw_exit (qw_then_exit (qw_then_exit (qw_block_exit (qw_then (cS (cM rfl rfl ?_)))))); refine cC (by kernel_rfl) rfl (expect_c _ _ _ _ (by assumption) (by decide)) rfl ?_; rintro _ wf6 ⟨⟨⟩, ⟨hf4, ff5⟩⟩; have zf7 := ff5.size; clear hP; replace hbn := hbn.fr ff5 (by omega); replace hown2 := hown2.fr ff5 (by omega); replace hvs := hvs.fr ff5 (by omega); replace hbr := hbr.fr ff5 (by omega); replace X := X.fr ff5 (by omega); clear ff5; refine cN (cM rfl rfl ?_); refine cR (by kernel_rfl) rfl (body_c c k _ _ (by assumption) (by omega)) (fun _ _ h => h.ret) rfl ?_; rintro _ wf13 ⟨af8, ⟨kf9, ⟨⟨⟩, ⟨hf10, ⟨hf11, ff12⟩⟩⟩⟩⟩; have zf14 := ff12.size; clear hf4; replace hbn := hbn.fr ff12 (by omega); replace hown2 := hown2.fr ff12 (by omega); replace hvs := hvs.fr ff12 (by omega); replace hbr := hbr.fr ff12 (by omega); replace X := X.fr ff12 (by omega); clear ff12; refine lw_pure (pur_fieldAddr tabOk rfl rfl rfl) rfl ?_; (refine lw_store' [_, _, _, _] [_, _, _, _, _, _] tabOk rfl rfl rfl rfl rfl rfl hbn rfl rfl ?_; intro wf15 nf16)
    have hf19 := nf16.blk; have ff17 := nf16.fr; have zf18 := nf16.size; clear nf16 hbn; replace hf10 := Nd.sits.fr hf10 ff17 (by omega); replace hf11 := hf11.fr ff17 (by omega); replace hown2 := hown2.fr ff17 (by omega); replace hvs := hvs.fr ff17 (by omega); replace hbr := hbr.fr ff17 (by omega); replace X := X.fr ff17 (by omega); clear ff17; refine cN (lw_loads_b' [_, _, _, _, _, _] tabOk rfl rfl rfl hf19 rfl rfl rfl ?_); (refine lw_store' [_, _, _, _, _, _] [_, _, _, _, _, _] tabOk rfl rfl rfl rfl rfl rfl hbr rfl rfl ?_; intro wf20 nf21); have hf24 := nf21.blk; have ff22 := nf21.fr; have zf23 := nf21.size; clear nf21 hbr; replace hf19 := hf19.fr ff22 (by omega); replace hf10 := Nd.sits.fr hf10 ff22 (by omega); replace hf11 := hf11.fr ff22 (by omega); replace hown2 := hown2.fr ff22 (by omega); replace hvs := hvs.fr ff22 (by omega); replace X := X.fr ff22 (by omega); clear ff22; refine cT (cw_ret (qw_retc rfl tabOk rfl rfl rfl hf24 rfl ?_)); rotate_left 1
   refine ⟨_, _, _, _, _, _, rfl, ⟨VDs.wide (by assumption) (fun b h => by omega), OwnL.pds hown2 (fun b h => by omega), Nd.sits.wide (by assumption) (fun b h => by omega)⟩, by assumption, X⟩
end Bk
namespace Bk
open Go
theorem takeWhile_len {α : Type} (p : α → Bool) (l : List α) : (l.takeWhile p).length ≤ l.length := by
 induction l with
 | nil => simp
 | cons x r ih => simp only [List.takeWhile_cons]; split <;> simp; exact ih
theorem signLen_le (s : List UInt8) : signLen s ≤ s.length := by
 unfold signLen
 split
 · rename_i h
   rw [List.isPrefixOf_iff_prefix] at h
   exact h.length_le
 · split
   · rename_i h
     rcases s with _ | ⟨a, _ | ⟨b, r⟩⟩
     · exact absurd h (by decide)
     · exfalso
       simp [pairs] at h
     · simp
   · split
     · rename_i h
       cases s with
       | nil => simp at h
       | cons a r => simp
     · omega
theorem firstTok_le (s : List UInt8) : (firstTok s).2 ≤ s.length := by
 cases s with
 | nil => simp [firstTok]
 | cons c r =>
  simp only [firstTok, span]
  split
  · exact takeWhile_len _ _
  · split
    · exact takeWhile_len _ _
    · split
      · exact takeWhile_len _ _
      · split
        · exact takeWhile_len _ _
        · exact signLen_le _
theorem take_takeWhile {α : Type} (p : α → Bool) (l : List α) : l.take (l.takeWhile p).length = l.takeWhile p := by
 induction l with
 | nil => simp
 | cons x r ih => simp only [List.takeWhile_cons]; split <;> simp [ih]
theorem mem_takeWhile {α : Type} (p : α → Bool) (l : List α) : ∀ x ∈ l.takeWhile p, p x = true := by
 induction l with
 | nil => simp
 | cons y r ih =>
  simp only [List.takeWhile_cons]
  split
  · rename_i h
    intro x hx
    rcases List.mem_cons.1 hx with rfl | hx
    · exact h
    · exact ih x hx
  · simp
theorem letter_digit (c : UInt8) (h : letter c = true) : digit c = false := by
 simp only [letter, digit, Bool.and_eq_true, decide_eq_true_eq, Bool.and_eq_false_iff, decide_eq_false_iff_not] at h ⊢
 omega
theorem firstTok_num (s : List UInt8) (h : (firstTok s).1 = 2) : s.take (firstTok s).2 ≠ [] ∧ ∀ x ∈ s.take (firstTok s).2, digit x = true := by
 cases s with
 | nil => simp [firstTok] at h
 | cons c r =>
  simp only [firstTok] at h ⊢
  by_cases h1 : letter c = true
  · simp [h1] at h
  · by_cases h2 : digit c = true
    · simp only [h1, h2, if_true, Bool.false_eq_true, if_false, span]
      rw [take_takeWhile]; refine ⟨by simp [List.takeWhile_cons, h2], mem_takeWhile _ _⟩
    · exfalso
      simp only [h1, h2, Bool.false_eq_true, if_false] at h
      by_cases h3 : blank c = true
      · simp [h3] at h
      · by_cases h4 : c = 35
        · subst h4; simp [h3] at h
        · simp [h3, h4] at h
theorem firstTok_kind (s : List UInt8) (hs : s ≠ []) (h0 : (firstTok s).2 ≠ 0) : (firstTok s).1 = 2 ↔ startsDigit (s.take (firstTok s).2) = true := by
 cases s with
 | nil => exact absurd rfl hs
 | cons c r =>
  obtain ⟨m, hm⟩ : ∃ m, (firstTok (c :: r)).2 = m + 1 := ⟨(firstTok (c :: r)).2 - 1, by omega⟩; rw [hm]; simp only [List.take_succ_cons, startsDigit, firstTok]
  by_cases h1 : letter c = true
  · simp [h1, letter_digit c h1]
  · by_cases h2 : digit c = true
    · simp [h1, h2]
    · simp only [h1, h2, Bool.false_eq_true, if_false, iff_false]
      by_cases h3 : blank c = true
      · simp [h3]
      · by_cases h4 : c = 35
        · subst h4; simp [h3]
        · simp [h3, h4]
structure TokOk (n : Nat) (t : Tok) : Prop where
 len : t.text.length ≤ n
 num : t.kind = 2 → t.text ≠ [] ∧ ∀ x ∈ t.text, digit x = true
 dig : t.kind = 2 ↔ startsDigit t.text = true
 pos : 0 ≤ t.pos ∧ t.pos ≤ n
theorem lexGo_ok (s : List UInt8) : ∀ (k p : Nat) (acc : List Tok), (∀ t ∈ acc, TokOk s.length t) → ∀ t ∈ (lexGo k s p acc).1, TokOk s.length t
 | 0, p, acc, h => by rw [lexGo]; exact h
 | k + 1, p, acc, h => by
  rw [lexGo]
  split
  · rename_i hp
    split
    · simp
    · rename_i h0
      refine lexGo_ok s k _ _ ?_; intro t ht
      rcases List.mem_append.1 ht with ht | ht
      · exact h t ht
      · simp only [List.mem_singleton] at ht
        subst ht
        have hne : s.drop p ≠ [] := by
         intro e; have := congrArg List.length e
         simp at this; omega
        refine ⟨?_, ?_, ?_, ?_⟩
        · simp only [List.length_take, List.length_drop]; omega
        · intro hk
          have hk' : (firstTok (s.drop p)).1 = 2 := by simp only at hk; omega
          exact firstTok_num _ hk'
        · have := firstTok_kind (s.drop p) hne h0
          simp only; rw [← this]
          omega
        · simp only; omega
  · exact h
theorem lexT_ok (s : List UInt8) : ∀ t ∈ (lexT s).1, TokOk s.length t := by
 unfold lexT
 split
 · simp
 · have := lexGo_ok s (s.length + 1) 0 [] (by simp)
   split
   · rename_i l h; rw [h] at this; exact this
   · simp
theorem solid_ok (s : List UInt8) : ∀ t ∈ (startP s).1, TokOk s.length t := fun t ht => lexT_ok s t (List.mem_filter.1 ht).1
theorem digitKinds_start (s : List UInt8) : DigitKinds (startP s).1 := fun t ht => (solid_ok s t ht).dig
theorem lexGo_len (s : List UInt8) : ∀ (k p : Nat) (acc : List Tok), acc.length ≤ p → p ≤ s.length → (lexGo k s p acc).1.length ≤ s.length
 | 0, p, acc, h, hp => by rw [lexGo]; simp; omega
 | k + 1, p, acc, h, hp => by
  rw [lexGo]
  split
  · split
    · simp
    · rename_i h0
      have := firstTok_le (s.drop p); rw [List.length_drop] at this
      exact lexGo_len s k _ _ (by simp; omega) (by omega)
  · simp only; omega
theorem lexT_len (s : List UInt8) : (lexT s).1.length ≤ s.length := by
 unfold lexT
 split
 · simp
 · have := lexGo_len s (s.length + 1) 0 [] (by simp) (by omega)
   split
   · rename_i l h; rw [h] at this; exact this
   · simp
theorem start_len (s : List UInt8) : (startP s).1.length ≤ s.length := Nat.le_trans (List.length_filter_le _ _) (lexT_len s)
end Bk
namespace Bk
open Go Go.RowKit Go.Proofs
attribute [local irreducible] Go.Calls
def Toks (S : Nat → Prop) (w : World) (l : List Tok) (a : Option Addr) : Prop := Arr S 3 TokAt w l a
theorem Toks.ext {S : Nat → Prop} {w w' : World} {l : List Tok} {a : Option Addr} (h : Toks S w l a) (x : Ext w w') : Toks S w' l a := h.mono (fun _ h => h) (fun _ _ _ _ _ h => Row.ext h x)
theorem Toks.fr {S T : Nat → Prop} {w w' : World} {l : List Tok} {a : Option Addr} (h : Toks S w l a) (x : Fr T w w') (hs : ∀ b, S b → ¬ T b) : Toks S w' l a := h.mono (fun _ h => h) (fun b _ _ _ hb h => Row.fr h x (hs b hb))
theorem Toks.wide {S S' : Nat → Prop} {w : World} {l : List Tok} {a : Option Addr} (h : Toks S w l a) (hs : ∀ b, S b → S' b) : Toks S' w l a := h.mono hs (fun _ _ _ _ _ h => h)
theorem Toks.lt2 {S : Nat → Prop} {w : World} {l : List Tok} {a : Option Addr} (h : Toks S w l a) : Toks (fun b => S b ∧ b < w.heap.size) w l a := by
 rcases h with h | ⟨b, o, h1, h2, h3⟩
 · exact Or.inl h
 · cases l with
   | nil => exact Or.inl rfl
   | cons v r => exact Or.inr ⟨b, o, h1, ⟨h2, cell_lt (Row.at0 (h3 0 v rfl) rfl)⟩, h3⟩
def tokShape : Shape Tok where
 sz := 3
 rep := fun _ _ v cs => cs = v.cells
 len := fun h => by rw [h]; rfl
 one := fun h => by rw [h]; rfl
 mono := fun h _ _ => h
 lt := fun h => h
theorem OwnL.toks {w : World} {B e : Nat} {a : Option Addr} {len cap : Nat} {xs : List Tok} {S : Nat → Prop} (h : OwnL tokShape w B e (.slice a len cap) xs) (hS : ∀ b, B ≤ b → S b) : Toks S w xs a := by
 by_cases hx : xs = []
 · exact Or.inl hx
 · obtain ⟨g, cap', hv, hg, hall⟩ := h.rows hx
   simp only [Value.slice.injEq] at hv; obtain ⟨rfl, -, -⟩ := hv; refine Or.inr ⟨g, 0, rfl, hS g hg, fun i x hi => ?_⟩; obtain ⟨cs, hr, rfl⟩ := hall i x hi
   simpa [tokShape, TokAt] using hr
theorem first_s (t : List UInt8) (w : World) (ht : t ≠ []) (hl : t.length ≤ 9223372036854775807) : Calls Tryd.prog 26 #[str t] w fun e w' => e = .returned (.tuple #[.int .u8 (firstTok t).1, .int .i64 (firstTok t).2]) ∧ w = w' := by
 cases t with
 | nil => exact absurd rfl ht
 | cons c r => exact first_c c r w hl
def LexR (w : World) (r : List Tok × Int × Int) : Ending → World → Prop := fun e w' => ∃ a k, e = .returned (.tuple #[.slice a r.1.length k, .int .i64 r.2.1, .int .i64 r.2.2]) ∧ Toks (fun b => w.heap.size ≤ b ∧ b < w'.heap.size) w' r.1 a ∧ Ext w w'
theorem LexR.ret {w : World} {r : List Tok × Int × Int} {e : Ending} {w' : World} (h : LexR w r e w') : ∃ v, e = .returned v := by
 obtain ⟨_, _, h, -⟩ := h
 exact ⟨_, h⟩
set_option maxRecDepth 100000 in
set_option maxHeartbeats 2000000 in
theorem Lex_c (s : List UInt8) (w : World) (hs : s.length ≤ 1000000) : Calls Tryd.prog 14 #[str s] w (LexR w (lexT s)) := by
 have X := Ext.refl w
 by_cases h0 : 65536 < s.length
 · rw [show lexT s = ([], 0, 5) from by simp [lexT, h0]]
   refine calls_in Tryd.func14 Tryd.ntmps14 rfl rfl ?_
   focus
    refine cS (cA rfl rfl (cA rfl rfl (cA rfl rfl (cT (cw_seq (cS (cM rfl rfl (lw_pure (pur_len_s tabOk rfl rfl) rfl (lw_pure (pur_gtr rfl rfl) rfl (cT ?_)))))))))); refine cw_yes rfl (by omega) ?_; refine cS (cA rfl rfl (cA rfl rfl (cA rfl rfl (cT (cw_ret (qw_then_ret (qw_ret3 rfl rfl rfl rfl ?_))))))); rotate_left 1
   exact ⟨_, _, rfl, Or.inl rfl, X⟩
 have hun : ∀ r, lexGo (s.length + 1) s 0 [] = r → lexT s = match r with | (l, none) => (l, 0, 0) | (_, some p) => ([], (p : Int), 3) := fun r hr => by
  obtain ⟨l, o⟩ := r
  cases o <;> simp [lexT, h0, hr]
 have HU := Lib.hid hun; clear hun
 refine calls_in Tryd.func14 Tryd.ntmps14 rfl rfl ?_
 focus
  refine cS (cA rfl rfl (cA rfl rfl (cA rfl rfl (cT (cw_seq (cS (cM rfl rfl (lw_pure (pur_len_s tabOk rfl rfl) rfl (lw_pure (pur_gtr rfl rfl) rfl (cT ?_)))))))))); refine cw_no rfl (by omega) ?_; refine cw_skip (qw_then (cS (cA rfl rfl (cT (cw_seq (cS (cA rfl rfl (cT (cw_block ?_))))))))); rotate_left 1
 refine cw_loop (ι := Nat × Nat × List Tok × Option Addr × Nat) (fun x => [(0, str s), (5, .slice x.2.2.2.1 x.2.2.1.length x.2.2.2.2), (6, .int .i64 x.2.1)])
  (fun x w' => OwnL tokShape w' w.heap.size 28 (.slice x.2.2.2.1 x.2.2.1.length x.2.2.2.2) x.2.2.1 ∧ Ext w w' ∧ x.2.1 ≤ s.length ∧ x.2.2.1.length ≤ x.2.1 ∧ s.length + 1 ≤ x.1 + x.2.1 ∧
   lexGo (s.length + 1) s 0 [] = lexGo x.1 s x.2.1 x.2.2.1) (fun x => x.1) (s.length + 1, 0, [], none, 0) (by (refine sub_cons rfl ?_; refine sub_cons rfl ?_; refine sub_cons rfl ?_; exact sub_nil)) ⟨OwnL.nil, X, Nat.zero_le _, Nat.le_refl _, Nat.le_refl _, rfl⟩ ?_
 rintro ⟨j, p, acc, a, cap⟩ w1 ⟨hown, X, hp, hacc, hj, he⟩; simp only at hown hp hacc hj he; refine CW.sub (m := [(0, str s), (5, .slice a acc.length cap), (6, .int .i64 p)]) ?_ (by (refine sub_cons rfl ?_; refine sub_cons rfl ?_; refine sub_cons rfl ?_; exact sub_nil)); obtain ⟨j, rfl⟩ : ∃ i, j = i + 1 := ⟨j - 1, by omega⟩
 by_cases hlt : p < s.length
 · have hne : s.drop p ≠ [] := by
    intro e; have := congrArg List.length e
    simp at this; omega
   have hdl : (s.drop p).length = s.length - p := List.length_drop; have hfl := firstTok_le (s.drop p); rw [hdl] at hfl
   by_cases hz : (firstTok (s.drop p)).2 = 0
   · rw [HU.out ([], some p) (by rw [he, lexGo]; simp [hlt, hz])]
     focus
      refine cw_seq (cS (cM rfl rfl (cM rfl rfl (lw_pure (pur_len_s tabOk rfl rfl) rfl (lw_pure (pur_lss rfl rfl) rfl (cT ?_)))))); refine cw_yes rfl (by omega) ?_; refine cw_skip (qw_then (cw_block (cS (cM rfl rfl (cM rfl rfl ?_))))); refine lw_pure (pur_sfromN tabOk rfl rfl rfl (by omega)) rfl ?_; refine cC (by kernel_rfl) rfl (first_s _ _ hne (by omega)) rfl ?_; rintro _ wb1 ⟨⟨⟩, rfl⟩; refine cM rfl rfl (lw_pure (pur_extract rfl rfl) rfl (lw_pure (pur_extract rfl rfl) rfl (cA rfl rfl (cA rfl rfl (cT (cw_seq (cS (cM rfl rfl (lw_pure (pur_eql rfl rfl) rfl (cT ?_)))))))))); refine cw_yes rfl (by omega) ?_; refine cS (cM rfl rfl (cA rfl rfl (cA rfl rfl (cA rfl rfl (cT (cw_ret (qw_then_ret (qw_block_ret (qw_then_ret (qw_block_ret (qw_then_ret ?_))))))))))); refine qw_ret3 rfl rfl rfl rfl ?_; rotate_left 1
     exact ⟨_, _, rfl, Or.inl rfl, X⟩
   · have he2 : lexGo (s.length + 1) s 0 [] = lexGo j s (p + (firstTok (s.drop p)).2) (acc ++ [⟨((firstTok (s.drop p)).1 : Nat), (s.drop p).take (firstTok (s.drop p)).2, (p : Int)⟩]) := by rw [he, lexGo]; simp [hlt, hz]
     focus
      refine cw_seq (cS (cM rfl rfl (cM rfl rfl (lw_pure (pur_len_s tabOk rfl rfl) rfl (lw_pure (pur_lss rfl rfl) rfl (cT ?_)))))); refine cw_yes rfl (by omega) ?_; refine cw_skip (qw_then (cw_block (cS (cM rfl rfl (cM rfl rfl ?_))))); refine lw_pure (pur_sfromN tabOk rfl rfl rfl (by omega)) rfl ?_; refine cC (by kernel_rfl) rfl (first_s _ _ hne (by omega)) rfl ?_; rintro _ wc1 ⟨⟨⟩, rfl⟩; refine cM rfl rfl (lw_pure (pur_extract rfl rfl) rfl (lw_pure (pur_extract rfl rfl) rfl (cA rfl rfl (cA rfl rfl (cT (cw_seq (cS (cM rfl rfl (lw_pure (pur_eql rfl rfl) rfl (cT ?_)))))))))); refine cw_no rfl (by omega) ?_; refine cw_skip (qw_then (cS (cM rfl rfl (cM rfl rfl (cM rfl rfl (cM rfl rfl (cM rfl rfl (cM rfl rfl ?_)))))))); refine lw_pure (pur_add rfl rfl (IntWalk.i64_in _ (by omega))) rfl ?_; refine lw_pure (pur_spartN tabOk rfl rfl rfl rfl (by omega)) rfl ?_; refine cM rfl rfl (lw_pure (pur_build' [_, _, _] tabOk zOk rfl rfl rfl rfl) rfl ?_); (refine lw_does (does_slice' [_, _, _] tabOk zOk rfl rfl rfl rfl rfl rfl rfl rfl rfl) rfl ?_ (fun _ h => h); rintro _ wc3 ⟨bc2, rfl, nc4, tc5⟩); clear tc5; have hc6 := nc4.blk; have xc7 := nc4.ext; have pc8 := nc4.pos; have zc9 := nc4.size; clear nc4; replace hown := hown.ext xc7; replace X := X.ext xc7; clear xc7; refine lw_appendL (sh := tokShape) (z := ⟨((firstTok (s.drop p)).1 : Nat), (s.drop p).take (firstTok (s.drop p)).2, (p : Int)⟩) tabOk zOk rfl rfl rfl rfl (by kernel_rfl) rfl rfl rfl hown (Blk.row (by assumption)) rfl (by omega) (by have := Ext.size X; omega) rfl ?_
      rintro gc10 cap'c11 wc12 hc13 fc14; have zc15 := fc14.size; clear hc6 hown; replace X := X.fr fc14 (by omega); clear fc14; refine cA rfl rfl (cT (cw_region (cM rfl rfl (cM rfl rfl ?_)))); refine lw_pure (pur_add rfl rfl (IntWalk.i64_in _ (by omega))) rfl ?_; refine cA rfl rfl (lw_nil (qw_block_norm ?_)); rotate_left 1
     refine qw_round (j, p + (firstTok (s.drop p)).2, acc ++ [⟨((firstTok (s.drop p)).1 : Nat), (s.drop p).take (firstTok (s.drop p)).2, (p : Int)⟩], some ⟨_, 0, none⟩, _) (by (refine sub_cons rfl ?_; refine sub_cons rfl ?_; refine sub_cons rfl ?_; exact sub_nil)) ⟨by assumption, X, by simp only; omega, by simp only [List.length_append, List.length_cons, List.length_nil]; omega, by simp only; omega, he2⟩ (by simp)
 · rw [HU.out (acc, none) (by rw [he, lexGo]; simp [hlt])]
   focus
    refine cw_seq (cS (cM rfl rfl (cM rfl rfl (lw_pure (pur_len_s tabOk rfl rfl) rfl (lw_pure (pur_lss rfl rfl) rfl (cT ?_)))))); refine cw_no rfl (by omega) ?_; refine cw_exit (qw_then_exit (qw_then_exit (qw_block_exit (qw_then (cS (cM rfl rfl (cA rfl rfl (cA rfl rfl (cA rfl rfl (cT (cw_ret ?_))))))))))); refine qw_ret3 rfl rfl rfl rfl ?_; rotate_left 1
   exact ⟨_, _, rfl, Toks.lt2 (S := (w.heap.size ≤ ·)) (OwnL.toks hown (fun b h => h)), X⟩
theorem solid_snoc (l : List Tok) (t : Tok) : solidT (l ++ [t]) = solidT l ++ (if t.kind ≠ 4 ∧ t.kind ≠ 5 then [t] else []) := by
 unfold solidT
 rw [List.filter_append]
 congr 1
 by_cases h4 : t.kind = 4 <;> by_cases h5 : t.kind = 5 <;> simp [h4, h5]
def SolidR (w : World) (r : List Tok) : Ending → World → Prop := fun e w' => ∃ a k, e = .returned (.slice a r.length k) ∧ Toks (fun b => w.heap.size ≤ b ∧ b < w'.heap.size) w' r a ∧ Ext w w'
theorem SolidR.ret {w : World} {r : List Tok} {e : Ending} {w' : World} (h : SolidR w r e w') : ∃ v, e = .returned v := by
 obtain ⟨_, _, h, -⟩ := h
 exact ⟨_, h⟩
set_option maxRecDepth 100000 in
set_option maxHeartbeats 2000000 in
theorem Solid_c (ts : List Tok) (S : Nat → Prop) (b0 : Option Addr) (k0 : Nat) (w : World) (hl : ts.length ≤ 1000000) (hT : Toks S w ts b0) (hS : ∀ b, S b → b < w.heap.size) : Calls Tryd.prog 21 #[.slice b0 ts.length k0] w (SolidR w (solidT ts)) := by
 have X := Ext.refl w; refine calls_in Tryd.func21 Tryd.ntmps21 rfl rfl ?_
 focus
  refine cS (cA rfl rfl (cN (cA rfl rfl (cT (cw_seq (cS (cM rfl rfl (lw_pure (pur_len_slice tabOk rfl rfl) rfl (cM rfl rfl (cT (cw_block ?_))))))))))); rotate_left 1
 refine cw_loop (ι := Nat × Option Addr × Nat) (fun x => [(3, .slice x.2.1 (solidT (ts.take x.1)).length x.2.2), (6, .slice b0 ts.length k0), (7, .int .i64 ts.length), (8, .int .i64 x.1)])
  (fun x w' => OwnL tokShape w' w.heap.size 28 (.slice x.2.1 (solidT (ts.take x.1)).length x.2.2) (solidT (ts.take x.1)) ∧ Ext w w' ∧ x.1 ≤ ts.length ∧ Toks S w' ts b0) (fun x => ts.length - x.1) (0, none, 0) (by (refine sub_cons rfl ?_; refine sub_cons rfl ?_; refine sub_cons rfl ?_; refine sub_cons rfl ?_; exact sub_nil)) ⟨OwnL.nil, X, Nat.zero_le _, hT⟩ ?_
 rintro ⟨j, a, cap⟩ w1 ⟨hown, X, hj, hT⟩; simp only at hown hj hT; have hsz := X.size; refine CW.sub (m := [(3, .slice a (solidT (ts.take j)).length cap), (6, .slice b0 ts.length k0), (7, .int .i64 ts.length), (8, .int .i64 j)]) ?_ (by (refine sub_cons rfl ?_; refine sub_cons rfl ?_; refine sub_cons rfl ?_; refine sub_cons rfl ?_; exact sub_nil))
 by_cases hlt : j < ts.length
 · have htk : ts.take (j + 1) = ts.take j ++ [ts[j]] := by rw [List.take_add_one, List.getElem?_eq_getElem hlt]; rfl
   have hsn : solidT (ts.take (j + 1)) = solidT (ts.take j) ++ (if ts[j].kind ≠ 4 ∧ ts[j].kind ≠ 5 then [ts[j]] else []) := by rw [htk, solid_snoc]
   have hbd : (solidT (ts.take j)).length ≤ 1000000 := Nat.le_trans (List.length_filter_le _ _) (by rw [List.length_take]; omega); obtain ⟨tb, to, rfl, hkS, hrow⟩ := hT.get (by omega); have hr : Row w1 ⟨tb, to + j * 3, none⟩ ts[j].cells := hrow j _ (List.getElem?_eq_getElem hlt); have htb := hS tb hkS; clear hrow htk
   generalize ts[j] = t at *
   by_cases h4 : t.kind = 4
   · rw [show (if t.kind ≠ 4 ∧ t.kind ≠ 5 then [t] else []) = [] from by simp [h4], List.append_nil] at hsn
     focus
      refine cS (lw_pure (pur_lss rfl rfl) rfl (cT (cw_seq ?_))); refine cw_yes rfl (by omega) ?_; refine cw_skip (qw_then (cw_seq (cw_block (cS ?_)))); refine lw_pure (pur_indexAddr tabOk rfl rfl rfl rfl (by omega) (by omega)) rfl ?_; refine lw_loads_r0 tabOk rfl rfl rfl hr rfl rfl ?_; (refine lw_alloc' [_, _, _] zOk rfl rfl ?_; intro ba1 wa2 na3); (refine lw_init' [_, _, _] tabOk rfl rfl rfl rfl rfl rfl na3 rfl ?_; clear na3; clear wa2; intro wa4 na3); have ha5 := na3.blk; have xa6 := na3.ext; have pa7 := na3.pos; have za8 := na3.size; clear na3; replace hown := hown.ext xa6; replace X := X.ext xa6; replace hT := hT.ext xa6; replace hr := hr.ext xa6; clear xa6; refine cN (lw_pure (pur_fieldAddr0 tabOk rfl rfl rfl) rfl (lw_load_b tabOk rfl rfl rfl ha5 rfl rfl (lw_pure (pur_neq rfl rfl) rfl (cM rfl rfl ?_)))); refine lw_off rfl rfl rfl (gd_tf (by omega)) rfl ?_; refine lw_off rfl rfl rfl (gd_tf (by omega)) rfl ?_; refine lw_off rfl rfl rfl (gd_tf (by omega)) rfl ?_; refine lw_pure (pur_pick_no rfl rfl (by omega)) rfl ?_; refine cT (cw_cond_f rfl (cw_skip (qw_block_norm (qw_then (cw_region ?_))))); refine lw_pure (pur_add rfl rfl (IntWalk.i64_in _ (by omega))) rfl ?_; refine cM rfl rfl (lw_nil ?_); rotate_left 1
     refine qw_round (j + 1, a, cap) ?_ ⟨by rw [hsn]; exact hown, X, by simp only; omega, hT⟩ (by simp only; omega); refine sub_cons' rfl (by rw [hsn]) (sub_cons rfl (sub_cons rfl (sub_cons rfl sub_nil)))
   by_cases h5 : t.kind = 5
   · rw [show (if t.kind ≠ 4 ∧ t.kind ≠ 5 then [t] else []) = [] from by simp [h5], List.append_nil] at hsn
     focus
      refine cS (lw_pure (pur_lss rfl rfl) rfl (cT (cw_seq ?_))); refine cw_yes rfl (by omega) ?_; refine cw_skip (qw_then (cw_seq (cw_block (cS ?_)))); refine lw_pure (pur_indexAddr tabOk rfl rfl rfl rfl (by omega) (by omega)) rfl ?_; refine lw_loads_r0 tabOk rfl rfl rfl hr rfl rfl ?_; (refine lw_alloc' [_, _, _] zOk rfl rfl ?_; intro bb1 wb2 nb3); (refine lw_init' [_, _, _] tabOk rfl rfl rfl rfl rfl rfl nb3 rfl ?_; clear nb3; clear wb2; intro wb4 nb3); have hb5 := nb3.blk; have xb6 := nb3.ext; have pb7 := nb3.pos; have zb8 := nb3.size; clear nb3; replace hown := hown.ext xb6; replace X := X.ext xb6; replace hT := hT.ext xb6; replace hr := hr.ext xb6; clear xb6; refine cN (lw_pure (pur_fieldAddr0 tabOk rfl rfl rfl) rfl (lw_load_b tabOk rfl rfl rfl hb5 rfl rfl (lw_pure (pur_neq rfl rfl) rfl (cM rfl rfl ?_)))); refine lw_on rfl rfl rfl (gd_tt (by assumption)) ?_; refine lw_pure (pur_fieldAddr0 tabOk rfl rfl rfl) rfl ?_; refine lw_on rfl rfl rfl (gd_tt (by assumption)) ?_; refine lw_load_b tabOk rfl rfl rfl hb5 rfl rfl ?_; refine lw_on rfl rfl rfl (gd_tt (by assumption)) ?_; refine lw_pure (pur_neq rfl rfl) rfl ?_; refine lw_pure (pur_pick_yes rfl rfl (by assumption)) rfl ?_; refine cT ?_; refine cw_no rfl (by omega) ?_; refine cw_skip (qw_block_norm (qw_then (cw_region ?_))); refine lw_pure (pur_add rfl rfl (IntWalk.i64_in _ (by omega))) rfl ?_; refine cM rfl rfl (lw_nil ?_); rotate_left 1
     refine qw_round (j + 1, a, cap) ?_ ⟨by rw [hsn]; exact hown, X, by simp only; omega, hT⟩ (by simp only; omega); refine sub_cons' rfl (by rw [hsn]) (sub_cons rfl (sub_cons rfl (sub_cons rfl sub_nil)))
   · rw [show (if t.kind ≠ 4 ∧ t.kind ≠ 5 then [t] else []) = [t] from by simp [h4, h5]] at hsn
     focus
      refine cS (lw_pure (pur_lss rfl rfl) rfl (cT (cw_seq ?_))); refine cw_yes rfl (by omega) ?_; refine cw_skip (qw_then (cw_seq (cw_block (cS ?_)))); refine lw_pure (pur_indexAddr tabOk rfl rfl rfl rfl (by omega) (by omega)) rfl ?_; refine lw_loads_r0 tabOk rfl rfl rfl hr rfl rfl ?_; (refine lw_alloc' [_, _, _] zOk rfl rfl ?_; intro bc1 wc2 nc3); (refine lw_init' [_, _, _] tabOk rfl rfl rfl rfl rfl rfl nc3 rfl ?_; clear nc3; clear wc2; intro wc4 nc3); have hc5 := nc3.blk; have xc6 := nc3.ext; have pc7 := nc3.pos; have zc8 := nc3.size; clear nc3; replace hown := hown.ext xc6; replace X := X.ext xc6; replace hT := hT.ext xc6; replace hr := hr.ext xc6; clear xc6; refine cN (lw_pure (pur_fieldAddr0 tabOk rfl rfl rfl) rfl (lw_load_b tabOk rfl rfl rfl hc5 rfl rfl (lw_pure (pur_neq rfl rfl) rfl (cM rfl rfl ?_)))); refine lw_on rfl rfl rfl (gd_tt (by assumption)) ?_; refine lw_pure (pur_fieldAddr0 tabOk rfl rfl rfl) rfl ?_; refine lw_on rfl rfl rfl (gd_tt (by assumption)) ?_; refine lw_load_b tabOk rfl rfl rfl hc5 rfl rfl ?_; refine lw_on rfl rfl rfl (gd_tt (by assumption)) ?_; refine lw_pure (pur_neq rfl rfl) rfl ?_; refine lw_pure (pur_pick_yes rfl rfl (by assumption)) rfl ?_; refine cT ?_; refine cw_yes rfl (by assumption) ?_; refine cw_region (cM rfl rfl (lw_loads_b' [_, _, _] tabOk rfl rfl rfl hc5 rfl rfl rfl ?_)); (refine lw_does (does_slice' [_, _, _] tabOk zOk rfl rfl rfl rfl rfl rfl rfl rfl rfl) rfl ?_ (fun _ h => h); rintro _ wc10 ⟨bc9, rfl, nc11, tc12⟩); clear tc12; have hc13 := nc11.blk
      have xc14 := nc11.ext; have pc15 := nc11.pos; have zc16 := nc11.size; clear nc11; replace hc5 := hc5.ext xc14; replace hown := hown.ext xc14; replace X := X.ext xc14; replace hT := hT.ext xc14; replace hr := hr.ext xc14; clear xc14; refine lw_appendL (sh := tokShape) (z := t) tabOk zOk rfl rfl rfl rfl (by kernel_rfl) rfl rfl rfl hown (Blk.row (by assumption)) rfl (by omega) (by omega) rfl ?_; rintro gc17 cap'c18 wc19 hc20 fc21; have zc22 := fc21.size; clear hc13 hc5 hown; replace X := X.fr fc21 (by omega); replace hT := Toks.fr hT fc21 (fun k hk e => by have := hS k hk; omega); replace hr := Row.fr hr fc21 (by simp only; omega); clear fc21; refine cA rfl rfl (lw_nil (qw_block_norm (qw_then (cw_region ?_)))); refine lw_pure (pur_add rfl rfl (IntWalk.i64_in _ (by omega))) rfl ?_; refine cM rfl rfl (lw_nil ?_); rotate_left 1
     refine qw_round (j + 1, some ⟨_, 0, none⟩, _) ?_ ⟨by rw [hsn]; assumption, X, by simp only; omega, hT⟩ (by simp only; omega); refine sub_cons' rfl (by rw [hsn]) (sub_cons rfl (sub_cons rfl (sub_cons rfl sub_nil)))
 · have : j = ts.length := by omega
   subst this; rw [List.take_length] at hown
   focus
    refine cS (lw_pure (pur_lss rfl rfl) rfl (cT (cw_seq ?_))); refine cw_no rfl (by omega) ?_; refine cw_exit (qw_then_exit (qw_then_exit (qw_block_exit (qw_then (cS (cM rfl rfl (cA rfl rfl (cT (cw_ret (qw_ret1 rfl rfl ?_)))))))))); rotate_left 1
   rw [List.take_length]
   exact ⟨_, _, rfl, Toks.lt2 (S := (w.heap.size ≤ ·)) (OwnL.toks hown (fun b h => h)), X⟩
end Bk
