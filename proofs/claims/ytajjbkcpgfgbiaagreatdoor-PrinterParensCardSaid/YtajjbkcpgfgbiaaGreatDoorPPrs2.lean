/- Texts that the proofs of PrinterParens need. No condition. (Part 2 of 5.) -/
import Derived.Test.YtajjbkcpgfgbiaaGreatDoorPPrs1
set_option linter.unusedSimpArgs false
set_option linter.unusedVariables false
namespace Bk
open Go
section
variable {ts : List Tok} {n : Int}
structure Le (ts : List Tok) (σ σ' : PS) : Prop where
 le : σ.at_ ≤ σ'.at_
 wf : σ'.at_ ≤ ts.length
 err : σ.err ≠ 0 → σ' = σ
def Lt (σ σ' : PS) : Prop := σ'.err = 0 → σ.at_ < σ'.at_
theorem Le.refl {σ : PS} (h : σ.at_ ≤ ts.length) : Le ts σ σ := ⟨Nat.le_refl _, h, fun _ => rfl⟩
theorem Le.trans {a b c : PS} (h : Le ts a b) (k : Le ts b c) : Le ts a c := ⟨Nat.le_trans h.le k.le, k.wf, fun e => by rw [k.err (by rw [h.err e]; exact e), h.err e]⟩
theorem Le.ok {a b : PS} (h : Le ts a b) (e : b.err = 0) : a.err = 0 := by
 rcases Int.lt_trichotomy a.err 0 with h' | h' | h'
 · have := h.err (by omega); rw [this] at e; exact e
 · exact h'
 · have := h.err (by omega); rw [this] at e; exact e
theorem Lt.of_lt {a b c : PS} (h : Lt a b) (k : Le ts b c) : Lt a c := fun e => Nat.lt_of_lt_of_le (h (k.ok e)) k.le
theorem Lt.of_le {a b c : PS} (h : Le ts a b) (k : Lt b c) : Lt a c := fun e => Nat.lt_of_le_of_lt h.le (k e)
theorem peek_err {σ : PS} (h : σ.err ≠ 0) : peekP ts σ = Tok.zero := by unfold peekP; rw [if_pos (Or.inl h)]
theorem peek_end {σ : PS} (h : σ.at_ = ts.length) : peekP ts σ = Tok.zero := by unfold peekP; rw [if_pos (Or.inr h)]
theorem peek_in {σ : PS} (hw : σ.at_ ≤ ts.length) (h : (peekP ts σ).text ≠ [] ∨ (peekP ts σ).kind ≠ 0) : σ.err = 0 ∧ σ.at_ < ts.length := by
 by_cases h1 : σ.err = 0
 · by_cases h2 : σ.at_ = ts.length
   · rw [peek_end h2] at h; simp [Tok.zero] at h
   · exact ⟨h1, by omega⟩
 · rw [peek_err h1] at h; simp [Tok.zero] at h
theorem has_in {σ : PS} {t : List UInt8} (hw : σ.at_ ≤ ts.length) (h : hasP ts σ t = true) (ht : t ≠ []) : σ.err = 0 ∧ σ.at_ < ts.length := by
 unfold hasP at h
 have := of_decide_eq_true h
 exact peek_in hw (Or.inl (by rw [this]; exact ht))
theorem next_le {σ : PS} (h : σ.err = 0 ∧ σ.at_ < ts.length) : Le ts σ (nextP σ) := ⟨Nat.le_succ _, h.2, fun e => absurd h.1 e⟩
theorem next_lt {σ : PS} : Lt σ (nextP σ) := fun _ => Nat.lt_succ_self _
theorem fail_le {σ : PS} (h : σ.at_ ≤ ts.length) (off e : Int) : Le ts σ (failP σ off e) := by
 unfold failP
 split
 · rename_i h0; exact ⟨Nat.le_refl _, h, fun e => absurd h0 e⟩
 · exact Le.refl h
theorem fail_err {σ : PS} {off e : Int} (he : e ≠ 0) : (failP σ off e).err ≠ 0 := by
 unfold failP
 split
 · exact he
 · assumption
theorem unexp_le {σ : PS} (h : σ.at_ ≤ ts.length) : Le ts σ (unexpP ts n σ) := by
 unfold unexpP; split <;> exact fail_le h _ _
theorem unexp_err {σ : PS} : (unexpP ts n σ).err ≠ 0 := by
 unfold unexpP; split <;> exact fail_err (by decide)
theorem unexp_lt {σ : PS} : Lt σ (unexpP ts n σ) := fun e => absurd e unexp_err
theorem expect_le {σ : PS} {t : List UInt8} (h : σ.at_ ≤ ts.length) (ht : t ≠ []) : Le ts σ (expectP ts n σ t) := by
 unfold expectP
 split
 · rename_i hh; exact next_le (has_in h hh ht)
 · exact unexp_le h
theorem expect_lt {σ : PS} {t : List UInt8} : Lt σ (expectP ts n σ t) := by
 unfold expectP
 split
 · exact next_lt
 · exact unexp_lt
theorem isName_ne {s : List UInt8} (h : isName s = true) : s ≠ [] := by
 intro e; subst e; simp [isName] at h
theorem name_le {σ : PS} (h : σ.at_ ≤ ts.length) : Le ts σ (nameP ts n σ).2 := by
 unfold nameP
 split
 · rename_i hh; exact next_le (peek_in h (Or.inl (isName_ne hh)))
 · exact unexp_le h
theorem name_lt {σ : PS} : Lt σ (nameP ts n σ).2 := by
 unfold nameP
 split
 · exact next_lt
 · exact unexp_lt
theorem number_le {σ : PS} {a b : Int} (h : σ.at_ ≤ ts.length) : Le ts σ (numberP ts n a b σ).2 := by
 unfold numberP
 split
 · rename_i hh
   have hn := peek_in h (Or.inr (by rw [hh]; decide))
   split
   · exact next_le hn
   · exact (next_le hn).trans (fail_le (next_le hn).wf _ _)
 · exact unexp_le h
theorem number_lt {σ : PS} {a b : Int} : Lt σ (numberP ts n a b σ).2 := by
 unfold numberP
 split
 · split
   · exact next_lt
   · exact fun e => absurd e (fail_err (by decide))
 · exact unexp_lt
theorem binOf_ne {t : List UInt8} {op : Int} (h : binOf t = some op) : t ≠ [] ∧ 8 ≤ op ∧ op ≤ 23 ∧ symbol op = t := by
 unfold binOf at h
 have h1 := List.find?_some h; have h2 := List.mem_of_find?_eq_some h; have h3 := of_decide_eq_true h1; simp only [List.mem_cons, List.not_mem_nil, or_false] at h2; refine ⟨?_, by omega, by omega, h3⟩; rintro rfl
 rcases h2 with rfl | rfl | rfl | rfl | rfl | rfl | rfl | rfl | rfl | rfl | rfl | rfl | rfl | rfl | rfl | rfl <;> exact absurd h3 (by decide)
theorem expr_inv (k : Nat) : (∀ lv σ, σ.at_ ≤ ts.length → Le ts σ (exprP ts n k lv σ).2 ∧ (4 ≤ k → Lt σ (exprP ts n k lv σ).2)) ∧ (∀ lv x σ, σ.at_ ≤ ts.length → Le ts σ (climbP ts n k lv x σ).2) ∧
 (∀ σ, σ.at_ ≤ ts.length → Le ts σ (unaryP ts n k σ).2 ∧ (3 ≤ k → Lt σ (unaryP ts n k σ).2)) ∧ (∀ σ, σ.at_ ≤ ts.length → Le ts σ (primaryP ts n k σ).2 ∧ (2 ≤ k → Lt σ (primaryP ts n k σ).2)) ∧
 (∀ σ, σ.at_ ≤ ts.length → Le ts σ (placeP ts n k σ).2 ∧ (1 ≤ k → Lt σ (placeP ts n k σ).2)) := by
 induction k with
 | zero =>
  refine ⟨fun lv σ h => ⟨?_, fun h => by omega⟩, fun lv x σ h => ?_, fun σ h => ⟨?_, fun h => by omega⟩, fun σ h => ⟨?_, fun h => by omega⟩, fun σ h => ⟨?_, fun h => by omega⟩⟩
  · rw [exprP]; exact Le.refl h
  · rw [climbP]; exact Le.refl h
  · rw [unaryP]; exact Le.refl h
  · rw [primaryP]; exact Le.refl h
  · rw [placeP]; exact Le.refl h
 | succ k ih =>
  obtain ⟨iE, iC, iU, iP, iL⟩ := ih; refine ⟨fun lv σ h => ?_, fun lv x σ h => ?_, fun σ h => ?_, fun σ h => ?_, fun σ h => ?_⟩
  · rw [exprP]
    have hu := iU σ h; have hc := iC lv (unaryP ts n k σ).1 (unaryP ts n k σ).2 hu.1.wf
    exact ⟨hu.1.trans hc, fun hk => (hu.2 (by omega)).of_lt hc⟩
  · rw [climbP]
    split
    · exact Le.refl h
    · rename_i op hop
      obtain ⟨hne, -⟩ := binOf_ne hop; have hn := peek_in h (Or.inl hne)
      split
      · exact Le.refl h
      · have h1 := next_le hn
        have h2 := iE (level op + 1) (nextP σ) h1.wf
        exact (h1.trans h2.1).trans (iC _ _ _ h2.1.wf)
  · rw [unaryP]
    split
    · rename_i hh
      have hn := has_in h hh (by decide); have h1 := next_le hn; have h2 := iU (nextP σ) h1.wf
      exact ⟨h1.trans h2.1, fun _ => next_lt.of_lt h2.1⟩
    · split
      · rename_i hh
        have hn := has_in h hh (by decide); have h1 := next_le hn; have h2 := iU (nextP σ) h1.wf
        exact ⟨h1.trans h2.1, fun _ => next_lt.of_lt h2.1⟩
      · exact ⟨(iP σ h).1, fun hk => (iP σ h).2 (by omega)⟩
  · rw [primaryP]
    split
    · exact ⟨number_le h, fun _ => number_lt⟩
    · split
      · rename_i hh
        have hn := has_in h hh (by decide); have h1 := next_le hn; have h2 := h1.trans (expect_le (n := n) (t := [40]) h1.wf (by decide)); have h3 := h2.trans (name_le (n := n) h2.wf); have h4 := h3.trans (expect_le (n := n) (t := [41]) h3.wf (by decide))
        exact ⟨h4, fun _ => Lt.of_le (ts := ts) h3 expect_lt⟩
      · split
        · rename_i hh
          have hn := has_in h hh (by decide); have h1 := next_le hn; have h2 := h1.trans (expect_le (n := n) (t := [40]) h1.wf (by decide)); have h3 := h2.trans (name_le (n := n) h2.wf); have h4 := h3.trans (expect_le (n := n) (t := [41]) h3.wf (by decide))
          exact ⟨h4, fun _ => Lt.of_le (ts := ts) h3 expect_lt⟩
        · split
          · rename_i hh
            have hn := has_in h hh (by decide); have h1 := next_le hn; have h2 := h1.trans (iE 1 (nextP σ) h1.wf).1
            exact ⟨h2.trans (expect_le h2.wf (by decide)), fun _ => Lt.of_le (ts := ts) h2 expect_lt⟩
          · exact ⟨(iL σ h).1, fun hk => (iL σ h).2 (by omega)⟩
  · rw [placeP]
    have h0 := name_le (n := n) h
    split
    · rename_i hh
      have hn := has_in h0.wf hh (by decide); have h1 := h0.trans (next_le hn); have h2 := h1.trans (iE 1 _ h1.wf).1
      exact ⟨h2.trans (expect_le h2.wf (by decide)), fun _ => Lt.of_le (ts := ts) h2 expect_lt⟩
    · exact ⟨h0, fun _ => name_lt⟩
end
end Bk
namespace Bk
open Go Go.RowKit Go.Proofs
attribute [local irreducible] Go.Calls
structure PC where
 pb : Nat
 B : Nat
 ts : List Tok
 n : Int
 a : Option Addr
 cap : Nat
 r : Nat
abbrev Tok.cells (t : Tok) : List Value := [.int .u8 t.kind, str t.text, .int .i64 t.pos]
abbrev Tok.val (t : Tok) : Value := .agg #[.int .u8 t.kind, str t.text, .int .i64 t.pos]
def TokAt (w : World) (b o : Nat) (t : Tok) : Prop := Row w ⟨b, o, none⟩ t.cells
def binMap : List (List UInt8 × Value) := [8, 9, 10, 11, 12, 13, 14, 15, 16, 17, 18, 19, 20, 21, 22, 23].map fun k => (symbol k, .int .u8 k)
abbrev PC.cells (c : PC) (σ : PS) : List Value := [.slice c.a c.ts.length c.cap, .int .i64 σ.at_, .int .i64 c.n, .map (some c.r), .int .i64 σ.off, .int .i64 σ.err]
structure Errs (w : World) : Prop where
 ex : ∃ te pe, w.cell? ⟨4, 0, none⟩ = some (.iface te pe)
theorem Errs.ext {w w' : World} (h : Errs w) (x : Ext w w') : Errs w' := by
 obtain ⟨te, pe, h⟩ := h.ex
 exact ⟨te, pe, x.keep h⟩
theorem Errs.fr {S : Nat → Prop} {w w' : World} (h : Errs w) (x : Fr S w w') (hs : ¬ S 4) : Errs w' := by
 obtain ⟨te, pe, h⟩ := h.ex
 exact ⟨te, pe, x.keep hs h⟩
structure PP (c : PC) (σ : PS) (w : World) : Prop where
 blk : Blk w c.pb (c.cells σ)
 toks : Arr (fun b => b < c.B ∧ b ≠ c.pb) 3 TokAt w c.ts c.a
 map : MapIs w c.r binMap
 pbB : c.pb < c.B
 rB : c.r < c.B
 rne : c.r ≠ c.pb
 B : c.B ≤ w.heap.size
 at_ : σ.at_ ≤ c.ts.length
 len : c.ts.length ≤ 1000000
 tok : ∀ t ∈ c.ts, t.text.length ≤ 1000000
 num : ∀ t ∈ c.ts, t.kind = 2 → t.text ≠ [] ∧ ∀ x ∈ t.text, digit x = true
 errs : Errs w
 gl : 4 < c.pb
theorem PP.ext {c : PC} {σ : PS} {w w' : World} (h : PP c σ w) (x : Ext w w') : PP c σ w' :=
 ⟨h.blk.ext x, h.toks.mono (fun _ h => h) (fun _ _ _ _ _ h => Row.ext h x), h.map.ext x, h.pbB, h.rB, h.rne, Nat.le_trans h.B x.size, h.at_, h.len, h.tok, h.num, h.errs.ext x, h.gl⟩
theorem PP.fr {c : PC} {σ : PS} {S : Nat → Prop} {w w' : World} (h : PP c σ w) (x : Fr S w w') (hs : ∀ k, S k → c.B ≤ k) : PP c σ w' :=
 ⟨h.blk.fr x (fun e => by have := hs _ e; have := h.pbB; omega), h.toks.mono (fun _ h => h) (fun b _ _ _ hb h => Row.fr h x (fun e => by have h1 := hs _ e; have h2 := hb.1; have h3 : c.B ≤ b := h1; omega)), h.map.fr x (fun e => by have := hs _ e; have := h.rB; omega), h.pbB, h.rB, h.rne, Nat.le_trans h.B x.size, h.at_, h.len, h.tok, h.num, h.errs.fr x (fun e => by have := hs _ e; have := h.gl; have := h.pbB; omega), h.gl⟩
theorem PP.put {c : PC} {σ σ' : PS} {w w' : World} (h : PP c σ w) (p : Put w w' c.pb (c.cells σ')) (ha : σ'.at_ ≤ c.ts.length) : PP c σ' w' :=
 ⟨p.blk, h.toks.mono (fun _ h => h) (fun b _ _ _ hb h => Row.fr h p.fr (fun e => hb.2 e)), h.map.fr p.fr (fun e => h.rne e), h.pbB, h.rB, h.rne, Nat.le_trans h.B p.fr.size, ha, h.len, h.tok, h.num, h.errs.fr p.fr (fun e => by have := h.gl; have e' : 4 = c.pb := e; omega), h.gl⟩
section
variable {P : Program} {n : Nat} {ops : Array Oper} {Q : Exit → Act → World → Prop} {rest : List Oper} {l : Sl} {w : World} {tab : Tab} {ty : TypeId} {pos : String} {after : Array Edge}
theorem lw_pp {c : PC} {σ σ' : PS} {x y : Operand} {t sz o : Nat} {s : Sk} {v : Value} (T : TabOk P tab) (ht : lookT tab t = some (s, sz)) (hsz : sz = 1) (hx : ev l x = some (.pointer (some ⟨c.pb, o, none⟩))) (hy : ev l y = some v) (hv : v.cells = #[v]) (h1 : Value.one v = true) (hP : PP c σ w) (ho : Nat.ble (o + 1) 6 = true)
 (he : (c.cells σ).set o v = c.cells σ') (ha : σ'.at_ ≤ c.ts.length) (k : ∀ w1, PP c σ' w1 → Fr (· = c.pb) w w1 → LW P n ops Q rest l w1) : LW P n ops Q (⟨none, .store t x y, ty, pos, after, none⟩ :: rest) l w :=
 lw_store T ht hx hy (us := [v]) hv (by simp [hsz]) (by simp [h1]) hP.blk (by simpa using ho) (fun w1 p => by
  have e : setMany (c.cells σ) o [v] = c.cells σ' := by simp only [setMany]; exact he
  rw [e] at p
  exact k w1 (hP.put p ha) p.fr)
theorem lw_pp_at {c : PC} {σ : PS} {x y : Operand} {t sz : Nat} {s : Sk} (T : TabOk P tab) (ht : lookT tab t = some (s, sz)) (hsz : sz = 1) (hx : ev l x = some (.pointer (some ⟨c.pb, 1, none⟩))) (hy : ev l y = some (.int .i64 ((σ.at_ : Int) + 1))) (hP : PP c σ w) (ha : σ.at_ < c.ts.length)
 (k : ∀ w1, PP c (nextP σ) w1 → Fr (· = c.pb) w w1 → LW P n ops Q rest l w1) : LW P n ops Q (⟨none, .store t x y, ty, pos, after, none⟩ :: rest) l w :=
 lw_pp (σ' := nextP σ) T ht hsz hx hy rfl rfl hP rfl rfl ha k
theorem lw_pp_off {c : PC} {σ : PS} {x y : Operand} {t sz : Nat} {s : Sk} {v : Int} (T : TabOk P tab) (ht : lookT tab t = some (s, sz)) (hsz : sz = 1) (hx : ev l x = some (.pointer (some ⟨c.pb, 4, none⟩))) (hy : ev l y = some (.int .i64 v)) (hP : PP c σ w)
 (k : ∀ w1, PP c ⟨σ.at_, v, σ.err⟩ w1 → Fr (· = c.pb) w w1 → LW P n ops Q rest l w1) : LW P n ops Q (⟨none, .store t x y, ty, pos, after, none⟩ :: rest) l w :=
 lw_pp (σ' := ⟨σ.at_, v, σ.err⟩) T ht hsz hx hy rfl rfl hP rfl rfl hP.at_ k
theorem lw_pp_err {c : PC} {σ : PS} {x y : Operand} {t sz : Nat} {s : Sk} {v : Int} (T : TabOk P tab) (ht : lookT tab t = some (s, sz)) (hsz : sz = 1) (hx : ev l x = some (.pointer (some ⟨c.pb, 5, none⟩))) (hy : ev l y = some (.int .i64 v)) (hP : PP c σ w)
 (k : ∀ w1, PP c ⟨σ.at_, σ.off, v⟩ w1 → Fr (· = c.pb) w w1 → LW P n ops Q rest l w1) : LW P n ops Q (⟨none, .store t x y, ty, pos, after, none⟩ :: rest) l w :=
 lw_pp (σ' := ⟨σ.at_, σ.off, v⟩) T ht hsz hx hy rfl rfl hP rfl rfl hP.at_ k
end
theorem peek_off {ts : List Tok} {σ : PS} (h : σ.err ≠ 0 ∨ σ.at_ = ts.length) : peekP ts σ = Tok.zero := by unfold peekP; rw [if_pos h]
theorem peek_is {ts : List Tok} {σ : PS} (h : ¬ (σ.err ≠ 0 ∨ σ.at_ = ts.length)) (hl : σ.at_ < ts.length) : peekP ts σ = ts[σ.at_] := by unfold peekP; rw [if_neg h]; simp [hl]
set_option maxRecDepth 100000 in
set_option maxHeartbeats 1000000 in
theorem peek_c (c : PC) (σ : PS) (w : World) (hP : PP c σ w) :
 Calls Tryz.prog 60 #[.pointer (some ⟨c.pb, 0, none⟩)] w fun e w' => e = .returned (peekP c.ts σ).val ∧ Ext w w' := by
 have hat := hP.at_; have X := Ext.refl w
 by_cases h : σ.err ≠ 0 ∨ σ.at_ = c.ts.length
 · rw [peek_off h]
   by_cases he : σ.err = 0
   · have ha : σ.at_ = c.ts.length := h.resolve_left (fun e => e he)
     refine calls_in Tryz.func60 Tryz.ntmps60 rfl rfl ?_
     focus
      refine cS ?_; (refine lw_alloc' [_, _, _] zOk rfl rfl ?_; intro b1 w2 n3); have h5 := n3.blk; have x6 := n3.ext; have p7 := n3.pos; have z8 := n3.size; clear n3; replace hP := hP.ext x6; replace X := X.ext x6; clear x6; refine cT (cw_seq (cw_seq ?_)); (refine cw_tdraw (fun wz => Ext w2 wz) 15 (.pure 0 (.pure 1 (.pure 2 (.pure 3 (.pure 4 (.pure 5 (.pure 6 (.pure 7 (.pure 8 (.pure 9 (.pure 10 (.pure 11 (.pure 12 (.pure 13 (.pure 14 .tail))))))))))))))) mixed (by kernel_rfl) (panicOk_then (panicOk_then panicOk_body)) ?_; intro w9 x10 _); have qs11 : (fun wz => Ext w2 wz) w9 := x10; simp only at qs11; have d_h5 := h5; have d_hP := hP; have z12 := x10.size; replace h5 := h5.ext x10; replace hP := hP.ext x10; replace X := X.ext x10; clear x10; refine ⟨qs11, ?_⟩; refine tw_pure rfl (pur_move rfl) rfl (tw_pure rfl (pur_nilCheck rfl) rfl (tw_pure rfl (pur_fieldAddr tabOk rfl rfl rfl) rfl (tw_pure rfl (pur_load tabOk rfl rfl rfl (fun wz hz => Blk.cell (Blk.ext (PP.blk d_hP) hz) rfl)) rfl (tw_pure rfl (pur_neq rfl rfl) rfl (tw_pure rfl (pur_move rfl) rfl ?_))))); refine tw_on rfl rfl rfl rfl (gd_ff (by omega)) (pur_move rfl) rfl ?_; refine tw_on rfl rfl rfl rfl (gd_ff (by omega)) (pur_nilCheck rfl) rfl ?_; refine tw_on rfl rfl rfl rfl (gd_ff (by omega)) (pur_fieldAddr tabOk rfl rfl rfl) rfl ?_; refine tw_on rfl rfl rfl rfl (gd_ff (by omega)) (pur_load tabOk rfl rfl rfl (fun wz hz => Blk.cell (Blk.ext (PP.blk d_hP) hz) rfl)) rfl ?_; refine tw_on rfl rfl rfl rfl (gd_ff (by omega)) (pur_move rfl) rfl ?_
      refine tw_on rfl rfl rfl rfl (gd_ff (by omega)) (pur_nilCheck rfl) rfl ?_; refine tw_on rfl rfl rfl rfl (gd_ff (by omega)) (pur_fieldAddr0 tabOk rfl rfl rfl) rfl ?_; refine tw_on rfl rfl rfl rfl (gd_ff (by omega)) (pur_load tabOk rfl rfl rfl (fun wz hz => Blk.cell (Blk.ext (PP.blk d_hP) hz) rfl)) rfl ?_; refine tw_on rfl rfl rfl rfl (gd_ff (by omega)) (pur_len_slice tabOk rfl rfl) rfl ?_; clear qs11 d_h5 d_hP; refine tw_tail rfl ?_; refine lw_on rfl rfl rfl (gd_ff (by omega)) ?_; refine lw_pure (pur_eql rfl rfl) rfl ?_; refine lw_pure (pur_pick_no rfl rfl (by omega)) rfl ?_; refine cT ?_; refine cw_yes rfl (by omega) ?_; refine cS (lw_pure (pur_build' [_, _, _] tabOk zOk rfl rfl rfl rfl) rfl ?_); (refine lw_store' [_, _, _] [_, _, _] tabOk rfl rfl rfl rfl rfl rfl h5 rfl rfl ?_; intro w13 n14); have h17 := n14.blk; have f15 := n14.fr; have z16 := n14.size; clear n14 h5 hP; replace X := X.fr f15 (by omega); clear f15; refine cT (cw_ret (qw_then_ret (qw_retc rfl tabOk rfl rfl rfl h17 rfl ?_))); rotate_left 1
     exact ⟨rfl, X⟩
   · refine calls_in Tryz.func60 Tryz.ntmps60 rfl rfl ?_
     focus
      refine cS ?_; (refine lw_alloc' [_, _, _] zOk rfl rfl ?_; intro ba1 wa2 na3); have ha5 := na3.blk; have xa6 := na3.ext; have pa7 := na3.pos; have za8 := na3.size; clear na3; replace hP := hP.ext xa6; replace X := X.ext xa6; clear xa6; refine cT (cw_seq (cw_seq ?_)); (refine cw_tdraw (fun wz => Ext wa2 wz) 15 (.pure 0 (.pure 1 (.pure 2 (.pure 3 (.pure 4 (.pure 5 (.pure 6 (.pure 7 (.pure 8 (.pure 9 (.pure 10 (.pure 11 (.pure 12 (.pure 13 (.pure 14 .tail))))))))))))))) mixed (by kernel_rfl) (panicOk_then (panicOk_then panicOk_body)) ?_; intro wa9 xa10 _); have qsa11 : (fun wz => Ext wa2 wz) wa9 := xa10; simp only at qsa11; have d_ha5 := ha5; have d_hP := hP; have za12 := xa10.size; replace ha5 := ha5.ext xa10; replace hP := hP.ext xa10; replace X := X.ext xa10; clear xa10; refine ⟨qsa11, ?_⟩; refine tw_pure rfl (pur_move rfl) rfl (tw_pure rfl (pur_nilCheck rfl) rfl (tw_pure rfl (pur_fieldAddr tabOk rfl rfl rfl) rfl (tw_pure rfl (pur_load tabOk rfl rfl rfl (fun wz hz => Blk.cell (Blk.ext (PP.blk d_hP) hz) rfl)) rfl (tw_pure rfl (pur_neq rfl rfl) rfl (tw_pure rfl (pur_move rfl) rfl ?_))))); refine tw_off rfl rfl rfl rfl (gd_ft (by assumption)) rfl ?_; refine tw_off rfl rfl rfl rfl (gd_ft (by assumption)) rfl ?_; refine tw_off rfl rfl rfl rfl (gd_ft (by assumption)) rfl ?_; refine tw_off rfl rfl rfl rfl (gd_ft (by assumption)) rfl ?_; refine tw_off rfl rfl rfl rfl (gd_ft (by assumption)) rfl ?_; refine tw_off rfl rfl rfl rfl (gd_ft (by assumption)) rfl ?_; refine tw_off rfl rfl rfl rfl (gd_ft (by assumption)) rfl ?_
      refine tw_off rfl rfl rfl rfl (gd_ft (by assumption)) rfl ?_; refine tw_off rfl rfl rfl rfl (gd_ft (by assumption)) rfl ?_; clear qsa11 d_ha5 d_hP; refine tw_tail rfl ?_; refine lw_off rfl rfl rfl (gd_ft (by assumption)) rfl ?_; refine lw_pure (pur_pick_yes rfl rfl (by assumption)) rfl ?_; refine cT (cw_cond_t rfl (cS (lw_pure (pur_build' [_, _, _] tabOk zOk rfl rfl rfl rfl) rfl ?_))); (refine lw_store' [_, _, _] [_, _, _] tabOk rfl rfl rfl rfl rfl rfl ha5 rfl rfl ?_; intro wa13 na14); have ha17 := na14.blk; have fa15 := na14.fr; have za16 := na14.size; clear na14 ha5 hP; replace X := X.fr fa15 (by omega); clear fa15; refine cT (cw_ret (qw_then_ret (qw_retc rfl tabOk rfl rfl rfl ha17 rfl ?_))); rotate_left 1
     exact ⟨rfl, X⟩
 · have he : σ.err = 0 := Decidable.byContradiction fun e => h (Or.inl e)
   have hlt : σ.at_ < c.ts.length := by have : σ.at_ ≠ c.ts.length := fun e => h (Or.inr e); omega
   rw [peek_is h hlt]; obtain ⟨tb, tof, hta, -, hrow⟩ := hP.toks.get (by omega); have hr : Row w ⟨tb, tof + σ.at_ * 3, none⟩ c.ts[σ.at_].cells := hrow σ.at_ _ (List.getElem?_eq_getElem hlt); clear hrow; refine calls_in Tryz.func60 Tryz.ntmps60 rfl rfl ?_
   focus
    refine cS ?_; (refine lw_alloc' [_, _, _] zOk rfl rfl ?_; intro bb1 wb2 nb3); have hb5 := nb3.blk; have xb6 := nb3.ext; have pb7 := nb3.pos; have zb8 := nb3.size; clear nb3; replace hP := hP.ext xb6; replace X := X.ext xb6; replace hr := hr.ext xb6; clear xb6; refine cT (cw_seq (cw_seq ?_)); (refine cw_tdraw (fun wz => Ext wb2 wz) 15 (.pure 0 (.pure 1 (.pure 2 (.pure 3 (.pure 4 (.pure 5 (.pure 6 (.pure 7 (.pure 8 (.pure 9 (.pure 10 (.pure 11 (.pure 12 (.pure 13 (.pure 14 .tail))))))))))))))) mixed (by kernel_rfl) (panicOk_then (panicOk_then panicOk_body)) ?_; intro wb9 xb10 _); have qsb11 : (fun wz => Ext wb2 wz) wb9 := xb10; simp only at qsb11; have d_hb5 := hb5; have d_hP := hP; have d_hr := hr; have zb12 := xb10.size; replace hb5 := hb5.ext xb10; replace hP := hP.ext xb10; replace X := X.ext xb10; replace hr := hr.ext xb10; clear xb10; refine ⟨qsb11, ?_⟩; refine tw_pure rfl (pur_move rfl) rfl (tw_pure rfl (pur_nilCheck rfl) rfl (tw_pure rfl (pur_fieldAddr tabOk rfl rfl rfl) rfl (tw_pure rfl (pur_load tabOk rfl rfl rfl (fun wz hz => Blk.cell (Blk.ext (PP.blk d_hP) hz) rfl)) rfl (tw_pure rfl (pur_neq rfl rfl) rfl (tw_pure rfl (pur_move rfl) rfl ?_))))); refine tw_on rfl rfl rfl rfl (gd_ff (by omega)) (pur_move rfl) rfl ?_; refine tw_on rfl rfl rfl rfl (gd_ff (by omega)) (pur_nilCheck rfl) rfl ?_; refine tw_on rfl rfl rfl rfl (gd_ff (by omega)) (pur_fieldAddr tabOk rfl rfl rfl) rfl ?_; refine tw_on rfl rfl rfl rfl (gd_ff (by omega)) (pur_load tabOk rfl rfl rfl (fun wz hz => Blk.cell (Blk.ext (PP.blk d_hP) hz) rfl)) rfl ?_
    refine tw_on rfl rfl rfl rfl (gd_ff (by omega)) (pur_move rfl) rfl ?_; refine tw_on rfl rfl rfl rfl (gd_ff (by omega)) (pur_nilCheck rfl) rfl ?_; refine tw_on rfl rfl rfl rfl (gd_ff (by omega)) (pur_fieldAddr0 tabOk rfl rfl rfl) rfl ?_; refine tw_on rfl rfl rfl rfl (gd_ff (by omega)) (pur_load tabOk rfl rfl rfl (fun wz hz => Blk.cell (Blk.ext (PP.blk d_hP) hz) rfl)) rfl ?_; refine tw_on rfl rfl rfl rfl (gd_ff (by omega)) (pur_len_slice tabOk rfl rfl) rfl ?_; clear qsb11 d_hb5 d_hP d_hr; refine tw_tail rfl ?_; refine lw_on rfl rfl rfl (gd_ff (by omega)) ?_; refine lw_pure (pur_eql rfl rfl) rfl ?_; refine lw_pure (pur_pick_no rfl rfl (by omega)) rfl ?_; refine cT ?_; refine cw_no rfl (by omega) ?_; refine cw_skip (qw_then (cw_seq ?_)); (refine cw_tdraw (fun wz => Ext wb9 wz) 8 (.pure 0 (.pure 1 (.pure 2 (.pure 3 (.pure 4 (.pure 5 (.pure 6 (.pure 7 .tail)))))))) mixed (by kernel_rfl) (panicOk_then panicOk_body) ?_; intro wb13 xb14 _); have qsb15 : (fun wz => Ext wb9 wz) wb13 := xb14; simp only at qsb15; have d_hb5 := hb5; have d_hP := hP; have d_hr := hr; have zb16 := xb14.size; replace hb5 := hb5.ext xb14; replace hP := hP.ext xb14; replace X := X.ext xb14; replace hr := hr.ext xb14; clear xb14; refine ⟨qsb15, ?_⟩; refine tw_pure rfl (pur_move rfl) rfl (tw_pure rfl (pur_nilCheck rfl) rfl (tw_pure rfl (pur_fieldAddr0 tabOk rfl rfl rfl) rfl (tw_pure rfl (pur_load tabOk rfl rfl rfl (fun wz hz => Blk.cell (Blk.ext (PP.blk d_hP) hz) rfl)) rfl (tw_pure rfl (pur_move rfl) rfl (tw_pure rfl (pur_nilCheck rfl) rfl (tw_pure rfl (pur_fieldAddr tabOk rfl rfl rfl) rfl (tw_pure rfl (pur_load tabOk rfl rfl rfl (fun wz hz => Blk.cell (Blk.ext (PP.blk d_hP) hz) rfl)) rfl ?_)))))))
    clear qsb15 d_hb5 d_hP d_hr; refine tw_tail rfl ?_; refine lw_pure (pur_indexAddr_eq tabOk rfl rfl rfl (by assumption) rfl (by omega) (by omega)) rfl ?_; refine lw_loads_r0 tabOk rfl rfl rfl hr rfl rfl ?_; (refine lw_store' [_, _, _] [_, _, _] tabOk rfl rfl rfl rfl rfl rfl hb5 rfl rfl ?_; intro wb17 nb18); have hb21 := nb18.blk; have fb19 := nb18.fr; have zb20 := nb18.size; clear nb18 hb5 hP; replace X := X.fr fb19 (by omega); clear hr fb19; refine cT (cw_ret (qw_retc rfl tabOk rfl rfl rfl hb21 rfl ?_)); rotate_left 1
   exact ⟨rfl, X⟩
set_option maxRecDepth 100000 in
set_option maxHeartbeats 1000000 in
theorem fail_c (c : PC) (σ : PS) (off e : Int) (w : World) (hP : PP c σ w) :
 Calls Tryz.prog 79 #[.pointer (some ⟨c.pb, 0, none⟩), .int .i64 off, .int .i64 e] w fun r w' => r = .returned (.tuple #[]) ∧ PP c (failP σ off e) w' ∧ Fr (· = c.pb) w w' := by
 have X := Fr.refl (· = c.pb) w
 by_cases he : σ.err = 0
 · rw [show failP σ off e = ⟨σ.at_, off, e⟩ from by simp [failP, he]]
   refine calls_in Tryz.func79 Tryz.ntmps79 rfl rfl ?_
   focus
    refine cS (cM rfl rfl (lw_pure (pur_nilCheck rfl) rfl (lw_pure (pur_fieldAddr tabOk rfl rfl rfl) rfl (lw_load_b tabOk rfl rfl rfl (PP.blk hP) rfl rfl (lw_pure (pur_eql rfl rfl) rfl (cT ?_)))))); refine cw_yes rfl (by assumption) ?_; refine cw_region (cM rfl rfl (cM rfl rfl (cM rfl rfl (cM rfl rfl (lw_pure (pur_nilCheck rfl) rfl (lw_pure (pur_fieldAddr tabOk rfl rfl rfl) rfl (lw_pp_off tabOk rfl rfl rfl rfl hP ?_))))))); rintro w1 h2 f3; have z4 := f3.size; clear hP; replace X := X.fr f3 (by omega); clear f3; refine lw_pure (pur_nilCheck rfl) rfl (lw_pure (pur_fieldAddr tabOk rfl rfl rfl) rfl ?_); refine lw_pp_err tabOk rfl rfl rfl rfl (by assumption) ?_; rintro w5 h6 f7; have z8 := f7.size; clear h2; replace X := X.fr f7 (by omega); clear f7; refine lw_nil (qw_end0 rfl ?_); rotate_left 1
   exact ⟨rfl, by assumption, X⟩
 · rw [show failP σ off e = σ from by simp [failP, he]]
   refine calls_in Tryz.func79 Tryz.ntmps79 rfl rfl ?_
   focus
    refine cS (cM rfl rfl (lw_pure (pur_nilCheck rfl) rfl (lw_pure (pur_fieldAddr tabOk rfl rfl rfl) rfl (lw_load_b tabOk rfl rfl rfl (PP.blk hP) rfl rfl (lw_pure (pur_eql rfl rfl) rfl (cT ?_)))))); refine cw_no rfl (by assumption) ?_; refine cw_skip (qw_end0 rfl ?_); rotate_left 1
   exact ⟨rfl, hP, X⟩
set_option maxRecDepth 100000 in
set_option maxHeartbeats 1000000 in
theorem unexpected_c (c : PC) (σ : PS) (w : World) (hP : PP c σ w) :
 Calls Tryz.prog 61 #[.pointer (some ⟨c.pb, 0, none⟩)] w fun r w' => r = .returned (.tuple #[]) ∧ PP c (unexpP c.ts c.n σ) w' ∧ Fr (· = c.pb) w w' := by
 have X := Fr.refl (· = c.pb) w
 by_cases hlt : σ.at_ < c.ts.length
 · rw [show unexpP c.ts c.n σ = failP σ (c.ts[σ.at_]).pos 3 from by simp [unexpP, hlt]]
   obtain ⟨tb, tof, hta, -, hrow⟩ := hP.toks.get (by omega); have hr : Row w ⟨tb, tof + σ.at_ * 3, none⟩ c.ts[σ.at_].cells := hrow σ.at_ _ (List.getElem?_eq_getElem hlt); clear hrow; refine calls_in Tryz.func61 Tryz.ntmps61 rfl rfl ?_
   focus
    refine cw_seq ?_; (refine cw_tdraw (fun wz => Ext w wz) 9 (.pure 0 (.pure 1 (.pure 2 (.pure 3 (.pure 4 (.pure 5 (.pure 6 (.pure 7 (.pure 8 .tail))))))))) mixed (by kernel_rfl) (panicOk_then panicOk_body) ?_; intro w1 x2 _); have qs3 : (fun wz => Ext w wz) w1 := x2; simp only at qs3; have d_hP := hP; have d_hr := hr; have z4 := x2.size; replace hP := hP.ext x2; replace X := X.ext x2; replace hr := hr.ext x2; clear x2; refine ⟨qs3, ?_⟩; refine tw_pure rfl (pur_move rfl) rfl (tw_pure rfl (pur_nilCheck rfl) rfl (tw_pure rfl (pur_fieldAddr tabOk rfl rfl rfl) rfl (tw_pure rfl (pur_load tabOk rfl rfl rfl (fun wz hz => Blk.cell (Blk.ext (PP.blk d_hP) hz) rfl)) rfl (tw_pure rfl (pur_move rfl) rfl (tw_pure rfl (pur_nilCheck rfl) rfl (tw_pure rfl (pur_fieldAddr0 tabOk rfl rfl rfl) rfl (tw_pure rfl (pur_load tabOk rfl rfl rfl (fun wz hz => Blk.cell (Blk.ext (PP.blk d_hP) hz) rfl)) rfl (tw_pure rfl (pur_len_slice tabOk rfl rfl) rfl ?_)))))))); clear qs3 d_hP d_hr; refine tw_tail rfl (lw_pure (pur_lss rfl rfl) rfl (cT ?_)); refine cw_yes rfl (by omega) ?_; (refine cw_tdraw (fun wz => Ext w1 wz) 12 (.pure 0 (.pure 1 (.pure 2 (.pure 3 (.pure 4 (.pure 5 (.pure 6 (.pure 7 (.pure 8 (.pure 9 (.pure 10 (.pure 11 .tail)))))))))))) mixed (by kernel_rfl) panicOk_body ?_; intro w5 x6 _); have qs7 : (fun wz => Ext w1 wz) w5 := x6; simp only at qs7; have d_hP := hP; have d_hr := hr; have z8 := x6.size; replace hP := hP.ext x6; replace X := X.ext x6; replace hr := hr.ext x6; clear x6; refine ⟨qs7, ?_⟩
    refine tw_pure rfl (pur_move rfl) rfl (tw_pure rfl (pur_move rfl) rfl (tw_pure rfl (pur_nilCheck rfl) rfl (tw_pure rfl (pur_fieldAddr0 tabOk rfl rfl rfl) rfl (tw_pure rfl (pur_load tabOk rfl rfl rfl (fun wz hz => Blk.cell (Blk.ext (PP.blk d_hP) hz) rfl)) rfl (tw_pure rfl (pur_move rfl) rfl (tw_pure rfl (pur_nilCheck rfl) rfl (tw_pure rfl (pur_fieldAddr tabOk rfl rfl rfl) rfl (tw_pure rfl (pur_load tabOk rfl rfl rfl (fun wz hz => Blk.cell (Blk.ext (PP.blk d_hP) hz) rfl)) rfl ?_)))))))); refine tw_pure rfl (pur_indexAddr_eq tabOk rfl rfl rfl (by assumption) rfl (by omega) (by omega)) rfl ?_; refine tw_pure rfl (pur_fieldAddr tabOk rfl rfl rfl) rfl (tw_pure rfl (pur_load tabOk rfl rfl rfl (fun wz hz => Row.at (Row.ext d_hr hz) rfl)) rfl ?_); clear qs7 d_hP d_hr; refine tw_tail rfl ?_; refine cC (by kernel_rfl) rfl (fail_c _ _ _ _ _ (by assumption)) rfl ?_; rintro _ w11 ⟨⟨⟩, ⟨h9, f10⟩⟩; have z12 := f10.size; clear hP; replace X := X.fr f10 (by omega); clear hr f10; refine lw_nil (qw_end0 rfl ?_); rotate_left 1
   exact ⟨rfl, by assumption, X⟩
 · rw [show unexpP c.ts c.n σ = failP σ c.n 4 from by simp [unexpP, hlt]]
   refine calls_in Tryz.func61 Tryz.ntmps61 rfl rfl ?_
   focus
    refine cw_seq ?_; (refine cw_tdraw (fun wz => Ext w wz) 9 (.pure 0 (.pure 1 (.pure 2 (.pure 3 (.pure 4 (.pure 5 (.pure 6 (.pure 7 (.pure 8 .tail))))))))) mixed (by kernel_rfl) (panicOk_then panicOk_body) ?_; intro wa1 xa2 _); have qsa3 : (fun wz => Ext w wz) wa1 := xa2; simp only at qsa3; have d_hP := hP; have za4 := xa2.size; replace hP := hP.ext xa2; replace X := X.ext xa2; clear xa2; refine ⟨qsa3, ?_⟩; refine tw_pure rfl (pur_move rfl) rfl (tw_pure rfl (pur_nilCheck rfl) rfl (tw_pure rfl (pur_fieldAddr tabOk rfl rfl rfl) rfl (tw_pure rfl (pur_load tabOk rfl rfl rfl (fun wz hz => Blk.cell (Blk.ext (PP.blk d_hP) hz) rfl)) rfl (tw_pure rfl (pur_move rfl) rfl (tw_pure rfl (pur_nilCheck rfl) rfl (tw_pure rfl (pur_fieldAddr0 tabOk rfl rfl rfl) rfl (tw_pure rfl (pur_load tabOk rfl rfl rfl (fun wz hz => Blk.cell (Blk.ext (PP.blk d_hP) hz) rfl)) rfl (tw_pure rfl (pur_len_slice tabOk rfl rfl) rfl ?_)))))))); clear qsa3 d_hP; refine tw_tail rfl (lw_pure (pur_lss rfl rfl) rfl (cT ?_)); refine cw_no rfl (by omega) ?_; refine cw_region (cM rfl rfl (cM rfl rfl (lw_pure (pur_nilCheck rfl) rfl (lw_pure (pur_fieldAddr tabOk rfl rfl rfl) rfl (lw_load_b tabOk rfl rfl rfl (PP.blk hP) rfl rfl ?_))))); refine cC (by kernel_rfl) rfl (fail_c _ _ _ _ _ (by assumption)) rfl ?_; rintro _ wa7 ⟨⟨⟩, ⟨ha5, fa6⟩⟩; have za8 := fa6.size; clear hP; replace X := X.fr fa6 (by omega); clear fa6; refine lw_nil (qw_end0 rfl ?_); rotate_left 1
   exact ⟨rfl, by assumption, X⟩
set_option maxRecDepth 100000 in
set_option maxHeartbeats 1000000 in
theorem accept_c (c : PC) (σ : PS) (t : List UInt8) (w : World) (hP : PP c σ w) (ht : t ≠ []) :
 Calls Tryz.prog 73 #[.pointer (some ⟨c.pb, 0, none⟩), str t] w fun r w' => r = .returned (.bool (hasP c.ts σ t)) ∧ PP c (acceptP c.ts σ t) w' ∧ Fr (· = c.pb) w w' := by
 have X := Fr.refl (· = c.pb) w; have hl := hP.len
 by_cases h : (peekP c.ts σ).text = t
 · have h1 : hasP c.ts σ t = true := by simp [hasP, h]
   rw [show acceptP c.ts σ t = nextP σ from by simp [acceptP, h1], h1]; obtain ⟨h2, h3⟩ := has_in hP.at_ h1 ht; refine calls_in Tryz.func73 Tryz.ntmps73 rfl rfl ?_
   focus
    refine cS (cA rfl rfl (cT (cw_seq (cS (cM rfl rfl ?_))))); refine cC (by kernel_rfl) rfl (peek_c _ _ _ (by assumption)) rfl ?_; rintro _ w2 ⟨⟨⟩, x1⟩; have z3 := x1.size; replace hP := hP.ext x1; replace X := X.ext x1; clear x1; refine lw_pure (pur_field tabOk rfl rfl rfl rfl rfl rfl) rfl (cM rfl rfl (lw_pure (pur_sneq rfl rfl) rfl (cT ?_))); refine cw_no rfl (not_not_intro (by assumption)) ?_; refine cw_skip (qw_then (cS (cM rfl rfl (lw_pure (pur_nilCheck rfl) rfl (lw_pure (pur_fieldAddr tabOk rfl rfl rfl) rfl (lw_load_b tabOk rfl rfl rfl (PP.blk hP) rfl rfl ?_)))))); refine lw_pure (pur_add rfl rfl (IntWalk.i64_in _ (by omega))) rfl ?_; refine lw_pure (pur_nilCheck rfl) rfl (lw_pure (pur_fieldAddr tabOk rfl rfl rfl) rfl ?_); refine lw_pp_at tabOk rfl rfl rfl rfl (by assumption) h3 ?_; rintro w4 h5 f6; have z7 := f6.size; clear hP; replace X := X.fr f6 (by omega); clear f6; refine cN (cA rfl rfl (cT (cw_ret (qw_ret1 rfl rfl ?_)))); rotate_left 1
   exact ⟨rfl, by assumption, X⟩
 · have h1 : hasP c.ts σ t = false := by simp [hasP, h]
   rw [show acceptP c.ts σ t = σ from by simp [acceptP, h1], h1]; refine calls_in Tryz.func73 Tryz.ntmps73 rfl rfl ?_
   focus
    refine cS (cA rfl rfl (cT (cw_seq (cS (cM rfl rfl ?_))))); refine cC (by kernel_rfl) rfl (peek_c _ _ _ (by assumption)) rfl ?_; rintro _ wa2 ⟨⟨⟩, xa1⟩; have za3 := xa1.size; replace hP := hP.ext xa1; replace X := X.ext xa1; clear xa1; refine lw_pure (pur_field tabOk rfl rfl rfl rfl rfl rfl) rfl (cM rfl rfl (lw_pure (pur_sneq rfl rfl) rfl (cT ?_))); refine cw_yes rfl (by assumption) ?_; refine cS (cA rfl rfl (cT (cw_ret (qw_then_ret (qw_ret1 rfl rfl ?_))))); rotate_left 1
   exact ⟨rfl, by assumption, X⟩
theorem accept_t (c : PC) (σ : PS) (t : List UInt8) (w : World) (hP : PP c σ w) (ht : t ≠ []) (h : hasP c.ts σ t = true) :
 Calls Tryz.prog 73 #[.pointer (some ⟨c.pb, 0, none⟩), str t] w fun r w' => r = .returned (.bool true) ∧ PP c (nextP σ) w' ∧ Fr (· = c.pb) w w' := by
 have := accept_c c σ t w hP ht; rw [show acceptP c.ts σ t = nextP σ from by simp [acceptP, h], h] at this
 exact this
theorem accept_f (c : PC) (σ : PS) (t : List UInt8) (w : World) (hP : PP c σ w) (ht : t ≠ []) (h : hasP c.ts σ t = false) :
 Calls Tryz.prog 73 #[.pointer (some ⟨c.pb, 0, none⟩), str t] w fun r w' => r = .returned (.bool false) ∧ PP c σ w' ∧ Fr (· = c.pb) w w' := by
 have := accept_c c σ t w hP ht; rw [show acceptP c.ts σ t = σ from by simp [acceptP, h], h] at this
 exact this
set_option maxRecDepth 100000 in
set_option maxHeartbeats 1000000 in
theorem expect_c (c : PC) (σ : PS) (t : List UInt8) (w : World) (hP : PP c σ w) (ht : t ≠ []) :
 Calls Tryz.prog 40 #[.pointer (some ⟨c.pb, 0, none⟩), str t] w fun r w' => r = .returned (.tuple #[]) ∧ PP c (expectP c.ts c.n σ t) w' ∧ Fr (· = c.pb) w w' := by
 have X := Fr.refl (· = c.pb) w
 cases h : hasP c.ts σ t
 · have e1 : acceptP c.ts σ t = σ := by simp [acceptP, h]
   have e2 : expectP c.ts c.n σ t = unexpP c.ts c.n σ := by simp [expectP, h]
   rw [e2]; refine calls_in Tryz.func40 Tryz.ntmps40 rfl rfl ?_
   focus
    refine cS (cM rfl rfl (cM rfl rfl ?_)); refine cC (by kernel_rfl) rfl (accept_c _ _ _ _ (by assumption) (by assumption)) rfl ?_; rintro _ w3 ⟨⟨⟩, ⟨h1, f2⟩⟩; have z4 := f2.size; clear hP; replace X := X.fr f2 (by omega); clear f2; refine lw_pure (pur_not rfl) rfl (cT ?_); refine cw_nt rfl (by assumption) ?_; refine cw_region (cM rfl rfl ?_); refine cC (by kernel_rfl) rfl (unexpected_c _ _ _ (by assumption)) rfl ?_; rintro _ w7 ⟨⟨⟩, ⟨h5, f6⟩⟩; have z8 := f6.size; clear h1; replace X := X.fr f6 (by omega); clear f6; refine lw_nil (qw_end0 rfl ?_); rotate_left 1
   exact ⟨rfl, by rw [e1] at *; assumption, X⟩
 · have e1 : acceptP c.ts σ t = nextP σ := by simp [acceptP, h]
   have e2 : expectP c.ts c.n σ t = nextP σ := by simp [expectP, h]
   rw [e2]; refine calls_in Tryz.func40 Tryz.ntmps40 rfl rfl ?_
   focus
    refine cS (cM rfl rfl (cM rfl rfl ?_)); refine cC (by kernel_rfl) rfl (accept_c _ _ _ _ (by assumption) (by assumption)) rfl ?_; rintro _ wa3 ⟨⟨⟩, ⟨ha1, fa2⟩⟩; have za4 := fa2.size; clear hP; replace X := X.fr fa2 (by omega); clear fa2; refine lw_pure (pur_not rfl) rfl (cT ?_); refine cw_nf rfl (by assumption) ?_; refine cw_skip (qw_end0 rfl ?_); rotate_left 1
   exact ⟨rfl, by rw [e1] at *; assumption, X⟩
end Bk
namespace Go.Proofs
open Go.Shelf
def Tryz.lays169_ren : Go.Shelf.Ren := ⟨fun | 169 => 30 | n => n, fun | 70 => 52 | 9 => 9 | 0 => 0 | 72 => 55 | 37 => 53 | 127 => 89 | 3 => 3 | 5 => 5 | n => n, fun | n => n⟩
theorem Tryz.lays169 : Go.Proofs.Lays.n169 Tryz.prog Tryz.lays169_ren := {
 mixed := by kernel_rfl
 f169 := Tryz.func30.trans (congrArg some (by kernel_rfl))
 t0 := Tryz.underlying0
 a0 := Tryz.isAgg0
 z0 := Tryz.sizeOf0
 v0 := Tryz.zeroValue0
 t3 := Tryz.underlying3
 a3 := Tryz.isAgg3
 z3 := Tryz.sizeOf3
 v3 := Tryz.zeroValue3
 t9 := Tryz.underlying9
 a9 := Tryz.isAgg9
 z9 := Tryz.sizeOf9
 v9 := Tryz.zeroValue9
 t37 := Tryz.underlying53
 a37 := Tryz.isAgg53
 z37 := Tryz.sizeOf53
 v37 := Tryz.zeroValue53
 t70 := Tryz.underlying52
 a70 := Tryz.isAgg52
 z70 := Tryz.sizeOf52
 v70 := Tryz.zeroValue52
 t72 := Tryz.underlying55
 a72 := Tryz.isAgg55
 z72 := Tryz.sizeOf55
 v72 := Tryz.zeroValue55
 t127 := Tryz.underlying89
 a127 := Tryz.isAgg89
 z127 := Tryz.sizeOf89
 v127 := Tryz.zeroValue89 }
theorem Tryz.Builder_Extra_169 : Builder.Extra Tryz.prog Tryz.lays169_ren := {
 sizeBuilder := by kernel_rfl
 liesBuilder := by kernel_rfl
 t5 := Tryz.underlying5
 a5 := Tryz.isAgg5
 z5 := Tryz.sizeOf5
 v5 := Tryz.zeroValue5
 infoByte := by kernel_rfl
 cellsByte := by kernel_rfl
 sizeByte := by kernel_rfl
 neB5 := by decide }
open Go.RowKit in
theorem Tryz.Builder_String (B b : Nat) (l : List UInt8) (w : World) (h : Lib.IsBuilder 55 5 B b (Lib.byteCells l) w) (h0 : l ≠ []) :
 Calls Tryz.prog 30 #[.pointer (some ⟨b, 0, none⟩)] w fun e w' => e = .returned (.string ⟨l.toArray⟩) ∧ Below B w w' := Any.Builder_String Tryz.lays169 Tryz.Builder_Extra_169 B b l w h h0
open Go.RowKit in
theorem Tryz.Builder_String_empty (B b : Nat) (w : World) (h : Lib.IsBuilder 55 5 B b [] w) (hBw : B ≤ w.heap.size) :
 Calls Tryz.prog 30 #[.pointer (some ⟨b, 0, none⟩)] w fun e w' => e = .returned (.string ⟨#[]⟩) ∧ Below B w w' := Any.Builder_String_empty Tryz.lays169 Tryz.Builder_Extra_169 B b w h hBw
open Go.RowKit in
theorem Tryz.Builder_String_any (B b : Nat) (l : List UInt8) (w : World) (h : Lib.IsBuilder 55 5 B b (Lib.byteCells l) w) (hBw : B ≤ w.heap.size) :
 Calls Tryz.prog 30 #[.pointer (some ⟨b, 0, none⟩)] w fun e w' => e = .returned (.string ⟨l.toArray⟩) ∧ Below B w w' := Any.Builder_String_any Tryz.lays169 Tryz.Builder_Extra_169 B b l w h hBw
def Tryz.lays137_ren : Go.Shelf.Ren := ⟨fun | 137 => 108 | 217 => 116 | 266 => 124 | n => n, fun | 9 => 9 | 5 => 5 | 3 => 3 | n => n, fun | n => n⟩
theorem Tryz.lays137 : Go.Proofs.Lays.n137 Tryz.prog Tryz.lays137_ren := {
 mixed := by kernel_rfl
 f137 := Tryz.func108.trans (congrArg some (by kernel_rfl))
 f217 := Tryz.func116.trans (congrArg some (by kernel_rfl))
 f266 := Tryz.func124.trans (congrArg some (by kernel_rfl))
 t3 := Tryz.underlying3
 a3 := Tryz.isAgg3
 z3 := Tryz.sizeOf3
 v3 := Tryz.zeroValue3
 t5 := Tryz.underlying5
 a5 := Tryz.isAgg5
 z5 := Tryz.sizeOf5
 v5 := Tryz.zeroValue5
 t9 := Tryz.underlying9
 a9 := Tryz.isAgg9
 z9 := Tryz.sizeOf9
 v9 := Tryz.zeroValue9 }
open Go.RowKit in
theorem Tryz.strings_IndexByte (s : ByteArray) (c : Int) (w : World) :
 Calls Tryz.prog 108 #[.string s, .int .u8 c] w fun e w' => e = .returned (.int .i64 (Lib.indexByte s.data.toList c.toNat.toUInt8)) ∧ w' = w := Any.strings_IndexByte Tryz.lays137 s c w
open Go.RowKit in
theorem Tryz.Builder_String_f (B b : Nat) (l : List UInt8) (w : World) (h : Lib.IsBuilderF 55 5 B b (Lib.byteCells l) w) (h0 : l ≠ []) :
 Calls Tryz.prog 30 #[.pointer (some ⟨b, 0, none⟩)] w fun e w' => e = .returned (.string ⟨l.toArray⟩) ∧ (Lib.IsBuilderF 55 5 B b (Lib.byteCells l) w' ∧ Below B w w') := Any.Builder_String_f Tryz.lays169 Tryz.Builder_Extra_169 B b l w h h0
open Go.RowKit in
theorem Tryz.Builder_String_empty_f (B b : Nat) (w : World) (h : Lib.IsBuilderF 55 5 B b [] w) (hBw : B ≤ w.heap.size) :
 Calls Tryz.prog 30 #[.pointer (some ⟨b, 0, none⟩)] w fun e w' => e = .returned (.string ⟨#[]⟩) ∧ (Lib.IsBuilderF 55 5 B b [] w' ∧ Below B w w') := Any.Builder_String_empty_f Tryz.lays169 Tryz.Builder_Extra_169 B b w h hBw
open Go.RowKit in
theorem Tryz.Builder_String_any_f (B b : Nat) (l : List UInt8) (w : World) (h : Lib.IsBuilderF 55 5 B b (Lib.byteCells l) w) (hBw : B ≤ w.heap.size) :
 Calls Tryz.prog 30 #[.pointer (some ⟨b, 0, none⟩)] w fun e w' => e = .returned (.string ⟨l.toArray⟩) ∧ (Lib.IsBuilderF 55 5 B b (Lib.byteCells l) w' ∧ Below B w w') := Any.Builder_String_any_f Tryz.lays169 Tryz.Builder_Extra_169 B b l w h hBw
open Go.RowKit in
theorem Tryz.Builder_String_k (B b : Nat) (l : List UInt8) (w : World) (h : Lib.IsBuilderF 55 5 B b (Lib.byteCells l) w) (h0 : l ≠ []) :
 Calls Tryz.prog 30 #[.pointer (some ⟨b, 0, none⟩)] w fun e w' => e = .returned (.string ⟨l.toArray⟩) ∧ (Lib.IsBuilderF 55 5 B b (Lib.byteCells l) w' ∧ Below B w w' ∧ Lib.OthersKept 5 (some b) w w') := Any.Builder_String_k Tryz.lays169 Tryz.Builder_Extra_169 B b l w h h0
open Go.RowKit in
theorem Tryz.Builder_String_empty_k (B b : Nat) (w : World) (h : Lib.IsBuilderF 55 5 B b [] w) (hBw : B ≤ w.heap.size) :
 Calls Tryz.prog 30 #[.pointer (some ⟨b, 0, none⟩)] w fun e w' => e = .returned (.string ⟨#[]⟩) ∧ (Lib.IsBuilderF 55 5 B b [] w' ∧ Below B w w' ∧ Lib.OthersKept 5 (some b) w w') := Any.Builder_String_empty_k Tryz.lays169 Tryz.Builder_Extra_169 B b w h hBw
open Go.RowKit in
theorem Tryz.Builder_String_any_k (B b : Nat) (l : List UInt8) (w : World) (h : Lib.IsBuilderF 55 5 B b (Lib.byteCells l) w) (hBw : B ≤ w.heap.size) :
 Calls Tryz.prog 30 #[.pointer (some ⟨b, 0, none⟩)] w fun e w' => e = .returned (.string ⟨l.toArray⟩) ∧ (Lib.IsBuilderF 55 5 B b (Lib.byteCells l) w' ∧ Below B w w' ∧ Lib.OthersKept 5 (some b) w w') := Any.Builder_String_any_k Tryz.lays169 Tryz.Builder_Extra_169 B b l w h hBw
def Tryz.lays244_ren : Go.Shelf.Ren := ⟨fun | 244 => 117 | 247 => 125 | 287 => 132 | 321 => 135 | 322 => 136 | n => n, fun | 9 => 9 | 3 => 3 | 75 => 105 | 4 => 4 | 5 => 5 | 167 => 141 | 37 => 53 | 0 => 0 | 85 => 142 | 2 => 2 | 53 => 127 | 175 => 148 | 46 => 139 | 21 => 21 | 80 => 59 | n => n, fun | n => n⟩
theorem Tryz.lays244 : Go.Proofs.Lays.n244 Tryz.prog Tryz.lays244_ren := {
 mixed := by kernel_rfl
 f244 := Tryz.func117.trans (congrArg some (by kernel_rfl))
 f247 := Tryz.func125.trans (congrArg some (by kernel_rfl))
 f287 := Tryz.func132.trans (congrArg some (by kernel_rfl))
 f321 := Tryz.func135.trans (congrArg some (by kernel_rfl))
 f322 := Tryz.func136.trans (congrArg some (by kernel_rfl))
 t0 := Tryz.underlying0
 a0 := Tryz.isAgg0
 z0 := Tryz.sizeOf0
 v0 := Tryz.zeroValue0
 t2 := Tryz.underlying2
 a2 := Tryz.isAgg2
 z2 := Tryz.sizeOf2
 v2 := Tryz.zeroValue2
 t3 := Tryz.underlying3
 a3 := Tryz.isAgg3
 z3 := Tryz.sizeOf3
 v3 := Tryz.zeroValue3
 t4 := Tryz.underlying4
 a4 := Tryz.isAgg4
 z4 := Tryz.sizeOf4
 v4 := Tryz.zeroValue4
 t5 := Tryz.underlying5
 a5 := Tryz.isAgg5
 z5 := Tryz.sizeOf5
 v5 := Tryz.zeroValue5
 t9 := Tryz.underlying9
 a9 := Tryz.isAgg9
 z9 := Tryz.sizeOf9
 v9 := Tryz.zeroValue9
 t21 := Tryz.underlying21
 a21 := Tryz.isAgg21
 z21 := Tryz.sizeOf21
 v21 := Tryz.zeroValue21
 t37 := Tryz.underlying53
 a37 := Tryz.isAgg53
 z37 := Tryz.sizeOf53
 v37 := Tryz.zeroValue53
 t46 := Tryz.underlying139
 a46 := Tryz.isAgg139
 z46 := Tryz.sizeOf139
 v46 := Tryz.zeroValue139
 t53 := Tryz.underlying127
 a53 := Tryz.isAgg127
 z53 := Tryz.sizeOf127
 v53 := Tryz.zeroValue127
 t75 := Tryz.underlying105
 a75 := Tryz.isAgg105
 z75 := Tryz.sizeOf105
 v75 := Tryz.zeroValue105
 t85 := Tryz.underlying142
 a85 := Tryz.isAgg142
 z85 := Tryz.sizeOf142
 v85 := Tryz.zeroValue142
 t167 := Tryz.underlying141
 a167 := Tryz.isAgg141
 z167 := Tryz.sizeOf141
 v167 := Tryz.zeroValue141
 t175 := Tryz.underlying148
 a175 := Tryz.isAgg148
 z175 := Tryz.sizeOf148
 v175 := Tryz.zeroValue148 }
open Go.RowKit in
theorem Tryz.internal_strconv_Atoi (s : ByteArray) (n : Int) (hl : s.size ≤ 18) (h : Lib.atoi s.data.toList = some n) (w : World) :
 Calls Tryz.prog 117 #[.string s] w fun e w' => e = .returned (.tuple #[.int .i64 n, .nilIface]) ∧ ∃ t, w' = Lib.bytesWorld w 5 t := Any.internal_strconv_Atoi Tryz.lays244 s n hl h w
def Tryz.lays172_ren : Go.Shelf.Ren := ⟨fun | 172 => 110 | 244 => 117 | 245 => 118 | 247 => 125 | 279 => 126 | 280 => 127 | 281 => 128 | 282 => 129 | 287 => 132 | 316 => 133 | 171 => 51 | 205 => 134 | 321 => 135 | 322 => 136 | 243 => 83 | 246 => 105 | 283 => 111 | 284 => 112 | 285 => 113 | 286 => 114 | 129 => 120 | 317 => 119 | 318 => 121 | 319 => 122 | 320 => 123 | 337 => 130 | 338 => 131 | n => n, fun | 9 => 9 | 3 => 3 | 75 => 105 | 76 => 106 | 4 => 4 | 5 => 5 | 167 => 141 | 37 => 53 | 0 => 0 | 85 => 142 | 2 => 2 | 168 => 144 | 53 => 127 | 175 => 148 | 46 => 139 | 210 => 152 | 127 => 89 | 145 => 159 | 143 => 157 | 21 => 21 | 171 => 126 | 173 => 130 | 212 => 135 | 51 => 136 | 20 => 20 | 213 => 137 | 232 => 154 | 233 => 155 | 80 => 59 | n => n, fun | 15 => 3 | 16 => 4 | 17 => 1 | 18 => 5 | 19 => 6 | n => n⟩
theorem Tryz.lays172 : Go.Proofs.Lays.n172 Tryz.prog Tryz.lays172_ren := {
 mixed := by kernel_rfl
 f129 := Tryz.func120.trans (congrArg some (by kernel_rfl))
 f171 := Tryz.func51.trans (congrArg some (by kernel_rfl))
 f172 := Tryz.func110.trans (congrArg some (by kernel_rfl))
 f205 := Tryz.func134.trans (congrArg some (by kernel_rfl))
 f243 := Tryz.func83.trans (congrArg some (by kernel_rfl))
 f244 := Tryz.func117.trans (congrArg some (by kernel_rfl))
 f245 := Tryz.func118.trans (congrArg some (by kernel_rfl))
 f246 := Tryz.func105.trans (congrArg some (by kernel_rfl))
 f247 := Tryz.func125.trans (congrArg some (by kernel_rfl))
 f279 := Tryz.func126.trans (congrArg some (by kernel_rfl))
 f280 := Tryz.func127.trans (congrArg some (by kernel_rfl))
 f281 := Tryz.func128.trans (congrArg some (by kernel_rfl))
 f282 := Tryz.func129.trans (congrArg some (by kernel_rfl))
 f283 := Tryz.func111.trans (congrArg some (by kernel_rfl))
 f284 := Tryz.func112.trans (congrArg some (by kernel_rfl))
 f285 := Tryz.func113.trans (congrArg some (by kernel_rfl))
 f286 := Tryz.func114.trans (congrArg some (by kernel_rfl))
 f287 := Tryz.func132.trans (congrArg some (by kernel_rfl))
 f316 := Tryz.func133.trans (congrArg some (by kernel_rfl))
 f317 := Tryz.func119.trans (congrArg some (by kernel_rfl))
 f318 := Tryz.func121.trans (congrArg some (by kernel_rfl))
 f319 := Tryz.func122.trans (congrArg some (by kernel_rfl))
 f320 := Tryz.func123.trans (congrArg some (by kernel_rfl))
 f321 := Tryz.func135.trans (congrArg some (by kernel_rfl))
 f322 := Tryz.func136.trans (congrArg some (by kernel_rfl))
 f337 := Tryz.func130.trans (congrArg some (by kernel_rfl))
 f338 := Tryz.func131.trans (congrArg some (by kernel_rfl))
 t0 := Tryz.underlying0
 a0 := Tryz.isAgg0
 z0 := Tryz.sizeOf0
 v0 := Tryz.zeroValue0
 t2 := Tryz.underlying2
 a2 := Tryz.isAgg2
 z2 := Tryz.sizeOf2
 v2 := Tryz.zeroValue2
 t3 := Tryz.underlying3
 a3 := Tryz.isAgg3
 z3 := Tryz.sizeOf3
 v3 := Tryz.zeroValue3
 t4 := Tryz.underlying4
 a4 := Tryz.isAgg4
 z4 := Tryz.sizeOf4
 v4 := Tryz.zeroValue4
 t5 := Tryz.underlying5
 a5 := Tryz.isAgg5
 z5 := Tryz.sizeOf5
 v5 := Tryz.zeroValue5
 t9 := Tryz.underlying9
 a9 := Tryz.isAgg9
 z9 := Tryz.sizeOf9
 v9 := Tryz.zeroValue9
 t20 := Tryz.underlying20
 a20 := Tryz.isAgg20
 z20 := Tryz.sizeOf20
 v20 := Tryz.zeroValue20
 t21 := Tryz.underlying21
 a21 := Tryz.isAgg21
 z21 := Tryz.sizeOf21
 v21 := Tryz.zeroValue21
 t37 := Tryz.underlying53
 a37 := Tryz.isAgg53
 z37 := Tryz.sizeOf53
 v37 := Tryz.zeroValue53
 t46 := Tryz.underlying139
 a46 := Tryz.isAgg139
 z46 := Tryz.sizeOf139
 v46 := Tryz.zeroValue139
 t51 := Tryz.underlying136
 a51 := Tryz.isAgg136
 z51 := Tryz.sizeOf136
 v51 := Tryz.zeroValue136
 t53 := Tryz.underlying127
 a53 := Tryz.isAgg127
 z53 := Tryz.sizeOf127
 v53 := Tryz.zeroValue127
 t75 := Tryz.underlying105
 a75 := Tryz.isAgg105
 z75 := Tryz.sizeOf105
 v75 := Tryz.zeroValue105
 t76 := Tryz.underlying106
 a76 := Tryz.isAgg106
 z76 := Tryz.sizeOf106
 v76 := Tryz.zeroValue106
 t85 := Tryz.underlying142
 a85 := Tryz.isAgg142
 z85 := Tryz.sizeOf142
 v85 := Tryz.zeroValue142
 t127 := Tryz.underlying89
 a127 := Tryz.isAgg89
 z127 := Tryz.sizeOf89
 v127 := Tryz.zeroValue89
 t143 := Tryz.underlying157
 a143 := Tryz.isAgg157
 z143 := Tryz.sizeOf157
 v143 := Tryz.zeroValue157
 t145 := Tryz.underlying159
 a145 := Tryz.isAgg159
 z145 := Tryz.sizeOf159
 v145 := Tryz.zeroValue159
 t167 := Tryz.underlying141
 a167 := Tryz.isAgg141
 z167 := Tryz.sizeOf141
 v167 := Tryz.zeroValue141
 t168 := Tryz.underlying144
 a168 := Tryz.isAgg144
 z168 := Tryz.sizeOf144
 v168 := Tryz.zeroValue144
 t171 := Tryz.underlying126
 a171 := Tryz.isAgg126
 z171 := Tryz.sizeOf126
 v171 := Tryz.zeroValue126
 t173 := Tryz.underlying130
 a173 := Tryz.isAgg130
 z173 := Tryz.sizeOf130
 v173 := Tryz.zeroValue130
 t175 := Tryz.underlying148
 a175 := Tryz.isAgg148
 z175 := Tryz.sizeOf148
 v175 := Tryz.zeroValue148
 t210 := Tryz.underlying152
 a210 := Tryz.isAgg152
 z210 := Tryz.sizeOf152
 v210 := Tryz.zeroValue152
 t212 := Tryz.underlying135
 a212 := Tryz.isAgg135
 z212 := Tryz.sizeOf135
 v212 := Tryz.zeroValue135
 t213 := Tryz.underlying137
 a213 := Tryz.isAgg137
 z213 := Tryz.sizeOf137
 t232 := Tryz.underlying154
 a232 := Tryz.isAgg154
 z232 := Tryz.sizeOf154
 v232 := Tryz.zeroValue154
 t233 := Tryz.underlying155
 a233 := Tryz.isAgg155
 z233 := Tryz.sizeOf155
 v233 := Tryz.zeroValue155
 g15 := by kernel_rfl
 g16 := by kernel_rfl
 g17 := by kernel_rfl
 g18 := by kernel_rfl
 g19 := by kernel_rfl }
open Go.RowKit in
theorem Tryz.strconv_Atoi (s : ByteArray) (n : Int) (hl : s.size ≤ 18) (h : Lib.atoi s.data.toList = some n) (w : World) :
 Calls Tryz.prog 110 #[.string s] w fun e w' => e = .returned (.tuple #[.int .i64 n, .nilIface]) ∧ ∃ t, w' = Lib.bytesWorld w 5 t := Any.strconv_Atoi Tryz.lays172 s n hl h w
def Tryz.lays129_ren : Go.Shelf.Ren := ⟨fun | 129 => 120 | n => n, fun | 53 => 127 | 3 => 3 | 4 => 4 | 46 => 139 | 5 => 5 | 9 => 9 | n => n, fun | n => n⟩
def Tryz.lays317_ren : Go.Shelf.Ren := ⟨fun | 317 => 119 | n => n, fun | 3 => 3 | 46 => 139 | n => n, fun | n => n⟩
theorem Tryz.lays317 : Go.Proofs.Lays.n317 Tryz.prog Tryz.lays317_ren := {
 mixed := by kernel_rfl
 f317 := Tryz.func119.trans (congrArg some (by kernel_rfl))
 t3 := Tryz.underlying3
 a3 := Tryz.isAgg3
 z3 := Tryz.sizeOf3
 v3 := Tryz.zeroValue3
 t46 := Tryz.underlying139
 a46 := Tryz.isAgg139
 z46 := Tryz.sizeOf139
 v46 := Tryz.zeroValue139 }
open Go.Lib in
theorem Tryz.internal_strconv_log10Pow2 (x : Nat) (h : x ≤ 64) (w : World) :
 Calls Tryz.prog 119 #[.int .i64 x] w fun e w' => e = .returned (.int .i64 (Lib.l10 x)) ∧ w' = w := Any.internal_strconv_log10Pow2 Tryz.lays317 x h w
def Tryz.lays318_ren : Go.Shelf.Ren := ⟨fun | 318 => 121 | n => n, fun | 3 => 3 | 4 => 4 | n => n, fun | n => n⟩
theorem Tryz.lays318 : Go.Proofs.Lays.n318 Tryz.prog Tryz.lays318_ren := {
 mixed := by kernel_rfl
 f318 := Tryz.func121.trans (congrArg some (by kernel_rfl))
 t3 := Tryz.underlying3
 a3 := Tryz.isAgg3
 z3 := Tryz.sizeOf3
 v3 := Tryz.zeroValue3
 t4 := Tryz.underlying4
 a4 := Tryz.isAgg4
 z4 := Tryz.sizeOf4
 v4 := Tryz.zeroValue4 }
open Go.Lib in
theorem Tryz.internal_strconv_bool2_int (b : Bool) (w : World) :
 Calls Tryz.prog 121 #[.bool b] w fun e w' => e = .returned (.int .i64 (if b then 1 else 0)) ∧ w' = w := Any.internal_strconv_bool2_int Tryz.lays318 b w
def Tryz.lays283_ren : Go.Shelf.Ren := ⟨fun | 283 => 111 | n => n, fun | 3 => 3 | 9 => 9 | 4 => 4 | n => n, fun | n => n⟩
theorem Tryz.lays283 : Go.Proofs.Lays.n283 Tryz.prog Tryz.lays283_ren := {
 mixed := by kernel_rfl
 f283 := Tryz.func111.trans (congrArg some (by kernel_rfl))
 t3 := Tryz.underlying3
 a3 := Tryz.isAgg3
 z3 := Tryz.sizeOf3
 v3 := Tryz.zeroValue3
 t4 := Tryz.underlying4
 a4 := Tryz.isAgg4
 z4 := Tryz.sizeOf4
 v4 := Tryz.zeroValue4
 t9 := Tryz.underlying9
 a9 := Tryz.isAgg9
 z9 := Tryz.sizeOf9
 v9 := Tryz.zeroValue9 }
open Go.Lib in
theorem Tryz.internal_strconv_small (i : Nat) (h : i < 100) (w : World) :
 Calls Tryz.prog 111 #[.int .i64 i] w fun e w' => e = .returned (.string ⟨(Lib.decDigits i).toArray⟩) ∧ w' = w := Any.internal_strconv_small Tryz.lays283 i h w
def Tryz.laysM284_ren : Go.Shelf.Ren := ⟨fun | 284 => 112 | 129 => 120 | 317 => 119 | 318 => 121 | n => n, fun | 53 => 127 | 3 => 3 | 212 => 135 | 0 => 0 | 4 => 4 | 46 => 139 | 5 => 5 | 9 => 9 | n => n, fun | 17 => 1 | n => n⟩
theorem Tryz.laysM284 : Go.Proofs.LaysM.n284 Tryz.prog Tryz.laysM284_ren := {
 mixed := by kernel_rfl
 f129 := Tryz.func120.trans (congrArg some (by kernel_rfl))
 f284 := Tryz.func112.trans (congrArg some (by kernel_rfl))
 f317 := Tryz.func119.trans (congrArg some (by kernel_rfl))
 f318 := Tryz.func121.trans (congrArg some (by kernel_rfl))
 t0 := Tryz.underlying0
 a0 := Tryz.isAgg0
 z0 := Tryz.sizeOf0
 v0 := Tryz.zeroValue0
 t3 := Tryz.underlying3
 a3 := Tryz.isAgg3
 z3 := Tryz.sizeOf3
 v3 := Tryz.zeroValue3
 t4 := Tryz.underlying4
 a4 := Tryz.isAgg4
 z4 := Tryz.sizeOf4
 v4 := Tryz.zeroValue4
 t5 := Tryz.underlying5
 a5 := Tryz.isAgg5
 z5 := Tryz.sizeOf5
 v5 := Tryz.zeroValue5
 t9 := Tryz.underlying9
 a9 := Tryz.isAgg9
 z9 := Tryz.sizeOf9
 v9 := Tryz.zeroValue9
 t46 := Tryz.underlying139
 a46 := Tryz.isAgg139
 z46 := Tryz.sizeOf139
 v46 := Tryz.zeroValue139
 t53 := Tryz.underlying127
 a53 := Tryz.isAgg127
 z53 := Tryz.sizeOf127
 v53 := Tryz.zeroValue127
 t212 := Tryz.underlying135
 a212 := Tryz.isAgg135
 z212 := Tryz.sizeOf135
 v212 := Tryz.zeroValue135
 g17 := by kernel_rfl
 i0 := by kernel_rfl
 i3 := by kernel_rfl
 i4 := by kernel_rfl
 i5 := by kernel_rfl
 i9 := by kernel_rfl
 i46 := by kernel_rfl
 i53 := by kernel_rfl
 i212 := by kernel_rfl
 m17 := by kernel_rfl }
open Go.Lib in
theorem Tryz.internal_strconv_numDigits (u : Nat) (h1 : 1 ≤ u) (h2 : u < 18446744073709551616) (w : World) (htab : Lib.TabIs Tryz.prog w "internal/strconv.uint64pow10" .u64 Lib.pow10Tab) :
 Calls Tryz.prog 112 #[.int .u64 u] w fun e w' => e = .returned (.int .i64 (Lib.nDigits u)) ∧ w' = w := Any.internal_strconv_numDigits Tryz.laysM284 u h1 h2 w htab
def Tryz.lays285_ren : Go.Shelf.Ren := ⟨fun | 285 => 113 | n => n, fun | 37 => 53 | 53 => 127 | 3 => 3 | 4 => 4 | 51 => 136 | 9 => 9 | 5 => 5 | 0 => 0 | n => n, fun | n => n⟩
theorem Tryz.lays285 : Go.Proofs.Lays.n285 Tryz.prog Tryz.lays285_ren := {
 mixed := by kernel_rfl
 f285 := Tryz.func113.trans (congrArg some (by kernel_rfl))
 t0 := Tryz.underlying0
 a0 := Tryz.isAgg0
 z0 := Tryz.sizeOf0
 v0 := Tryz.zeroValue0
 t3 := Tryz.underlying3
 a3 := Tryz.isAgg3
 z3 := Tryz.sizeOf3
 v3 := Tryz.zeroValue3
 t4 := Tryz.underlying4
 a4 := Tryz.isAgg4
 z4 := Tryz.sizeOf4
 v4 := Tryz.zeroValue4
 t5 := Tryz.underlying5
 a5 := Tryz.isAgg5
 z5 := Tryz.sizeOf5
 v5 := Tryz.zeroValue5
 t9 := Tryz.underlying9
 a9 := Tryz.isAgg9
 z9 := Tryz.sizeOf9
 v9 := Tryz.zeroValue9
 t37 := Tryz.underlying53
 a37 := Tryz.isAgg53
 z37 := Tryz.sizeOf53
 v37 := Tryz.zeroValue53
 t51 := Tryz.underlying136
 a51 := Tryz.isAgg136
 z51 := Tryz.sizeOf136
 v51 := Tryz.zeroValue136
 t53 := Tryz.underlying127
 a53 := Tryz.isAgg127
 z53 := Tryz.sizeOf127
 v53 := Tryz.zeroValue127 }
open Go.RowKit Go.Sort Go.Lib in
theorem Tryz.internal_strconv_formatBase10 (blk off cap : Nat) (u : Nat) (d : Array UInt8) (w : World) (hH : Holds (fun (b : UInt8) => Value.int .u8 (b.toNat : Int)) w blk off d) (hu : u < 10 ^ d.size) (hu64 : u < 18446744073709551616) (hsz : d.size < 4611686018427387904) :
 Calls Tryz.prog 113 #[.slice (some ⟨blk, off, none⟩) d.size cap, .int .u64 u] w fun e w' =>
  e = .returned (.tuple #[]) ∧ ∃ (n v' : Nat) (dk : Array UInt8), w' = (putRow (fun (b : UInt8) => Value.int .u8 (b.toNat : Int)) w blk off dk).drewN n ∧ FmtInv d.size u 0 v' dk := Any.internal_strconv_formatBase10 Tryz.lays285 blk off cap u d w hH hu hu64 hsz
def Tryz.laysM246_ren : Go.Shelf.Ren := ⟨fun | 246 => 105 | 283 => 111 | 284 => 112 | 285 => 113 | 286 => 114 | 129 => 120 | 317 => 119 | 318 => 121 | 319 => 122 | 320 => 123 | 337 => 130 | 338 => 131 | n => n, fun | 2 => 2 | 3 => 3 | 9 => 9 | 4 => 4 | 171 => 126 | 0 => 0 | 53 => 127 | 37 => 53 | 5 => 5 | 173 => 130 | 212 => 135 | 51 => 136 | 20 => 20 | 213 => 137 | 46 => 139 | 232 => 154 | 233 => 155 | n => n, fun | 17 => 1 | 18 => 5 | 19 => 6 | n => n⟩
theorem Tryz.laysM246 : Go.Proofs.LaysM.n246 Tryz.prog Tryz.laysM246_ren := {
 mixed := by kernel_rfl
 f129 := Tryz.func120.trans (congrArg some (by kernel_rfl))
 f246 := Tryz.func105.trans (congrArg some (by kernel_rfl))
 f283 := Tryz.func111.trans (congrArg some (by kernel_rfl))
 f284 := Tryz.func112.trans (congrArg some (by kernel_rfl))
 f285 := Tryz.func113.trans (congrArg some (by kernel_rfl))
 f286 := Tryz.func114.trans (congrArg some (by kernel_rfl))
 f317 := Tryz.func119.trans (congrArg some (by kernel_rfl))
 f318 := Tryz.func121.trans (congrArg some (by kernel_rfl))
 f319 := Tryz.func122.trans (congrArg some (by kernel_rfl))
 f320 := Tryz.func123.trans (congrArg some (by kernel_rfl))
 f337 := Tryz.func130.trans (congrArg some (by kernel_rfl))
 f338 := Tryz.func131.trans (congrArg some (by kernel_rfl))
 t0 := Tryz.underlying0
 a0 := Tryz.isAgg0
 z0 := Tryz.sizeOf0
 v0 := Tryz.zeroValue0
 t2 := Tryz.underlying2
 a2 := Tryz.isAgg2
 z2 := Tryz.sizeOf2
 v2 := Tryz.zeroValue2
 t3 := Tryz.underlying3
 a3 := Tryz.isAgg3
 z3 := Tryz.sizeOf3
 v3 := Tryz.zeroValue3
 t4 := Tryz.underlying4
 a4 := Tryz.isAgg4
 z4 := Tryz.sizeOf4
 v4 := Tryz.zeroValue4
 t5 := Tryz.underlying5
 a5 := Tryz.isAgg5
 z5 := Tryz.sizeOf5
 v5 := Tryz.zeroValue5
 t9 := Tryz.underlying9
 a9 := Tryz.isAgg9
 z9 := Tryz.sizeOf9
 v9 := Tryz.zeroValue9
 t20 := Tryz.underlying20
 a20 := Tryz.isAgg20
 z20 := Tryz.sizeOf20
 v20 := Tryz.zeroValue20
 t37 := Tryz.underlying53
 a37 := Tryz.isAgg53
 z37 := Tryz.sizeOf53
 v37 := Tryz.zeroValue53
 t46 := Tryz.underlying139
 a46 := Tryz.isAgg139
 z46 := Tryz.sizeOf139
 v46 := Tryz.zeroValue139
 t51 := Tryz.underlying136
 a51 := Tryz.isAgg136
 z51 := Tryz.sizeOf136
 v51 := Tryz.zeroValue136
 t53 := Tryz.underlying127
 a53 := Tryz.isAgg127
 z53 := Tryz.sizeOf127
 v53 := Tryz.zeroValue127
 t171 := Tryz.underlying126
 a171 := Tryz.isAgg126
 z171 := Tryz.sizeOf126
 v171 := Tryz.zeroValue126
 t173 := Tryz.underlying130
 a173 := Tryz.isAgg130
 z173 := Tryz.sizeOf130
 v173 := Tryz.zeroValue130
 t212 := Tryz.underlying135
 a212 := Tryz.isAgg135
 z212 := Tryz.sizeOf135
 v212 := Tryz.zeroValue135
 t213 := Tryz.underlying137
 a213 := Tryz.isAgg137
 z213 := Tryz.sizeOf137
 t232 := Tryz.underlying154
 a232 := Tryz.isAgg154
 z232 := Tryz.sizeOf154
 v232 := Tryz.zeroValue154
 t233 := Tryz.underlying155
 a233 := Tryz.isAgg155
 z233 := Tryz.sizeOf155
 v233 := Tryz.zeroValue155
 g17 := by kernel_rfl
 g18 := by kernel_rfl
 g19 := by kernel_rfl
 i0 := by kernel_rfl
 i2 := by kernel_rfl
 i3 := by kernel_rfl
 i4 := by kernel_rfl
 i5 := by kernel_rfl
 i9 := by kernel_rfl
 i20 := by kernel_rfl
 i37 := by kernel_rfl
 i46 := by kernel_rfl
 i51 := by kernel_rfl
 i53 := by kernel_rfl
 i171 := by kernel_rfl
 i173 := by kernel_rfl
 i212 := by kernel_rfl
 i232 := by kernel_rfl
 i233 := by kernel_rfl
 m17 := by kernel_rfl
 m18 := by kernel_rfl
 m19 := by kernel_rfl }
open Go.RowKit Go.Sort Go.Lib in
theorem Tryz.internal_strconv_FormatInt_10 (n : Int) (h0 : -9223372036854775808 ≤ n) (h1 : n ≤ 9223372036854775807) (w : World) (htab : Lib.TabIs Tryz.prog w "internal/strconv.uint64pow10" .u64 Lib.pow10Tab) :
 Calls Tryz.prog 105 #[.int .i64 n, .int .i64 10] w fun e w' => e = .returned (.string ⟨(Lib.itoa n).toArray⟩) ∧ ∃ k os, w' = grow (w.drewN k) os := Any.internal_strconv_FormatInt_10 Tryz.laysM246 n h0 h1 w htab
def Tryz.lays246_ren : Go.Shelf.Ren := ⟨fun | 246 => 105 | 283 => 111 | 284 => 112 | 285 => 113 | 286 => 114 | 129 => 120 | 317 => 119 | 318 => 121 | 319 => 122 | 320 => 123 | 337 => 130 | 338 => 131 | n => n, fun | 2 => 2 | 3 => 3 | 9 => 9 | 4 => 4 | 171 => 126 | 0 => 0 | 53 => 127 | 37 => 53 | 5 => 5 | 173 => 130 | 212 => 135 | 51 => 136 | 20 => 20 | 213 => 137 | 46 => 139 | 232 => 154 | 233 => 155 | n => n, fun | 17 => 1 | 18 => 5 | 19 => 6 | n => n⟩
theorem Tryz.lays246 : Go.Proofs.Lays.n246 Tryz.prog Tryz.lays246_ren := {
 mixed := by kernel_rfl
 f129 := Tryz.func120.trans (congrArg some (by kernel_rfl))
 f246 := Tryz.func105.trans (congrArg some (by kernel_rfl))
 f283 := Tryz.func111.trans (congrArg some (by kernel_rfl))
 f284 := Tryz.func112.trans (congrArg some (by kernel_rfl))
 f285 := Tryz.func113.trans (congrArg some (by kernel_rfl))
 f286 := Tryz.func114.trans (congrArg some (by kernel_rfl))
 f317 := Tryz.func119.trans (congrArg some (by kernel_rfl))
 f318 := Tryz.func121.trans (congrArg some (by kernel_rfl))
 f319 := Tryz.func122.trans (congrArg some (by kernel_rfl))
 f320 := Tryz.func123.trans (congrArg some (by kernel_rfl))
 f337 := Tryz.func130.trans (congrArg some (by kernel_rfl))
 f338 := Tryz.func131.trans (congrArg some (by kernel_rfl))
 t0 := Tryz.underlying0
 a0 := Tryz.isAgg0
 z0 := Tryz.sizeOf0
 v0 := Tryz.zeroValue0
 t2 := Tryz.underlying2
 a2 := Tryz.isAgg2
 z2 := Tryz.sizeOf2
 v2 := Tryz.zeroValue2
 t3 := Tryz.underlying3
 a3 := Tryz.isAgg3
 z3 := Tryz.sizeOf3
 v3 := Tryz.zeroValue3
 t4 := Tryz.underlying4
 a4 := Tryz.isAgg4
 z4 := Tryz.sizeOf4
 v4 := Tryz.zeroValue4
 t5 := Tryz.underlying5
 a5 := Tryz.isAgg5
 z5 := Tryz.sizeOf5
 v5 := Tryz.zeroValue5
 t9 := Tryz.underlying9
 a9 := Tryz.isAgg9
 z9 := Tryz.sizeOf9
 v9 := Tryz.zeroValue9
 t20 := Tryz.underlying20
 a20 := Tryz.isAgg20
 z20 := Tryz.sizeOf20
 v20 := Tryz.zeroValue20
 t37 := Tryz.underlying53
 a37 := Tryz.isAgg53
 z37 := Tryz.sizeOf53
 v37 := Tryz.zeroValue53
 t46 := Tryz.underlying139
 a46 := Tryz.isAgg139
 z46 := Tryz.sizeOf139
 v46 := Tryz.zeroValue139
 t51 := Tryz.underlying136
 a51 := Tryz.isAgg136
 z51 := Tryz.sizeOf136
 v51 := Tryz.zeroValue136
 t53 := Tryz.underlying127
 a53 := Tryz.isAgg127
 z53 := Tryz.sizeOf127
 v53 := Tryz.zeroValue127
 t171 := Tryz.underlying126
 a171 := Tryz.isAgg126
 z171 := Tryz.sizeOf126
 v171 := Tryz.zeroValue126
 t173 := Tryz.underlying130
 a173 := Tryz.isAgg130
 z173 := Tryz.sizeOf130
 v173 := Tryz.zeroValue130
 t212 := Tryz.underlying135
 a212 := Tryz.isAgg135
 z212 := Tryz.sizeOf135
 v212 := Tryz.zeroValue135
 t213 := Tryz.underlying137
 a213 := Tryz.isAgg137
 z213 := Tryz.sizeOf137
 t232 := Tryz.underlying154
 a232 := Tryz.isAgg154
 z232 := Tryz.sizeOf154
 v232 := Tryz.zeroValue154
 t233 := Tryz.underlying155
 a233 := Tryz.isAgg155
 z233 := Tryz.sizeOf155
 v233 := Tryz.zeroValue155
 g17 := by kernel_rfl
 g18 := by kernel_rfl
 g19 := by kernel_rfl }
open Go.RowKit Go.Sort Go.Lib in
theorem Tryz.internal_strconv_FormatInt_10_small (i : Nat) (hi : i < 100) (w : World) :
 Calls Tryz.prog 105 #[.int .i64 i, .int .i64 10] w fun e w' => e = .returned (.string ⟨(Lib.decDigits i).toArray⟩) ∧ w' = w := Any.internal_strconv_FormatInt_10_small Tryz.lays246 i hi w
def Tryz.laysM243_ren : Go.Shelf.Ren := ⟨fun | 243 => 83 | 246 => 105 | 283 => 111 | 284 => 112 | 285 => 113 | 286 => 114 | 129 => 120 | 317 => 119 | 318 => 121 | 319 => 122 | 320 => 123 | 337 => 130 | 338 => 131 | n => n, fun | 3 => 3 | 9 => 9 | 2 => 2 | 4 => 4 | 171 => 126 | 0 => 0 | 53 => 127 | 37 => 53 | 5 => 5 | 173 => 130 | 212 => 135 | 51 => 136 | 20 => 20 | 213 => 137 | 46 => 139 | 232 => 154 | 233 => 155 | n => n, fun | 17 => 1 | 18 => 5 | 19 => 6 | n => n⟩
theorem Tryz.laysM243 : Go.Proofs.LaysM.n243 Tryz.prog Tryz.laysM243_ren := {
 mixed := by kernel_rfl
 f129 := Tryz.func120.trans (congrArg some (by kernel_rfl))
 f243 := Tryz.func83.trans (congrArg some (by kernel_rfl))
 f246 := Tryz.func105.trans (congrArg some (by kernel_rfl))
 f283 := Tryz.func111.trans (congrArg some (by kernel_rfl))
 f284 := Tryz.func112.trans (congrArg some (by kernel_rfl))
 f285 := Tryz.func113.trans (congrArg some (by kernel_rfl))
 f286 := Tryz.func114.trans (congrArg some (by kernel_rfl))
 f317 := Tryz.func119.trans (congrArg some (by kernel_rfl))
 f318 := Tryz.func121.trans (congrArg some (by kernel_rfl))
 f319 := Tryz.func122.trans (congrArg some (by kernel_rfl))
 f320 := Tryz.func123.trans (congrArg some (by kernel_rfl))
 f337 := Tryz.func130.trans (congrArg some (by kernel_rfl))
 f338 := Tryz.func131.trans (congrArg some (by kernel_rfl))
 t0 := Tryz.underlying0
 a0 := Tryz.isAgg0
 z0 := Tryz.sizeOf0
 v0 := Tryz.zeroValue0
 t2 := Tryz.underlying2
 a2 := Tryz.isAgg2
 z2 := Tryz.sizeOf2
 v2 := Tryz.zeroValue2
 t3 := Tryz.underlying3
 a3 := Tryz.isAgg3
 z3 := Tryz.sizeOf3
 v3 := Tryz.zeroValue3
 t4 := Tryz.underlying4
 a4 := Tryz.isAgg4
 z4 := Tryz.sizeOf4
 v4 := Tryz.zeroValue4
 t5 := Tryz.underlying5
 a5 := Tryz.isAgg5
 z5 := Tryz.sizeOf5
 v5 := Tryz.zeroValue5
 t9 := Tryz.underlying9
 a9 := Tryz.isAgg9
 z9 := Tryz.sizeOf9
 v9 := Tryz.zeroValue9
 t20 := Tryz.underlying20
 a20 := Tryz.isAgg20
 z20 := Tryz.sizeOf20
 v20 := Tryz.zeroValue20
 t37 := Tryz.underlying53
 a37 := Tryz.isAgg53
 z37 := Tryz.sizeOf53
 v37 := Tryz.zeroValue53
 t46 := Tryz.underlying139
 a46 := Tryz.isAgg139
 z46 := Tryz.sizeOf139
 v46 := Tryz.zeroValue139
 t51 := Tryz.underlying136
 a51 := Tryz.isAgg136
 z51 := Tryz.sizeOf136
 v51 := Tryz.zeroValue136
 t53 := Tryz.underlying127
 a53 := Tryz.isAgg127
 z53 := Tryz.sizeOf127
 v53 := Tryz.zeroValue127
 t171 := Tryz.underlying126
 a171 := Tryz.isAgg126
 z171 := Tryz.sizeOf126
 v171 := Tryz.zeroValue126
 t173 := Tryz.underlying130
 a173 := Tryz.isAgg130
 z173 := Tryz.sizeOf130
 v173 := Tryz.zeroValue130
 t212 := Tryz.underlying135
 a212 := Tryz.isAgg135
 z212 := Tryz.sizeOf135
 v212 := Tryz.zeroValue135
 t213 := Tryz.underlying137
 a213 := Tryz.isAgg137
 z213 := Tryz.sizeOf137
 t232 := Tryz.underlying154
 a232 := Tryz.isAgg154
 z232 := Tryz.sizeOf154
 v232 := Tryz.zeroValue154
 t233 := Tryz.underlying155
 a233 := Tryz.isAgg155
 z233 := Tryz.sizeOf155
 v233 := Tryz.zeroValue155
 g17 := by kernel_rfl
 g18 := by kernel_rfl
 g19 := by kernel_rfl
 i0 := by kernel_rfl
 i2 := by kernel_rfl
 i3 := by kernel_rfl
 i4 := by kernel_rfl
 i5 := by kernel_rfl
 i9 := by kernel_rfl
 i20 := by kernel_rfl
 i37 := by kernel_rfl
 i46 := by kernel_rfl
 i51 := by kernel_rfl
 i53 := by kernel_rfl
 i171 := by kernel_rfl
 i173 := by kernel_rfl
 i212 := by kernel_rfl
 i232 := by kernel_rfl
 i233 := by kernel_rfl
 m17 := by kernel_rfl
 m18 := by kernel_rfl
 m19 := by kernel_rfl }
open Go.RowKit Go.Sort Go.Lib in
theorem Tryz.internal_strconv_Itoa (n : Int) (h0 : -9223372036854775808 ≤ n) (h1 : n ≤ 9223372036854775807) (w : World) (htab : Lib.TabIs Tryz.prog w "internal/strconv.uint64pow10" .u64 Lib.pow10Tab) :
 Calls Tryz.prog 83 #[.int .i64 n] w fun e w' => e = .returned (.string ⟨(Lib.itoa n).toArray⟩) ∧ ∃ k os, w' = grow (w.drewN k) os := Any.internal_strconv_Itoa Tryz.laysM243 n h0 h1 w htab
def Tryz.lays243_ren : Go.Shelf.Ren := ⟨fun | 243 => 83 | 246 => 105 | 283 => 111 | 284 => 112 | 285 => 113 | 286 => 114 | 129 => 120 | 317 => 119 | 318 => 121 | 319 => 122 | 320 => 123 | 337 => 130 | 338 => 131 | n => n, fun | 3 => 3 | 9 => 9 | 2 => 2 | 4 => 4 | 171 => 126 | 0 => 0 | 53 => 127 | 37 => 53 | 5 => 5 | 173 => 130 | 212 => 135 | 51 => 136 | 20 => 20 | 213 => 137 | 46 => 139 | 232 => 154 | 233 => 155 | n => n, fun | 17 => 1 | 18 => 5 | 19 => 6 | n => n⟩
theorem Tryz.lays243 : Go.Proofs.Lays.n243 Tryz.prog Tryz.lays243_ren := {
 mixed := by kernel_rfl
 f129 := Tryz.func120.trans (congrArg some (by kernel_rfl))
 f243 := Tryz.func83.trans (congrArg some (by kernel_rfl))
 f246 := Tryz.func105.trans (congrArg some (by kernel_rfl))
 f283 := Tryz.func111.trans (congrArg some (by kernel_rfl))
 f284 := Tryz.func112.trans (congrArg some (by kernel_rfl))
 f285 := Tryz.func113.trans (congrArg some (by kernel_rfl))
 f286 := Tryz.func114.trans (congrArg some (by kernel_rfl))
 f317 := Tryz.func119.trans (congrArg some (by kernel_rfl))
 f318 := Tryz.func121.trans (congrArg some (by kernel_rfl))
 f319 := Tryz.func122.trans (congrArg some (by kernel_rfl))
 f320 := Tryz.func123.trans (congrArg some (by kernel_rfl))
 f337 := Tryz.func130.trans (congrArg some (by kernel_rfl))
 f338 := Tryz.func131.trans (congrArg some (by kernel_rfl))
 t0 := Tryz.underlying0
 a0 := Tryz.isAgg0
 z0 := Tryz.sizeOf0
 v0 := Tryz.zeroValue0
 t2 := Tryz.underlying2
 a2 := Tryz.isAgg2
 z2 := Tryz.sizeOf2
 v2 := Tryz.zeroValue2
 t3 := Tryz.underlying3
 a3 := Tryz.isAgg3
 z3 := Tryz.sizeOf3
 v3 := Tryz.zeroValue3
 t4 := Tryz.underlying4
 a4 := Tryz.isAgg4
 z4 := Tryz.sizeOf4
 v4 := Tryz.zeroValue4
 t5 := Tryz.underlying5
 a5 := Tryz.isAgg5
 z5 := Tryz.sizeOf5
 v5 := Tryz.zeroValue5
 t9 := Tryz.underlying9
 a9 := Tryz.isAgg9
 z9 := Tryz.sizeOf9
 v9 := Tryz.zeroValue9
 t20 := Tryz.underlying20
 a20 := Tryz.isAgg20
 z20 := Tryz.sizeOf20
 v20 := Tryz.zeroValue20
 t37 := Tryz.underlying53
 a37 := Tryz.isAgg53
 z37 := Tryz.sizeOf53
 v37 := Tryz.zeroValue53
 t46 := Tryz.underlying139
 a46 := Tryz.isAgg139
 z46 := Tryz.sizeOf139
 v46 := Tryz.zeroValue139
 t51 := Tryz.underlying136
 a51 := Tryz.isAgg136
 z51 := Tryz.sizeOf136
 v51 := Tryz.zeroValue136
 t53 := Tryz.underlying127
 a53 := Tryz.isAgg127
 z53 := Tryz.sizeOf127
 v53 := Tryz.zeroValue127
 t171 := Tryz.underlying126
 a171 := Tryz.isAgg126
 z171 := Tryz.sizeOf126
 v171 := Tryz.zeroValue126
 t173 := Tryz.underlying130
 a173 := Tryz.isAgg130
 z173 := Tryz.sizeOf130
 v173 := Tryz.zeroValue130
 t212 := Tryz.underlying135
 a212 := Tryz.isAgg135
 z212 := Tryz.sizeOf135
 v212 := Tryz.zeroValue135
 t213 := Tryz.underlying137
 a213 := Tryz.isAgg137
 z213 := Tryz.sizeOf137
 t232 := Tryz.underlying154
 a232 := Tryz.isAgg154
 z232 := Tryz.sizeOf154
 v232 := Tryz.zeroValue154
 t233 := Tryz.underlying155
 a233 := Tryz.isAgg155
 z233 := Tryz.sizeOf155
 v233 := Tryz.zeroValue155
 g17 := by kernel_rfl
 g18 := by kernel_rfl
 g19 := by kernel_rfl }
open Go.RowKit Go.Sort Go.Lib in
theorem Tryz.internal_strconv_Itoa_small (i : Nat) (hi : i < 100) (w : World) :
 Calls Tryz.prog 83 #[.int .i64 i] w fun e w' => e = .returned (.string ⟨(Lib.decDigits i).toArray⟩) ∧ w' = w := Any.internal_strconv_Itoa_small Tryz.lays243 i hi w
def Tryz.laysM171_ren : Go.Shelf.Ren := ⟨fun | 171 => 51 | 243 => 83 | 246 => 105 | 283 => 111 | 284 => 112 | 285 => 113 | 286 => 114 | 129 => 120 | 317 => 119 | 318 => 121 | 319 => 122 | 320 => 123 | 337 => 130 | 338 => 131 | n => n, fun | 3 => 3 | 9 => 9 | 2 => 2 | 4 => 4 | 171 => 126 | 0 => 0 | 53 => 127 | 37 => 53 | 5 => 5 | 173 => 130 | 212 => 135 | 51 => 136 | 20 => 20 | 213 => 137 | 46 => 139 | 232 => 154 | 233 => 155 | n => n, fun | 17 => 1 | 18 => 5 | 19 => 6 | n => n⟩
theorem Tryz.laysM171 : Go.Proofs.LaysM.n171 Tryz.prog Tryz.laysM171_ren := {
 mixed := by kernel_rfl
 f129 := Tryz.func120.trans (congrArg some (by kernel_rfl))
 f171 := Tryz.func51.trans (congrArg some (by kernel_rfl))
 f243 := Tryz.func83.trans (congrArg some (by kernel_rfl))
 f246 := Tryz.func105.trans (congrArg some (by kernel_rfl))
 f283 := Tryz.func111.trans (congrArg some (by kernel_rfl))
 f284 := Tryz.func112.trans (congrArg some (by kernel_rfl))
 f285 := Tryz.func113.trans (congrArg some (by kernel_rfl))
 f286 := Tryz.func114.trans (congrArg some (by kernel_rfl))
 f317 := Tryz.func119.trans (congrArg some (by kernel_rfl))
 f318 := Tryz.func121.trans (congrArg some (by kernel_rfl))
 f319 := Tryz.func122.trans (congrArg some (by kernel_rfl))
 f320 := Tryz.func123.trans (congrArg some (by kernel_rfl))
 f337 := Tryz.func130.trans (congrArg some (by kernel_rfl))
 f338 := Tryz.func131.trans (congrArg some (by kernel_rfl))
 t0 := Tryz.underlying0
 a0 := Tryz.isAgg0
 z0 := Tryz.sizeOf0
 v0 := Tryz.zeroValue0
 t2 := Tryz.underlying2
 a2 := Tryz.isAgg2
 z2 := Tryz.sizeOf2
 v2 := Tryz.zeroValue2
 t3 := Tryz.underlying3
 a3 := Tryz.isAgg3
 z3 := Tryz.sizeOf3
 v3 := Tryz.zeroValue3
 t4 := Tryz.underlying4
 a4 := Tryz.isAgg4
 z4 := Tryz.sizeOf4
 v4 := Tryz.zeroValue4
 t5 := Tryz.underlying5
 a5 := Tryz.isAgg5
 z5 := Tryz.sizeOf5
 v5 := Tryz.zeroValue5
 t9 := Tryz.underlying9
 a9 := Tryz.isAgg9
 z9 := Tryz.sizeOf9
 v9 := Tryz.zeroValue9
 t20 := Tryz.underlying20
 a20 := Tryz.isAgg20
 z20 := Tryz.sizeOf20
 v20 := Tryz.zeroValue20
 t37 := Tryz.underlying53
 a37 := Tryz.isAgg53
 z37 := Tryz.sizeOf53
 v37 := Tryz.zeroValue53
 t46 := Tryz.underlying139
 a46 := Tryz.isAgg139
 z46 := Tryz.sizeOf139
 v46 := Tryz.zeroValue139
 t51 := Tryz.underlying136
 a51 := Tryz.isAgg136
 z51 := Tryz.sizeOf136
 v51 := Tryz.zeroValue136
 t53 := Tryz.underlying127
 a53 := Tryz.isAgg127
 z53 := Tryz.sizeOf127
 v53 := Tryz.zeroValue127
 t171 := Tryz.underlying126
 a171 := Tryz.isAgg126
 z171 := Tryz.sizeOf126
 v171 := Tryz.zeroValue126
 t173 := Tryz.underlying130
 a173 := Tryz.isAgg130
 z173 := Tryz.sizeOf130
 v173 := Tryz.zeroValue130
 t212 := Tryz.underlying135
 a212 := Tryz.isAgg135
 z212 := Tryz.sizeOf135
 v212 := Tryz.zeroValue135
 t213 := Tryz.underlying137
 a213 := Tryz.isAgg137
 z213 := Tryz.sizeOf137
 t232 := Tryz.underlying154
 a232 := Tryz.isAgg154
 z232 := Tryz.sizeOf154
 v232 := Tryz.zeroValue154
 t233 := Tryz.underlying155
 a233 := Tryz.isAgg155
 z233 := Tryz.sizeOf155
 v233 := Tryz.zeroValue155
 g17 := by kernel_rfl
 g18 := by kernel_rfl
 g19 := by kernel_rfl
 i0 := by kernel_rfl
 i2 := by kernel_rfl
 i3 := by kernel_rfl
 i4 := by kernel_rfl
 i5 := by kernel_rfl
 i9 := by kernel_rfl
 i20 := by kernel_rfl
 i37 := by kernel_rfl
 i46 := by kernel_rfl
 i51 := by kernel_rfl
 i53 := by kernel_rfl
 i171 := by kernel_rfl
 i173 := by kernel_rfl
 i212 := by kernel_rfl
 i232 := by kernel_rfl
 i233 := by kernel_rfl
 m17 := by kernel_rfl
 m18 := by kernel_rfl
 m19 := by kernel_rfl }
open Go.RowKit Go.Sort Go.Lib in
theorem Tryz.strconv_Itoa (n : Int) (h0 : -9223372036854775808 ≤ n) (h1 : n ≤ 9223372036854775807) (w : World) (htab : Lib.TabIs Tryz.prog w "internal/strconv.uint64pow10" .u64 Lib.pow10Tab) :
 Calls Tryz.prog 51 #[.int .i64 n] w fun e w' => e = .returned (.string ⟨(Lib.itoa n).toArray⟩) ∧ ∃ k os, w' = grow (w.drewN k) os := Any.strconv_Itoa Tryz.laysM171 n h0 h1 w htab
def Tryz.lays171_ren : Go.Shelf.Ren := ⟨fun | 171 => 51 | 243 => 83 | 246 => 105 | 283 => 111 | 284 => 112 | 285 => 113 | 286 => 114 | 129 => 120 | 317 => 119 | 318 => 121 | 319 => 122 | 320 => 123 | 337 => 130 | 338 => 131 | n => n, fun | 3 => 3 | 9 => 9 | 2 => 2 | 4 => 4 | 171 => 126 | 0 => 0 | 53 => 127 | 37 => 53 | 5 => 5 | 173 => 130 | 212 => 135 | 51 => 136 | 20 => 20 | 213 => 137 | 46 => 139 | 232 => 154 | 233 => 155 | n => n, fun | 17 => 1 | 18 => 5 | 19 => 6 | n => n⟩
theorem Tryz.lays171 : Go.Proofs.Lays.n171 Tryz.prog Tryz.lays171_ren := {
 mixed := by kernel_rfl
 f129 := Tryz.func120.trans (congrArg some (by kernel_rfl))
 f171 := Tryz.func51.trans (congrArg some (by kernel_rfl))
 f243 := Tryz.func83.trans (congrArg some (by kernel_rfl))
 f246 := Tryz.func105.trans (congrArg some (by kernel_rfl))
 f283 := Tryz.func111.trans (congrArg some (by kernel_rfl))
 f284 := Tryz.func112.trans (congrArg some (by kernel_rfl))
 f285 := Tryz.func113.trans (congrArg some (by kernel_rfl))
 f286 := Tryz.func114.trans (congrArg some (by kernel_rfl))
 f317 := Tryz.func119.trans (congrArg some (by kernel_rfl))
 f318 := Tryz.func121.trans (congrArg some (by kernel_rfl))
 f319 := Tryz.func122.trans (congrArg some (by kernel_rfl))
 f320 := Tryz.func123.trans (congrArg some (by kernel_rfl))
 f337 := Tryz.func130.trans (congrArg some (by kernel_rfl))
 f338 := Tryz.func131.trans (congrArg some (by kernel_rfl))
 t0 := Tryz.underlying0
 a0 := Tryz.isAgg0
 z0 := Tryz.sizeOf0
 v0 := Tryz.zeroValue0
 t2 := Tryz.underlying2
 a2 := Tryz.isAgg2
 z2 := Tryz.sizeOf2
 v2 := Tryz.zeroValue2
 t3 := Tryz.underlying3
 a3 := Tryz.isAgg3
 z3 := Tryz.sizeOf3
 v3 := Tryz.zeroValue3
 t4 := Tryz.underlying4
 a4 := Tryz.isAgg4
 z4 := Tryz.sizeOf4
 v4 := Tryz.zeroValue4
 t5 := Tryz.underlying5
 a5 := Tryz.isAgg5
 z5 := Tryz.sizeOf5
 v5 := Tryz.zeroValue5
 t9 := Tryz.underlying9
 a9 := Tryz.isAgg9
 z9 := Tryz.sizeOf9
 v9 := Tryz.zeroValue9
 t20 := Tryz.underlying20
 a20 := Tryz.isAgg20
 z20 := Tryz.sizeOf20
 v20 := Tryz.zeroValue20
 t37 := Tryz.underlying53
 a37 := Tryz.isAgg53
 z37 := Tryz.sizeOf53
 v37 := Tryz.zeroValue53
 t46 := Tryz.underlying139
 a46 := Tryz.isAgg139
 z46 := Tryz.sizeOf139
 v46 := Tryz.zeroValue139
 t51 := Tryz.underlying136
 a51 := Tryz.isAgg136
 z51 := Tryz.sizeOf136
 v51 := Tryz.zeroValue136
 t53 := Tryz.underlying127
 a53 := Tryz.isAgg127
 z53 := Tryz.sizeOf127
 v53 := Tryz.zeroValue127
 t171 := Tryz.underlying126
 a171 := Tryz.isAgg126
 z171 := Tryz.sizeOf126
 v171 := Tryz.zeroValue126
 t173 := Tryz.underlying130
 a173 := Tryz.isAgg130
 z173 := Tryz.sizeOf130
 v173 := Tryz.zeroValue130
 t212 := Tryz.underlying135
 a212 := Tryz.isAgg135
 z212 := Tryz.sizeOf135
 v212 := Tryz.zeroValue135
 t213 := Tryz.underlying137
 a213 := Tryz.isAgg137
 z213 := Tryz.sizeOf137
 t232 := Tryz.underlying154
 a232 := Tryz.isAgg154
 z232 := Tryz.sizeOf154
 v232 := Tryz.zeroValue154
 t233 := Tryz.underlying155
 a233 := Tryz.isAgg155
 z233 := Tryz.sizeOf155
 v233 := Tryz.zeroValue155
 g17 := by kernel_rfl
 g18 := by kernel_rfl
 g19 := by kernel_rfl }
open Go.RowKit Go.Sort Go.Lib in
theorem Tryz.strconv_Itoa_small (i : Nat) (hi : i < 100) (w : World) :
 Calls Tryz.prog 51 #[.int .i64 i] w fun e w' => e = .returned (.string ⟨(Lib.decDigits i).toArray⟩) ∧ w' = w := Any.strconv_Itoa_small Tryz.lays171 i hi w
open Go.RowKit in
theorem Tryz.internal_strconv_Atoi_err (s : ByteArray) (hl0 : 1 ≤ s.size) (hl : s.size ≤ 18) (h : Lib.atoi s.data.toList = none) (w : World) :
 Calls Tryz.prog 117 #[.string s] w fun e w' => e = .returned (.tuple #[.int .i64 0, (.iface 141 (.int .i64 2))]) ∧ (w' = w ∨ ∃ t, w' = Lib.bytesWorld w 5 t) := Any.internal_strconv_Atoi_err Tryz.lays244 s hl0 hl h w
def Tryz.lays247_ren : Go.Shelf.Ren := ⟨fun | 247 => 125 | 287 => 132 | 321 => 135 | 322 => 136 | n => n, fun | 9 => 9 | 3 => 3 | 2 => 2 | 75 => 105 | 4 => 4 | 167 => 141 | 5 => 5 | 53 => 127 | 175 => 148 | 46 => 139 | 37 => 53 | 0 => 0 | 21 => 21 | 80 => 59 | n => n, fun | n => n⟩
theorem Tryz.lays247 : Go.Proofs.Lays.n247 Tryz.prog Tryz.lays247_ren := {
 mixed := by kernel_rfl
 f247 := Tryz.func125.trans (congrArg some (by kernel_rfl))
 f287 := Tryz.func132.trans (congrArg some (by kernel_rfl))
 f321 := Tryz.func135.trans (congrArg some (by kernel_rfl))
 f322 := Tryz.func136.trans (congrArg some (by kernel_rfl))
 t0 := Tryz.underlying0
 a0 := Tryz.isAgg0
 z0 := Tryz.sizeOf0
 v0 := Tryz.zeroValue0
 t2 := Tryz.underlying2
 a2 := Tryz.isAgg2
 z2 := Tryz.sizeOf2
 v2 := Tryz.zeroValue2
 t3 := Tryz.underlying3
 a3 := Tryz.isAgg3
 z3 := Tryz.sizeOf3
 v3 := Tryz.zeroValue3
 t4 := Tryz.underlying4
 a4 := Tryz.isAgg4
 z4 := Tryz.sizeOf4
 v4 := Tryz.zeroValue4
 t5 := Tryz.underlying5
 a5 := Tryz.isAgg5
 z5 := Tryz.sizeOf5
 v5 := Tryz.zeroValue5
 t9 := Tryz.underlying9
 a9 := Tryz.isAgg9
 z9 := Tryz.sizeOf9
 v9 := Tryz.zeroValue9
 t21 := Tryz.underlying21
 a21 := Tryz.isAgg21
 z21 := Tryz.sizeOf21
 v21 := Tryz.zeroValue21
 t37 := Tryz.underlying53
 a37 := Tryz.isAgg53
 z37 := Tryz.sizeOf53
 v37 := Tryz.zeroValue53
 t46 := Tryz.underlying139
 a46 := Tryz.isAgg139
 z46 := Tryz.sizeOf139
 v46 := Tryz.zeroValue139
 t53 := Tryz.underlying127
 a53 := Tryz.isAgg127
 z53 := Tryz.sizeOf127
 v53 := Tryz.zeroValue127
 t75 := Tryz.underlying105
 a75 := Tryz.isAgg105
 z75 := Tryz.sizeOf105
 v75 := Tryz.zeroValue105
 t167 := Tryz.underlying141
 a167 := Tryz.isAgg141
 z167 := Tryz.sizeOf141
 v167 := Tryz.zeroValue141
 t175 := Tryz.underlying148
 a175 := Tryz.isAgg148
 z175 := Tryz.sizeOf148
 v175 := Tryz.zeroValue148 }
open Go.RowKit in
theorem Tryz.internal_strconv_ParseInt_empty (base bits : Int) (w : World) :
 Calls Tryz.prog 125 #[.string ⟨#[]⟩, .int .i64 base, .int .i64 bits] w fun e w' => e = .returned (.tuple #[.int .i64 0, (.iface 141 (.int .i64 2))]) ∧ w' = w := Any.internal_strconv_ParseInt_empty Tryz.lays247 base bits w
open Go.RowKit in
theorem Tryz.internal_strconv_Atoi_empty (w : World) :
 Calls Tryz.prog 117 #[.string ⟨#[]⟩] w fun e w' => e = .returned (.tuple #[.int .i64 0, (.iface 141 (.int .i64 2))]) ∧ w' = w := Any.internal_strconv_Atoi_empty Tryz.lays244 w
open Go.RowKit in
theorem Tryz.internal_strconv_Atoi_fail (s : ByteArray) (hl : s.size ≤ 18) (h : Lib.atoi s.data.toList = none) (w : World) :
 Calls Tryz.prog 117 #[.string s] w fun e w' => e = .returned (.tuple #[.int .i64 0, (.iface 141 (.int .i64 2))]) ∧ (w' = w ∨ ∃ t, w' = Lib.bytesWorld w 5 t) := Any.internal_strconv_Atoi_fail Tryz.lays244 s hl h w
def Tryz.laysM316_ren : Go.Shelf.Ren := ⟨fun | 316 => 133 | n => n, fun | 9 => 9 | 3 => 3 | 4 => 4 | 37 => 53 | 0 => 0 | 127 => 89 | 5 => 5 | n => n, fun | n => n⟩
theorem Tryz.laysM316 : Go.Proofs.LaysM.n316 Tryz.prog Tryz.laysM316_ren := {
 mixed := by kernel_rfl
 f316 := Tryz.func133.trans (congrArg some (by kernel_rfl))
 t0 := Tryz.underlying0
 a0 := Tryz.isAgg0
 z0 := Tryz.sizeOf0
 v0 := Tryz.zeroValue0
 t3 := Tryz.underlying3
 a3 := Tryz.isAgg3
 z3 := Tryz.sizeOf3
 v3 := Tryz.zeroValue3
 t4 := Tryz.underlying4
 a4 := Tryz.isAgg4
 z4 := Tryz.sizeOf4
 v4 := Tryz.zeroValue4
 t9 := Tryz.underlying9
 a9 := Tryz.isAgg9
 z9 := Tryz.sizeOf9
 v9 := Tryz.zeroValue9
 t37 := Tryz.underlying53
 a37 := Tryz.isAgg53
 z37 := Tryz.sizeOf53
 v37 := Tryz.zeroValue53
 t127 := Tryz.underlying89
 a127 := Tryz.isAgg89
 z127 := Tryz.sizeOf89
 v127 := Tryz.zeroValue89
 t5 := Tryz.underlying5
 a5 := Tryz.isAgg5
 z5 := Tryz.sizeOf5
 v5 := Tryz.zeroValue5
 i0 := by kernel_rfl
 i3 := by kernel_rfl
 i4 := by kernel_rfl
 i5 := by kernel_rfl
 i9 := by kernel_rfl
 i37 := by kernel_rfl
 i127 := by kernel_rfl }
open Go.RowKit in
theorem Tryz.stringslite_Clone (s : ByteArray) (w : World) (hlim : s.size ≤ 281474976710656) :
 Calls Tryz.prog 133 #[.string s] w fun e w' => e = .returned (.string s) ∧ Below w.heap.size w w' := Any.stringslite_Clone Tryz.laysM316 s w hlim
def Tryz.laysM279_ren : Go.Shelf.Ren := ⟨fun | 279 => 126 | 316 => 133 | n => n, fun | 9 => 9 | 168 => 144 | 75 => 105 | 210 => 152 | 3 => 3 | 4 => 4 | 37 => 53 | 0 => 0 | 127 => 89 | 80 => 59 | 5 => 5 | n => n, fun | 15 => 3 | n => n⟩
theorem Tryz.laysM279 : Go.Proofs.LaysM.n279 Tryz.prog Tryz.laysM279_ren := {
 mixed := by kernel_rfl
 f279 := Tryz.func126.trans (congrArg some (by kernel_rfl))
 f316 := Tryz.func133.trans (congrArg some (by kernel_rfl))
 t0 := Tryz.underlying0
 a0 := Tryz.isAgg0
 z0 := Tryz.sizeOf0
 v0 := Tryz.zeroValue0
 t3 := Tryz.underlying3
 a3 := Tryz.isAgg3
 z3 := Tryz.sizeOf3
 v3 := Tryz.zeroValue3
 t4 := Tryz.underlying4
 a4 := Tryz.isAgg4
 z4 := Tryz.sizeOf4
 v4 := Tryz.zeroValue4
 t9 := Tryz.underlying9
 a9 := Tryz.isAgg9
 z9 := Tryz.sizeOf9
 v9 := Tryz.zeroValue9
 t37 := Tryz.underlying53
 a37 := Tryz.isAgg53
 z37 := Tryz.sizeOf53
 v37 := Tryz.zeroValue53
 t75 := Tryz.underlying105
 a75 := Tryz.isAgg105
 z75 := Tryz.sizeOf105
 v75 := Tryz.zeroValue105
 t127 := Tryz.underlying89
 a127 := Tryz.isAgg89
 z127 := Tryz.sizeOf89
 v127 := Tryz.zeroValue89
 t168 := Tryz.underlying144
 a168 := Tryz.isAgg144
 z168 := Tryz.sizeOf144
 v168 := Tryz.zeroValue144
 t210 := Tryz.underlying152
 a210 := Tryz.isAgg152
 z210 := Tryz.sizeOf152
 v210 := Tryz.zeroValue152
 g15 := by kernel_rfl
 t5 := Tryz.underlying5
 a5 := Tryz.isAgg5
 z5 := Tryz.sizeOf5
 v5 := Tryz.zeroValue5
 t80 := Tryz.underlying59
 a80 := Tryz.isAgg59
 z80 := Tryz.sizeOf59
 v80 := Tryz.zeroValue59
 i0 := by kernel_rfl
 i3 := by kernel_rfl
 i4 := by kernel_rfl
 i5 := by kernel_rfl
 i9 := by kernel_rfl
 i37 := by kernel_rfl
 i75 := by kernel_rfl
 i80 := by kernel_rfl
 i127 := by kernel_rfl
 i168 := by kernel_rfl
 i210 := by kernel_rfl
 m15 := by kernel_rfl }
open Go.RowKit in
theorem Tryz.strconv_syntaxError (fn s : ByteArray) (ev : Value) (w : World) (hlim : s.size ≤ 281474976710656) (hv : w.cell? ⟨3, 0, none⟩ = some ev) (hev : ev = .nilIface ∨ ∃ te pe, ev = .iface te pe) :
 Calls Tryz.prog 126 #[.string fn, .string s] w fun e w' => ∃ N, e = .returned (.pointer (some ⟨N, 0, none⟩)) ∧ w.heap.size ≤ N ∧ w'.heap[N]? = some (.cells #[.string fn, .string s, ev] 152 (0, 0)) ∧ Below w.heap.size w w' := Any.strconv_syntaxError Tryz.laysM279 fn s ev w hlim hv hev
def Tryz.laysC245_ren : Go.Shelf.Ren := ⟨fun | 245 => 118 | 279 => 126 | 280 => 127 | 281 => 128 | 282 => 129 | 316 => 133 | 171 => 51 | 205 => 134 | 243 => 83 | 246 => 105 | 283 => 111 | 284 => 112 | 285 => 113 | 286 => 114 | 129 => 120 | 317 => 119 | 318 => 121 | 319 => 122 | 320 => 123 | 337 => 130 | 338 => 131 | n => n, fun | 9 => 9 | 3 => 3 | 75 => 105 | 167 => 141 | 4 => 4 | 168 => 144 | 210 => 152 | 37 => 53 | 0 => 0 | 127 => 89 | 145 => 159 | 143 => 157 | 2 => 2 | 171 => 126 | 53 => 127 | 5 => 5 | 173 => 130 | 212 => 135 | 51 => 136 | 20 => 20 | 213 => 137 | 46 => 139 | 232 => 154 | 233 => 155 | 80 => 59 | n => n, fun | 15 => 3 | 16 => 4 | 17 => 1 | 18 => 5 | 19 => 6 | n => n⟩
theorem Tryz.laysC245 : Go.Proofs.LaysC.n245 Tryz.prog Tryz.laysC245_ren := {
 mixed := by kernel_rfl
 f129 := Tryz.func120.trans (congrArg some (by kernel_rfl))
 f171 := Tryz.func51.trans (congrArg some (by kernel_rfl))
 f205 := Tryz.func134.trans (congrArg some (by kernel_rfl))
 f243 := Tryz.func83.trans (congrArg some (by kernel_rfl))
 f245 := Tryz.func118.trans (congrArg some (by kernel_rfl))
 f246 := Tryz.func105.trans (congrArg some (by kernel_rfl))
 f279 := Tryz.func126.trans (congrArg some (by kernel_rfl))
 f280 := Tryz.func127.trans (congrArg some (by kernel_rfl))
 f281 := Tryz.func128.trans (congrArg some (by kernel_rfl))
 f282 := Tryz.func129.trans (congrArg some (by kernel_rfl))
 f283 := Tryz.func111.trans (congrArg some (by kernel_rfl))
 f284 := Tryz.func112.trans (congrArg some (by kernel_rfl))
 f285 := Tryz.func113.trans (congrArg some (by kernel_rfl))
 f286 := Tryz.func114.trans (congrArg some (by kernel_rfl))
 f316 := Tryz.func133.trans (congrArg some (by kernel_rfl))
 f317 := Tryz.func119.trans (congrArg some (by kernel_rfl))
 f318 := Tryz.func121.trans (congrArg some (by kernel_rfl))
 f319 := Tryz.func122.trans (congrArg some (by kernel_rfl))
 f320 := Tryz.func123.trans (congrArg some (by kernel_rfl))
 f337 := Tryz.func130.trans (congrArg some (by kernel_rfl))
 f338 := Tryz.func131.trans (congrArg some (by kernel_rfl))
 t0 := Tryz.underlying0
 a0 := Tryz.isAgg0
 z0 := Tryz.sizeOf0
 v0 := Tryz.zeroValue0
 t2 := Tryz.underlying2
 a2 := Tryz.isAgg2
 z2 := Tryz.sizeOf2
 v2 := Tryz.zeroValue2
 t3 := Tryz.underlying3
 a3 := Tryz.isAgg3
 z3 := Tryz.sizeOf3
 v3 := Tryz.zeroValue3
 t4 := Tryz.underlying4
 a4 := Tryz.isAgg4
 z4 := Tryz.sizeOf4
 v4 := Tryz.zeroValue4
 t5 := Tryz.underlying5
 a5 := Tryz.isAgg5
 z5 := Tryz.sizeOf5
 v5 := Tryz.zeroValue5
 t9 := Tryz.underlying9
 a9 := Tryz.isAgg9
 z9 := Tryz.sizeOf9
 v9 := Tryz.zeroValue9
 t20 := Tryz.underlying20
 a20 := Tryz.isAgg20
 z20 := Tryz.sizeOf20
 v20 := Tryz.zeroValue20
 t37 := Tryz.underlying53
 a37 := Tryz.isAgg53
 z37 := Tryz.sizeOf53
 v37 := Tryz.zeroValue53
 t46 := Tryz.underlying139
 a46 := Tryz.isAgg139
 z46 := Tryz.sizeOf139
 v46 := Tryz.zeroValue139
 t51 := Tryz.underlying136
 a51 := Tryz.isAgg136
 z51 := Tryz.sizeOf136
 v51 := Tryz.zeroValue136
 t53 := Tryz.underlying127
 a53 := Tryz.isAgg127
 z53 := Tryz.sizeOf127
 v53 := Tryz.zeroValue127
 t75 := Tryz.underlying105
 a75 := Tryz.isAgg105
 z75 := Tryz.sizeOf105
 v75 := Tryz.zeroValue105
 t127 := Tryz.underlying89
 a127 := Tryz.isAgg89
 z127 := Tryz.sizeOf89
 v127 := Tryz.zeroValue89
 t143 := Tryz.underlying157
 a143 := Tryz.isAgg157
 z143 := Tryz.sizeOf157
 v143 := Tryz.zeroValue157
 t145 := Tryz.underlying159
 a145 := Tryz.isAgg159
 z145 := Tryz.sizeOf159
 v145 := Tryz.zeroValue159
 t167 := Tryz.underlying141
 a167 := Tryz.isAgg141
 z167 := Tryz.sizeOf141
 v167 := Tryz.zeroValue141
 t168 := Tryz.underlying144
 a168 := Tryz.isAgg144
 z168 := Tryz.sizeOf144
 v168 := Tryz.zeroValue144
 t171 := Tryz.underlying126
 a171 := Tryz.isAgg126
 z171 := Tryz.sizeOf126
 v171 := Tryz.zeroValue126
 t173 := Tryz.underlying130
 a173 := Tryz.isAgg130
 z173 := Tryz.sizeOf130
 v173 := Tryz.zeroValue130
 t210 := Tryz.underlying152
 a210 := Tryz.isAgg152
 z210 := Tryz.sizeOf152
 v210 := Tryz.zeroValue152
 t212 := Tryz.underlying135
 a212 := Tryz.isAgg135
 z212 := Tryz.sizeOf135
 v212 := Tryz.zeroValue135
 t213 := Tryz.underlying137
 a213 := Tryz.isAgg137
 z213 := Tryz.sizeOf137
 t232 := Tryz.underlying154
 a232 := Tryz.isAgg154
 z232 := Tryz.sizeOf154
 v232 := Tryz.zeroValue154
 t233 := Tryz.underlying155
 a233 := Tryz.isAgg155
 z233 := Tryz.sizeOf155
 v233 := Tryz.zeroValue155
 g15 := by kernel_rfl
 g16 := by kernel_rfl
 g17 := by kernel_rfl
 g18 := by kernel_rfl
 g19 := by kernel_rfl
 t80 := Tryz.underlying59
 a80 := Tryz.isAgg59
 z80 := Tryz.sizeOf59
 v80 := Tryz.zeroValue59
 i0 := by kernel_rfl
 i2 := by kernel_rfl
 i3 := by kernel_rfl
 i4 := by kernel_rfl
 i5 := by kernel_rfl
 i9 := by kernel_rfl
 i20 := by kernel_rfl
 i37 := by kernel_rfl
 i46 := by kernel_rfl
 i51 := by kernel_rfl
 i53 := by kernel_rfl
 i75 := by kernel_rfl
 i80 := by kernel_rfl
 i127 := by kernel_rfl
 i143 := by kernel_rfl
 i145 := by kernel_rfl
 i167 := by kernel_rfl
 i168 := by kernel_rfl
 i171 := by kernel_rfl
 i173 := by kernel_rfl
 i210 := by kernel_rfl
 i212 := by kernel_rfl
 i232 := by kernel_rfl
 i233 := by kernel_rfl
 m15 := by kernel_rfl
 m16 := by kernel_rfl
 m17 := by kernel_rfl
 m18 := by kernel_rfl
 m19 := by kernel_rfl
 c0 := by kernel_rfl
 c2 := by kernel_rfl
 c3 := by kernel_rfl
 c4 := by kernel_rfl
 c5 := by kernel_rfl
 c9 := by kernel_rfl
 c20 := by kernel_rfl
 c37 := by kernel_rfl
 c46 := by kernel_rfl
 c51 := by kernel_rfl
 c53 := by kernel_rfl
 c75 := by kernel_rfl
 c80 := by kernel_rfl
 c127 := by kernel_rfl
 c143 := by kernel_rfl
 c145 := by kernel_rfl
 c167 := by kernel_rfl
 c168 := by kernel_rfl
 c171 := by kernel_rfl
 c173 := by kernel_rfl
 c210 := by kernel_rfl
 c212 := by kernel_rfl
 c213 := by kernel_rfl
 c232 := by kernel_rfl
 c233 := by kernel_rfl }
open Go.RowKit in
theorem Tryz.strconv_toError_syntax (fn s : ByteArray) (base bits : Int) (ev : Value) (w : World) (hlim : s.size ≤ 281474976710656) (hv : w.cell? ⟨3, 0, none⟩ = some ev) (hev : ev = .nilIface ∨ ∃ te pe, ev = .iface te pe) :
 Calls Tryz.prog 118 #[.string fn, .string s, .int .i64 base, .int .i64 bits, .iface 141 (.int .i64 2)] w fun e w' => ∃ N, e = .returned (.iface 144 (.pointer (some ⟨N, 0, none⟩))) ∧ w.heap.size ≤ N ∧ w'.heap[N]? = some (.cells #[.string fn, .string s, ev] 152 (0, 0)) ∧ Below w.heap.size w w' := Any.strconv_toError_syntax Tryz.laysC245 fn s base bits ev w hlim hv hev
def Tryz.lays321_ren : Go.Shelf.Ren := ⟨fun | 321 => 135 | n => n, fun | 5 => 5 | n => n, fun | n => n⟩
theorem Tryz.lays321 : Go.Proofs.Lays.n321 Tryz.prog Tryz.lays321_ren := {
 mixed := by kernel_rfl
 f321 := Tryz.func135.trans (congrArg some (by kernel_rfl))
 t5 := Tryz.underlying5
 a5 := Tryz.isAgg5
 z5 := Tryz.sizeOf5
 v5 := Tryz.zeroValue5 }
open Go.RowKit in
theorem Tryz.internal_strconv_lower (c : Int) (w : World) :
 Calls Tryz.prog 135 #[.int .u8 c] w fun e w' => e = .returned (.int .u8 (bits .or .u8 c 32)) ∧ w' = w := Any.internal_strconv_lower Tryz.lays321 c w
def Tryz.lays287_ren : Go.Shelf.Ren := ⟨fun | 287 => 132 | 321 => 135 | 322 => 136 | n => n, fun | 9 => 9 | 3 => 3 | 53 => 127 | 75 => 105 | 4 => 4 | 167 => 141 | 5 => 5 | 46 => 139 | 37 => 53 | 0 => 0 | 21 => 21 | 80 => 59 | n => n, fun | n => n⟩
theorem Tryz.lays287 : Go.Proofs.Lays.n287 Tryz.prog Tryz.lays287_ren := {
 mixed := by kernel_rfl
 f287 := Tryz.func132.trans (congrArg some (by kernel_rfl))
 f321 := Tryz.func135.trans (congrArg some (by kernel_rfl))
 f322 := Tryz.func136.trans (congrArg some (by kernel_rfl))
 t0 := Tryz.underlying0
 a0 := Tryz.isAgg0
 z0 := Tryz.sizeOf0
 v0 := Tryz.zeroValue0
 t3 := Tryz.underlying3
 a3 := Tryz.isAgg3
 z3 := Tryz.sizeOf3
 v3 := Tryz.zeroValue3
 t4 := Tryz.underlying4
 a4 := Tryz.isAgg4
 z4 := Tryz.sizeOf4
 v4 := Tryz.zeroValue4
 t5 := Tryz.underlying5
 a5 := Tryz.isAgg5
 z5 := Tryz.sizeOf5
 v5 := Tryz.zeroValue5
 t9 := Tryz.underlying9
 a9 := Tryz.isAgg9
 z9 := Tryz.sizeOf9
 v9 := Tryz.zeroValue9
 t21 := Tryz.underlying21
 a21 := Tryz.isAgg21
 z21 := Tryz.sizeOf21
 v21 := Tryz.zeroValue21
 t37 := Tryz.underlying53
 a37 := Tryz.isAgg53
 z37 := Tryz.sizeOf53
 v37 := Tryz.zeroValue53
 t46 := Tryz.underlying139
 a46 := Tryz.isAgg139
 z46 := Tryz.sizeOf139
 v46 := Tryz.zeroValue139
 t53 := Tryz.underlying127
 a53 := Tryz.isAgg127
 z53 := Tryz.sizeOf127
 v53 := Tryz.zeroValue127
 t75 := Tryz.underlying105
 a75 := Tryz.isAgg105
 z75 := Tryz.sizeOf105
 v75 := Tryz.zeroValue105
 t167 := Tryz.underlying141
 a167 := Tryz.isAgg141
 z167 := Tryz.sizeOf141
 v167 := Tryz.zeroValue141 }
open Go.RowKit in
theorem Tryz.internal_strconv_ParseUint_10 (t : ByteArray) (hne : t.size ≠ 0) (hmax : t.size ≤ 9223372036854775806) (w : World) :
 Calls Tryz.prog 132 #[.string t, .int .i64 10, .int .i64 0] w fun e w' => e = .returned (Lib.uintTuple 141 (Lib.parseUint10 0 t.data.toList)) ∧ w' = Lib.bytesWorld w 5 t := Any.internal_strconv_ParseUint_10 Tryz.lays287 t hne hmax w
open Go.RowKit in
theorem Tryz.internal_strconv_ParseUint_10_empty (w : World) :
 Calls Tryz.prog 132 #[.string ⟨#[]⟩, .int .i64 10, .int .i64 0] w fun e w' => e = .returned (Lib.uintTuple 141 .syntax) ∧ w' = w := Any.internal_strconv_ParseUint_10_empty Tryz.lays287 w
open Go.RowKit in
theorem Tryz.internal_strconv_ParseUint_10_any (t : ByteArray) (hmax : t.size ≤ 9223372036854775806) (w : World) :
 Calls Tryz.prog 132 #[.string t, .int .i64 10, .int .i64 0] w fun e w' => e = .returned (Lib.uintTuple 141 (Lib.parseMag t.data.toList)) ∧ (w' = w ∨ w' = Lib.bytesWorld w 5 t) := Any.internal_strconv_ParseUint_10_any Tryz.lays287 t hmax w
def Tryz.laysC247_ren : Go.Shelf.Ren := ⟨fun | 247 => 125 | 287 => 132 | 321 => 135 | 322 => 136 | n => n, fun | 9 => 9 | 3 => 3 | 2 => 2 | 75 => 105 | 4 => 4 | 167 => 141 | 5 => 5 | 53 => 127 | 175 => 148 | 46 => 139 | 37 => 53 | 0 => 0 | 21 => 21 | 80 => 59 | n => n, fun | n => n⟩
theorem Tryz.laysC247 : Go.Proofs.LaysC.n247 Tryz.prog Tryz.laysC247_ren := {
 mixed := by kernel_rfl
 f247 := Tryz.func125.trans (congrArg some (by kernel_rfl))
 f287 := Tryz.func132.trans (congrArg some (by kernel_rfl))
 f321 := Tryz.func135.trans (congrArg some (by kernel_rfl))
 f322 := Tryz.func136.trans (congrArg some (by kernel_rfl))
 t0 := Tryz.underlying0
 a0 := Tryz.isAgg0
 z0 := Tryz.sizeOf0
 v0 := Tryz.zeroValue0
 t2 := Tryz.underlying2
 a2 := Tryz.isAgg2
 z2 := Tryz.sizeOf2
 v2 := Tryz.zeroValue2
 t3 := Tryz.underlying3
 a3 := Tryz.isAgg3
 z3 := Tryz.sizeOf3
 v3 := Tryz.zeroValue3
 t4 := Tryz.underlying4
 a4 := Tryz.isAgg4
 z4 := Tryz.sizeOf4
 v4 := Tryz.zeroValue4
 t5 := Tryz.underlying5
 a5 := Tryz.isAgg5
 z5 := Tryz.sizeOf5
 v5 := Tryz.zeroValue5
 t9 := Tryz.underlying9
 a9 := Tryz.isAgg9
 z9 := Tryz.sizeOf9
 v9 := Tryz.zeroValue9
 t21 := Tryz.underlying21
 a21 := Tryz.isAgg21
 z21 := Tryz.sizeOf21
 v21 := Tryz.zeroValue21
 t37 := Tryz.underlying53
 a37 := Tryz.isAgg53
 z37 := Tryz.sizeOf53
 v37 := Tryz.zeroValue53
 t46 := Tryz.underlying139
 a46 := Tryz.isAgg139
 z46 := Tryz.sizeOf139
 v46 := Tryz.zeroValue139
 t53 := Tryz.underlying127
 a53 := Tryz.isAgg127
 z53 := Tryz.sizeOf127
 v53 := Tryz.zeroValue127
 t75 := Tryz.underlying105
 a75 := Tryz.isAgg105
 z75 := Tryz.sizeOf105
 v75 := Tryz.zeroValue105
 t167 := Tryz.underlying141
 a167 := Tryz.isAgg141
 z167 := Tryz.sizeOf141
 v167 := Tryz.zeroValue141
 t175 := Tryz.underlying148
 a175 := Tryz.isAgg148
 z175 := Tryz.sizeOf148
 v175 := Tryz.zeroValue148
 t80 := Tryz.underlying59
 a80 := Tryz.isAgg59
 z80 := Tryz.sizeOf59
 v80 := Tryz.zeroValue59
 i0 := by kernel_rfl
 i2 := by kernel_rfl
 i3 := by kernel_rfl
 i4 := by kernel_rfl
 i5 := by kernel_rfl
 i9 := by kernel_rfl
 i21 := by kernel_rfl
 i37 := by kernel_rfl
 i46 := by kernel_rfl
 i53 := by kernel_rfl
 i75 := by kernel_rfl
 i80 := by kernel_rfl
 i167 := by kernel_rfl
 i175 := by kernel_rfl
 c0 := by kernel_rfl
 c2 := by kernel_rfl
 c3 := by kernel_rfl
 c4 := by kernel_rfl
 c5 := by kernel_rfl
 c9 := by kernel_rfl
 c21 := by kernel_rfl
 c37 := by kernel_rfl
 c46 := by kernel_rfl
 c53 := by kernel_rfl
 c75 := by kernel_rfl
 c80 := by kernel_rfl
 c167 := by kernel_rfl
 c175 := by kernel_rfl }
open Go.RowKit in
theorem Tryz.internal_strconv_ParseInt_10 (s : ByteArray) (hne : s.size ≠ 0) (hmax : s.size ≤ 9223372036854775806) (w : World) :
 Calls Tryz.prog 125 #[.string s, .int .i64 10, .int .i64 0] w fun e w' => e = .returned (Lib.intTuple 141 (Lib.atoiSat s.data.toList) (Lib.atoiAll s.data.toList)) ∧ (w' = w ∨ ∃ t, w' = Lib.bytesWorld w 5 t) := Any.internal_strconv_ParseInt_10 Tryz.laysC247 s hne hmax w
def Tryz.laysC244_ren : Go.Shelf.Ren := ⟨fun | 244 => 117 | 247 => 125 | 287 => 132 | 321 => 135 | 322 => 136 | n => n, fun | 9 => 9 | 3 => 3 | 75 => 105 | 4 => 4 | 5 => 5 | 167 => 141 | 37 => 53 | 0 => 0 | 85 => 142 | 2 => 2 | 53 => 127 | 175 => 148 | 46 => 139 | 21 => 21 | 80 => 59 | n => n, fun | n => n⟩
theorem Tryz.laysC244 : Go.Proofs.LaysC.n244 Tryz.prog Tryz.laysC244_ren := {
 mixed := by kernel_rfl
 f244 := Tryz.func117.trans (congrArg some (by kernel_rfl))
 f247 := Tryz.func125.trans (congrArg some (by kernel_rfl))
 f287 := Tryz.func132.trans (congrArg some (by kernel_rfl))
 f321 := Tryz.func135.trans (congrArg some (by kernel_rfl))
 f322 := Tryz.func136.trans (congrArg some (by kernel_rfl))
 t0 := Tryz.underlying0
 a0 := Tryz.isAgg0
 z0 := Tryz.sizeOf0
 v0 := Tryz.zeroValue0
 t2 := Tryz.underlying2
 a2 := Tryz.isAgg2
 z2 := Tryz.sizeOf2
 v2 := Tryz.zeroValue2
 t3 := Tryz.underlying3
 a3 := Tryz.isAgg3
 z3 := Tryz.sizeOf3
 v3 := Tryz.zeroValue3
 t4 := Tryz.underlying4
 a4 := Tryz.isAgg4
 z4 := Tryz.sizeOf4
 v4 := Tryz.zeroValue4
 t5 := Tryz.underlying5
 a5 := Tryz.isAgg5
 z5 := Tryz.sizeOf5
 v5 := Tryz.zeroValue5
 t9 := Tryz.underlying9
 a9 := Tryz.isAgg9
 z9 := Tryz.sizeOf9
 v9 := Tryz.zeroValue9
 t21 := Tryz.underlying21
 a21 := Tryz.isAgg21
 z21 := Tryz.sizeOf21
 v21 := Tryz.zeroValue21
 t37 := Tryz.underlying53
 a37 := Tryz.isAgg53
 z37 := Tryz.sizeOf53
 v37 := Tryz.zeroValue53
 t46 := Tryz.underlying139
 a46 := Tryz.isAgg139
 z46 := Tryz.sizeOf139
 v46 := Tryz.zeroValue139
 t53 := Tryz.underlying127
 a53 := Tryz.isAgg127
 z53 := Tryz.sizeOf127
 v53 := Tryz.zeroValue127
 t75 := Tryz.underlying105
 a75 := Tryz.isAgg105
 z75 := Tryz.sizeOf105
 v75 := Tryz.zeroValue105
 t85 := Tryz.underlying142
 a85 := Tryz.isAgg142
 z85 := Tryz.sizeOf142
 v85 := Tryz.zeroValue142
 t167 := Tryz.underlying141
 a167 := Tryz.isAgg141
 z167 := Tryz.sizeOf141
 v167 := Tryz.zeroValue141
 t175 := Tryz.underlying148
 a175 := Tryz.isAgg148
 z175 := Tryz.sizeOf148
 v175 := Tryz.zeroValue148
 t80 := Tryz.underlying59
 a80 := Tryz.isAgg59
 z80 := Tryz.sizeOf59
 v80 := Tryz.zeroValue59
 i0 := by kernel_rfl
 i2 := by kernel_rfl
 i3 := by kernel_rfl
 i4 := by kernel_rfl
 i5 := by kernel_rfl
 i9 := by kernel_rfl
 i21 := by kernel_rfl
 i37 := by kernel_rfl
 i46 := by kernel_rfl
 i53 := by kernel_rfl
 i75 := by kernel_rfl
 i80 := by kernel_rfl
 i85 := by kernel_rfl
 i167 := by kernel_rfl
 i175 := by kernel_rfl
 c0 := by kernel_rfl
 c2 := by kernel_rfl
 c3 := by kernel_rfl
 c4 := by kernel_rfl
 c5 := by kernel_rfl
 c9 := by kernel_rfl
 c21 := by kernel_rfl
 c37 := by kernel_rfl
 c46 := by kernel_rfl
 c53 := by kernel_rfl
 c75 := by kernel_rfl
 c80 := by kernel_rfl
 c85 := by kernel_rfl
 c167 := by kernel_rfl
 c175 := by kernel_rfl }
open Go.RowKit in
theorem Tryz.internal_strconv_Atoi_long (s : ByteArray) (h19 : 19 ≤ s.size) (hmax : s.size ≤ 9223372036854775806) (w : World) :
 Calls Tryz.prog 117 #[.string s] w fun e w' => e = .returned (Lib.intTuple 141 (Lib.atoiSat s.data.toList) (Lib.atoiAll s.data.toList)) ∧ (w' = w ∨ ∃ t, w' = Lib.bytesWorld w 5 t) := Any.internal_strconv_Atoi_long Tryz.laysC244 s h19 hmax w
open Go.RowKit in
theorem Tryz.internal_strconv_Atoi_all (s : ByteArray) (hmax : s.size ≤ 9223372036854775806) (w : World) :
 Calls Tryz.prog 117 #[.string s] w fun e w' => e = .returned (Lib.intTuple 141 (Lib.atoiSat s.data.toList) (Lib.atoiAll s.data.toList)) ∧ (w' = w ∨ ∃ t, w' = Lib.bytesWorld w 5 t) := Any.internal_strconv_Atoi_all Tryz.laysC244 s hmax w
def Tryz.laysM280_ren : Go.Shelf.Ren := ⟨fun | 280 => 127 | 316 => 133 | n => n, fun | 9 => 9 | 168 => 144 | 75 => 105 | 210 => 152 | 3 => 3 | 4 => 4 | 37 => 53 | 0 => 0 | 127 => 89 | 80 => 59 | 5 => 5 | n => n, fun | 16 => 4 | n => n⟩
theorem Tryz.laysM280 : Go.Proofs.LaysM.n280 Tryz.prog Tryz.laysM280_ren := {
 mixed := by kernel_rfl
 f280 := Tryz.func127.trans (congrArg some (by kernel_rfl))
 f316 := Tryz.func133.trans (congrArg some (by kernel_rfl))
 t0 := Tryz.underlying0
 a0 := Tryz.isAgg0
 z0 := Tryz.sizeOf0
 v0 := Tryz.zeroValue0
 t3 := Tryz.underlying3
 a3 := Tryz.isAgg3
 z3 := Tryz.sizeOf3
 v3 := Tryz.zeroValue3
 t4 := Tryz.underlying4
 a4 := Tryz.isAgg4
 z4 := Tryz.sizeOf4
 v4 := Tryz.zeroValue4
 t9 := Tryz.underlying9
 a9 := Tryz.isAgg9
 z9 := Tryz.sizeOf9
 v9 := Tryz.zeroValue9
 t37 := Tryz.underlying53
 a37 := Tryz.isAgg53
 z37 := Tryz.sizeOf53
 v37 := Tryz.zeroValue53
 t75 := Tryz.underlying105
 a75 := Tryz.isAgg105
 z75 := Tryz.sizeOf105
 v75 := Tryz.zeroValue105
 t127 := Tryz.underlying89
 a127 := Tryz.isAgg89
 z127 := Tryz.sizeOf89
 v127 := Tryz.zeroValue89
 t168 := Tryz.underlying144
 a168 := Tryz.isAgg144
 z168 := Tryz.sizeOf144
 v168 := Tryz.zeroValue144
 t210 := Tryz.underlying152
 a210 := Tryz.isAgg152
 z210 := Tryz.sizeOf152
 v210 := Tryz.zeroValue152
 g16 := by kernel_rfl
 t5 := Tryz.underlying5
 a5 := Tryz.isAgg5
 z5 := Tryz.sizeOf5
 v5 := Tryz.zeroValue5
 t80 := Tryz.underlying59
 a80 := Tryz.isAgg59
 z80 := Tryz.sizeOf59
 v80 := Tryz.zeroValue59
 i0 := by kernel_rfl
 i3 := by kernel_rfl
 i4 := by kernel_rfl
 i5 := by kernel_rfl
 i9 := by kernel_rfl
 i37 := by kernel_rfl
 i75 := by kernel_rfl
 i80 := by kernel_rfl
 i127 := by kernel_rfl
 i168 := by kernel_rfl
 i210 := by kernel_rfl
 m16 := by kernel_rfl }
open Go.RowKit in
theorem Tryz.strconv_rangeError (fn s : ByteArray) (ev : Value) (w : World) (hlim : s.size ≤ 281474976710656) (hv : w.cell? ⟨4, 0, none⟩ = some ev) (hev : ev = .nilIface ∨ ∃ te pe, ev = .iface te pe) :
 Calls Tryz.prog 127 #[.string fn, .string s] w fun e w' => ∃ N, e = .returned (.pointer (some ⟨N, 0, none⟩)) ∧ w.heap.size ≤ N ∧ w'.heap[N]? = some (.cells #[.string fn, .string s, ev] 152 (0, 0)) ∧ Below w.heap.size w w' := Any.strconv_rangeError Tryz.laysM280 fn s ev w hlim hv hev
open Go.RowKit in
theorem Tryz.strconv_toError_range (fn s : ByteArray) (base bits : Int) (ev : Value) (w : World) (hlim : s.size ≤ 281474976710656) (hv : w.cell? ⟨4, 0, none⟩ = some ev) (hev : ev = .nilIface ∨ ∃ te pe, ev = .iface te pe) :
 Calls Tryz.prog 118 #[.string fn, .string s, .int .i64 base, .int .i64 bits, .iface 141 (.int .i64 1)] w fun e w' => ∃ N, e = .returned (.iface 144 (.pointer (some ⟨N, 0, none⟩))) ∧ w.heap.size ≤ N ∧ w'.heap[N]? = some (.cells #[.string fn, .string s, ev] 152 (0, 0)) ∧ Below w.heap.size w w' := Any.strconv_toError_range Tryz.laysC245 fn s base bits ev w hlim hv hev
def Tryz.laysC172_ren : Go.Shelf.Ren := ⟨fun | 172 => 110 | 244 => 117 | 245 => 118 | 247 => 125 | 279 => 126 | 280 => 127 | 281 => 128 | 282 => 129 | 287 => 132 | 316 => 133 | 171 => 51 | 205 => 134 | 321 => 135 | 322 => 136 | 243 => 83 | 246 => 105 | 283 => 111 | 284 => 112 | 285 => 113 | 286 => 114 | 129 => 120 | 317 => 119 | 318 => 121 | 319 => 122 | 320 => 123 | 337 => 130 | 338 => 131 | n => n, fun | 9 => 9 | 3 => 3 | 75 => 105 | 76 => 106 | 4 => 4 | 5 => 5 | 167 => 141 | 37 => 53 | 0 => 0 | 85 => 142 | 2 => 2 | 168 => 144 | 53 => 127 | 175 => 148 | 46 => 139 | 210 => 152 | 127 => 89 | 145 => 159 | 143 => 157 | 21 => 21 | 171 => 126 | 173 => 130 | 212 => 135 | 51 => 136 | 20 => 20 | 213 => 137 | 232 => 154 | 233 => 155 | 80 => 59 | n => n, fun | 15 => 3 | 16 => 4 | 17 => 1 | 18 => 5 | 19 => 6 | n => n⟩
theorem Tryz.laysC172 : Go.Proofs.LaysC.n172 Tryz.prog Tryz.laysC172_ren := {
 mixed := by kernel_rfl
 f129 := Tryz.func120.trans (congrArg some (by kernel_rfl))
 f171 := Tryz.func51.trans (congrArg some (by kernel_rfl))
 f172 := Tryz.func110.trans (congrArg some (by kernel_rfl))
 f205 := Tryz.func134.trans (congrArg some (by kernel_rfl))
 f243 := Tryz.func83.trans (congrArg some (by kernel_rfl))
 f244 := Tryz.func117.trans (congrArg some (by kernel_rfl))
 f245 := Tryz.func118.trans (congrArg some (by kernel_rfl))
 f246 := Tryz.func105.trans (congrArg some (by kernel_rfl))
 f247 := Tryz.func125.trans (congrArg some (by kernel_rfl))
 f279 := Tryz.func126.trans (congrArg some (by kernel_rfl))
 f280 := Tryz.func127.trans (congrArg some (by kernel_rfl))
 f281 := Tryz.func128.trans (congrArg some (by kernel_rfl))
 f282 := Tryz.func129.trans (congrArg some (by kernel_rfl))
 f283 := Tryz.func111.trans (congrArg some (by kernel_rfl))
 f284 := Tryz.func112.trans (congrArg some (by kernel_rfl))
 f285 := Tryz.func113.trans (congrArg some (by kernel_rfl))
 f286 := Tryz.func114.trans (congrArg some (by kernel_rfl))
 f287 := Tryz.func132.trans (congrArg some (by kernel_rfl))
 f316 := Tryz.func133.trans (congrArg some (by kernel_rfl))
 f317 := Tryz.func119.trans (congrArg some (by kernel_rfl))
 f318 := Tryz.func121.trans (congrArg some (by kernel_rfl))
 f319 := Tryz.func122.trans (congrArg some (by kernel_rfl))
 f320 := Tryz.func123.trans (congrArg some (by kernel_rfl))
 f321 := Tryz.func135.trans (congrArg some (by kernel_rfl))
 f322 := Tryz.func136.trans (congrArg some (by kernel_rfl))
 f337 := Tryz.func130.trans (congrArg some (by kernel_rfl))
 f338 := Tryz.func131.trans (congrArg some (by kernel_rfl))
 t0 := Tryz.underlying0
 a0 := Tryz.isAgg0
 z0 := Tryz.sizeOf0
 v0 := Tryz.zeroValue0
 t2 := Tryz.underlying2
 a2 := Tryz.isAgg2
 z2 := Tryz.sizeOf2
 v2 := Tryz.zeroValue2
 t3 := Tryz.underlying3
 a3 := Tryz.isAgg3
 z3 := Tryz.sizeOf3
 v3 := Tryz.zeroValue3
 t4 := Tryz.underlying4
 a4 := Tryz.isAgg4
 z4 := Tryz.sizeOf4
 v4 := Tryz.zeroValue4
 t5 := Tryz.underlying5
 a5 := Tryz.isAgg5
 z5 := Tryz.sizeOf5
 v5 := Tryz.zeroValue5
 t9 := Tryz.underlying9
 a9 := Tryz.isAgg9
 z9 := Tryz.sizeOf9
 v9 := Tryz.zeroValue9
 t20 := Tryz.underlying20
 a20 := Tryz.isAgg20
 z20 := Tryz.sizeOf20
 v20 := Tryz.zeroValue20
 t21 := Tryz.underlying21
 a21 := Tryz.isAgg21
 z21 := Tryz.sizeOf21
 v21 := Tryz.zeroValue21
 t37 := Tryz.underlying53
 a37 := Tryz.isAgg53
 z37 := Tryz.sizeOf53
 v37 := Tryz.zeroValue53
 t46 := Tryz.underlying139
 a46 := Tryz.isAgg139
 z46 := Tryz.sizeOf139
 v46 := Tryz.zeroValue139
 t51 := Tryz.underlying136
 a51 := Tryz.isAgg136
 z51 := Tryz.sizeOf136
 v51 := Tryz.zeroValue136
 t53 := Tryz.underlying127
 a53 := Tryz.isAgg127
 z53 := Tryz.sizeOf127
 v53 := Tryz.zeroValue127
 t75 := Tryz.underlying105
 a75 := Tryz.isAgg105
 z75 := Tryz.sizeOf105
 v75 := Tryz.zeroValue105
 t76 := Tryz.underlying106
 a76 := Tryz.isAgg106
 z76 := Tryz.sizeOf106
 v76 := Tryz.zeroValue106
 t85 := Tryz.underlying142
 a85 := Tryz.isAgg142
 z85 := Tryz.sizeOf142
 v85 := Tryz.zeroValue142
 t127 := Tryz.underlying89
 a127 := Tryz.isAgg89
 z127 := Tryz.sizeOf89
 v127 := Tryz.zeroValue89
 t143 := Tryz.underlying157
 a143 := Tryz.isAgg157
 z143 := Tryz.sizeOf157
 v143 := Tryz.zeroValue157
 t145 := Tryz.underlying159
 a145 := Tryz.isAgg159
 z145 := Tryz.sizeOf159
 v145 := Tryz.zeroValue159
 t167 := Tryz.underlying141
 a167 := Tryz.isAgg141
 z167 := Tryz.sizeOf141
 v167 := Tryz.zeroValue141
 t168 := Tryz.underlying144
 a168 := Tryz.isAgg144
 z168 := Tryz.sizeOf144
 v168 := Tryz.zeroValue144
 t171 := Tryz.underlying126
 a171 := Tryz.isAgg126
 z171 := Tryz.sizeOf126
 v171 := Tryz.zeroValue126
 t173 := Tryz.underlying130
 a173 := Tryz.isAgg130
 z173 := Tryz.sizeOf130
 v173 := Tryz.zeroValue130
 t175 := Tryz.underlying148
 a175 := Tryz.isAgg148
 z175 := Tryz.sizeOf148
 v175 := Tryz.zeroValue148
 t210 := Tryz.underlying152
 a210 := Tryz.isAgg152
 z210 := Tryz.sizeOf152
 v210 := Tryz.zeroValue152
 t212 := Tryz.underlying135
 a212 := Tryz.isAgg135
 z212 := Tryz.sizeOf135
 v212 := Tryz.zeroValue135
 t213 := Tryz.underlying137
 a213 := Tryz.isAgg137
 z213 := Tryz.sizeOf137
 t232 := Tryz.underlying154
 a232 := Tryz.isAgg154
 z232 := Tryz.sizeOf154
 v232 := Tryz.zeroValue154
 t233 := Tryz.underlying155
 a233 := Tryz.isAgg155
 z233 := Tryz.sizeOf155
 v233 := Tryz.zeroValue155
 g15 := by kernel_rfl
 g16 := by kernel_rfl
 g17 := by kernel_rfl
 g18 := by kernel_rfl
 g19 := by kernel_rfl
 t80 := Tryz.underlying59
 a80 := Tryz.isAgg59
 z80 := Tryz.sizeOf59
 v80 := Tryz.zeroValue59
 i0 := by kernel_rfl
 i2 := by kernel_rfl
 i3 := by kernel_rfl
 i4 := by kernel_rfl
 i5 := by kernel_rfl
 i9 := by kernel_rfl
 i20 := by kernel_rfl
 i21 := by kernel_rfl
 i37 := by kernel_rfl
 i46 := by kernel_rfl
 i51 := by kernel_rfl
 i53 := by kernel_rfl
 i75 := by kernel_rfl
 i76 := by kernel_rfl
 i80 := by kernel_rfl
 i85 := by kernel_rfl
 i127 := by kernel_rfl
 i143 := by kernel_rfl
 i145 := by kernel_rfl
 i167 := by kernel_rfl
 i168 := by kernel_rfl
 i171 := by kernel_rfl
 i173 := by kernel_rfl
 i175 := by kernel_rfl
 i210 := by kernel_rfl
 i212 := by kernel_rfl
 i232 := by kernel_rfl
 i233 := by kernel_rfl
 m15 := by kernel_rfl
 m16 := by kernel_rfl
 m17 := by kernel_rfl
 m18 := by kernel_rfl
 m19 := by kernel_rfl
 c0 := by kernel_rfl
 c2 := by kernel_rfl
 c3 := by kernel_rfl
 c4 := by kernel_rfl
 c5 := by kernel_rfl
 c9 := by kernel_rfl
 c20 := by kernel_rfl
 c21 := by kernel_rfl
 c37 := by kernel_rfl
 c46 := by kernel_rfl
 c51 := by kernel_rfl
 c53 := by kernel_rfl
 c75 := by kernel_rfl
 c76 := by kernel_rfl
 c80 := by kernel_rfl
 c85 := by kernel_rfl
 c127 := by kernel_rfl
 c143 := by kernel_rfl
 c145 := by kernel_rfl
 c167 := by kernel_rfl
 c168 := by kernel_rfl
 c171 := by kernel_rfl
 c173 := by kernel_rfl
 c175 := by kernel_rfl
 c210 := by kernel_rfl
 c212 := by kernel_rfl
 c213 := by kernel_rfl
 c232 := by kernel_rfl
 c233 := by kernel_rfl }
open Go.RowKit in
theorem Tryz.strconv_Atoi_ok (s : ByteArray) (hmax : s.size ≤ 9223372036854775806) (v : Int) (h : Lib.atoiAll s.data.toList = .ok v) (w : World) :
 Calls Tryz.prog 110 #[.string s] w fun e w' => e = .returned (.tuple #[.int .i64 v, .nilIface]) ∧ (w' = w ∨ ∃ t, w' = Lib.bytesWorld w 5 t) := Any.strconv_Atoi_ok Tryz.laysC172 s hmax v h w
open Go.RowKit in
theorem Tryz.strconv_Atoi_syntax (s : ByteArray) (hlim : s.size ≤ 281474976710656) (h : Lib.atoiAll s.data.toList = .«syntax») (ev : Value) (w : World) (hv : w.cell? ⟨3, 0, none⟩ = some ev) (hev : ev = .nilIface ∨ ∃ te pe, ev = .iface te pe) :
 Calls Tryz.prog 110 #[.string s] w fun e w' => ∃ N, e = .returned (.tuple #[.int .i64 (0), .iface 144 (.pointer (some ⟨N, 0, none⟩))]) ∧ w.heap.size ≤ N ∧ w'.heap[N]? = some (.cells #[.string ⟨#[65, 116, 111, 105]⟩, .string s, ev] 152 (0, 0)) ∧ Below w.heap.size w w' := Any.strconv_Atoi_syntax Tryz.laysC172 s hlim h ev w hv hev
open Go.RowKit in
theorem Tryz.strconv_Atoi_range (s : ByteArray) (hlim : s.size ≤ 281474976710656) (h : Lib.atoiAll s.data.toList = .range) (ev : Value) (w : World) (hv : w.cell? ⟨4, 0, none⟩ = some ev) (hev : ev = .nilIface ∨ ∃ te pe, ev = .iface te pe) :
 Calls Tryz.prog 110 #[.string s] w fun e w' => ∃ N, e = .returned (.tuple #[.int .i64 (Lib.atoiSat s.data.toList), .iface 144 (.pointer (some ⟨N, 0, none⟩))]) ∧ w.heap.size ≤ N ∧ w'.heap[N]? = some (.cells #[.string ⟨#[65, 116, 111, 105]⟩, .string s, ev] 152 (0, 0)) ∧ Below w.heap.size w w' := Any.strconv_Atoi_range Tryz.laysC172 s hlim h ev w hv hev
open Go.RowKit in
theorem Tryz.strconv_Atoi_syntax_var (s : ByteArray) (hlim : s.size ≤ 281474976710656) (h : Lib.atoiAll s.data.toList = .«syntax») (tp : TypeId) (p : Value) (w : World) (hvar : w.var? Tryz.prog "strconv.ErrSyntax" = some #[.iface tp p]) :
 Calls Tryz.prog 110 #[.string s] w fun e w' => ∃ N, e = .returned (.tuple #[.int .i64 0, .iface 144 (.pointer (some ⟨N, 0, none⟩))]) ∧ w.heap.size ≤ N ∧ w'.heap[N]? = some (.cells #[.string ⟨#[65, 116, 111, 105]⟩, .string s, .iface tp p] 152 (0, 0)) ∧ Below w.heap.size w w' := Any.strconv_Atoi_syntax_var Tryz.laysC172 s hlim h tp p w hvar
open Go.RowKit in
theorem Tryz.strconv_Atoi_range_var (s : ByteArray) (hlim : s.size ≤ 281474976710656) (h : Lib.atoiAll s.data.toList = .range) (tp : TypeId) (p : Value) (w : World) (hvar : w.var? Tryz.prog "strconv.ErrRange" = some #[.iface tp p]) :
 Calls Tryz.prog 110 #[.string s] w fun e w' => ∃ N, e = .returned (.tuple #[.int .i64 (Lib.atoiSat s.data.toList), .iface 144 (.pointer (some ⟨N, 0, none⟩))]) ∧ w.heap.size ≤ N ∧ w'.heap[N]? = some (.cells #[.string ⟨#[65, 116, 111, 105]⟩, .string s, .iface tp p] 152 (0, 0)) ∧ Below w.heap.size w w' := Any.strconv_Atoi_range_var Tryz.laysC172 s hlim h tp p w hvar
def Tryz.lays217_ren : Go.Shelf.Ren := ⟨fun | 217 => 116 | 266 => 124 | n => n, fun | 9 => 9 | 5 => 5 | 3 => 3 | n => n, fun | n => n⟩
theorem Tryz.lays217 : Go.Proofs.Lays.n217 Tryz.prog Tryz.lays217_ren := {
 mixed := by kernel_rfl
 f217 := Tryz.func116.trans (congrArg some (by kernel_rfl))
 f266 := Tryz.func124.trans (congrArg some (by kernel_rfl))
 t3 := Tryz.underlying3
 a3 := Tryz.isAgg3
 z3 := Tryz.sizeOf3
 v3 := Tryz.zeroValue3
 t5 := Tryz.underlying5
 a5 := Tryz.isAgg5
 z5 := Tryz.sizeOf5
 v5 := Tryz.zeroValue5
 t9 := Tryz.underlying9
 a9 := Tryz.isAgg9
 z9 := Tryz.sizeOf9
 v9 := Tryz.zeroValue9 }
open Go.RowKit Go.Lib in
theorem Tryz.stringslite_IndexByte (s : ByteArray) (c : Int) (w : World) :
 Calls Tryz.prog 116 #[.string s, .int .u8 c] w fun e w' => e = .returned (.int .i64 (Lib.indexByte s.data.toList c.toNat.toUInt8)) ∧ w' = w := Any.stringslite_IndexByte Tryz.lays217 s c w
def Tryz.lays206_ren : Go.Shelf.Ren := ⟨fun | 206 => 115 | n => n, fun | 9 => 9 | 4 => 4 | 3 => 3 | n => n, fun | n => n⟩
theorem Tryz.lays206 : Go.Proofs.Lays.n206 Tryz.prog Tryz.lays206_ren := {
 mixed := by kernel_rfl
 f206 := Tryz.func115.trans (congrArg some (by kernel_rfl))
 t3 := Tryz.underlying3
 a3 := Tryz.isAgg3
 z3 := Tryz.sizeOf3
 v3 := Tryz.zeroValue3
 t4 := Tryz.underlying4
 a4 := Tryz.isAgg4
 z4 := Tryz.sizeOf4
 v4 := Tryz.zeroValue4
 t9 := Tryz.underlying9
 a9 := Tryz.isAgg9
 z9 := Tryz.sizeOf9
 v9 := Tryz.zeroValue9 }
open Go.RowKit Go.Lib in
theorem Tryz.stringslite_HasPrefix (s p : ByteArray) (w : World) :
 Calls Tryz.prog 115 #[.string s, .string p] w fun e w' => e = .returned (.bool (Lib.hasPrefix s.data.toList p.data.toList)) ∧ w' = w := Any.stringslite_HasPrefix Tryz.lays206 s p w
def Tryz.lays99_ren : Go.Shelf.Ren := ⟨fun | 99 => 107 | 206 => 115 | n => n, fun | 9 => 9 | 4 => 4 | 3 => 3 | n => n, fun | n => n⟩
theorem Tryz.lays99 : Go.Proofs.Lays.n99 Tryz.prog Tryz.lays99_ren := {
 mixed := by kernel_rfl
 f99 := Tryz.func107.trans (congrArg some (by kernel_rfl))
 f206 := Tryz.func115.trans (congrArg some (by kernel_rfl))
 t3 := Tryz.underlying3
 a3 := Tryz.isAgg3
 z3 := Tryz.sizeOf3
 v3 := Tryz.zeroValue3
 t4 := Tryz.underlying4
 a4 := Tryz.isAgg4
 z4 := Tryz.sizeOf4
 v4 := Tryz.zeroValue4
 t9 := Tryz.underlying9
 a9 := Tryz.isAgg9
 z9 := Tryz.sizeOf9
 v9 := Tryz.zeroValue9 }
open Go.RowKit Go.Lib in
theorem Tryz.strings_HasPrefix (s p : ByteArray) (w : World) :
 Calls Tryz.prog 107 #[.string s, .string p] w fun e w' => e = .returned (.bool (Lib.hasPrefix s.data.toList p.data.toList)) ∧ w' = w := Any.strings_HasPrefix Tryz.lays99 s p w
end Go.Proofs
namespace Bk
open Go Go.RowKit Go.Proofs
theorem ret_int {k : IntKind} {a b : Int} (h : a = b) : Ending.returned (.int k a) = .returned (.int k b) := by rw [h]
theorem ret_str {a b : List UInt8} (h : a = b) : Ending.returned (str a) = .returned (str b) := by rw [h]
theorem ret_bool {a b : Bool} (h : a = b) : Ending.returned (.bool a) = .returned (.bool b) := by rw [h]
theorem arith_Level_c (k : Int) (w : World) (h0 : 0 ≤ k) (h1 : k ≤ 255) : Calls Tryz.prog 55 #[.int .u8 k] w fun e w' => e = .returned (.int .i64 (level k)) ∧ w = w' := by
 go_enter Tryz.func55, Tryz.ntmps55
 go_wp2_with fail
 all_goals go_ret
 all_goals (refine ⟨ret_int ?_, rfl⟩; (try simp only [beq_iff_eq, beq_eq_false_iff_ne, ne_eq, bne_iff_ne, decide_eq_true_eq, decide_eq_false_iff_not] at *); first | (subst k; rfl) | (unfold level; (repeat' split) <;> omega))
structure Syms (w : World) : Prop where
 sym : ∀ i, i < 43 → w.cell? ⟨0, i, none⟩ = some (str (symbols.getD i []))
theorem Syms.ext {w w' : World} (h : Syms w) (x : Ext w w') : Syms w' := ⟨fun i hi => x.keep (h.sym i hi)⟩
theorem Syms.fr {S : Nat → Prop} {w w' : World} (h : Syms w) (x : Fr S w w') (hs : ∀ k, S k → 0 < k) : Syms w' := ⟨fun i hi => x.keep (fun e => by have := hs _ e; omega) (h.sym i hi)⟩
theorem symbol_out (k : Int) (h : 43 ≤ k) : symbol k = [] := by
 unfold symbol
 rw [List.getD_eq_getElem?_getD, List.getElem?_eq_none (show 43 ≤ k.toNat by omega)]
 rfl
theorem arith_Symbol_s (k : Int) (w : World) (h0 : 0 ≤ k) (h1 : k ≤ 255) (ht : Syms w) : Calls Tryz.prog 52 #[.int .u8 k] w fun e w' => e = .returned (str (symbol k)) ∧ w = w' := by
 by_cases hk : k < 43
 · have g := ht.sym k.toNat (by omega)
   have G : Hid (symbols.getD k.toNat [] = symbol k) := Lib.hid rfl; clear ht
   go_enter Tryz.func52, Tryz.ntmps52
   go_wp2_with fail
   go_ret
   rw [← G.out]
   exact ⟨by simp [go_sem], rfl⟩
 · have hn := symbol_out k (by omega)
   have HN := Lib.hid hn; clear hn ht
   go_enter Tryz.func52, Tryz.ntmps52
   go_wp2_with fail
   go_ret
   rw [HN.out]
   exact ⟨rfl, rfl⟩
end Bk
namespace Bk
open Go Go.RowKit Go.Proofs Go.Lib
theorem gSym4 : Tryz.prog.globalNamed "backstep/arith.symbols" = some 0 := by kernel_rfl
theorem gSymT4 : (Tryz.prog.globals[0]?).map (·.type) = some 111 := by kernel_rfl
theorem uSymT4 : Tryz.prog.underlying 111 = some (.array 43 9) := by kernel_rfl
theorem cSymT4 : Tryz.prog.cellsOf 111 = 43 := by kernel_rfl
theorem uStr4 : Tryz.prog.underlying 9 = some .string := by kernel_rfl
theorem cStr4 : Tryz.prog.cellsOf 9 = 1 := by kernel_rfl
theorem gErr4 : Tryz.prog.globalNamed "strconv.ErrRange" = some 4 := by kernel_rfl
theorem gErrT4 : (Tryz.prog.globals[4]?).map (·.type) = some 105 := by kernel_rfl
theorem uErr4 : ∃ ms, Tryz.prog.underlying 105 = some (.interface ms) := ⟨_, Tryz.underlying105⟩
theorem symData4 : (YtajjbkcpgfgbiaaGreatDoor.Rows.laid_backstep_arith_symbols : DataW Unit) = .agg (symbols.map fun z => .lit (.string z)) := rfl
abbrev laid4 : List (String × DataW Unit) := [("backstep/arith.symbols", YtajjbkcpgfgbiaaGreatDoor.Rows.laid_backstep_arith_symbols), ("math/bits.deBruijn32tab", YtajjbkcpgfgbiaaGreatDoor.Rows.laid_math_bits_deBruijn32tab), ("math/bits.deBruijn64tab", YtajjbkcpgfgbiaaGreatDoor.Rows.laid_math_bits_deBruijn64tab), ("internal/strconv.uint64pow10", YtajjbkcpgfgbiaaGreatDoor.Rows.laid_internal_strconv_uint64pow10), ("strconv.ErrRange", YtajjbkcpgfgbiaaGreatDoor.Rows.laid_strconv_ErrRange), ("strconv.ErrSyntax", YtajjbkcpgfgbiaaGreatDoor.Rows.laid_strconv_ErrSyntax)]
theorem syms_of_laid {W : World} (h : laidMetH Tryz.prog laid4 W) : Syms W ∧ Errs W := by
 have h' : laidMet Tryz.prog laid4 W := h; obtain ⟨ps, ⟨g1, t1, cs1, f1, p1, q1, hg1, ht1, hv1, hd1, ⟨g2, t2, cs2, f2, p2, q2, hg2, ht2, hv2, hd2, ⟨g3, t3, cs3, f3, p3, q3, hg3, ht3, hv3, hd3, ⟨g4, t4, cs4, f4, p4, q4, hg4, ht4, hv4, hd4, ⟨g5, t5, cs5, f5, p5, q5, hg5, ht5, hv5, hd5, -, -⟩, -⟩, -⟩, -⟩, -⟩, -⟩ := h'; obtain rfl := Option.some.inj (gSym4.symm.trans hg1); obtain rfl := Option.some.inj (gSymT4.symm.trans ht1); obtain rfl := Option.some.inj (gErr4.symm.trans hg5); obtain rfl := Option.some.inj (gErrT4.symm.trans ht5); rw [symData4] at hd1; have e1 := cells_of_strs uSymT4 uStr4 cStr4 cSymT4 hd1; refine ⟨⟨fun i hi => ?_⟩, ?_⟩
 · rw [World.var?_cell gSym4 hv1 i, ← Array.getElem?_toList, e1, List.getElem?_map]
   have : symbols[i]? = some (symbols.getD i []) := by
    rw [List.getD_eq_getElem?_getD, List.getElem?_eq_getElem (show i < symbols.length from hi)]; rfl
   rw [this]; rfl
 · obtain ⟨ms, hu⟩ := uErr4
   obtain ⟨f, u, v, hc, -, -⟩ := iface_of_trod hu hd5; refine ⟨⟨u, v, ?_⟩⟩; rw [World.var?_cell gErr4 hv5 0, ← Array.getElem?_toList, hc]
   rfl
end Bk
namespace Bk
open Go
def kword (k : Int) : List UInt8 :=
 if k = 44 then [112, 117, 115, 104, 32] else if k = 45 then [112, 111, 112, 32] else if k = 46 then [114, 101, 97, 100, 32] else if k = 47 then [117, 110, 114, 101, 97, 100, 32] else if k = 48 then [119, 114, 105, 116, 101, 32] else if k = 49 then [117, 110, 119, 114, 105, 116, 101, 32]
 else if k = 50 then [99, 97, 108, 108, 32] else if k = 51 then [117, 110, 99, 97, 108, 108, 32] else if k = 52 then [105, 102, 32] else if k = 53 then [102, 114, 111, 109, 32] else if k = 54 then [108, 111, 99, 97, 108, 32] else if k = 55 then [108, 111, 99, 97, 108, 32, 115, 116, 97, 99, 107, 32] else []
def updSign (k : Int) : List UInt8 := if k = 56 then [58, 61] else if k = 43 then [60, 61, 62] else symbol k
def tabT (d : Nat) : List UInt8 := List.replicate d 9
def argsT : Bool → List Nd → List UInt8
 | _, [] => []
 | first, t :: r => (if first then [] else [44, 32]) ++ t.text ++ argsT false r
mutual
def Nd.stmtT : Nd → Nat → List UInt8
 | .mk k _ s l, d =>
  if k = 40 ∨ k = 41 ∨ k = 42 ∨ k = 56 ∨ k = 43 then match l with | [x, y] => x.text ++ [32] ++ updSign k ++ [32] ++ y.text | _ => []
  else if k = 44 ∨ k = 45 then match l with | [x] => kword k ++ x.text ++ [44, 32] ++ s | _ => []
  else if 46 ≤ k ∧ k ≤ 49 then match l with | [x] => kword k ++ x.text | _ => []
  else if k = 50 ∨ k = 51 then kword k ++ s ++ [40] ++ argsT true l ++ [41]
  else if k = 52 then match l with | [x, y, z, u] => kword k ++ x.text ++ ([32, 123, 10] ++ y.linesT (d + 1) ++ tabT d ++ [125]) ++ [32, 101, 108, 115, 101] ++ ([32, 123, 10] ++ z.linesT (d + 1) ++ tabT d ++ [125]) ++ [32, 102, 105, 32] ++ u.text | _ => []
  else if k = 53 then match l with | [x, y, z, u] => kword k ++ x.text ++ ([32, 123, 10] ++ y.linesT (d + 1) ++ tabT d ++ [125]) ++ [32, 108, 111, 111, 112] ++ ([32, 123, 10] ++ z.linesT (d + 1) ++ tabT d ++ [125]) ++ [32, 117, 110, 116, 105, 108, 32] ++ u.text | _ => []
  else if k = 54 then match l with | [x, y, z] => kword k ++ s ++ [32, 61, 32] ++ x.text ++ ([32, 123, 10] ++ y.linesT (d + 1) ++ tabT d ++ [125]) ++ [32, 100, 101, 108, 111, 99, 97, 108, 32] ++ z.text | _ => []
  else if k = 55 then match l with | [x] => kword k ++ s ++ ([32, 123, 10] ++ x.linesT (d + 1) ++ tabT d ++ [125]) | _ => []
  else []
def Nd.linesT : Nd → Nat → List UInt8
 | .mk _ _ _ l, d => rowLines l d
def rowLines : List Nd → Nat → List UInt8
 | [], _ => []
 | t :: r, d => tabT d ++ t.stmtT d ++ [59, 10] ++ rowLines r d
end
def bracesT (t : Nd) (d : Nat) : List UInt8 := [32, 123, 10] ++ t.linesT (d + 1) ++ tabT d ++ [125]
end Bk
namespace Bk
open Go Go.RowKit Go.Proofs
theorem letter_c (c : UInt8) (w : World) : Calls Tryz.prog 95 #[.int .u8 c.toNat] w fun e w' => e = .returned (.bool (letter c)) ∧ w = w' := by
 go_enter Tryz.func95, Tryz.ntmps95
 go_wp2_with fail
 all_goals go_ret
 all_goals (refine ⟨ret_bool ?_, rfl⟩; unfold letter; rw [Bool.eq_iff_iff]; simp; try omega)
theorem digit_c (c : UInt8) (w : World) : Calls Tryz.prog 98 #[.int .u8 c.toNat] w fun e w' => e = .returned (.bool (digit c)) ∧ w = w' := by
 go_enter Tryz.func98, Tryz.ntmps98
 go_wp2_with fail
 all_goals go_ret
 all_goals (refine ⟨ret_bool ?_, rfl⟩; unfold digit; rw [Bool.eq_iff_iff]; simp; try omega)
theorem blank_c (c : UInt8) (w : World) : Calls Tryz.prog 99 #[.int .u8 c.toNat] w fun e w' => e = .returned (.bool (blank c)) ∧ w = w' := by
 go_enter Tryz.func99, Tryz.ntmps99
 go_wp2_with fail
 all_goals go_ret
 all_goals (refine ⟨ret_bool ?_, rfl⟩; unfold blank; rw [Bool.eq_iff_iff]; simp; try omega)
theorem notLf_c (c : UInt8) (w : World) : Calls Tryz.prog 100 #[.int .u8 c.toNat] w fun e w' => e = .returned (.bool (notLf c)) ∧ w = w' := by
 go_enter Tryz.func100, Tryz.ntmps100
 go_wp2_with fail
 all_goals go_ret
 all_goals (refine ⟨ret_bool ?_, rfl⟩; unfold notLf; rw [Bool.eq_iff_iff]; simp; try omega)
theorem wordish_c (c : UInt8) (w : World) : Calls Tryz.prog 97 #[.int .u8 c.toNat] w fun e w' => e = .returned (.bool (wordish c)) ∧ w = w' := by
 go_enter Tryz.func97, Tryz.ntmps97
 cases hl : letter c
 all_goals have HL := Lib.hid hl; clear hl
 all_goals go_wp2_with (first | (go_at_call 95; refine (letter_c c _).mono ?_; rintro e w' ⟨rfl, rfl⟩; rw [HL.out]) | (go_at_call 98; refine (digit_c c _).mono ?_; rintro e w' ⟨rfl, rfl⟩))
 all_goals go_ret
 all_goals (refine ⟨ret_bool ?_, rfl⟩; unfold wordish; rw [HL.out]; simp)
theorem span_c (f : FuncId) (p : UInt8 → Bool) (hp : ∀ (c : UInt8) (w : World), Calls Tryz.prog f #[.int .u8 c.toNat] w fun e w' => e = .returned (.bool (p c)) ∧ w = w')
 (he : ∀ args w, (callFunc f args).run Tryz.prog w = .ok (.enter f args) w) (s : List UInt8) (w : World) (hs : s.length ≤ 9223372036854775807) :
 Calls Tryz.prog 96 #[str s, .func (.func f) #[] #[]] w fun e w' => e = .returned (.int .i64 (span p s)) ∧ w = w' := by
 have HP := Lib.hid hp; clear hp
 go_enter Tryz.func96, Tryz.ntmps96
 go_wp2_with fail
 go_loop [8] (fun i => ∃ j : Nat, j ≤ s.length ∧ i = .int .i64 j ∧ Hid (span p s = j + span p (s.drop j))) (fun i => s.length - (intOf i).toNat)
 case atStart => exact ⟨0, Nat.zero_le _, rfl, Lib.hid (by simp)⟩
 case round =>
  obtain ⟨j, hj, rfl, HJ⟩ := hrel
  by_cases hlt : j < s.length
  · go_wp2_with fail
    refine (HP.out s[j] _).mono ?_; rintro e w' ⟨rfl, rfl⟩; have hd := List.drop_eq_getElem_cons hlt
    have hsp : span p (s.drop j) = if p s[j] then 1 + span p (s.drop (j + 1)) else 0 := by
     rw [hd]; unfold span; rw [List.takeWhile_cons]; split <;> simp; omega
    have HSP := Lib.hid hsp; clear hsp hd
    cases hb : p s[j]
    · have HB := Lib.hid hb; clear hb
      go_wp2_with fail
      go_ret
      refine ⟨ret_int ?_, rfl⟩
      rw [HJ.out, HSP.out, HB.out]; simp
    · have HB := Lib.hid hb; clear hb
      go_wp2_with fail
      go_round
      case rel => exact ⟨j + 1, by omega, by go_num, Lib.hid (by rw [HJ.out, HSP.out, HB.out]; simp; omega)⟩
      case measure => simp [intOf]; omega
  · go_wp2_with fail
    go_ret
    refine ⟨ret_int ?_, rfl⟩
    rw [HJ.out, List.drop_eq_nil_of_le (by omega)]; simp [span]; omega
end Bk
namespace Bk
open Go Go.RowKit Go.Proofs
theorem take2_eq (s : List UInt8) (n : Int) (hn : n.toNat = min 2 s.length) : (⟨s.toArray⟩ : ByteArray).extract 0 n.toNat = ⟨(s.take 2).toArray⟩ := by
 apply ByteArray.ext
 rw [hn]; simp only [ByteArray.data_extract]
 apply Array.ext'
 simp only [List.extract_toArray, List.extract_eq_take_drop, Nat.sub_zero, List.drop_zero]
 rcases Nat.le_total 2 s.length with h | h
 · rw [Nat.min_eq_left h]
 · rw [Nat.min_eq_right h, List.take_of_length_le h, List.take_length]
theorem indexByte_ge : ∀ (l : List UInt8) (c : UInt8), -1 ≤ Lib.indexByte l c
 | [], c => by simp [Lib.indexByte]
 | b :: l, c => by
  have := indexByte_ge l c
  unfold Lib.indexByte
  split
  · omega
  · split <;> omega
theorem indexByte_contains : ∀ (l : List UInt8) (c : UInt8), (0 ≤ Lib.indexByte l c) ↔ l.contains c = true
 | [], c => by simp [Lib.indexByte]
 | b :: l, c => by
  have ih := indexByte_contains l c; have hg := indexByte_ge l c
  unfold Lib.indexByte
  rw [List.contains_cons]
  by_cases hb : b = c
  · simp [hb]
  · have hb' : ¬ c = b := fun e => hb e.symm
    simp only [beq_iff_eq, hb, hb', if_false, Bool.or_eq_true, false_or, ← ih]
    split <;> omega
theorem sign_c (c : UInt8) (r : List UInt8) (w : World) (hs : (c :: r).length ≤ 9223372036854775807) :
 Calls Tryz.prog 101 #[str (c :: r)] w fun e w' => e = .returned (.int .i64 (signLen (c :: r))) ∧ w = w' := by
 simp only [List.length_cons] at hs; have hx := take2_eq (c :: r) (min 2 ((r.length : Int) + 1)) (by simp only [List.length_cons]; omega)
 have hsl : signLen (c :: r) = if List.isPrefixOf [60, 61, 62] (c :: r) then 3 else if pairs.contains ((c :: r).take 2) then 2 else if singles.contains c then 1 else 0 := rfl
 have HSL := Lib.hid hsl; clear hsl
 generalize (c :: r).take 2 = t at *
 cases h3 : List.isPrefixOf [60, 61, 62] (c :: r)
 · have H3 := Lib.hid h3; clear h3
   cases hp : pairs.contains t
   · have HP := Lib.hid hp
     simp only [pairs, List.contains_cons, List.contains_nil, Bool.or_eq_false_iff, Bool.or_false] at hp; obtain ⟨p0, p1, p2, p3, p4, p5, p6, p7, p8, p9⟩ := hp
     go_enter Tryz.func101, Tryz.ntmps101
     go_wp2_with (go_at_call 107; refine (Tryz.strings_HasPrefix _ _ _).mono ?_; rintro e w' ⟨rfl, rfl⟩; rw [show Lib.hasPrefix (⟨(c :: r).toArray⟩ : ByteArray).data.toList (⟨#[60, 61, 62]⟩ : ByteArray).data.toList = false from H3.out])
     refine (Tryz.strings_IndexByte _ _ _).mono ?_; rintro e w2 ⟨rfl, rfl⟩
     have e0 : (((c.toNat : Nat) : Int)).toNat.toUInt8 = c := by simp
     have e1 : ∀ h, (((((⟨(c :: r).toArray⟩ : ByteArray)[0]'h).toNat : Nat) : Int)).toNat.toUInt8 = c := fun _ => e0
     rw [e1]; have hi := indexByte_contains singles c; rw [show Lib.indexByte (⟨#[43, 45, 42, 47, 37, 38, 124, 94, 33, 61, 60, 62, 40, 41, 123, 125, 91, 93, 59, 44]⟩ : ByteArray).data.toList c = Lib.indexByte singles c from rfl]
     generalize Lib.indexByte singles c = ix at *
     cases hc : singles.contains c
     · have hlt : ix < 0 := by rw [hc] at hi; simp at hi; omega
       have HC := Lib.hid hc; clear hc hi
       simp only
       go_wp2_with fail
       go_ret
       rw [HSL.out, H3.out, HP.out, HC.out]; exact ⟨rfl, rfl⟩
     · have hge : 0 ≤ ix := hi.2 hc
       have HC := Lib.hid hc; clear hc hi
       simp only
       go_wp2_with fail
       go_ret
       rw [HSL.out, H3.out, HP.out, HC.out]; exact ⟨rfl, rfl⟩
   · go_enter Tryz.func101, Tryz.ntmps101
     go_wp2_with (go_at_call 107; refine (Tryz.strings_HasPrefix _ _ _).mono ?_; rintro e w' ⟨rfl, rfl⟩; rw [show Lib.hasPrefix (⟨(c :: r).toArray⟩ : ByteArray).data.toList (⟨#[60, 61, 62]⟩ : ByteArray).data.toList = false from H3.out])
     all_goals first | (go_ret; rw [HSL.out, H3.out, hp]; exact ⟨rfl, rfl⟩) | (exfalso; simp_all [pairs]; done)
 · have H3 := Lib.hid h3; clear h3
   go_enter Tryz.func101, Tryz.ntmps101
   go_wp2_with (go_at_call 107; refine (Tryz.strings_HasPrefix _ _ _).mono ?_; rintro e w' ⟨rfl, rfl⟩; rw [show Lib.hasPrefix (⟨(c :: r).toArray⟩ : ByteArray).data.toList (⟨#[60, 61, 62]⟩ : ByteArray).data.toList = true from H3.out])
   go_ret
   rw [HSL.out, H3.out]; exact ⟨rfl, rfl⟩
end Bk
namespace Bk
open Go Go.RowKit Go.Proofs
def kwEntries : List (List UInt8) → Nat → List MapEntry
 | [], _ => []
 | k :: r, i => { key := str k, val := .bool true, born := i } :: kwEntries r (i + 1)
def kwMap (ks : List (List UInt8)) : Obj := .map (kwEntries ks 0).toArray ks.length
theorem kwEntries_snoc (ks : List (List UInt8)) (k : List UInt8) : ∀ i, kwEntries (ks ++ [k]) i = kwEntries ks i ++ [{ key := str k, val := .bool true, born := i + ks.length }] := by
 induction ks with
 | nil => intro i; simp [kwEntries]
 | cons x r ih => intro i; simp [kwEntries, ih, Nat.add_assoc, Nat.add_comm 1]
theorem ba_beq (b : ByteArray) (x : List UInt8) : (b == (⟨x.toArray⟩ : ByteArray)) = (b.data.toList == x) := by
 show (b.data == x.toArray) = _
 rw [Bool.eq_iff_iff]; simp
 constructor
 · intro h; rw [h]
 · intro h; rw [← h]
theorem findNow_kw (b : ByteArray) (ks : List (List UInt8)) : ∀ i j, (ks.contains b.data.toList = false → Instr.findNow .string (.string b) (kwEntries ks i) j = some none) ∧
 (ks.contains b.data.toList = true → ∃ n, Instr.findNow .string (.string b) (kwEntries ks i) j = some (some (n, .bool true))) := by
 induction ks with
 | nil => intro i j; simp [kwEntries, Instr.findNow]
 | cons x r ih =>
  intro i j; simp only [kwEntries, Instr.findNow, Instr.sameNow, ba_beq, List.contains_cons]
  cases h : b.data.toList == x
  · simpa using ih (i + 1) (j + 1)
  · simp
theorem push_set (h : Array Obj) (a b : Obj) : (h.push a).setIfInBounds h.size b = h.push b := by
 apply Array.ext'
 simp
theorem underMap : Tryz.prog.underlying 118 = some (.map 9 4) := by kernel_rfl
theorem underStr : Tryz.prog.underlying 9 = some .string := by kernel_rfl
theorem run_kw_ins (w : World) (ks : List (List UInt8)) (b : ByteArray) (h : ks.contains b.data.toList = false) :
 (Instr.mapUpdate 118 (.map (some w.heap.size)) (.string b) (.bool true)).run Tryz.prog (w.alloc (kwMap ks)) = .ok () (w.alloc (kwMap (ks ++ [b.data.toList]))) := by
 have hb : (w.alloc (kwMap ks)).heap[w.heap.size]? = some (.map (kwEntries ks 0).toArray ks.length) := by show (w.heap.push (kwMap ks))[w.heap.size]? = _; simp [kwMap]
 have hf : Instr.findNow .string (.string b) (kwEntries ks 0) 0 = some none := (findNow_kw b ks 0 0).1 h; have hc : (Instr.checkKey false 10000 9 (.string b)).run Tryz.prog (w.alloc (kwMap ks)) = .ok () (w.alloc (kwMap ks)) := MapKept.run_checkKey (k := .string b) underStr (by simp [MapKept.IsKey]) false 9999
 simp [Instr.mapUpdate, run_underlying underMap, MapKept.run_getObj_map hb, hc, MapKept.run_findKey underStr hf, MapKept.run_setObj_map _ hb, Result.andThen]
 show ({ w with heap := (w.heap.push (kwMap ks)).setIfInBounds w.heap.size _ } : World) = { w with heap := w.heap.push _ }
 rw [push_set]
 unfold kwMap
 rw [kwEntries_snoc]
 simp
theorem run_kw_look (w : World) (ks : List (List UInt8)) (b : ByteArray) :
 (Instr.lookup 118 (.map (some w.heap.size)) (.string b) false).run Tryz.prog (w.alloc (kwMap ks)) = .ok (.bool (ks.contains b.data.toList)) (w.alloc (kwMap ks)) := by
 have hb : (w.alloc (kwMap ks)).heap[w.heap.size]? = some (.map (kwEntries ks 0).toArray ks.length) := by show (w.heap.push (kwMap ks))[w.heap.size]? = _; simp [kwMap]
 have hc : ∀ q, (Instr.checkKey q 10000 9 (.string b)).run Tryz.prog (w.alloc (kwMap ks)) = .ok () (w.alloc (kwMap ks)) := fun q => MapKept.run_checkKey (k := .string b) underStr (by simp [MapKept.IsKey]) q 9999
 have hz : (zeroValue 4).run Tryz.prog (w.alloc (kwMap ks)) = .ok (.bool false) (w.alloc (kwMap ks)) := by kernel_rfl
 cases hk : ks.contains b.data.toList
 · have hf := (findNow_kw b ks 0 0).1 hk
   simp [Instr.lookup, run_underlying underMap, MapKept.run_getObj_map hb, hc, MapKept.run_findKey underStr hf, hz, Result.andThen]
 · obtain ⟨n, hf⟩ := (findNow_kw b ks 0 0).2 hk
   simp [Instr.lookup, run_underlying underMap, MapKept.run_getObj_map hb, hc, MapKept.run_findKey underStr hf, Result.andThen]
theorem run_kw_make (w : World) : (Instr.makeMap 118 none).run Tryz.prog w = .ok (.map (some w.heap.size)) (w.alloc (kwMap [])) := run_makeMap _ w
theorem keyword_len (s : List UInt8) (h : keyword s = true) : 2 ≤ s.length ∧ s.length ≤ 7 := by
 have key : ∀ k ∈ keywords, 2 ≤ k.length ∧ k.length ≤ 7 := by decide
 exact key s (by simpa [keyword] using h)
set_option maxRecDepth 100000 in
theorem Keyword_c (s : List UInt8) (w : World) (hs : s.length ≤ 9223372036854775807) :
 Calls Tryz.prog 75 #[str s] w fun e w' => e = .returned (.bool (keyword s)) ∧ Ext w w' := by
 by_cases h2 : s.length < 2 ∨ 7 < s.length
 · have hk : keyword s = false := by
    cases h : keyword s
    · rfl
    · have := keyword_len s h; omega
   have HK := Lib.hid hk; clear hk
   by_cases h3 : s.length < 2
   · have d1 : decide ((s.length : Int) < 2) = true := by simp; omega
     clear h2
     go_enter Tryz.func75, Tryz.ntmps75
     go_wp2_with fail
     go_ret
     rw [HK.out]; exact ⟨rfl, Ext.refl _⟩
   · have d1 : decide ((s.length : Int) < 2) = false := by simp; omega
     have d2 : decide ((7 : Int) < s.length) = true := by simp; omega
     clear h2
     go_enter Tryz.func75, Tryz.ntmps75
     go_wp2_with fail
     go_ret
     rw [HK.out]; exact ⟨rfl, Ext.refl _⟩
 · have d1 : decide ((s.length : Int) < 2) = false := by simp; omega
   have d2 : decide ((7 : Int) < s.length) = false := by simp; omega
   have r1 := run_kw_make; have r2 := run_kw_ins w; have r3 := run_kw_look w
   go_enter Tryz.func75, Tryz.ntmps75
   go_wp2_with fail
   go_ret
   exact ⟨ret_bool (by simp [keyword, keywords]), (by refine Ext.alloc ?_ _; exact Ext.refl _)⟩
end Bk
namespace Bk
open Go Go.RowKit Go.Proofs
theorem en_digit : ∀ args w, (callFunc 98 args).run Tryz.prog w = .ok (.enter 98 args) w := enters_of Tryz.func98 (by kernel_rfl) rfl
theorem en_blank : ∀ args w, (callFunc 99 args).run Tryz.prog w = .ok (.enter 99 args) w := enters_of Tryz.func99 (by kernel_rfl) rfl
theorem en_first1 : ∀ args w, (callFunc 97 args).run Tryz.prog w = .ok (.enter 97 args) w := enters_of Tryz.func97 (by kernel_rfl) rfl
theorem en_first2 : ∀ args w, (callFunc 100 args).run Tryz.prog w = .ok (.enter 100 args) w := enters_of Tryz.func100 (by kernel_rfl) rfl
theorem first_c (c : UInt8) (r : List UInt8) (w : World) (hs : (c :: r).length ≤ 9223372036854775807) :
 Calls Tryz.prog 74 #[str (c :: r)] w fun e w' => e = .returned (.tuple #[.int .u8 (firstTok (c :: r)).1, .int .i64 (firstTok (c :: r)).2]) ∧ w = w' := by
 have hf : firstTok (c :: r) = if letter c then (1, span wordish (c :: r)) else if digit c then (2, span digit (c :: r)) else if blank c then (4, span blank (c :: r)) else if c = 35 then (5, span notLf (c :: r)) else (3, signLen (c :: r)) := rfl
 have HF := Lib.hid hf; clear hf
 have HS := Lib.hid hs; simp only [List.length_cons] at hs
 go_enter Tryz.func74, Tryz.ntmps74
 go_wp2_with fail
 refine (letter_c c _).mono ?_; rintro e w1 ⟨rfl, rfl⟩
 cases hl : letter c
 · have HL := Lib.hid hl; clear hl
   simp only
   go_wp2_with fail
   refine (digit_c c _).mono ?_; rintro e w1 ⟨rfl, rfl⟩
   cases hd : digit c
   · have HD := Lib.hid hd; clear hd
     simp only
     go_wp2_with fail
     refine (blank_c c _).mono ?_; rintro e w1 ⟨rfl, rfl⟩
     cases hb : blank c
     · have HB := Lib.hid hb; clear hb
       simp only
       by_cases h35 : c = 35
       · have H35 := Lib.hid h35
         have e35 : (({ data := (c :: r).toArray } : ByteArray)[0]'(by simp [ByteArray.size])).toNat = 35 := by show c.toNat = 35; rw [h35]; rfl
         clear h35
         go_wp2_with fail
         refine (span_c 100 notLf notLf_c en_first2 _ _ HS.out).mono ?_; rintro e w1 ⟨rfl, rfl⟩; simp only
         go_wp2_with fail
         go_ret2
         rw [HF.out, HL.out, HD.out, HB.out, if_pos H35.out]; exact ⟨rfl, rfl⟩
       · have H35 := Lib.hid h35
         have e35 : ((({ data := (c :: r).toArray } : ByteArray)[0]'(by simp [ByteArray.size])).toNat : Int) ≠ 35 := by
          show (c.toNat : Int) ≠ 35
          intro h; apply h35; apply UInt8.toNat_inj.1; show c.toNat = 35; omega
         clear h35
         go_wp2_with fail
         refine (sign_c c r _ HS.out).mono ?_; rintro e w1 ⟨rfl, rfl⟩; simp only
         go_wp2_with fail
         go_ret2
         rw [HF.out, HL.out, HD.out, HB.out, if_neg H35.out]; exact ⟨rfl, rfl⟩
     · have HB := Lib.hid hb; clear hb
       simp only
       go_wp2_with fail
       refine (span_c 99 blank blank_c en_blank _ _ HS.out).mono ?_; rintro e w1 ⟨rfl, rfl⟩; simp only
       go_wp2_with fail
       go_ret2
       rw [HF.out, HL.out, HD.out, HB.out]; exact ⟨rfl, rfl⟩
   · have HD := Lib.hid hd; clear hd
     simp only
     go_wp2_with fail
     refine (span_c 98 digit digit_c en_digit _ _ HS.out).mono ?_; rintro e w1 ⟨rfl, rfl⟩; simp only
     go_wp2_with fail
     go_ret2
     rw [HF.out, HL.out, HD.out]; exact ⟨rfl, rfl⟩
 · have HL := Lib.hid hl; clear hl
   simp only
   go_wp2_with fail
   refine (span_c 97 wordish wordish_c en_first1 _ _ HS.out).mono ?_; rintro e w1 ⟨rfl, rfl⟩; simp only
   go_wp2_with fail
   go_ret2
   rw [HF.out, HL.out]; exact ⟨rfl, rfl⟩
theorem Name_c (s : List UInt8) (w : World) (hs : s.length ≤ 9223372036854775807) :
 Calls Tryz.prog 42 #[str s] w fun e w' => e = .returned (.bool (isName s)) ∧ Ext w w' := by
 cases s with
 | nil =>
  go_enter Tryz.func42, Tryz.ntmps42
  go_wp2_with fail
  go_ret
  exact ⟨rfl, Ext.refl _⟩
 | cons c r =>
  have hn : isName (c :: r) = (decide ((c :: r).length ≤ 16) && ((firstTok (c :: r)).1 == 1) && ((firstTok (c :: r)).2 == (c :: r).length) && !keyword (c :: r)) := by simp [isName]
  have HN := Lib.hid hn; clear hn
  have HS := Lib.hid hs; simp only [List.length_cons] at hs
  by_cases h16 : 16 < (c :: r).length
  · simp only [List.length_cons] at h16
    have d1 : decide ((16 : Int) < (r.length : Int) + 1) = true := by simp; omega
    have H16 := Lib.hid h16; clear h16
    go_enter Tryz.func42, Tryz.ntmps42
    go_wp2_with fail
    go_ret
    rw [HN.out]
    exact ⟨ret_bool (by have := H16.out; simp; omega), Ext.refl _⟩
  · simp only [List.length_cons] at h16
    have d1 : decide ((16 : Int) < (r.length : Int) + 1) = false := by simp; omega
    go_enter Tryz.func42, Tryz.ntmps42
    go_wp2_with fail
    refine (first_c c r _ HS.out).mono ?_; rintro e w1 ⟨rfl, rfl⟩
    generalize firstTok (c :: r) = ft at *
    obtain ⟨k, n⟩ := ft
    by_cases hk : k = 1
    · by_cases hl : n = (c :: r).length
      · subst hk hl
        simp only [List.length_cons]
        go_wp2_with fail
        refine (Keyword_c _ _ HS.out).mono ?_; rintro e w2 ⟨rfl, hx⟩; simp only
        go_wp2_with fail
        go_ret
        rw [HN.out]
        exact ⟨ret_bool (by simp; omega), hx⟩
      · subst hk
        have dl : ((n : Int) == (r.length : Int) + 1) = false := by simp only [List.length_cons] at hl; rw [beq_eq_false_iff_ne]; omega
        have HL := Lib.hid hl; clear hl
        simp only
        go_wp2_with fail
        go_ret
        rw [HN.out]
        exact ⟨ret_bool (by have := HL.out; simp at this ⊢; simp [this]), Ext.refl _⟩
    · have dk : ((k : Int) == 1) = false := by rw [beq_eq_false_iff_ne]; omega
      have HK := Lib.hid hk; clear hk
      simp only
      go_wp2_with fail
      go_ret
      rw [HN.out]
      exact ⟨ret_bool (by have := HK.out; simp [this]), Ext.refl _⟩
theorem plain_c (k n : Int) (s : List UInt8) (a : Option Addr) (l c : Nat) (w : World) :
 Calls Tryz.prog 28 #[.agg #[.int .u8 k, .int .i64 n, str s, .slice a l c]] w fun e w' => e = .returned (.bool (plain n s)) ∧ Ext w w' := by
 go_enter Tryz.func28, Tryz.ntmps28
 go_wp2_with fail
 all_goals go_ret
 all_goals exact ⟨ret_bool (by unfold plain; simp [*]), (by repeat (first | exact Ext.refl _ | assumption | refine Ext.alloc ?_ _ | refine Ext.drew ?_ | refine Ext.trans ?_ (by assumption)))⟩
theorem named_c (k n : Int) (s : List UInt8) (a : Option Addr) (l c : Nat) (w : World) (hs : s.length ≤ 9223372036854775807) :
 Calls Tryz.prog 26 #[.agg #[.int .u8 k, .int .i64 n, str s, .slice a l c]] w fun e w' => e = .returned (.bool (named n s)) ∧ Ext w w' := by
 by_cases h0 : n = 0
 · subst h0
   go_enter Tryz.func26, Tryz.ntmps26
   go_wp2_with (go_at_call 42; refine (Name_c _ _ hs).mono ?_; rintro e w2 ⟨rfl, hx⟩)
   go_ret
   exact ⟨ret_bool (by simp [named]), (by refine Ext.trans ?_ (by assumption); refine Ext.alloc ?_ _; exact Ext.refl _)⟩
 · have d0 : (n == 0) = false := by simp [h0]
   go_enter Tryz.func26, Tryz.ntmps26
   go_wp2_with fail
   go_ret
   exact ⟨ret_bool (by simp [named, h0]), (by refine Ext.alloc ?_ _; exact Ext.refl _)⟩
end Bk
namespace Bk
open Go Go.RowKit Go.Proofs
structure BT (T : TypeId) : Prop where
 lies : liesAt Tryz.prog Tryz.prog.depth T (2 / Tryz.prog.cellsOf T) 0 55 1 = true
 ne : T ≠ 5
theorem bSize : (Tryz.prog.info? 55).map (·.size) = some 2 := by kernel_rfl
theorem infoByte : (Tryz.prog.info? 5).map (fun i => (i.zero, i.size, i.bytes)) = some (some (.int .u8 0), 1, 1) := by kernel_rfl
theorem uPtrB : Tryz.prog.underlying 52 = some (.pointer 55) := by kernel_rfl
theorem uUnsafe : Tryz.prog.underlying 124 = some .unsafePointer := by kernel_rfl
theorem uBytes : Tryz.prog.underlying 53 = some (.slice 5) := by kernel_rfl
theorem uByte : Tryz.prog.underlying 5 = some (.int .u8) := by kernel_rfl
set_option maxRecDepth 100000 in
theorem copyCheck_fresh (T : TypeId) (hT : BT T) (b : Nat) (w : World) (h0 : w.cell? ⟨b, 0, none⟩ = some (.pointer none)) (hsh : w.shape? b = some (T, 2)) (hfz : w.frozen? ⟨b, 0, none⟩ = false) :
 Calls Tryz.prog 102 #[.pointer (some ⟨b, 0, none⟩)] w fun e w' => e = .returned (.tuple #[]) ∧ w' = w.setCell ⟨b, 0, none⟩ (.pointer (some ⟨b, 0, none⟩)) := by
 obtain ⟨j, hj, hjs⟩ := Option.map_eq_some_iff.1 bSize
 go_enter Tryz.func102, Tryz.ntmps102
 go_wp2
 rw [Lib.run_to_unsafe w ⟨b, 0, none⟩ uPtrB uUnsafe hj (by rw [hjs]; decide) hsh (Nat.zero_lt_succ 1)]; simp only [Result.andThen]; rw [Oper.upon_value]
 go_wp2
 rw [run_callFunc_extern Tryz.func109 (by kernel_rfl) (by kernel_rfl) (by kernel_rfl) (e := Extern.AbiNoEscape.same) (by kernel_rfl)]; rw [Lib.run_noEscape]; simp only [Result.andThen]; rw [Oper.upon_value]
 go_wp2
 rw [Lib.run_from_unsafe w ⟨b, 0, none⟩ uUnsafe uPtrB hj hsh hT.lies]; simp only [Result.andThen]; rw [Oper.upon_value]
 go_wp2
 go_end0
 exact ⟨rfl, rfl⟩
set_option maxRecDepth 100000 in
theorem copyCheck_used (b : Nat) (w : World) (h0 : w.cell? ⟨b, 0, none⟩ = some (.pointer (some ⟨b, 0, none⟩))) :
 Calls Tryz.prog 102 #[.pointer (some ⟨b, 0, none⟩)] w fun e w' => e = .returned (.tuple #[]) ∧ w' = w := by
 obtain ⟨j, hj, hjs⟩ := Option.map_eq_some_iff.1 bSize
 go_enter Tryz.func102, Tryz.ntmps102
 go_wp2
 rw [Lib.run_neq_ptr_same w _ uPtrB hj]
 go_wp2
 go_end0
 exact ⟨rfl, rfl⟩
structure Fb (B b : Nat) (w w' : World) : Prop where
 below : Below B w w'
 kept : Lib.OthersKept 5 (some b) w w'
theorem Fb.refl (B b : Nat) (w : World) : Fb B b w w := ⟨Below.refl _ _, Lib.OthersKept.refl _ _ _⟩
theorem Fb.trans {B b : Nat} {u v w : World} (h : Fb B b u v) (k : Fb B b v w) : Fb B b u w := ⟨h.below.trans k.below, h.kept.trans k.kept⟩
theorem copyCheck_c (T : TypeId) (hT : BT T) (B b : Nat) (bs : List Value) (w : World) (h : Lib.IsBuilderF T 5 B b bs w) :
 Calls Tryz.prog 102 #[.pointer (some ⟨b, 0, none⟩)] w fun e w' => e = .returned (.tuple #[]) ∧ (Lib.BuilderAtF T 5 B b (.pointer (some ⟨b, 0, none⟩)) bs w' ∧ Fb B b w w') := by
 rcases h with h | h
 · refine (copyCheck_fresh T hT b w h.cell0 h.shape h.frozen0).mono ?_
   rintro e w' ⟨rfl, rfl⟩
   exact ⟨rfl, h.used _, (Below.refl B w).setCell (p := ⟨b, 0, none⟩) h.1 _, (Lib.OthersKept.refl _ _ w).setCell ⟨b, 0, none⟩ rfl _⟩
 · refine (copyCheck_used b w h.cell0).mono ?_
   rintro e w' ⟨rfl, rfl⟩
   exact ⟨rfl, h, Below.refl B _, Lib.OthersKept.refl _ _ _⟩
set_option maxHeartbeats 2000000 in
set_option maxRecDepth 100000 in
theorem WriteByte_c (T : TypeId) (hT : BT T) (B b : Nat) (bs : List Value) (c : Int) (w : World) (h : Lib.IsBuilderF T 5 B b bs w) (hlen : bs.length + 1 ≤ 140737488355328) (hBw : B ≤ w.heap.size) :
 Calls Tryz.prog 87 #[.pointer (some ⟨b, 0, none⟩), .int .u8 c] w fun e w' => e = .returned .nilIface ∧ (Lib.IsBuilderF T 5 B b (bs ++ [.int .u8 c]) w' ∧ Fb B b w w') := by
 obtain ⟨i0, hi, hz0, hz1, hz2⟩ := info_parts infoByte
 go_enter Tryz.func87, Tryz.ntmps87
 go_wp2_with (go_at_call 102; refine (copyCheck_c T hT B b bs _ h).mono ?_)
 rintro e w1 ⟨rfl, h1, hb1, hk1⟩; obtain ⟨hB, v, hbk, hown, hne⟩ := h1
 have c0 : w1.cell? ⟨b, 0, none⟩ = some (.pointer (some ⟨b, 0, none⟩)) := by rw [Lib.cell_of_heap hbk]; rfl
 have c1 : w1.cell? ⟨b, 1, none⟩ = some v := by rw [Lib.cell_of_heap hbk]; rfl
 go_wp2_with (at_builtin; refine wpList_append_ownF _ rfl _ _ 53 rfl B 5 i0 (.int .u8 0) 1 1 uBytes hi hz0 hz1 hz2 rfl (by decide) _ _ _ rfl (hown.alloc _) ⟨w1.heap.size, 0, none⟩ 1 1 [.int .u8 c] rfl rfl ?c1 ?c2 ?c3 ?c4 ?c5 ?_)
 case c1 =>
  intro j u hj
  match j, hj with
  | 0, hj => simp at hj; subst hj; simp [Addr.add]
 case c2 => intro u hu; simp at hu; subst hu; rfl
 case c3 => unfold maxLen; omega
 case c4 => omega
 case c5 => have := hb1.size; simp; omega
 intro v' w2 hown' hgrow _
 have hlt : b < w1.heap.size := by
  rcases Nat.lt_or_ge b w1.heap.size with h' | h'
  · exact h'
  · simp [Array.getElem?_eq_none h'] at hbk
 have hb2 : w2.heap[b]? = some (.cells #[.pointer (some ⟨b, 0, none⟩), v] T (0, 0)) := by
  rw [hgrow.block b (by simp; omega) (fun e => hne e.symm), Lib.alloc_old w1 _ b hlt]
  exact hbk
 have d0 : w2.cell? ⟨b, 0, none⟩ = some (.pointer (some ⟨b, 0, none⟩)) := by rw [Lib.cell_of_heap hb2]; rfl
 have d1 : w2.cell? ⟨b, 1, none⟩ = some v := by rw [Lib.cell_of_heap hb2]; rfl
 have f1 : w2.frozen? ⟨b, 1, none⟩ = false := Lib.frozen_of_heap hb2 1
 obtain ⟨g, cap, rfl⟩ : ∃ g cap, v' = .slice (some ⟨g, 0, none⟩) (bs.length + 1) cap := by
  rcases hown'.2 with ⟨_, h0⟩ | ⟨g, cap, cur, fz, hv, _⟩
  · omega
  · exact ⟨g, cap, hv⟩
 go_wp2
 go_ret
 refine ⟨rfl, .inr ?_, ?_, ((hk1.alloc _).grown hgrow (Lib.ownsRowF_kind (hown.alloc _))).setCell ⟨b, 1, none⟩ rfl _⟩
 · exact Lib.BuilderAtF.put (T := T) (e := 5) hB hb2 (bs' := bs ++ [.int .u8 c]) (by simpa using hown') hT.ne
 · exact ((hb1.alloc (by have := hb1.size; omega) _).grown hgrow (by have := hb1.size; simp; omega) (fun k hk => (hown.lt k hk).1)).setCell (p := ⟨b, 1, none⟩) hB _
set_option maxHeartbeats 2000000 in
set_option maxRecDepth 100000 in
theorem WriteString_c (T : TypeId) (hT : BT T) (B b : Nat) (bs : List Value) (s : ByteArray) (w : World) (h : Lib.IsBuilderF T 5 B b bs w) (hlen : bs.length + s.size ≤ 140737488355328) (hBw : B ≤ w.heap.size) :
 Calls Tryz.prog 77 #[.pointer (some ⟨b, 0, none⟩), .string s] w fun e w' => e = .returned (.tuple #[.int .i64 s.size, .nilIface]) ∧ (Lib.IsBuilderF T 5 B b (bs ++ Lib.strCells s) w' ∧ Fb B b w w') := by
 obtain ⟨i0, hi, hz0, hz1, hz2⟩ := info_parts infoByte
 go_enter Tryz.func77, Tryz.ntmps77
 go_wp2_with (go_at_call 102; refine (copyCheck_c T hT B b bs _ h).mono ?_)
 rintro e w1 ⟨rfl, h1, hb1, hk1⟩; obtain ⟨hB, v, hbk, hown, hne⟩ := h1
 have c0 : w1.cell? ⟨b, 0, none⟩ = some (.pointer (some ⟨b, 0, none⟩)) := by rw [Lib.cell_of_heap hbk]; rfl
 have c1 : w1.cell? ⟨b, 1, none⟩ = some v := by rw [Lib.cell_of_heap hbk]; rfl
 go_wp2_with (at_builtin; refine Lib.wpList_append_own_stringF _ rfl _ _ 53 9 rfl B 5 i0 uBytes underStr hi hz0 hz1 hz2 _ _ _ rfl hown s rfl ?c3 ?c4 ?c5 ?_)
 case c3 => unfold maxLen; omega
 case c4 => omega
 case c5 => have := hb1.size; omega
 intro v' w2 hown' hgrow _
 have hlt : b < w1.heap.size := by
  rcases Nat.lt_or_ge b w1.heap.size with h' | h'
  · exact h'
  · simp [Array.getElem?_eq_none h'] at hbk
 have hb2 : w2.heap[b]? = some (.cells #[.pointer (some ⟨b, 0, none⟩), v] T (0, 0)) := by
  rw [hgrow.block b hlt (fun e => hne e.symm)]
  exact hbk
 have d0 : w2.cell? ⟨b, 0, none⟩ = some (.pointer (some ⟨b, 0, none⟩)) := by rw [Lib.cell_of_heap hb2]; rfl
 have d1 : w2.cell? ⟨b, 1, none⟩ = some v := by rw [Lib.cell_of_heap hb2]; rfl
 have f1 : w2.frozen? ⟨b, 1, none⟩ = false := Lib.frozen_of_heap hb2 1
 obtain ⟨ao, n', cap, rfl⟩ : ∃ ao n' cap, v' = .slice ao n' cap := by
  rcases hown'.2 with ⟨hv, _⟩ | ⟨g, cap, cur, fz, hv, _⟩
  · exact ⟨_, _, _, hv⟩
  · exact ⟨_, _, _, hv⟩
 go_wp2
 go_ret2
 refine ⟨rfl, .inr ?_, ?_, (hk1.grown hgrow (Lib.ownsRowF_kind hown)).setCell ⟨b, 1, none⟩ rfl _⟩
 · exact Lib.BuilderAtF.put (T := T) (e := 5) hB hb2 (bs' := bs ++ Lib.strCells s) (by simpa [Lib.strCells_length] using hown') hT.ne
 · exact (hb1.grown hgrow (by have := hb1.size; omega) (fun k hk => (hown.lt k hk).1)).setCell (p := ⟨b, 1, none⟩) hB _
theorem uPtrByte : Tryz.prog.underlying 89 = some (.pointer 5) := by kernel_rfl
theorem cellsByte : Tryz.prog.cellsOf 5 = 1 := by kernel_rfl
theorem unsafeString_none' (W : World) (q : Option Addr) : (Builtin.unsafeString_ #[89, 3] 9 #[.pointer q, .int .i64 0]).run Tryz.prog W = .ok (.string .empty) W :=
 Lib.run_unsafeString_none W _ _ _ q
set_option maxHeartbeats 1000000 in
set_option maxRecDepth 100000 in
theorem String_some (T : TypeId) (B b : Nat) (l : List UInt8) (w : World) (h : Lib.IsBuilderF T 5 B b (Lib.byteCells l) w) (h0 : l ≠ []) :
 Calls Tryz.prog 30 #[.pointer (some ⟨b, 0, none⟩)] w fun e w' => e = .returned (.string ⟨l.toArray⟩) ∧ (Lib.IsBuilderF T 5 B b (Lib.byteCells l) w' ∧ Fb B b w w') := by
 obtain ⟨p, hp, hAt⟩ : ∃ p, (p = .pointer none ∨ p = .pointer (some ⟨b, 0, none⟩)) ∧ Lib.BuilderAtF T 5 B b p (Lib.byteCells l) w := by
  rcases h with h | h
  · exact ⟨_, .inl rfl, h⟩
  · exact ⟨_, .inr rfl, h⟩
 obtain ⟨hB, v, hbk, hown, hne⟩ := hAt
 have hl0 : l.length ≠ 0 := by simpa using h0
 rw [Lib.byteCells_length] at hown
 obtain ⟨g, cap, cur, fz, rfl, hbg, hg, hfz, hnc, hcm, hcs, htake⟩ : ∃ g cap cur fz, v = .slice (some ⟨g, 0, none⟩) l.length cap ∧ B ≤ g ∧ w.heap[g]? = some (.cells cur 5 fz) ∧ fz.2 ≤ l.length * 1 ∧ l.length ≤ cap ∧ cap ≤ maxLen ∧ cur.size = cap * 1 ∧ cur.toList.take (l.length * 1) = Lib.byteCells l := by
  rcases hown.2 with ⟨_, hz⟩ | ⟨g, cap, cur, fz, hv, r⟩
  · exact absurd hz hl0
  · exact ⟨g, cap, cur, fz, hv, r⟩
 have c1 : w.drew.cell? ⟨b, 1, none⟩ = some (.slice (some ⟨g, 0, none⟩) l.length cap) := by
  have : w.drew.heap[b]? = some (.cells #[p, .slice (some ⟨g, 0, none⟩) l.length cap] T (0, 0)) := hbk
  rw [Lib.cell_of_heap this]; rfl
 have hSD : (Builtin.unsafeSliceData_ #[53] 89 #[.slice (some ⟨g, 0, none⟩) l.length cap]).run Tryz.prog w.drew = .ok (.pointer (some ⟨g, 0, none⟩)) w.drew :=
  Lib.run_unsafeSliceData_row _ _ _ _ _ _ (by omega)
 have hUS : (Builtin.unsafeString_ #[89, 3] 9 #[.pointer (some ⟨g, 0, none⟩), .int .i64 l.length]).run Tryz.prog w.drew = .ok (.string ⟨l.toArray⟩) (w.drew.freeze ⟨g, 0, none⟩ l.length) := by
  refine Lib.run_unsafeString_row w.drew 89 3 9 5 uPtrByte cellsByte g cur.size (by have hg' : w.drew.heap[g]? = some (.cells cur 5 fz) := hg; simp [World.shape?, hg']) l h0 (by omega) (by unfold maxLen at hcm; omega) ?_; intro j x hx; have := hown.cells (g := g) rfl j (.int .u8 x.toNat) (by simp [Lib.byteCells, hx])
  exact this
 have hkeep : Lib.IsBuilderF T 5 B b (Lib.byteCells l) (w.drew.freeze ⟨g, 0, none⟩ l.length) := by
  have hA : Lib.BuilderAtF T 5 B b p (Lib.byteCells l) w.drew := ⟨hB, _, hbk, by rw [Lib.byteCells_length]; exact hown, hne⟩; have hF := hA.froze (g := g) (cap := cap) (by rw [Lib.byteCells_length]; exact c1); rw [Lib.byteCells_length] at hF
  rcases hp with rfl | rfl
  · exact .inl hF
  · exact .inr hF
 go_enter Tryz.func30, Tryz.ntmps30
 go_wp2
 go_region
 all_goals (go_wp2; go_ret; exact ⟨rfl, hkeep, Lib.below_freeze (Below.drew (Below.refl B w)) (p := ⟨g, 0, none⟩) hbg _, ((Lib.OthersKept.refl _ _ w).drew).freeze ⟨g, 0, none⟩ _ ⟨cur, fz, hg⟩⟩)
set_option maxHeartbeats 2000000 in
set_option maxRecDepth 100000 in
theorem String_nil (T : TypeId) (B b : Nat) (p : Value) (w : World) (hbk : w.heap[b]? = some (.cells #[p, .slice none 0 0] T (0, 0))) (hA : Lib.BuilderAtF T 5 B b p [] w) :
 Calls Tryz.prog 30 #[.pointer (some ⟨b, 0, none⟩)] w fun e w' => e = .returned (.string ⟨#[]⟩) ∧ (Lib.BuilderAtF T 5 B b p [] w' ∧ Fb B b w w') := by
 have hUS := unsafeString_none'
 have c1 : w.drew.cell? ⟨b, 1, none⟩ = some (.slice none 0 0) := by
  have : w.drew.heap[b]? = some (.cells #[p, .slice none 0 0] T (0, 0)) := hbk
  rw [Lib.cell_of_heap this]; rfl
 have hSD : (Builtin.unsafeSliceData_ #[53] 89 #[.slice none 0 0]).run Tryz.prog w.drew = .ok (.pointer none) w.drew := rfl
 go_enter Tryz.func30, Tryz.ntmps30
 go_wp2
 go_region
 all_goals (go_wp2; go_ret; exact ⟨rfl, hA.drew, Below.drew (Below.refl B w), (Lib.OthersKept.refl _ _ w).drew⟩)
set_option maxHeartbeats 2000000 in
set_option maxRecDepth 100000 in
theorem String_noroom (T : TypeId) (B b g : Nat) (p : Value) (cur : Array Value) (w : World) (hBw : B ≤ w.heap.size) (hbk : w.heap[b]? = some (.cells #[p, .slice (some ⟨g, 0, none⟩) 0 0] T (0, 0))) (fz : Nat × Nat) (hg : w.heap[g]? = some (.cells cur 5 fz)) (hA : Lib.BuilderAtF T 5 B b p [] w) :
 Calls Tryz.prog 30 #[.pointer (some ⟨b, 0, none⟩)] w fun e w' => e = .returned (.string ⟨#[]⟩) ∧ (Lib.BuilderAtF T 5 B b p [] w' ∧ Fb B b w w') := by
 have hUS := unsafeString_none'
 have hlt : b < w.heap.size := by
  rcases Nat.lt_or_ge b w.heap.size with h' | h'
  · exact h'
  · simp [Array.getElem?_eq_none h'] at hbk
 have c1 : w.drew.cell? ⟨b, 1, none⟩ = some (.slice (some ⟨g, 0, none⟩) 0 0) := by
  have : w.drew.heap[b]? = some (.cells #[p, .slice (some ⟨g, 0, none⟩) 0 0] T (0, 0)) := hbk
  rw [Lib.cell_of_heap this]; rfl
 have hSD : (Builtin.unsafeSliceData_ #[53] 89 #[.slice (some ⟨g, 0, none⟩) 0 0]).run Tryz.prog w.drew = .ok (.pointer (some ⟨w.drew.heap.size, 0, none⟩)) (w.drew.alloc (.view ⟨g, 0, none⟩ 5)) :=
  Lib.run_unsafeSliceData_zero w.drew _ _ 5 uPtrByte ⟨g, 0, none⟩ 0 (5, cur.size) (by have hg' : w.drew.heap[g]? = some (.cells cur 5 fz) := hg; simp [World.shape?, hg'])
 have c2 : (w.drew.alloc (.view ⟨g, 0, none⟩ 5)).cell? ⟨b, 1, none⟩ = some (.slice (some ⟨g, 0, none⟩) 0 0) := by
  have : (w.drew.alloc (.view ⟨g, 0, none⟩ 5)).heap[b]? = _ := (Lib.alloc_old w.drew _ b hlt).trans hbk
  rw [Lib.cell_of_heap this]; rfl
 have c3 : (w.alloc (.view ⟨g, 0, none⟩ 5)).drew.cell? ⟨b, 1, none⟩ = some (.slice (some ⟨g, 0, none⟩) 0 0) := c2; have c0 : w.cell? ⟨b, 1, none⟩ = some (.slice (some ⟨g, 0, none⟩) 0 0) := c1
 go_enter Tryz.func30, Tryz.ntmps30
 go_wp2
 go_region
 all_goals (go_wp2; go_ret; exact ⟨rfl, hA.drew.alloc _, (Below.drew (Below.refl B w)).alloc hBw _, ((Lib.OthersKept.refl _ _ w).drew).alloc _⟩)
set_option maxHeartbeats 2000000 in
set_option maxRecDepth 100000 in
theorem String_room (T : TypeId) (B b g cap : Nat) (p : Value) (w : World) (hc0 : cap ≠ 0) (hbk : w.heap[b]? = some (.cells #[p, .slice (some ⟨g, 0, none⟩) 0 cap] T (0, 0))) (hA : Lib.BuilderAtF T 5 B b p [] w) :
 Calls Tryz.prog 30 #[.pointer (some ⟨b, 0, none⟩)] w fun e w' => e = .returned (.string ⟨#[]⟩) ∧ (Lib.BuilderAtF T 5 B b p [] w' ∧ Fb B b w w') := by
 have hUS := unsafeString_none'
 have c1 : w.drew.cell? ⟨b, 1, none⟩ = some (.slice (some ⟨g, 0, none⟩) 0 cap) := by
  have : w.drew.heap[b]? = some (.cells #[p, .slice (some ⟨g, 0, none⟩) 0 cap] T (0, 0)) := hbk
  rw [Lib.cell_of_heap this]; rfl
 have hSD : (Builtin.unsafeSliceData_ #[53] 89 #[.slice (some ⟨g, 0, none⟩) 0 cap]).run Tryz.prog w.drew = .ok (.pointer (some ⟨g, 0, none⟩)) w.drew :=
  Lib.run_unsafeSliceData_row _ _ _ _ _ _ hc0
 clear hc0
 go_enter Tryz.func30, Tryz.ntmps30
 go_wp2
 go_region
 all_goals (go_wp2; go_ret; exact ⟨rfl, hA.drew, Below.drew (Below.refl B w), (Lib.OthersKept.refl _ _ w).drew⟩)
theorem String_empty (T : TypeId) (B b : Nat) (w : World) (h : Lib.IsBuilderF T 5 B b [] w) (hBw : B ≤ w.heap.size) :
 Calls Tryz.prog 30 #[.pointer (some ⟨b, 0, none⟩)] w fun e w' => e = .returned (.string ⟨#[]⟩) ∧ (Lib.IsBuilderF T 5 B b [] w' ∧ Fb B b w w') := by
 obtain ⟨p, hp, hA⟩ : ∃ p, (p = .pointer none ∨ p = .pointer (some ⟨b, 0, none⟩)) ∧ Lib.BuilderAtF T 5 B b p [] w := by
  rcases h with h | h
  · exact ⟨_, .inl rfl, h⟩
  · exact ⟨_, .inr rfl, h⟩
 have fin : ∀ (e : Ending) (w' : World), (e = .returned (.string ⟨#[]⟩) ∧ (Lib.BuilderAtF T 5 B b p [] w' ∧ Fb B b w w')) → e = .returned (.string ⟨#[]⟩) ∧ (Lib.IsBuilderF T 5 B b [] w' ∧ Fb B b w w') := by
  rintro e w' ⟨he, hk, hb⟩
  rcases hp with rfl | rfl
  · exact ⟨he, .inl hk, hb⟩
  · exact ⟨he, .inr hk, hb⟩
 have hA' := hA; obtain ⟨hB, v, hbk, hown, hne⟩ := hA
 rcases hown.2 with ⟨rfl, _⟩ | ⟨g, cap, cur, fz, rfl, hbg, hg, _, _, _, _, _⟩
 · exact (String_nil T B b p w hbk hA').mono fin
 · by_cases hc0 : cap = 0
   · subst hc0
     exact (String_noroom T B b g p cur w hBw hbk fz hg hA').mono fin
   · exact (String_room T B b g cap p w hc0 hbk hA').mono fin
theorem String_any (T : TypeId) (B b : Nat) (l : List UInt8) (w : World) (h : Lib.IsBuilderF T 5 B b (Lib.byteCells l) w) (hBw : B ≤ w.heap.size) :
 Calls Tryz.prog 30 #[.pointer (some ⟨b, 0, none⟩)] w fun e w' => e = .returned (.string ⟨l.toArray⟩) ∧ (Lib.IsBuilderF T 5 B b (Lib.byteCells l) w' ∧ Fb B b w w') := by
 cases l with
 | nil => exact String_empty T B b w h hBw
 | cons x r => exact String_some T B b (x :: r) w h (by simp)
end Bk
namespace Bk
open Go Go.RowKit Go.Proofs
structure Tabs (w : World) : Prop where
 sym : ∀ i, i < 43 → w.cell? ⟨0, i, none⟩ = some (str (symbols.getD i []))
 pow : Lib.TabIs Tryz.prog w "internal/strconv.uint64pow10" .u64 Lib.pow10Tab
theorem arith_Symbol_c (k : Int) (w : World) (h0 : 0 ≤ k) (h1 : k ≤ 255) (ht : Tabs w) : Calls Tryz.prog 52 #[.int .u8 k] w fun e w' => e = .returned (str (symbol k)) ∧ w = w' := arith_Symbol_s k w h0 h1 ⟨ht.sym⟩
end Bk
namespace Bk
open Go Go.RowKit Go.Proofs
theorem btPrinter : BT 57 := ⟨by kernel_rfl, by decide⟩
structure Bld (B b : Nat) (l : List UInt8) (w : World) : Prop where
 is : Lib.IsBuilderF 57 5 B b (Lib.byteCells l) w
 le : B ≤ w.heap.size
theorem builderAtF_ext {T e : TypeId} {B b : Nat} {p : Value} {bs : List Value} {w w' : World} (h : Lib.BuilderAtF T e B b p bs w) (x : Ext w w') : Lib.BuilderAtF T e B b p bs w' := by
 have hlt := h.lt; obtain ⟨hB, v, hb, hown, hne⟩ := h
 exact ⟨hB, v, (x.block hlt).trans hb, hown.kept (row := none) ⟨Below.os x, Below.tape x, Below.output x, Below.size x, fun k hk _ => x.block hk⟩ (by cases hv : v.ownBlock <;> simp), hne⟩
theorem Bld.ext {B b : Nat} {l : List UInt8} {w w' : World} (h : Bld B b l w) (x : Ext w w') : Bld B b l w' :=
 ⟨h.is.elim (fun a => .inl (builderAtF_ext a x)) (fun a => .inr (builderAtF_ext a x)), Nat.le_trans h.le x.size⟩
theorem Bld.alloc {B b : Nat} {l : List UInt8} {w : World} (h : Bld B b l w) (o : Obj) : Bld B b l (w.alloc o) := h.ext ((Ext.refl _).alloc o)
theorem Bld.drew {B b : Nat} {l : List UInt8} {w : World} (h : Bld B b l w) : Bld B b l w.drew := h.ext (Ext.refl _).drew
theorem Bld.lt {B b : Nat} {l : List UInt8} {w : World} (h : Bld B b l w) : b < w.heap.size := h.is.elim (fun a => a.lt) (fun a => a.lt)
theorem Bld.base {B b : Nat} {l : List UInt8} {w : World} (h : Bld B b l w) : B ≤ b := h.is.elim (fun a => a.1) (fun a => a.1)
theorem Fb.of_ext {B b : Nat} {w w' : World} (x : Ext w w') (h : B ≤ w.heap.size) : Fb B b w w' :=
 ⟨Below.mono x h, fun k o hk _ _ => (x.block (Array.getElem?_eq_some_iff.1 hk).1).trans hk⟩
theorem Fb.alloc {B b : Nat} {u w : World} (h : Fb B b u w) (hB : B ≤ u.heap.size) (o : Obj) : Fb B b u (w.alloc o) :=
 h.trans (.of_ext ((Ext.refl _).alloc o) (Nat.le_trans hB h.below.size))
theorem Fb.drew {B b : Nat} {u w : World} (h : Fb B b u w) (hB : B ≤ u.heap.size) : Fb B b u w.drew :=
 h.trans (.of_ext (Ext.refl _).drew (Nat.le_trans hB h.below.size))
theorem Fb.ext {B b : Nat} {u v w : World} (h : Fb B b u v) (hB : B ≤ u.heap.size) (x : Ext v w) : Fb B b u w :=
 h.trans (.of_ext x (Nat.le_trans hB h.below.size))
structure Box (k : Nat) (cs : Array Value) (T : TypeId) (w : World) : Prop where
 heap : w.heap[k]? = some (.cells cs T (0, 0))
theorem Box.new (w : World) (cs : Array Value) (T : TypeId) : Box w.heap.size cs T (w.alloc (.cells cs T)) := ⟨by show (w.heap.push _)[w.heap.size]? = _; simp⟩
theorem Box.new' {k : Nat} {w : World} (cs : Array Value) (T : TypeId) (hk : k = w.heap.size) : Box k cs T (w.alloc (.cells cs T)) := by subst hk; exact Box.new w cs T
theorem Box.lt {k : Nat} {cs : Array Value} {T : TypeId} {w : World} (h : Box k cs T w) : k < w.heap.size := (Array.getElem?_eq_some_iff.1 h.heap).1
theorem Box.ext {k : Nat} {cs : Array Value} {T : TypeId} {w w' : World} (h : Box k cs T w) (x : Ext w w') : Box k cs T w' := ⟨(x.block h.lt).trans h.heap⟩
theorem Box.alloc {k : Nat} {cs : Array Value} {T : TypeId} {w : World} (h : Box k cs T w) (o : Obj) : Box k cs T (w.alloc o) := h.ext ((Ext.refl _).alloc o)
theorem Box.drew {k : Nat} {cs : Array Value} {T : TypeId} {w : World} (h : Box k cs T w) : Box k cs T w.drew := h.ext (Ext.refl _).drew
theorem Box.fb {k B b : Nat} {cs : Array Value} {T : TypeId} {w w' : World} (h : Box k cs T w) (x : Fb B b w w') (hb : k ≠ b) (hT : T ≠ 5) : Box k cs T w' :=
 ⟨x.kept k _ h.heap (by simpa using hb) (fun c fz e => hT (by injection e))⟩
theorem Box.cell {k : Nat} {cs : Array Value} {T : TypeId} {w : World} (h : Box k cs T w) (o : Nat) : w.cell? ⟨k, o, none⟩ = cs[o]? := by rw [Lib.cell_of_heap h.heap]
theorem Box.node {k : Nat} {v0 v1 v2 v3 : Value} {T : TypeId} {w : World} (h : Box k #[v0, v1, v2, v3] T w) :
 w.cell? ⟨k, 0, none⟩ = some v0 ∧ w.cell? ⟨k, 1, none⟩ = some v1 ∧ w.cell? ⟨k, 2, none⟩ = some v2 ∧ w.cell? ⟨k, 3, none⟩ = some v3 := ⟨h.cell 0, h.cell 1, h.cell 2, h.cell 3⟩
theorem rowSits.fb {B b : Nat} {w w' : World} {l : List Nd} {a : Option Addr} (h : rowSits (· < B) w l a) (x : Fb B b w w') : rowSits (· < B) w' l a :=
 rowSits_mono (fun _ h => h) (fun k o _ hb hc => (Below.cell (p := ⟨k, o, none⟩) x.below hb).trans hc) l a h
theorem tabIs_below {P : Program} {B : Nat} {w w' : World} {name : String} {k : IntKind} {zs : List Int} (h : Lib.TabIs P w name k zs) (hb : Below B w w') (hg : ∀ g, P.globalNamed name = some g → g < B) : Lib.TabIs P w' name k zs := by
 unfold Lib.TabIs World.var? at *
 cases hn : P.globalNamed name with
 | none => rw [hn] at h; simp at h
 | some g => rw [hn] at h; simp only [Option.bind_some] at h ⊢; rw [hb.block g (hg g hn)]; exact h
theorem Tabs.below {B : Nat} {w w' : World} (h : Tabs w) (hb : Below B w w') (hB : Tryz.prog.globals.size ≤ B) : Tabs w' := by
 have h1 : 0 < Tryz.prog.globals.size := of_decide_eq_true (by kernel_rfl); have h2 : 1 < Tryz.prog.globals.size := of_decide_eq_true (by kernel_rfl); refine ⟨fun i hi => (Below.cell (p := ⟨0, i, none⟩) hb (by show 0 < B; omega)).trans (h.sym i hi), tabIs_below h.pow hb fun g hg => ?_⟩
 have hp : Tryz.prog.globalNamed "internal/strconv.uint64pow10" = some 1 := by kernel_rfl
 rw [hp] at hg
 injection hg with hg
 omega
theorem Tabs.ext {w w' : World} (h : Tabs w) (x : Ext w w') (hB : Tryz.prog.globals.size ≤ w.heap.size) : Tabs w' := h.below x hB
theorem write_c (B b tb tc : Nat) (l : List UInt8) (ss : List (List UInt8)) (w : World) (h : Bld B b l w) (ht : Box tb (ss.map str).toArray 9 w) (hn : ss.length ≤ 100) (hlen : (l ++ ss.flatten).length ≤ 140737488355328) :
 Calls Tryz.prog 45 #[.pointer (some ⟨b, 0, none⟩), .slice (some ⟨tb, 0, none⟩) ss.length tc] w fun e w' => e = .returned (.tuple #[]) ∧ Bld B b (l ++ ss.flatten) w' ∧ Fb B b w w' := by
 have hle := h.le
 have htb : tb ≠ b := by
  intro e; have h1 := ht.heap; rw [e] at h1
  rcases h.is with h' | h' <;> (obtain ⟨_, v, hb, _⟩ := h'; rw [hb] at h1; injection h1 with h1; injection h1 with _ h1 _; exact absurd h1 (by decide))
 have HB := Lib.hid h; clear h
 have HT := Lib.hid ht; clear ht
 go_enter Tryz.func45, Tryz.ntmps45
 go_wp2_with fail
 go_loopw [8] (fun i wr => ∃ j : Nat, j ≤ ss.length ∧ i = .int .i64 j ∧ Bld B b (l ++ (ss.take j).flatten) wr ∧ Fb B b w wr) (fun i _ => ss.length - (intOf i).toNat)
 case atStart => exact ⟨0, Nat.zero_le _, rfl, by simpa using HB.out, Fb.refl _ _ _⟩
 case round =>
  obtain ⟨j, hj, rfl, hbl, hfb⟩ := hrel
  by_cases hlt : j < ss.length
  · have hc := (HT.out.fb hfb htb (by decide)).cell j
    have hg : (ss.map str).toArray[j]? = some (str ss[j]) := by simp [hlt]
    rw [hg] at hc
    have htk : (ss.take (j + 1)).flatten = (ss.take j).flatten ++ ss[j] := by rw [List.take_succ_eq_append_getElem hlt, List.flatten_append]; simp
    have hpre : (ss.take (j + 1)).flatten.length ≤ ss.flatten.length := by
     have e : ss = ss.take (j + 1) ++ ss.drop (j + 1) := (List.take_append_drop _ _).symm
     have e2 : ss.flatten.length = (ss.take (j + 1)).flatten.length + (ss.drop (j + 1)).flatten.length := by rw [← List.length_append, ← List.flatten_append, ← e]
     omega
    generalize ss[j] = sj at *
    have HTK := Lib.hid htk; clear hg
    rw [htk] at hpre; simp only [List.length_append] at hlen hpre; clear htk
    have hll : (Lib.byteCells (l ++ (ss.take j).flatten)).length + (⟨sj.toArray⟩ : ByteArray).size ≤ 140737488355328 := by
     rw [Lib.byteCells_length, List.length_append]; show _ + sj.length ≤ _; omega
    have HLL := Lib.hid hll; clear hll
    go_wp2_with fail
    refine (WriteString_c 57 btPrinter B b _ _ _ hbl.is HLL.out hbl.le).mono ?_; rintro e w1 ⟨rfl, hi1, hf1⟩; simp only
    have hbl1 : Bld B b (l ++ (ss.take (j + 1)).flatten) w1 := by
     refine ⟨?_, Nat.le_trans hbl.le hf1.below.size⟩; rw [HTK.out, ← List.append_assoc]
     have : Lib.byteCells (l ++ (ss.take j).flatten ++ sj) = Lib.byteCells (l ++ (ss.take j).flatten) ++ Lib.strCells ⟨sj.toArray⟩ := by
      rw [Lib.strCells_toArray]; simp [Lib.byteCells]
     rw [this]; exact hi1
    clear hbl hc hi1
    go_wp2_with fail
    go_roundw
    case rel => exact ⟨j + 1, by omega, by go_num, hbl1, hfb.trans hf1⟩
    case measure => simp [intOf]; omega
  · go_wp2_with fail
    go_end0
    refine ⟨rfl, ?_, hfb⟩; rw [List.take_of_length_le (by omega)] at hbl
    exact hbl
theorem tabs_c (B b : Nat) (l : List UInt8) (n : Nat) (w : World) (h : Bld B b l w) (hn : n ≤ 1000000) (hlen : l.length + n ≤ 140737488355328) :
 Calls Tryz.prog 65 #[.pointer (some ⟨b, 0, none⟩), .int .i64 n] w fun e w' => e = .returned (.tuple #[]) ∧ Bld B b (l ++ List.replicate n 9) w' ∧ Fb B b w w' := by
 have HB := Lib.hid h; clear h
 go_enter Tryz.func65, Tryz.ntmps65
 go_wp2_with fail
 go_loopw [5] (fun i wr => ∃ j : Nat, j ≤ n ∧ i = .int .i64 j ∧ Bld B b (l ++ List.replicate j 9) wr ∧ Fb B b w wr) (fun i _ => n - (intOf i).toNat)
 case atStart => exact ⟨0, Nat.zero_le _, rfl, by simpa using HB.out, Fb.refl _ _ _⟩
 case round =>
  obtain ⟨j, hj, rfl, hbl, hfb⟩ := hrel
  by_cases hlt : j < n
  · go_wp2_with fail
    refine (WriteByte_c 57 btPrinter B b _ _ _ hbl.is (by rw [Lib.byteCells_length]; simp; omega) hbl.le).mono ?_; rintro e w1 ⟨rfl, hi1, hf1⟩; simp only
    have hbl1 : Bld B b (l ++ List.replicate (j + 1) 9) w1 := by
     refine ⟨?_, Nat.le_trans hbl.le hf1.below.size⟩
     have : Lib.byteCells (l ++ List.replicate (j + 1) 9) = Lib.byteCells (l ++ List.replicate j 9) ++ [Value.int .u8 9] := by
      rw [List.replicate_succ', ← List.append_assoc]; simp [Lib.byteCells]
     rw [this]; exact hi1
    clear hbl hi1
    go_wp2_with fail
    go_roundw
    case rel => exact ⟨j + 1, by omega, by go_num, hbl1, hfb.trans hf1⟩
    case measure => simp [intOf]; omega
  · go_wp2_with fail
    go_end0
    refine ⟨rfl, ?_, hfb⟩
    have : j = n := by omega
    subst this; exact hbl
end Bk
namespace Bk
open Go Go.RowKit Go.Proofs
def Tests (S : Nat → Prop) (f : FuncId) (p : Nd → Bool) (t : Nd) : Prop :=
 ∀ (a : Option Addr) (c : Nat) (w : World), t.sits S w a → Calls Tryz.prog f #[t.val a c] w fun e w' => e = .returned (.bool (p t)) ∧ Ext w w'
def Enters (f : FuncId) : Prop := ∀ args w, (callFunc f args).run Tryz.prog w = .ok (.enter f args) w
theorem every_c (f : FuncId) (p : Nd → Bool) (he : Enters f) (l : List Nd) (a : Option Addr) (c : Nat) (S : Nat → Prop) (w : World) (hl : l.length ≤ 9223372036854775807) (hs : rowSits S w l a) (ht : ∀ t ∈ l, Tests S f p t) :
 Calls Tryz.prog 36 #[.slice a l.length c, .func (.func f) #[] #[]] w fun e w' => e = .returned (.bool (l.all p)) ∧ Ext w w' := by
 have HT := Lib.hid ht; clear ht
 unfold Enters at he
 go_enter Tryz.func36, Tryz.ntmps36
 go_wp2_with fail
 go_loopw [9] (fun i wr => ∃ j : Nat, j ≤ l.length ∧ i = .int .i64 j ∧ Hid (l.all p = (l.drop j).all p) ∧ Ext w wr) (fun i _ => l.length - (intOf i).toNat)
 case atStart => exact ⟨0, Nat.zero_le _, rfl, Lib.hid rfl, Ext.refl _⟩
 case round =>
  obtain ⟨j, hj, rfl, HJ, hx⟩ := hrel
  by_cases hlt : j < l.length
  · have hg : l[j]? = some l[j] := List.getElem?_eq_getElem hlt
    have hmem : l[j] ∈ l := List.getElem_mem hlt; have hdrop := List.drop_eq_getElem_cons hlt
    generalize l[j] = t at *
    obtain ⟨b, o, a', c', rfl, hSb, g0, g1, g2, g3, hsk⟩ := rowSits_get (hs.ext hx) hg
    have HG := Lib.hid hg; clear hg
    have hall : l.all p = (p t && (l.drop (j + 1)).all p) := by rw [HJ.out, hdrop, List.all_cons]
    have HA := Lib.hid hall; clear hdrop hall
    go_wp2_with fail
    refine (HT.out t hmem a' c' _ (hsk.ext ((Ext.refl _).alloc _))).mono ?_; rintro e w1 ⟨rfl, hx1⟩
    cases hp : p t
    · have HP := Lib.hid hp; clear hp
      simp only
      go_wp2_with fail
      go_ret
      rw [HA.out, HP.out]
      exact ⟨rfl, (by refine Ext.trans ?_ (by assumption); refine Ext.alloc ?_ _; assumption)⟩
    · have HP := Lib.hid hp; clear hp
      simp only
      go_wp2_with fail
      go_roundw
      case rel => exact ⟨j + 1, by omega, by go_num, Lib.hid (by rw [HA.out, HP.out]; simp), (by refine Ext.trans ?_ (by assumption); refine Ext.alloc ?_ _; assumption)⟩
      case measure => simp [intOf]; omega
  · go_wp2_with fail
    go_ret
    rw [HJ.out, List.drop_eq_nil_of_le (by omega)]
    exact ⟨rfl, hx⟩
def kidsOk : List Nd → List (FuncId × (Nd → Bool)) → Bool
 | [], [] => true
 | t :: r, f :: fs => f.2 t && kidsOk r fs
 | _, _ => false
theorem kidsOk_len : ∀ (l : List Nd) (fs : List (FuncId × (Nd → Bool))), l.length ≠ fs.length → kidsOk l fs = false
 | [], [], h => absurd rfl h
 | [], _ :: _, _ => rfl
 | _ :: _, [], _ => rfl
 | t :: r, f :: fs, h => by simp only [kidsOk]; rw [kidsOk_len r fs (by simpa using h)]; simp
theorem kids_c (k n : Int) (s : List UInt8) (l : List Nd) (a : Option Addr) (c : Nat) (fs : List (FuncId × (Nd → Bool))) (tb tc : Nat) (S : Nat → Prop) (w : World)
 (hl : l.length ≤ 9223372036854775807) (hfl : fs.length ≤ 100) (hs : rowSits S w l a)
 (htb : ∀ i f, fs[i]? = some f → w.cell? ⟨tb, i, none⟩ = some (.func (.func f.1) #[] #[])) (he : ∀ f ∈ fs, Enters f.1) (ht : ∀ f ∈ fs, ∀ t ∈ l, Tests S f.1 f.2 t) :
 Calls Tryz.prog 27 #[.agg #[.int .u8 k, .int .i64 n, str s, .slice a l.length c], .slice (some ⟨tb, 0, none⟩) fs.length tc] w fun e w' => e = .returned (.bool (kidsOk l fs)) ∧ Ext w w' := by
 have HT := Lib.hid ht; clear ht
 have HE := Lib.hid he; clear he
 have HB := Lib.hid htb; clear htb
 by_cases hlen : l.length = fs.length
 · have dn : ((l.length : Int) != (fs.length : Int)) = false := by rw [hlen]; simp
   have HL := Lib.hid hlen
   have hlen1 : l.length ≤ fs.length := by omega
   have hlen2 : fs.length ≤ l.length := by omega
   clear hlen
   go_enter Tryz.func27, Tryz.ntmps27
   go_wp2_with fail
   go_loopw [15] (fun i wr => ∃ j : Nat, j ≤ fs.length ∧ i = .int .i64 j ∧ Hid (kidsOk l fs = kidsOk (l.drop j) (fs.drop j)) ∧ Ext (w.alloc (.cells #[.int .u8 k, .int .i64 n, str s, .slice a l.length c] 24)) wr) (fun i _ => fs.length - (intOf i).toNat)
   case atStart => exact ⟨0, Nat.zero_le _, rfl, Lib.hid rfl, Ext.refl _⟩
   case round =>
    obtain ⟨j, hj, rfl, HJ, hx⟩ := hrel; have hcs := hx.cells
    by_cases hlt : j < fs.length
    · have hlt' : j < l.length := by omega
      have hg : l[j]? = some l[j] := List.getElem?_eq_getElem hlt'; have hmem : l[j] ∈ l := List.getElem_mem hlt'; have hdrop := List.drop_eq_getElem_cons hlt'; have hgf : fs[j]? = some fs[j] := List.getElem?_eq_getElem hlt; have hmemf : fs[j] ∈ fs := List.getElem_mem hlt; have hdropf := List.drop_eq_getElem_cons hlt
      generalize l[j] = t at *
      generalize fs[j] = f at *
      have hxx : Ext w wr := Ext.trans ((Ext.refl _).alloc _) hx; obtain ⟨b, o, a', c', rfl, hSb, g0, g1, g2, g3, hsk⟩ := rowSits_get (hs.ext hxx) hg
      have HG := Lib.hid hg; clear hg
      have ht0 := hxx.keep (HB.out j f hgf)
      have HGF := Lib.hid hgf; clear hgf
      have hall : kidsOk l fs = (f.2 t && kidsOk (l.drop (j + 1)) (fs.drop (j + 1))) := by rw [HJ.out, hdrop, hdropf]; rfl
      have HA := Lib.hid hall; clear hdrop hall hdropf
      have hen := HE.out f hmemf
      unfold Enters at hen
      go_wp2_with fail
      refine (HT.out f hmemf t hmem a' c' _ hsk).mono ?_; rintro e w1 ⟨rfl, hx1⟩
      cases hp : f.2 t
      · have HP := Lib.hid hp; clear hp
        simp only
        go_wp2_with fail
        go_ret
        rw [HA.out, HP.out]
        exact ⟨rfl, (by refine Ext.trans ?_ (by assumption); assumption)⟩
      · have HP := Lib.hid hp; clear hp
        simp only
        go_wp2_with fail
        go_roundw
        case rel => exact ⟨j + 1, by omega, by go_num, Lib.hid (by rw [HA.out, HP.out]; simp), (by refine Ext.trans ?_ (by assumption); assumption)⟩
        case measure => simp [intOf]; omega
    · go_wp2_with fail
      go_ret
      rw [HJ.out, List.drop_eq_nil_of_le (by omega), List.drop_eq_nil_of_le (by omega)]
      exact ⟨rfl, (by refine Ext.trans ?_ (by assumption); refine Ext.alloc ?_ _; exact Ext.refl _)⟩
 · have dn : ((l.length : Int) != (fs.length : Int)) = true := by rw [bne_iff_ne]; omega
   have hk := kidsOk_len l fs hlen
   have HK := Lib.hid hk; clear hk hlen
   go_enter Tryz.func27, Tryz.ntmps27
   go_wp2_with fail
   go_ret
   rw [HK.out]
   exact ⟨rfl, (by refine Ext.alloc ?_ _; exact Ext.refl _)⟩
end Bk
namespace Bk
open Go Go.RowKit Go.Proofs
theorem get1 {α : Type} {Q : Nat → α → Prop} {x : α} (h : Q 0 x) : ∀ i f, [x][i]? = some f → Q i f := by
 intro i f hf
 rcases i with _ | i
 · simp at hf; exact hf ▸ h
 · simp at hf
theorem get2 {α : Type} {Q : Nat → α → Prop} {x y : α} (h : Q 0 x) (h1 : Q 1 y) : ∀ i f, [x, y][i]? = some f → Q i f := by
 intro i f hf
 rcases i with _ | _ | i
 · simp at hf; exact hf ▸ h
 · simp at hf; exact hf ▸ h1
 · simp at hf
theorem get3 {α : Type} {Q : Nat → α → Prop} {x y z : α} (h : Q 0 x) (h1 : Q 1 y) (h2 : Q 2 z) : ∀ i f, [x, y, z][i]? = some f → Q i f := by
 intro i f hf
 rcases i with _ | _ | _ | i
 · simp at hf; exact hf ▸ h
 · simp at hf; exact hf ▸ h1
 · simp at hf; exact hf ▸ h2
 · simp at hf
theorem get4 {α : Type} {Q : Nat → α → Prop} {x y z u : α} (h : Q 0 x) (h1 : Q 1 y) (h2 : Q 2 z) (h3 : Q 3 u) : ∀ i f, [x, y, z, u][i]? = some f → Q i f := by
 intro i f hf
 rcases i with _ | _ | _ | _ | i
 · simp at hf; exact hf ▸ h
 · simp at hf; exact hf ▸ h1
 · simp at hf; exact hf ▸ h2
 · simp at hf; exact hf ▸ h3
 · simp at hf
theorem mem1 {α : Type} {Q : α → Prop} {x : α} (h : Q x) : ∀ f ∈ [x], Q f := by intro f hf; simp at hf; exact hf ▸ h
theorem mem2 {α : Type} {Q : α → Prop} {x y : α} (h : Q x) (h1 : Q y) : ∀ f ∈ [x, y], Q f := by
 intro f hf; simp at hf; rcases hf with rfl | rfl <;> assumption
theorem mem3 {α : Type} {Q : α → Prop} {x y z : α} (h : Q x) (h1 : Q y) (h2 : Q z) : ∀ f ∈ [x, y, z], Q f := by
 intro f hf; simp at hf; rcases hf with rfl | rfl | rfl <;> assumption
theorem mem4 {α : Type} {Q : α → Prop} {x y z u : α} (h : Q x) (h1 : Q y) (h2 : Q z) (h3 : Q u) : ∀ f ∈ [x, y, z, u], Q f := by
 intro f hf; simp at hf; rcases hf with rfl | rfl | rfl | rfl <;> assumption
theorem en_IsExpr : Enters 10 := enters_of Tryz.func10 (by kernel_rfl) rfl
theorem isExpr_leaf (n : Int) (s : List UInt8) (l : List Nd) : (Nd.mk 1 n s l).isExpr = (decide (0 ≤ n) && s.isEmpty && l.isEmpty) := by rw [Nd.isExpr.eq_def]; simp
theorem isExpr_name (k n : Int) (s : List UInt8) (l : List Nd) (h : k = 2 ∨ k = 4 ∨ k = 5) : (Nd.mk k n s l).isExpr = (named n s && l.isEmpty) := by
 rcases h with rfl | rfl | rfl <;> rw [Nd.isExpr.eq_def] <;> simp
theorem isExpr_item (f : FuncId) (n : Int) (s : List UInt8) (l : List Nd) : (Nd.mk 3 n s l).isExpr = (named n s && kidsOk l [(f, Nd.isExpr)]) := by
 rcases l with _ | ⟨x, _ | ⟨y, l⟩⟩ <;> rw [Nd.isExpr.eq_def] <;> simp [kidsOk]
theorem isExpr_un (f : FuncId) (k n : Int) (s : List UInt8) (l : List Nd) (h : k = 6 ∨ k = 7) : (Nd.mk k n s l).isExpr = (plain n s && kidsOk l [(f, Nd.isExpr)]) := by
 rcases l with _ | ⟨x, _ | ⟨y, l⟩⟩ <;> rcases h with rfl | rfl <;> rw [Nd.isExpr.eq_def] <;> simp [kidsOk]
theorem isExpr_bin (f : FuncId) (k n : Int) (s : List UInt8) (l : List Nd) (h : 8 ≤ k) (h' : k ≤ 23) : (Nd.mk k n s l).isExpr = (plain n s && kidsOk l [(f, Nd.isExpr), (f, Nd.isExpr)]) := by
 have e1 : ¬ k = 1 := by omega
 have e2 : ¬ (k = 2 ∨ k = 4 ∨ k = 5) := by omega
 have e3 : ¬ k = 3 := by omega
 have e4 : ¬ (k = 6 ∨ k = 7) := by omega
 rcases l with _ | ⟨x, _ | ⟨y, _ | ⟨z, l⟩⟩⟩ <;> rw [Nd.isExpr.eq_def] <;> simp [kidsOk, e1, e2, e3, e4, h, h']
theorem isExpr_else (k n : Int) (s : List UInt8) (l : List Nd) (h : k < 1 ∨ 23 < k) : (Nd.mk k n s l).isExpr = false := by
 have e1 : ¬ k = 1 := by omega
 have e2 : ¬ (k = 2 ∨ k = 4 ∨ k = 5) := by omega
 have e3 : ¬ k = 3 := by omega
 have e4 : ¬ (k = 6 ∨ k = 7) := by omega
 have e5 : ¬ (8 ≤ k ∧ k ≤ 23) := by omega
 rw [Nd.isExpr.eq_def]; simp [e1, e2, e3, e4, e5]
set_option maxHeartbeats 2000000 in
theorem IsExpr_c (S : Nat → Prop) (N : Nat) : ∀ t : Nd, t.size < N → t.wf → Tests S 10 Nd.isExpr t := by
 induction N with
 | zero => intro t h; omega
 | succ N ih =>
  rintro ⟨k, n, s, l⟩ hN hwf a c w hs; simp only [Nd.wf, Nd.size, Nd.sits, Nd.kind, Nd.num, Nd.name, Nd.kids, Nd.val] at *; obtain ⟨hk0, hk1, hn0, hn1, hsl, hll, hrw⟩ := hwf
  have hkid : ∀ t ∈ l, Tests S 10 Nd.isExpr t := fun t ht => ih t (by have := size_mem ht; omega) (rowWf_get hrw t ht)
  have HKID := Lib.hid hkid; clear hkid ih hrw
  have HSL := Lib.hid hsl; clear hsl
  by_cases c1 : k = 1
  · subst c1
    have hr := isExpr_leaf n s l
    have HR := Lib.hid hr; clear hr
    go_enter Tryz.func10, Tryz.ntmps10
    go_wp2_with fail
    all_goals go_ret
    all_goals rw [HR.out]
    all_goals exact ⟨ret_bool (by rw [Bool.eq_iff_iff]; first | (simp [*]; done) | (simp [*]; intros; omega)), (by repeat (first | exact Ext.refl _ | assumption | refine Ext.alloc ?_ _ | refine Ext.drew ?_ | refine Ext.trans ?_ (by assumption)))⟩
  by_cases c2 : k = 2 ∨ k = 4 ∨ k = 5
  · have hr := isExpr_name k n s l c2
    have HR := Lib.hid hr; clear hr
    cases hnm : named n s
    all_goals have HNM := Lib.hid hnm; clear hnm
    all_goals rcases c2 with rfl | rfl | rfl
    all_goals go_enter Tryz.func10, Tryz.ntmps10
    all_goals go_wp2_with (go_at_call 26; refine (named_c _ _ _ _ _ _ _ HSL.out).mono ?_; rintro e w1 ⟨rfl, hx1⟩; have hc1 := hx1.cells; rw [HNM.out])
    all_goals go_ret
    all_goals rw [HR.out, HNM.out]
    all_goals exact ⟨ret_bool (by first | rfl | (rw [Bool.eq_iff_iff]; simp)), (by repeat (first | exact Ext.refl _ | assumption | refine Ext.alloc ?_ _ | refine Ext.drew ?_ | refine Ext.trans ?_ (by assumption)))⟩
  by_cases c3 : k = 3
  · subst c3
    have hr := isExpr_item 10 n s l
    have HR := Lib.hid hr; clear hr
    cases hnm : named n s
    all_goals have HNM := Lib.hid hnm; clear hnm
    all_goals go_enter Tryz.func10, Tryz.ntmps10
    all_goals go_wp2_with (first | (go_at_call 26; refine (named_c _ _ _ _ _ _ _ HSL.out).mono ?_; rintro e w1 ⟨rfl, hx1⟩; have hc1 := hx1.cells; rw [HNM.out]) | (go_at_call 27; refine (kids_c _ _ _ l a c [(10, Nd.isExpr)] _ _ S _ hll (by decide) (hs.ext (by refine Ext.alloc ?_ _; refine Ext.trans ?_ (by assumption); refine Ext.alloc ?_ _; exact Ext.refl _)) (get1 (by go_simp)) (mem1 en_IsExpr) (mem1 HKID.out)).mono ?_; rintro e w2 ⟨rfl, hx2⟩))
    all_goals go_ret
    all_goals rw [HR.out, HNM.out]
    all_goals exact ⟨ret_bool (by simp), (by repeat (first | exact Ext.refl _ | assumption | refine Ext.alloc ?_ _ | refine Ext.drew ?_ | refine Ext.trans ?_ (by assumption)))⟩
  by_cases c4 : k = 6 ∨ k = 7
  · have hr := isExpr_un 10 k n s l c4
    have HR := Lib.hid hr; clear hr
    cases hnm : plain n s
    all_goals have HNM := Lib.hid hnm; clear hnm
    all_goals rcases c4 with rfl | rfl
    all_goals go_enter Tryz.func10, Tryz.ntmps10
    all_goals go_wp2_with (first | (go_at_call 28; refine (plain_c _ _ _ _ _ _ _).mono ?_; rintro e w1 ⟨rfl, hx1⟩; have hc1 := hx1.cells; rw [HNM.out]) | (go_at_call 27; refine (kids_c _ _ _ l a c [(10, Nd.isExpr)] _ _ S _ hll (by decide) (hs.ext (by repeat (first | exact Ext.refl _ | assumption | refine Ext.alloc ?_ _ | refine Ext.drew ?_ | refine Ext.trans ?_ (by assumption)))) (get1 (by go_simp)) (mem1 en_IsExpr) (mem1 HKID.out)).mono ?_; rintro e w2 ⟨rfl, hx2⟩))
    all_goals go_ret
    all_goals rw [HR.out, HNM.out]
    all_goals exact ⟨ret_bool (by simp), (by repeat (first | exact Ext.refl _ | assumption | refine Ext.alloc ?_ _ | refine Ext.drew ?_ | refine Ext.trans ?_ (by assumption)))⟩
  by_cases c5 : 8 ≤ k ∧ k ≤ 23
  · obtain ⟨c5a, c5b⟩ := c5
    have d1 : (k == 1) = false := by rw [beq_eq_false_iff_ne]; omega
    have d2 : (k == 2) = false := by rw [beq_eq_false_iff_ne]; omega
    have d3 : (k == 3) = false := by rw [beq_eq_false_iff_ne]; omega
    have d4 : (k == 4) = false := by rw [beq_eq_false_iff_ne]; omega
    have d5 : (k == 5) = false := by rw [beq_eq_false_iff_ne]; omega
    have d6 : (k == 6) = false := by rw [beq_eq_false_iff_ne]; omega
    have d7 : (k == 7) = false := by rw [beq_eq_false_iff_ne]; omega
    clear c1 c2 c3 c4; have hr := isExpr_bin 10 k n s l c5a c5b
    have HR := Lib.hid hr; clear hr
    cases hnm : plain n s
    all_goals have HNM := Lib.hid hnm; clear hnm
    all_goals go_enter Tryz.func10, Tryz.ntmps10
    all_goals go_wp2_with (first | (go_at_call 28; refine (plain_c _ _ _ _ _ _ _).mono ?_; rintro e w1 ⟨rfl, hx1⟩; have hc1 := hx1.cells; rw [HNM.out]) | (go_at_call 27; refine (kids_c _ _ _ l a c [(10, Nd.isExpr), (10, Nd.isExpr)] _ _ S _ hll (by decide) (hs.ext (by refine Ext.alloc ?_ _; refine Ext.trans ?_ (by assumption); refine Ext.alloc ?_ _; exact Ext.refl _)) (get2 (by go_simp) (by go_simp)) (mem2 en_IsExpr en_IsExpr) (mem2 HKID.out HKID.out)).mono ?_; rintro e w2 ⟨rfl, hx2⟩))
    all_goals go_ret
    all_goals rw [HR.out, HNM.out]
    all_goals exact ⟨ret_bool (by simp), (by repeat (first | exact Ext.refl _ | assumption | refine Ext.alloc ?_ _ | refine Ext.drew ?_ | refine Ext.trans ?_ (by assumption)))⟩
  · have hr := isExpr_else k n s l (by omega)
    have HR := Lib.hid hr; clear hr
    have d1 : (k == 1) = false := by rw [beq_eq_false_iff_ne]; omega
    have d2 : (k == 2) = false := by rw [beq_eq_false_iff_ne]; omega
    have d3 : (k == 3) = false := by rw [beq_eq_false_iff_ne]; omega
    have d4 : (k == 4) = false := by rw [beq_eq_false_iff_ne]; omega
    have d5 : (k == 5) = false := by rw [beq_eq_false_iff_ne]; omega
    have d6 : (k == 6) = false := by rw [beq_eq_false_iff_ne]; omega
    have d7 : (k == 7) = false := by rw [beq_eq_false_iff_ne]; omega
    clear c1 c2 c3 c4
    go_enter Tryz.func10, Tryz.ntmps10
    go_wp2_with fail
    all_goals go_ret
    all_goals rw [HR.out]
    all_goals exact ⟨ret_bool (by first | rfl | (simp; omega)), (by repeat (first | exact Ext.refl _ | assumption | refine Ext.alloc ?_ _ | refine Ext.drew ?_ | refine Ext.trans ?_ (by assumption)))⟩
end Bk
