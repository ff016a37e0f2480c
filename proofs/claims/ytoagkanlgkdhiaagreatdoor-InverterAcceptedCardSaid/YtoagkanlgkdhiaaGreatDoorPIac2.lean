/- Texts that the proofs of InverterAccepted need. No condition. (Part 2 of 8.) -/
import Derived.Test.YtoagkanlgkdhiaaGreatDoorPIac1
set_option linter.unusedSimpArgs false
set_option linter.unusedVariables false
namespace Bk
open Go Go.RowKit
def Cells (S : Nat → Prop) (w : World) : List Nd → List Value → Prop
 | [], cs => cs = []
 | t :: r, cs => ∃ a c ds, cs = t.cells a c ++ ds ∧ t.sits S w a ∧ Cells S w r ds
theorem Cells.len {S : Nat → Prop} {w : World} : ∀ {l : List Nd} {cs : List Value}, Cells S w l cs → cs.length = l.length * 4
 | [], _, h => by rw [show _ = [] from h]; rfl
 | t :: r, _, ⟨a, c, ds, e, _, h⟩ => by
  have := h.len; rw [e, List.length_append, this, List.length_cons]
  simp only [List.length_cons, List.length_nil]; omega
theorem Cells.one {S : Nat → Prop} {w : World} : ∀ {l : List Nd} {cs : List Value}, Cells S w l cs → cs.all Value.one = true
 | [], _, h => by rw [show _ = [] from h]; rfl
 | t :: r, _, ⟨a, c, ds, e, _, h⟩ => by rw [e, List.all_append, h.one]; rfl
theorem Cells.app {S : Nat → Prop} {w : World} : ∀ {l q : List Nd} {cs ds : List Value}, Cells S w l cs → Cells S w q ds → Cells S w (l ++ q) (cs ++ ds)
 | [], _, _, _, h, k => by rw [show _ = [] from h]; exact k
 | t :: r, q, _, ds, ⟨a, c, es, e, hs, h⟩, k => ⟨a, c, es ++ ds, by rw [e, List.append_assoc], hs, h.app k⟩
theorem Cells.fr {S T : Nat → Prop} {w w' : World} (x : Fr T w w') (hd : ∀ b, S b → ¬ T b) : ∀ {l : List Nd} {cs : List Value}, Cells S w l cs → Cells S w' l cs
 | [], _, h => h
 | t :: r, _, ⟨a, c, ds, e, hs, h⟩ => ⟨a, c, ds, e, hs.fr x hd, Cells.fr x hd h⟩
theorem row_app {w : World} {b o : Nat} {us vs : List Value} (h1 : Row w ⟨b, o, none⟩ us) (h2 : Row w ⟨b, o + us.length, none⟩ vs) : Row w ⟨b, o, none⟩ (us ++ vs) := fun i v hi => by
 rcases Nat.lt_or_ge i us.length with hlt | hge
 · rw [List.getElem?_append_left hlt] at hi
   exact h1 i v hi
 · rw [List.getElem?_append_right hge] at hi
   have h := h2.at hi
   have e : (⟨b, o, none⟩ : Addr).add i = ⟨b, o + i, none⟩ := by unfold Addr.add; by_cases h0 : i = 0 <;> simp [h0]
   rw [e, show o + i = o + us.length + (i - us.length) by omega]; exact h
theorem cells_sits {S S' : Nat → Prop} {w : World} (hS : ∀ b, S b → S' b) : ∀ (l : List Nd) (g o : Nat) (cs : List Value), S' g → Row w ⟨g, o, none⟩ cs → Cells S w l cs → rowSits S' w l (some ⟨g, o, none⟩)
 | [], _, _, _, _, _, _ => by simp [rowSits]
 | t :: r, g, o, _, hg, hr, ⟨a, c, ds, e, hs, h⟩ => by
  subst e; simp only [rowSits]
  have hd : Row w ⟨g, o + 4, none⟩ ds := by
   have := hr.sub 4 ds.length
   simpa using this
  exact ⟨g, o, a, c, rfl, hg, hr.at0 rfl, hr.at (i := 1) rfl, hr.at (i := 2) rfl, hr.at (i := 3) rfl, Nd.sits.wide hs hS, cells_sits hS r g (o + 4) ds hg hd h⟩
def OwnG (e B : Nat) (w : World) (g cap : Nat) (l : List Nd) : Prop := B ≤ g ∧ ∃ cs, Own w g e 4 (.slice (some ⟨g, 0, none⟩) l.length cap) l.length cs ∧ Cells (· < B) w l cs
theorem OwnG.lt {e B : Nat} {w : World} {g cap : Nat} {l : List Nd} (h : OwnG e B w g cap l) : g < w.heap.size := by
 obtain ⟨-, cs, h1, -⟩ := h
 exact (h1.blk (k := g) rfl).2
theorem OwnG.fr {e B : Nat} {T : Nat → Prop} {w w' : World} {g cap : Nat} {l : List Nd} (h : OwnG e B w g cap l) (x : Fr T w w') (hs : ∀ k, T k → B ≤ k ∧ k ≠ g) : OwnG e B w' g cap l := by
 obtain ⟨h0, cs, h1, h2⟩ := h; refine ⟨h0, cs, h1.fr x (fun k hk hT => ?_), h2.fr x (fun b hb hT => ?_)⟩
 · simp only [Value.ownBlock, Option.some.injEq] at hk
   exact (hs k hT).2 hk.symm
 · have := (hs b hT).1; omega
theorem OwnG.ext {e B : Nat} {w w' : World} {g cap : Nat} {l : List Nd} (h : OwnG e B w g cap l) (x : Ext w w') : OwnG e B w' g cap l := by
 obtain ⟨h0, cs, h1, h2⟩ := h
 exact ⟨h0, cs, h1.ext x, h2.fr (T := fun _ => False) (.of_ext x) (fun _ _ h => h)⟩
theorem OwnG.sits {e B : Nat} {w : World} {g cap : Nat} {l : List Nd} (h : OwnG e B w g cap l) : rowSits (fun b => b < B ∨ b = g) w l (some ⟨g, 0, none⟩) := by
 obtain ⟨h0, cs, h1, h2⟩ := h
 rcases h1.row with ⟨hv, -⟩ | ⟨g', cap', hv, -, -, hr⟩
 · simp at hv
 · simp only [Value.slice.injEq, Option.some.injEq, Addr.mk.injEq, and_true] at hv
   obtain ⟨rfl, -⟩ := hv
   exact cells_sits (fun b hb => Or.inl hb) l g 0 cs (Or.inr rfl) hr h2
theorem run_append_none0 {P : Program} (w : World) (t ty e : TypeId) (i : TypeInfo) (ht : P.underlying t = some (.slice e)) (hi : P.info? e = some i) (g n cap c : Nat) (hn : n ≤ cap) :
 (Builtin.append_ #[t, t] ty #[.slice (some ⟨g, 0, none⟩) n cap, .slice none 0 c]).run P w = .ok (.slice (some ⟨g, 0, none⟩) n cap) w := by
 simp [Builtin.append_, run_underlying ht, Go.sizeOf, typeInfo, hi, Builtin.lenOf, Builtin.firstCells, hn, storeCells]
def OnSome (K : Value → World → Prop) : Option Value → World → Prop
 | some v, w => K v w
 | none, _ => False
section
variable {P : Program} {n : Nat} {l : Sl} {w : World} {tab : Tab} {zt : ZTab} {ty : TypeId}
end
end Bk
namespace Bk
structure VD where
 name : List UInt8
 kind : Int
 len : Int
structure PD where
 name : List UInt8
 params : List VD
 body : Nd
structure PG where
 vars : List VD
 procs : List PD
 main : Nd
end Bk
namespace Bk
open Go Go.RowKit
abbrev VD.cells (v : VD) : List Value := [str v.name, .int .u8 v.kind, .int .i64 v.len]
abbrev VD.val (v : VD) : Value := .agg #[str v.name, .int .u8 v.kind, .int .i64 v.len]
def VDAt (w : World) (b o : Nat) (v : VD) : Prop := Row w ⟨b, o, none⟩ v.cells
def VDs (S : Nat → Prop) (w : World) (l : List VD) (a : Option Addr) : Prop := Arr S 3 VDAt w l a
abbrev PD.cells (p : PD) (pa : Option Addr) (pc : Nat) (ba : Option Addr) (bc : Nat) : List Value := [str p.name, .slice pa p.params.length pc, .int .u8 p.body.kind, .int .i64 p.body.num, str p.body.name, .slice ba p.body.kids.length bc]
def PDAt (S : Nat → Prop) (w : World) (b o : Nat) (p : PD) : Prop := ∃ pa pc ba bc, Row w ⟨b, o, none⟩ (p.cells pa pc ba bc) ∧ VDs S w p.params pa ∧ p.body.sits S w ba
def PDs (S : Nat → Prop) (w : World) (l : List PD) (a : Option Addr) : Prop := Arr S 6 (PDAt S) w l a
theorem VDs.ext {S : Nat → Prop} {w w' : World} {l : List VD} {a : Option Addr} (h : VDs S w l a) (x : Ext w w') : VDs S w' l a := h.mono (fun _ h => h) (fun _ _ _ _ _ h => Row.ext h x)
theorem PDs.ext {S : Nat → Prop} {w w' : World} {l : List PD} {a : Option Addr} (h : PDs S w l a) (x : Ext w w') : PDs S w' l a :=
 h.mono (fun _ h => h) (fun _ _ _ _ _ ⟨pa, pc, ba, bc, h1, h2, h3⟩ => ⟨pa, pc, ba, bc, h1.ext x, h2.ext x, h3.ext x⟩)
abbrev PG.cells (g : PG) (va : Option Addr) (vc : Nat) (pa : Option Addr) (pc : Nat) (ma : Option Addr) (mc : Nat) : List Value :=
 [.slice va g.vars.length vc, .slice pa g.procs.length pc, .int .u8 g.main.kind, .int .i64 g.main.num, str g.main.name, .slice ma g.main.kids.length mc]
structure PG.sits (S : Nat → Prop) (w : World) (g : PG) (va pa ma : Option Addr) : Prop where
 vars : VDs S w g.vars va
 procs : PDs S w g.procs pa
 main : g.main.sits S w ma
theorem PG.sits.ext {S : Nat → Prop} {w w' : World} {g : PG} {va pa ma : Option Addr} (h : g.sits S w va pa ma) (x : Ext w w') : g.sits S w' va pa ma := ⟨h.vars.ext x, h.procs.ext x, h.main.ext x⟩
theorem VDs.fr {S T : Nat → Prop} {w w' : World} {l : List VD} {a : Option Addr} (h : VDs S w l a) (x : Fr T w w') (hs : ∀ b, S b → ¬ T b) : VDs S w' l a := h.mono (fun _ h => h) (fun b _ _ _ hb h => Row.fr h x (hs b hb))
theorem PDs.fr {S T : Nat → Prop} {w w' : World} {l : List PD} {a : Option Addr} (h : PDs S w l a) (x : Fr T w w') (hs : ∀ b, S b → ¬ T b) : PDs S w' l a :=
 h.mono (fun _ h => h) (fun b _ _ _ hb ⟨pa, pc, ba, bc, h1, h2, h3⟩ => ⟨pa, pc, ba, bc, h1.fr x (hs b hb), h2.fr x hs, h3.fr x hs⟩)
theorem PG.sits.fr {S T : Nat → Prop} {w w' : World} {g : PG} {va pa ma : Option Addr} (h : g.sits S w va pa ma) (x : Fr T w w') (hs : ∀ b, S b → ¬ T b) : g.sits S w' va pa ma := ⟨h.vars.fr x hs, h.procs.fr x hs, h.main.fr x hs⟩
theorem VDs.wide {S S' : Nat → Prop} {w : World} {l : List VD} {a : Option Addr} (h : VDs S w l a) (hs : ∀ b, S b → S' b) : VDs S' w l a := h.mono hs (fun _ _ _ _ _ h => h)
theorem row_move {w w' : World} {b o : Nat} {vs : List Value} (h : Row w ⟨b, o, none⟩ vs) (hc : ∀ o v, w.cell? ⟨b, o, none⟩ = some v → w'.cell? ⟨b, o, none⟩ = some v) : Row w' ⟨b, o, none⟩ vs := fun i v hi => by
 have := h.at hi
 have e : (⟨b, o, none⟩ : Addr).add i = ⟨b, o + i, none⟩ := by unfold Addr.add; by_cases h0 : i = 0 <;> simp [h0]
 rw [e]; exact hc _ _ this
theorem VDs.move {S S' : Nat → Prop} {w w' : World} {l : List VD} {a : Option Addr} (h : VDs S w l a) (hS : ∀ b, S b → S' b) (hc : ∀ b o v, S b → w.cell? ⟨b, o, none⟩ = some v → w'.cell? ⟨b, o, none⟩ = some v) : VDs S' w' l a :=
 h.mono hS (fun b o x _ hb h => row_move h (fun o v => hc b o v hb))
theorem VDs.lt2 {S : Nat → Prop} {w : World} {l : List VD} {a : Option Addr} (h : VDs S w l a) : VDs (fun b => S b ∧ b < w.heap.size) w l a := by
 rcases h with h | ⟨b, o, h1, h2, h3⟩
 · exact Or.inl h
 · cases l with
   | nil => exact Or.inl rfl
   | cons v r => exact Or.inr ⟨b, o, h1, ⟨h2, cell_lt (Row.at0 (h3 0 v rfl) rfl)⟩, h3⟩
def pdShape : Shape PD where
 sz := 6
 rep := fun w S p cs => ∃ pa pc ba bc, cs = p.cells pa pc ba bc ∧ VDs S w p.params pa ∧ p.body.sits S w ba
 len := fun ⟨_, _, _, _, h, _⟩ => by rw [h]; rfl
 one := fun ⟨_, _, _, _, h, _⟩ => by rw [h]; rfl
 mono := fun ⟨pa, pc, ba, bc, h, h1, h2⟩ hS hc => ⟨pa, pc, ba, bc, h, h1.move hS hc, Nd.sits_mono hS hc _ ba h2⟩
 lt := fun ⟨pa, pc, ba, bc, h, h1, h2⟩ => ⟨pa, pc, ba, bc, h, h1.lt2, sits_lt2 _ ba h2⟩
theorem OwnL.pds {w : World} {B e : Nat} {a : Option Addr} {len cap : Nat} {xs : List PD} {S : Nat → Prop} (h : OwnL pdShape w B e (.slice a len cap) xs) (hS : ∀ b, B ≤ b → S b) : PDs S w xs a := by
 by_cases hx : xs = []
 · exact Or.inl hx
 · obtain ⟨g, cap', hv, hg, hall⟩ := h.rows hx
   simp only [Value.slice.injEq] at hv; obtain ⟨rfl, -, -⟩ := hv; refine Or.inr ⟨g, 0, rfl, hS g hg, fun i x hi => ?_⟩; obtain ⟨cs, hr, pa, pc, ba, bc, rfl, h1, h2⟩ := hall i x hi
   exact ⟨pa, pc, ba, bc, by simpa [pdShape] using hr, h1.wide (fun b hb => hS b hb.1), h2.wide (fun b hb => hS b hb.1)⟩
theorem maxLen_one : 1 ≤ maxLen := by unfold maxLen; omega
theorem OwnL.lit {α : Type} {sh : Shape α} {w : World} {B b e : Nat} {x : α} {cs : List Value} (h : TB w b cs e) (hB : B ≤ b) (hr : sh.rep w (fun k => B ≤ k ∧ k ≠ b) x cs) : OwnL sh w B e (.slice (some ⟨b, 0, none⟩) 1 1) [x] := by
 have hl := sh.len hr; refine ⟨[cs], ⟨by simp [hl], Or.inr ⟨b, 1, cs.toArray, rfl, hB, h, Nat.le_refl _, maxLen_one, by simp [hl], by simp [← hl]⟩⟩, rfl, fun i y ds hy hd => ?_⟩
 match i, hy, hd with
 | 0, hy, hd =>
  simp at hy hd
  subst hy hd
  exact sh.mono hr (fun k hk => ⟨hk.1, fun e => hk.2 (by simpa [Value.ownBlock] using e.symm)⟩) (fun _ _ _ _ h => h)
end Bk
namespace Bk
open Go Go.RowKit
def Rows (S : Nat → Prop) (w : World) (cs : List Value) (a : Option Addr) : Prop := cs = [] ∨ ∃ b o, a = some ⟨b, o, none⟩ ∧ S b ∧ Row w ⟨b, o, none⟩ cs
section
variable {S S' T : Nat → Prop} {w w' : World} {cs : List Value} {a : Option Addr}
theorem Rows.nil : Rows S w [] a := Or.inl rfl
theorem Rows.ext (h : Rows S w cs a) (x : Ext w w') : Rows S w' cs a := h.imp id fun ⟨b, o, h1, h2, h3⟩ => ⟨b, o, h1, h2, h3.ext x⟩
theorem Rows.fr (h : Rows S w cs a) (x : Fr T w w') (hs : ∀ b, S b → ¬ T b) : Rows S w' cs a := h.imp id fun ⟨b, o, h1, h2, h3⟩ => ⟨b, o, h1, h2, h3.fr x (hs b h2)⟩
theorem Rows.wide (h : Rows S w cs a) (hS : ∀ b, S b → S' b) : Rows S' w cs a := h.imp id fun ⟨b, o, h1, h2, h3⟩ => ⟨b, o, h1, hS b h2, h3⟩
theorem Rows.lt2 (h : Rows S w cs a) : Rows (fun b => S b ∧ b < w.heap.size) w cs a := by
 rcases h with h | ⟨b, o, h1, h2, h3⟩
 · exact Or.inl h
 · cases cs with
   | nil => exact Or.inl rfl
   | cons v r => exact Or.inr ⟨b, o, h1, ⟨h2, cell_lt (Row.at0 h3 rfl)⟩, h3⟩
theorem Rows.ltA (h : Rows S w cs a) : Rows (· < w.heap.size) w cs a := h.lt2.wide fun _ h => h.2
theorem Rows.get (h : Rows S w cs a) (hc : cs ≠ []) : ∃ b o, a = some ⟨b, o, none⟩ ∧ S b ∧ Row w ⟨b, o, none⟩ cs := h.resolve_left hc
theorem Rows.move (h : Rows S w cs a) (hS : ∀ b, S b → S' b) (hc : ∀ b o v, S b → w.cell? ⟨b, o, none⟩ = some v → w'.cell? ⟨b, o, none⟩ = some v) : Rows S' w' cs a :=
 h.imp id fun ⟨b, o, h1, h2, h3⟩ => ⟨b, o, h1, hS b h2, row_move h3 (fun o v => hc b o v h2)⟩
end
def OwnF (e sz B : Nat) (w : World) (g cap n : Nat) (cs : List Value) : Prop := B ≤ g ∧ Own w g e sz (.slice (some ⟨g, 0, none⟩) n cap) n cs
theorem OwnF.lt {e sz B : Nat} {w : World} {g cap n : Nat} {cs : List Value} (h : OwnF e sz B w g cap n cs) : g < w.heap.size := (h.2.blk (k := g) rfl).2
theorem OwnF.fr {e sz B : Nat} {T : Nat → Prop} {w w' : World} {g cap n : Nat} {cs : List Value} (h : OwnF e sz B w g cap n cs) (x : Fr T w w') (hs : ∀ k, T k → k ≠ g) : OwnF e sz B w' g cap n cs :=
 ⟨h.1, h.2.fr x (fun k hk hT => by simp only [Value.ownBlock, Option.some.injEq] at hk; exact hs k hT hk.symm)⟩
theorem OwnF.ext {e sz B : Nat} {w w' : World} {g cap n : Nat} {cs : List Value} (h : OwnF e sz B w g cap n cs) (x : Ext w w') : OwnF e sz B w' g cap n cs := ⟨h.1, h.2.ext x⟩
theorem OwnF.row {e sz B : Nat} {w : World} {g cap n : Nat} {cs : List Value} (h : OwnF e sz B w g cap n cs) : Row w ⟨g, 0, none⟩ cs := by
 rcases h.2.row with ⟨hv, -⟩ | ⟨g', cap', hv, -, -, hr⟩
 · simp at hv
 · simp only [Value.slice.injEq, Option.some.injEq, Addr.mk.injEq, and_true] at hv
   obtain ⟨rfl, -⟩ := hv
   exact hr
theorem OwnF.rows {e sz B : Nat} {w : World} {g cap n : Nat} {cs : List Value} {S : Nat → Prop} (h : OwnF e sz B w g cap n cs) (hS : S g) : Rows S w cs (some ⟨g, 0, none⟩) := Or.inr ⟨g, 0, rfl, hS, h.row⟩
theorem OwnF.le {e sz B : Nat} {w : World} {g cap n : Nat} {cs : List Value} (h : OwnF e sz B w g cap n cs) : n ≤ cap := by
 rcases h.2.2 with ⟨hv, -⟩ | ⟨g', cap', cur, hv, -, -, hc, -⟩
 · simp at hv
 · simp only [Value.slice.injEq] at hv
   obtain ⟨-, -, rfl⟩ := hv; exact hc
section
variable {P : Program} {n : Nat} {l : Sl} {w : World} {tab : Tab} {zt : ZTab} {ty : TypeId}
theorem does_slice0F {t e sz1 sz B : Nat} {sE : Sk} (T : TabOk P tab) (ht : lookT tab t = some (.slice e, sz1)) (hE : lookT tab e = some (sE, sz)) (hB : B ≤ w.heap.size) :
 Does P n l (.buildSlice t 0 #[]) ty w (OnSome fun o w' => ∃ g, o = .slice (some ⟨g, 0, none⟩) 0 0 ∧ OwnF e sz B w' g 0 0 [] ∧ w.heap.size ≤ g ∧ g < w'.heap.size ∧ Ext w w') := by
 unfold Does
 intro a dst pos after g next Q ha hn _; obtain ⟨i, hi, hs⟩ := (T _ _ _ hE).info; have hu := (T _ _ _ ht).under
 have e1 : (Instr.buildSlice t 0 #[]).run P w = .ok (.slice (some ⟨w.heap.size, 0, none⟩) 0 0) (w.alloc (.cells #[] e)) := by
  simp [Instr.buildSlice, run_underlying hu, Go.sizeOf, typeInfo, hi, Instr.fill, newRow, show Array.range 0 = #[] from rfl]
 have e2 : (execOp a.eval ⟨dst, .buildSlice t 0 #[], ty, pos, after, g⟩).run P w = .ok (.value (.slice (some ⟨w.heap.size, 0, none⟩) 0 0)) (w.alloc (.cells #[] e)) := by
  simp [execOp, Sem.run_bind, e1, Result.andThen_ok]
 unfold Oper.wp
 rw [e2]; have hx : Ext w (w.alloc (.cells #[] e)) := (new_alloc w [] e).ext; refine hn _ _ ⟨w.heap.size, rfl, ⟨hB, by simp, Or.inr ⟨w.heap.size, 0, #[], rfl, Nat.le_refl _, ?_, Nat.le_refl _, by unfold maxLen; omega, by simp, by simp⟩⟩, Nat.le_refl _, ?_, hx⟩
 · rw [show (w.alloc (Obj.cells #[] e)).heap = w.heap.push (.cells #[] e) from rfl]; simp
 · rw [show (w.alloc (Obj.cells #[] e)).heap = w.heap.push (.cells #[] e) from rfl]; simp
theorem does_appendF {x y : Operand} {t e sz1 sz B g cap c k m : Nat} {sE : Sk} {zs : List Value} {a : Option Addr} {cs ds : List Value} {S : Nat → Prop} (T : TabOk P tab) (Z : ZTabOk P zt) (ht : lookT tab t = some (.slice e, sz1)) (hE : lookT tab e = some (sE, sz)) (hz : lookZ zt e = some zs) (hzl : zs.length = sz)
 (hby : bytesOk P e = true) (hsz : Nat.blt 0 sz = true) (hx : ev l x = some (.slice (some ⟨g, 0, none⟩) k cap)) (hy : ev l y = some (.slice a m c)) (hown : OwnF e sz B w g cap k cs) (hs : Rows S w ds a) (hl : ds.length = m * sz) (hone : ds.all Value.one = true) (hkm : k + m ≤ 100000000000) :
 Does P n l (.call ⟨.builtin .append, #[x, y], #[t, t]⟩) ty w (OnSome fun o w' => ∃ g' cap', o = .slice (some ⟨g', 0, none⟩) (k + m) cap' ∧ OwnF e sz B w' g' cap' (k + m) (cs ++ ds) ∧ (g' = g ∨ w.heap.size ≤ g') ∧ g' < w'.heap.size ∧ Fr (fun k => k = g) w w') := by
 have hlt := hown.lt; have hncap := hown.le; obtain ⟨h0, h1⟩ := hown
 have hsz' : 0 < sz := by simpa using hsz
 by_cases hm : m = 0
 · subst hm
   have hd0 : ds = [] := by simpa using hl
   subst hd0
   unfold Does
   intro act dst pos after gd next Q ha hn _; obtain ⟨i, hi, hsz⟩ := (T _ _ _ hE).info; have hun := (T _ _ _ ht).under
   have key : ∃ w', (Builtin.append_ #[t, t] ty #[.slice (some ⟨g, 0, none⟩) k cap, .slice a 0 c]).run P w = .ok (.slice (some ⟨g, 0, none⟩) k cap) w' ∧ Own w' g e sz (.slice (some ⟨g, 0, none⟩) k cap) k cs ∧ Fr (fun k => k = g) w w' := by
    cases a with
    | none => exact ⟨w, run_append_none0 w t ty e i hun hi g k cap c hncap, h1, .of_ext (Ext.refl w)⟩
    | some p =>
     obtain ⟨w', r1, r2, r3⟩ := run_append_fits (P := P) w g t ty e i sz hun hi hsz g k cap cs h1 p 0 c [] (by simp) (fun j u hj => by simp at hj) (fun u hu => by cases hu) (by omega); refine ⟨w', by simpa using r1, by simpa using r2, ?_⟩; have := Fr.of_grown r3
     exact this.weaken (fun b hb => by simpa using hb)
   obtain ⟨w', hrun, ho, hf⟩ := key
   have e1 : (execOp act.eval ⟨dst, .call ⟨.builtin .append, #[x, y], #[t, t]⟩, ty, pos, after, gd⟩).run P w = .ok (.value (.slice (some ⟨g, 0, none⟩) k cap)) w' := by
    simp only [execOp, resolve, invoke, builtin, Sem.run_bind, Sem.run_pure, Result.andThen_ok, List.map_toArray, List.map_cons, List.map_nil, ha.ev hx, ha.ev hy, hrun]
   unfold Oper.wp
   rw [e1]; have hsz' := hf.size
   exact hn _ _ ⟨g, cap, by simp, ⟨h0, by simpa using ho⟩, Or.inl rfl, by omega, hf⟩
 · have hdn : ds ≠ [] := by
    rintro rfl; simp only [List.length_nil] at hl; have := Nat.mul_pos (Nat.pos_of_ne_zero hm) hsz'
    omega
   obtain ⟨pb, po, rfl, -, d1⟩ := hs.get hdn; have hd := does_append (P := P) (n := n) (l := l) (ty := ty) T Z ht hE hz hzl hby hsz hx hy h1 d1 hl hone (by omega) (by omega) (by omega)
   unfold Does at hd ⊢
   intro act dst pos after gd next Q ha hn hn0; refine hd act dst pos after gd next Q ha (fun v' w' hG => ?_) (fun w' hG => hG.elim); obtain ⟨g1, g2, g', cap', g3, g4⟩ := hG; have hf : Fr (fun k => k = g) w w' := g2.weaken (fun b hb => by simpa [Value.ownBlock] using hb.symm); subst g3; have hgg := g1.blk (k := g') rfl; refine hn _ w' ⟨g', cap', rfl, ⟨by omega, ?_⟩, ?_, hgg.2, hf⟩
   · obtain ⟨k1, k2 | ⟨g2', cap2, cur, k3, k4, k5⟩⟩ := g1
     · simp at k2
     · simp only [Value.slice.injEq, Option.some.injEq, Addr.mk.injEq, and_true, true_and] at k3
       obtain ⟨rfl, rfl⟩ := k3
       exact ⟨k1, Or.inr ⟨g', cap', cur, rfl, Nat.le_refl _, k5⟩⟩
   · rcases g4 with h | h
     · simp only [Value.ownBlock, Option.some.injEq] at h
       exact Or.inl h.symm
     · exact Or.inr h
end
theorem rows_each {α : Type} {f : α → List Value} {sz : Nat} (hf : ∀ x, (f x).length = sz) {w : World} {b : Nat} : ∀ (l : List α) (o : Nat), (∀ (i : Nat) (x : α), l[i]? = some x → Row w ⟨b, o + i * sz, none⟩ (f x)) → Row w ⟨b, o, none⟩ (l.flatMap f)
 | [], o, _ => fun i v hi => by simp at hi
 | x :: r, o, h => by
  rw [List.flatMap_cons]; refine row_app (by simpa using h 0 x rfl) ?_; rw [hf x]; refine rows_each hf r (o + sz) (fun i y hy => ?_); have := h (i + 1) y hy; rw [show o + sz + i * sz = o + (i + 1) * sz by rw [Nat.add_mul]; omega]
  exact this
theorem each_rows {α : Type} {f : α → List Value} {sz : Nat} (hf : ∀ x, (f x).length = sz) {w : World} {b : Nat} : ∀ (l : List α) (o : Nat), Row w ⟨b, o, none⟩ (l.flatMap f) → ∀ (i : Nat) (x : α), l[i]? = some x → Row w ⟨b, o + i * sz, none⟩ (f x)
 | [], _, _, i, x, hi => by simp at hi
 | y :: r, o, h, i, x, hi => by
  rw [List.flatMap_cons] at h
  cases i with
  | zero =>
   simp only [List.getElem?_cons_zero, Option.some.injEq] at hi; subst hi; intro j v hj
   have hlt : j < (f y).length := by
    rcases Nat.lt_or_ge j (f y).length with h' | h'
    · exact h'
    · rw [List.getElem?_eq_none h'] at hj; cases hj
   have := h j v (by rw [List.getElem?_append_left hlt]; exact hj)
   simpa using this
  | succ i =>
   simp only [List.getElem?_cons_succ] at hi
   have hd : Row w ⟨b, o + sz, none⟩ (r.flatMap f) := by
    have := h.sub sz (r.flatMap f).length; rw [List.drop_left' (hf y), List.take_length] at this
    exact this
   have := each_rows hf r (o + sz) hd i x hi; rw [show o + (i + 1) * sz = o + sz + i * sz by rw [Nat.add_mul]; omega]
   exact this
theorem flatMap_len {α : Type} {f : α → List Value} {sz : Nat} (hf : ∀ x, (f x).length = sz) : ∀ l : List α, (l.flatMap f).length = l.length * sz
 | [] => by simp
 | x :: r => by rw [List.flatMap_cons, List.length_append, hf x, flatMap_len hf r, List.length_cons, Nat.add_mul]; omega
theorem flatMap_one {α : Type} {f : α → List Value} (hf : ∀ x, (f x).all Value.one = true) : ∀ l : List α, (l.flatMap f).all Value.one = true
 | [] => rfl
 | x :: r => by rw [List.flatMap_cons, List.all_append, hf x, flatMap_one hf r]; rfl
theorem pur_slnil {P : Program} {n : Nat} {l : Sl} {S : World → Prop} {tab : Tab} {t t' ty sz e : Nat} {x : Operand} {a : Option Addr} {m c : Nat} (T : TabOk P tab) (ht : lookT tab t = some (.slice e, sz)) (hx : ev l x = some (.slice a m c)) : Pur P n l S (.binOp .eql t x (.const (.slice none 0 0)) t') ty (.bool a.isNone) := by
 unfold Pur
 intro act w dst pos after g ha _; have hu : P.underlying t = some (.slice e) := (T _ _ _ ht).under
 have e1 : (eqGuard .eql t x (.const (.slice none 0 0)) (.slice a m c) (.slice none 0 0)).run P w = .ok () w := by unfold eqGuard; simp
 have e2 : (Op.equal t (.slice a m c) (.slice none 0 0)).run P w = .ok a.isNone w := by
  show (Op.equalIn (9999 + 1) t (.slice a m c) (.slice none 0 0)).run P w = _
  unfold Op.equalIn
  cases a <;> simp [run_underlying hu, Result.andThen]
 have hn : act.eval (.const (.slice none 0 0)) = .slice none 0 0 := rfl
 simp [execOp, ha.ev hx, hn, e1, e2, binOp]
theorem pur_slnil0 {P : Program} {n : Nat} {l : Sl} {S : World → Prop} {tab : Tab} {t t' ty sz e : Nat} {x : Operand} {m c : Nat} (T : TabOk P tab) (ht : lookT tab t = some (.slice e, sz)) (hx : ev l x = some (.slice none m c)) : Pur P n l S (.binOp .eql t x (.const (.slice none 0 0)) t') ty (.bool true) := pur_slnil T ht hx
theorem pur_slnil1 {P : Program} {n : Nat} {l : Sl} {S : World → Prop} {tab : Tab} {t t' ty sz e : Nat} {x : Operand} {p : Addr} {m c : Nat} (T : TabOk P tab) (ht : lookT tab t = some (.slice e, sz)) (hx : ev l x = some (.slice (some p) m c)) : Pur P n l S (.binOp .eql t x (.const (.slice none 0 0)) t') ty (.bool false) := pur_slnil T ht hx
end Bk
namespace Bk
open Go Go.RowKit Go.Proofs
attribute [local irreducible] Go.Calls
mutual
def Nd.eqb : Nd → Nd → Bool
 | .mk k n s l, .mk k' n' s' l' => decide (k = k') && (decide (n = n') && (decide (s = s') && rowEqb l l'))
def rowEqb : List Nd → List Nd → Bool
 | [], [] => true
 | x :: r, y :: q => x.eqb y && rowEqb r q
 | [], _ :: _ => false
 | _ :: _, [] => false
end
mutual
theorem eqb_iff : ∀ t u : Nd, t.eqb u = true ↔ t = u
 | .mk k n s l, .mk k' n' s' l' => by
  unfold Nd.eqb
  simp only [Bool.and_eq_true, decide_eq_true_eq, rowEqb_iff l l', Nd.mk.injEq]
theorem rowEqb_iff : ∀ l q : List Nd, rowEqb l q = true ↔ l = q
 | [], [] => by simp [rowEqb]
 | x :: r, y :: q => by
  unfold rowEqb
  simp only [Bool.and_eq_true, eqb_iff x y, rowEqb_iff r q, List.cons.injEq]
 | [], _ :: _ => by simp [rowEqb]
 | _ :: _, [] => by simp [rowEqb]
end
theorem rowEqb_len : ∀ {l q : List Nd}, l.length ≠ q.length → rowEqb l q = false
 | [], [], h => absurd rfl h
 | x :: r, y :: q, h => by
  unfold rowEqb
  rw [rowEqb_len (by simpa using h)]; simp
 | [], _ :: _, _ => by simp [rowEqb]
 | _ :: _, [], _ => by simp [rowEqb]
theorem rowEqb_at {l q : List Nd} {j : Nat} (hj : j < l.length) (hq : j < q.length) : rowEqb (l.drop j) (q.drop j) = (l[j].eqb q[j] && rowEqb (l.drop (j + 1)) (q.drop (j + 1))) := by
 rw [List.drop_eq_getElem_cons hj, List.drop_eq_getElem_cons hq, rowEqb]
mutual
theorem rowSits_ltA {S : Nat → Prop} {w : World} : ∀ (l : List Nd) (a : Option Addr), rowSits S w l a → rowSits (· < w.heap.size) w l a
 | [], _, _ => by simp [rowSits]
 | t :: r, a, h => by
  simp only [rowSits] at h ⊢; obtain ⟨b, o, a', c, rfl, hb, h0, h1, h2, h3, hs, hr⟩ := h
  exact ⟨b, o, a', c, rfl, cell_lt h0, h0, h1, h2, h3, sits_ltA t a' hs, rowSits_ltA r _ hr⟩
theorem sits_ltA {S : Nat → Prop} {w : World} : ∀ (t : Nd) (a : Option Addr), t.sits S w a → t.sits (· < w.heap.size) w a
 | .mk _ _ _ l, a, h => by
  simp only [Nd.sits] at h ⊢
  exact rowSits_ltA l a h
end
def EqC (x y : Nd) : Prop := ∀ (S S' : Nat → Prop) (a a' : Option Addr) (c c' : Nat) (w : World), x.sits S w a → y.sits S' w a' → Calls Tryz.prog 13 #[x.val a c, y.val a' c'] w fun e w' => e = .returned (.bool (x.eqb y)) ∧ Ext w w'
set_option maxRecDepth 100000 in
set_option maxHeartbeats 1000000 in
theorem EqualFunc_b (l q : List Nd) (h : ∀ x ∈ l, ∀ y, EqC x y) (S S' : Nat → Prop) (a a' : Option Addr) (c c' : Nat) (w : World) (hl : l.length ≤ 1000000000) (hs : rowSits S w l a) (hs' : rowSits S' w q a') :
 Calls Tryz.prog 36 #[.slice a l.length c, .slice a' q.length c', .func (.func 13) #[] #[]] w fun e w' => e = .returned (.bool (rowEqb l q)) ∧ Ext w w' := by
 have X := Ext.refl w
 have H := Lib.hid h; clear h
 by_cases hne : l.length = q.length
 · refine calls_in Tryz.func36 Tryz.ntmps36 rfl rfl ?_
   focus
    refine cS (C1 Pa (cT (cw_seq (cS (C1 Mv (C1 Pz (C1 Mv (C1 Pz (C1 V2 (cT (Wno ?_))))))))))); refine cw_skip (qw_then (cw_seq (cS (C1 Mv (C1 Pz (C1 Mv (cT (cw_block ?_)))))))); rotate_left 1
   replace hs := rowSits_ltA _ _ hs; replace hs' := rowSits_ltA _ _ hs'; refine cw_loop (ι := Nat) (fun j => [(1, .slice a' q.length c'), (2, .func (.func 13) #[] #[]), (15, .slice a l.length c), (16, .int .i64 l.length), (17, .int .i64 j)])
    (fun j w' => j ≤ l.length ∧ rowSits (· < w.heap.size) w' l a ∧ rowSits (· < w.heap.size) w' q a' ∧ rowEqb l q = rowEqb (l.drop j) (q.drop j) ∧ Ext w w') (fun j => l.length - j) 0 (by (refine sub_cons rfl ?_; refine sub_cons rfl ?_; refine sub_cons rfl ?_; refine sub_cons rfl ?_; refine sub_cons rfl ?_; exact sub_nil)) ⟨Nat.zero_le _, hs, hs', rfl, X⟩ ?_
   clear hs hs' X; rintro j w1 ⟨hj, hs, hs', he, X⟩; have hsz := X.size
   by_cases hlt : j < l.length
   · have hlt2 : j < q.length := by omega
     obtain ⟨kb, ko, rfl, hkS, hkid⟩ := kidRows hs (by intro e; subst e; simp at hlt); obtain ⟨kb', ko', rfl, hkS', hkid'⟩ := kidRows hs' (by intro e; subst e; simp at hlt2); obtain ⟨xa, xc, rx, sx⟩ := hkid j l[j] (List.getElem?_eq_getElem hlt); obtain ⟨ya, yc, ry, sy⟩ := hkid' j q[j] (List.getElem?_eq_getElem hlt2); have HC := H.out l[j] (List.getElem_mem hlt) q[j]; rw [rowEqb_at hlt hlt2] at he
     have H2 := Lib.hid HC; clear HC hkid hkid' H
     generalize l[j] = x at *
     generalize q[j] = y at *
     focus
      refine cS (C1 V3 (cT (cw_seq (Wyo (cw_skip (qw_then (cw_seq (cw_block (cS (C1 Mv (C1 Pi ?_))))))))))); refine C1 (Pws rx) ?_; (refine lw_alloc' [_, _, _, _] zOk rfl rfl ?_; intro ba1 wa2 na3); have ha5 := na3.blk; have xa6 := na3.ext; have pa7 := na3.pos; have za8 := na3.size; clear na3; replace X := X.ext xa6; replace hs := Bk.rowSits.ext hs xa6; replace hs' := Bk.rowSits.ext hs' xa6; replace rx := rx.ext xa6; replace sx := Nd.sits.ext sx xa6; replace ry := ry.ext xa6; replace sy := Nd.sits.ext sy xa6; clear xa6; refine C1 Pa ?_; (refine lw_store' [_, _, _, _] [_, _, _, _] tabOk rfl rfl rfl rfl rfl rfl ha5 rfl rfl ?_; intro wa9 na10); have ha13 := na10.blk; have fa11 := na10.fr; have za12 := na10.size; clear na10 ha5; replace X := X.fr fa11 (by omega); replace hs := Bk.rowSits.fr hs fa11 (by omega); replace hs' := Bk.rowSits.fr hs' fa11 (by omega); replace rx := Row.fr rx fa11 (by simp only; omega); replace sx := Nd.sits.fr sx fa11 (by omega); replace ry := Row.fr ry fa11 (by simp only; omega); replace sy := Nd.sits.fr sy fa11 (by omega); clear fa11; refine cN (C1 Mv (C1 Mv (C1 Pi (C1 (Pws ry) ?_)))); (refine lw_alloc' [_, _, _, _] zOk rfl rfl ?_; intro ba14 wa15 na16); (refine lw_init' [_, _, _, _] tabOk rfl rfl rfl rfl rfl rfl na16 rfl ?_; clear na16; clear wa15; intro wa17 na16); have ha18 := na16.blk; have xa19 := na16.ext; have pa20 := na16.pos; have za21 := na16.size; clear na16; replace ha13 := ha13.ext xa19; replace X := X.ext xa19; replace hs := Bk.rowSits.ext hs xa19
      replace hs' := Bk.rowSits.ext hs' xa19; replace rx := rx.ext xa19; replace sx := Nd.sits.ext sx xa19; replace ry := ry.ext xa19; replace sy := Nd.sits.ext sy xa19; clear xa19; refine cN (C1 Mv (lw_loads_b' [_, _, _, _] tabOk rfl rfl rfl ha13 rfl rfl rfl (lw_loads_b' [_, _, _, _] tabOk rfl rfl rfl ha18 rfl rfl rfl ?_))); refine lw_does (does_callv (fi := []) (ca := []) (by kernel_rfl) rfl rfl (H2.out _ _ _ _ _ _ _ (by assumption) (by assumption)) (fun _ _ h => ⟨_, h.1⟩)) rfl ?_ (fun _ h => h); rintro va22 wa23 ⟨⟨⟩, xa24⟩; have za25 := xa24.size; replace ha18 := ha18.ext xa24; replace ha13 := ha13.ext xa24; replace X := X.ext xa24; replace hs := Bk.rowSits.ext hs xa24; replace hs' := Bk.rowSits.ext hs' xa24; replace rx := rx.ext xa24; replace sx := Nd.sits.ext sx xa24; replace ry := ry.ext xa24; replace sy := Nd.sits.ext sy xa24; clear xa24; refine C1 Pt (cT ?_); refine cw_ncond rfl (fun ca26 => ?_) (fun ca26 => ?_); refine cS (C1 Pa (cT (cw_ret (qw_block_ret (qw_then_ret (qw_then_ret (qw_block_ret (qw_then_ret (qw_ret1 rfl rfl ?_))))))))); rotate_left 1; refine cw_skip (qw_block_norm (qw_then (cw_region (C1 V7 (C1 Mv (lw_nil ?_)))))); rotate_left 1
     · exact ⟨by rw [he, ca26]; rfl, X⟩
     · rw [ca26, Bool.true_and] at he
       exact qw_round (j + 1) (by (refine sub_cons rfl ?_; refine sub_cons rfl ?_; refine sub_cons rfl ?_; refine sub_cons rfl ?_; refine sub_cons rfl ?_; exact sub_nil)) ⟨by omega, hs, hs', he, X⟩ (by omega)
   · obtain rfl : j = l.length := by omega
     rw [List.drop_length, hne, List.drop_length] at he
     focus
      refine cS (C1 V3 (cT (cw_seq (Wno (cw_exit (qw_then_exit (qw_then_exit (qw_block_exit (qw_then (cS (C1 Pa ?_))))))))))); refine cT (cw_ret (qw_ret1 rfl rfl ?_)); rotate_left 1
     exact ⟨by rw [he]; rfl, X⟩
 · rw [rowEqb_len hne]
   refine calls_in Tryz.func36 Tryz.ntmps36 rfl rfl ?_
   focus
    refine cS (C1 Pa (cT (cw_seq (cS (C1 Mv (C1 Pz (C1 Mv (C1 Pz (C1 V2 (cT (Wyo ?_))))))))))); refine cS (C1 Pa (cT (cw_ret (qw_then_ret (qw_ret1 rfl rfl ?_))))); rotate_left 1
   exact ⟨rfl, X⟩
theorem size_memA : ∀ {l : List Nd} {x : Nd}, x ∈ l → x.size ≤ rowSize l
 | [], x, hx => by cases hx
 | t :: r, x, hx => by
  simp only [rowSize]
  rcases List.mem_cons.1 hx with rfl | hx
  · omega
  · have := size_memA hx; omega
theorem length_rowA (l : List Nd) : l.length ≤ rowSize l := by
 induction l with
 | nil => simp [rowSize]
 | cons x r ih => have : 1 ≤ x.size := by cases x; simp only [Nd.size]; omega
                  simp only [rowSize, List.length_cons]; omega
set_option maxRecDepth 100000 in
set_option maxHeartbeats 1000000 in
theorem Equal_b (N : Nat) : ∀ (t u : Nd) (S S' : Nat → Prop) (a a' : Option Addr) (c c' : Nat) (w : World), t.size < N → t.size ≤ 1000000000 → t.sits S w a → u.sits S' w a' →
 Calls Tryz.prog 13 #[t.val a c, u.val a' c'] w fun e w' => e = .returned (.bool (t.eqb u)) ∧ Ext w w' := by
 induction N with
 | zero => intro t u S S' a a' c c' w h; omega
 | succ N ih =>
  rintro ⟨k, n, s, l⟩ ⟨k', n', s', q⟩ S S' a a' c c' w hN hM hs hs'; simp only [Nd.sits] at hs hs'; simp only [Nd.size] at hN hM; have hll := length_rowA l
  have hC : ∀ x ∈ l, ∀ y, EqC x y := fun x hx y S S' a a' c c' w h1 h2 => by
   have := size_memA hx
   exact ih x y S S' a a' c c' w (by omega) (by omega) h1 h2
  have HF := Lib.hid (fun w => EqualFunc_b l q hC S S' a a' c c' w (by omega)); clear hC ih; simp only [Nd.val, Nd.kind, Nd.num, Nd.name, Nd.kids]
  unfold Nd.eqb
  have X := Ext.refl w
  by_cases hk : k = k'
  · by_cases hn : n = n'
    · by_cases hsn : s = s'
      · rw [decide_eq_true hk, decide_eq_true hn, decide_eq_true hsn, Bool.true_and, Bool.true_and, Bool.true_and]
        subst hk hn hsn; refine calls_in Tryz.func13 Tryz.ntmps13 rfl rfl ?_
        focus
         refine cS ?_; (refine lw_box' [_, _, _, _] rfl rfl rfl ?_; intro b1 w2 n3); have h4 := n3.blk; have x5 := n3.ext; have p6 := n3.pos; have z7 := n3.size; clear n3; replace hs := Bk.rowSits.ext hs x5; replace hs' := Bk.rowSits.ext hs' x5; replace X := X.ext x5; clear x5; (refine lw_box' [_, _, _, _] rfl rfl rfl ?_; intro b8 w9 n10); have h11 := n10.blk; have x12 := n10.ext; have p13 := n10.pos; have z14 := n10.size; clear n10; replace h4 := h4.ext x12; replace hs := Bk.rowSits.ext hs x12; replace hs' := Bk.rowSits.ext hs' x12; replace X := X.ext x12; clear x12; refine C1 Pa (cN (C1 Pg (C1 (Pl h4) (C1 Pg (C1 (Pl h11) (C1 V1 (C1 Mv (Gyo (C1 Pf (Gyo (C1 (Pl h4) ?_))))))))))); refine Gyo (C1 Pf (Gyo (C1 (Pl h11) (Gyo (C1 V1 (C1 Qyo (C1 Mv (Gyo (C1 Pf (Gyo (C1 (Pl h4) ?_))))))))))); refine Gyo (C1 Pf (Gyo (C1 (Pl h11) (Gyo (C1 V8 (C1 Qyo (C1 Mv (lw_on rfl rfl rfl (gd_tt (rfl)) (C1 Pf (lw_on rfl rfl rfl (gd_tt (rfl)) (C1 (Pl h4) ?_))))))))))); refine lw_on rfl rfl rfl (gd_tt (rfl)) (C1 Pf (lw_on rfl rfl rfl (gd_tt (rfl)) (C1 (Pl h11) (lw_on rfl rfl rfl (gd_tt (rfl)) ?_)))); refine cC rfl (HF.out _ (by assumption) (by assumption)) ?_; rintro _ w16 ⟨⟨⟩, x15⟩; have z17 := x15.size; replace h11 := h11.ext x15; replace h4 := h4.ext x15; replace hs := Bk.rowSits.ext hs x15; replace hs' := Bk.rowSits.ext hs' x15; replace X := X.ext x15; clear x15; refine C1 (Qy (rfl)) (C1 Pa (cT (cw_ret (qw_ret1 rfl rfl ?_)))); rotate_left 1
        exact ⟨rfl, X⟩
      · rw [decide_eq_true hk, decide_eq_true hn, decide_eq_false hsn, Bool.true_and, Bool.true_and, Bool.false_and]
        subst hk hn; refine calls_in Tryz.func13 Tryz.ntmps13 rfl rfl ?_
        focus
         refine cS ?_; (refine lw_box' [_, _, _, _] rfl rfl rfl ?_; intro ba1 wa2 na3); have ha4 := na3.blk; have xa5 := na3.ext; have pa6 := na3.pos; have za7 := na3.size; clear na3; replace hs := Bk.rowSits.ext hs xa5; replace hs' := Bk.rowSits.ext hs' xa5; replace X := X.ext xa5; clear xa5; (refine lw_box' [_, _, _, _] rfl rfl rfl ?_; intro ba8 wa9 na10); have ha11 := na10.blk; have xa12 := na10.ext; have pa13 := na10.pos; have za14 := na10.size; clear na10; replace ha4 := ha4.ext xa12; replace hs := Bk.rowSits.ext hs xa12; replace hs' := Bk.rowSits.ext hs' xa12; replace X := X.ext xa12; clear xa12; refine C1 Pa (cN (C1 Pg (C1 (Pl ha4) (C1 Pg (C1 (Pl ha11) (C1 V1 (C1 Mv (Gyo (C1 Pf (Gyo (C1 (Pl ha4) ?_))))))))))); refine Gyo (C1 Pf (Gyo (C1 (Pl ha11) (Gyo (C1 V1 (C1 Qyo (C1 Mv (Gyo (C1 Pf (Gyo (C1 (Pl ha4) ?_))))))))))); refine Gyo (C1 Pf (Gyo (C1 (Pl ha11) (Gyo (C1 V8 (C1 Qyo (C1 Mv (Ona (Ona (Ona (Ona ?_))))))))))); refine Ona (C1 Qna (C1 Pa (cT (cw_ret (qw_ret1 rfl rfl ?_))))); rotate_left 1
        exact ⟨rfl, X⟩
    · rw [decide_eq_true hk, decide_eq_false hn, Bool.true_and, Bool.false_and]
      subst hk; refine calls_in Tryz.func13 Tryz.ntmps13 rfl rfl ?_
      focus
       refine cS ?_; (refine lw_box' [_, _, _, _] rfl rfl rfl ?_; intro bb1 wb2 nb3); have hb4 := nb3.blk; have xb5 := nb3.ext; have pb6 := nb3.pos; have zb7 := nb3.size; clear nb3; replace hs := Bk.rowSits.ext hs xb5; replace hs' := Bk.rowSits.ext hs' xb5; replace X := X.ext xb5; clear xb5; (refine lw_box' [_, _, _, _] rfl rfl rfl ?_; intro bb8 wb9 nb10); have hb11 := nb10.blk; have xb12 := nb10.ext; have pb13 := nb10.pos; have zb14 := nb10.size; clear nb10; replace hb4 := hb4.ext xb12; replace hs := Bk.rowSits.ext hs xb12; replace hs' := Bk.rowSits.ext hs' xb12; replace X := X.ext xb12; clear xb12; refine C1 Pa (cN (C1 Pg (C1 (Pl hb4) (C1 Pg (C1 (Pl hb11) (C1 V1 (C1 Mv (Gyo (C1 Pf (Gyo (C1 (Pl hb4) ?_))))))))))); refine Gyo (C1 Pf (Gyo (C1 (Pl hb11) (Gyo (C1 V1 (C1 Qyo (C1 Mv (Ona (Ona (Ona (Ona ?_))))))))))); refine Ona (C1 Qna (C1 Mv (lw_off rfl rfl rfl (rfl) rfl (lw_off rfl rfl rfl (rfl) rfl (lw_off rfl rfl rfl (rfl) rfl (lw_off rfl rfl rfl (rfl) rfl (lw_off rfl rfl rfl (rfl) rfl (C1 (pur_pick_f rfl rfl rfl) (C1 Pa (cT (cw_ret ?_))))))))))); refine qw_ret1 rfl rfl ?_; rotate_left 1
      exact ⟨rfl, X⟩
  · rw [decide_eq_false hk, Bool.false_and]
    refine calls_in Tryz.func13 Tryz.ntmps13 rfl rfl ?_
    focus
     refine cS ?_; (refine lw_box' [_, _, _, _] rfl rfl rfl ?_; intro bc1 wc2 nc3); have hc4 := nc3.blk; have xc5 := nc3.ext; have pc6 := nc3.pos; have zc7 := nc3.size; clear nc3; replace hs := Bk.rowSits.ext hs xc5; replace hs' := Bk.rowSits.ext hs' xc5; replace X := X.ext xc5; clear xc5; (refine lw_box' [_, _, _, _] rfl rfl rfl ?_; intro bc8 wc9 nc10); have hc11 := nc10.blk; have xc12 := nc10.ext; have pc13 := nc10.pos; have zc14 := nc10.size; clear nc10; replace hc4 := hc4.ext xc12; replace hs := Bk.rowSits.ext hs xc12; replace hs' := Bk.rowSits.ext hs' xc12; replace X := X.ext xc12; clear xc12; refine C1 Pa (cN (C1 Pg (C1 (Pl hc4) (C1 Pg (C1 (Pl hc11) (C1 V1 (C1 Mv (Ona (Ona (Ona (Ona ?_))))))))))); refine Ona (C1 Qna (C1 Mv (lw_off rfl rfl rfl (rfl) rfl (lw_off rfl rfl rfl (rfl) rfl (lw_off rfl rfl rfl (rfl) rfl (lw_off rfl rfl rfl (rfl) rfl (lw_off rfl rfl rfl (rfl) rfl (C1 (pur_pick_f rfl rfl rfl) (C1 Mv (lw_off rfl rfl rfl (rfl) rfl (lw_off rfl rfl rfl (rfl) rfl ?_))))))))))); refine lw_off rfl rfl rfl (rfl) rfl (lw_off rfl rfl rfl (rfl) rfl (lw_off rfl rfl rfl (rfl) rfl (C1 (pur_pick_f rfl rfl rfl) (C1 Pa (cT (cw_ret (qw_ret1 rfl rfl ?_))))))); rotate_left 1
    exact ⟨rfl, X⟩
end Bk
namespace Bk
open Go Go.RowKit
theorem setMany_app : ∀ (us p q r : List Value), us.length = q.length → setMany (p ++ q ++ r) p.length us = p ++ us ++ r
 | [], p, [], r, _ => by simp [setMany]
 | u :: us, p, v :: q, r, h => by
  simp only [List.length_cons, Nat.add_right_cancel_iff] at h
  have e : (p ++ v :: q ++ r).set p.length u = (p ++ [u]) ++ q ++ r := by
   rw [List.append_assoc, List.cons_append, List.set_append_right _ _ (Nat.le_refl _), Nat.sub_self, List.set_cons_zero]; simp
  rw [setMany, e]; have := setMany_app us (p ++ [u]) q r h; rw [List.length_append, List.length_cons, List.length_nil, Nat.zero_add] at this
  rw [this]; simp
theorem flatten_at {css : List (List Value)} {n j : Nat} (h : ∀ cs ∈ css, cs.length = n) (hj : j < css.length) : css.flatten = (css.take j).flatten ++ css[j] ++ (css.drop (j + 1)).flatten ∧ (css.take j).flatten.length = j * n := by
 constructor
 · have h1 := (List.take_append_drop j css).symm
   rw [List.drop_eq_getElem_cons hj] at h1; refine (congrArg List.flatten h1).trans ?_; rw [List.flatten_append, List.flatten_cons, List.append_assoc]
 · rw [flatten_length (fun cs hcs => h cs (List.mem_of_mem_take hcs)), List.length_take]
   congr 1; omega
theorem setMany_at {css : List (List Value)} {n j : Nat} {us : List Value} (h : ∀ cs ∈ css, cs.length = n) (hj : j < css.length) (hu : us.length = n) : setMany css.flatten (j * n) us = (css.set j us).flatten := by
 obtain ⟨h1, h2⟩ := flatten_at h hj; have hc : css[j].length = n := h _ (List.getElem_mem hj); rw [h1, ← h2, setMany_app us _ _ _ (by omega)]
 have e : css.set j us = css.take j ++ us :: css.drop (j + 1) := by rw [List.set_eq_take_append_cons_drop, if_pos hj]
 rw [e, List.flatten_append, List.flatten_cons, List.append_assoc]
structure ArrS {α : Type} (sh : Shape α) (C D : Nat) (w : World) (g : Nat) (xs : List α) : Prop where
 ex : ∃ css : List (List Value), Blk w g css.flatten ∧ css.length = xs.length ∧ ∀ (i : Nat) (x : α) (cs : List Value), xs[i]? = some x → css[i]? = some cs → sh.rep w (fun b => C ≤ b ∧ b < D) x cs
section
variable {α : Type} {sh : Shape α} {C D g : Nat} {w w' : World} {xs : List α}
theorem ArrS.lt (h : ArrS sh C D w g xs) : g < w.heap.size := by
 obtain ⟨css, h1, -⟩ := h.ex
 exact h1.lt
theorem ArrS.fr {T : Nat → Prop} (h : ArrS sh C D w g xs) (x : Fr T w w') (hs : ∀ k, T k → (k < C ∨ D ≤ k) ∧ k ≠ g) : ArrS sh C D w' g xs := by
 obtain ⟨css, h1, h2, h3⟩ := h.ex
 exact ⟨css, h1.fr x (fun hT => (hs g hT).2 rfl), h2, fun i y cs hy hc => sh.mono (h3 i y cs hy hc) (fun _ h => h) (fun b o u hb hu => x.keep (fun hT => by have := (hs b hT).1; omega) hu)⟩
theorem ArrS.ext (h : ArrS sh C D w g xs) (x : Ext w w') : ArrS sh C D w' g xs := by
 obtain ⟨css, h1, h2, h3⟩ := h.ex
 exact ⟨css, h1.ext x, h2, fun i y cs hy hc => sh.mono (h3 i y cs hy hc) (fun _ h => h) (fun b o u hb hu => x.keep hu)⟩
theorem ArrS.wide (h : ArrS sh C D w g xs) {D' : Nat} (hD : D ≤ D') : ArrS sh C D' w g xs := by
 obtain ⟨css, h1, h2, h3⟩ := h.ex
 exact ⟨css, h1, h2, fun i y cs hy hc => sh.mono (h3 i y cs hy hc) (fun _ h => ⟨h.1, by omega⟩) (fun _ _ _ _ h => h)⟩
theorem ArrS.lens (h : ArrS sh C D w g xs) {css : List (List Value)} (h2 : css.length = xs.length) (h3 : ∀ (i : Nat) (x : α) (cs : List Value), xs[i]? = some x → css[i]? = some cs → sh.rep w (fun b => C ≤ b ∧ b < D) x cs) : ∀ cs ∈ css, cs.length = sh.sz := fun cs hcs => by
 obtain ⟨k, hk, rfl⟩ := List.mem_iff_getElem.1 hcs
 exact sh.len (h3 k xs[k] css[k] (List.getElem?_eq_getElem (by omega)) (List.getElem?_eq_getElem hk))
theorem ArrS.row (h : ArrS sh C D w g xs) {j : Nat} {x : α} (hj : xs[j]? = some x) : ∃ cs, Row w ⟨g, 0 + j * sh.sz, none⟩ cs ∧ sh.rep w (fun b => C ≤ b ∧ b < D) x cs := by
 obtain ⟨css, h1, h2, h3⟩ := h.ex
 have hlt : j < xs.length := by
  rcases Nat.lt_or_ge j xs.length with h | h
  · exact h
  · rw [List.getElem?_eq_none h] at hj; cases hj
 have hc : css[j]? = some css[j] := List.getElem?_eq_getElem (by omega); obtain ⟨e1, e2⟩ := flatten_at (h.lens h2 h3) (show j < css.length by omega); refine ⟨css[j], fun i v hi => ?_, h3 j x _ hj hc⟩
 have hil : i < css[j].length := by
  rcases Nat.lt_or_ge i css[j].length with h | h
  · exact h
  · rw [List.getElem?_eq_none h] at hi; cases hi
 have hcell : css.flatten[j * sh.sz + i]? = some v := by
  rw [e1, List.append_assoc, List.getElem?_append_right (by omega), e2, Nat.add_sub_cancel_left, List.getElem?_append_left hil]
  exact hi
 have := h1.cell hcell
 have e : (⟨g, 0 + j * sh.sz, none⟩ : Addr).add i = ⟨g, j * sh.sz + i, none⟩ := by unfold Addr.add; by_cases h0 : i = 0 <;> simp [h0]
 rw [e]; exact this
theorem ArrS.made {n : Nat} {z : α} {zs : List Value} (hb : Blk w g (List.replicate n zs).flatten) (hz : ∀ w S, sh.rep w S z zs) : ArrS sh C D w g (List.replicate n z) := by
 refine ⟨List.replicate n zs, hb, by simp, fun i x cs hx hc => ?_⟩; have h1 := List.mem_of_getElem? hx; have h2 := List.mem_of_getElem? hc; rw [List.mem_replicate] at h1 h2
 rw [h1.2, h2.2]; exact hz _ _
theorem arr_put {j : Nat} {x : α} {us : List Value} {w1 : World} {css : List (List Value)} (h2 : css.length = xs.length) (h3 : ∀ (i : Nat) (x : α) (cs : List Value), xs[i]? = some x → css[i]? = some cs → sh.rep w (fun b => C ≤ b ∧ b < D) x cs) (hj : j < xs.length) (hg : g < C ∨ D ≤ g) (hr : sh.rep w (fun b => C ≤ b ∧ b < D) x us) (hP : Put w w1 g (setMany css.flatten (j * sh.sz) us)) : ArrS sh C D w1 g (xs.set j x) := by
 have hl : ∀ cs ∈ css, cs.length = sh.sz := fun cs hcs => by
  obtain ⟨k, hk, rfl⟩ := List.mem_iff_getElem.1 hcs
  exact sh.len (h3 k xs[k] css[k] (List.getElem?_eq_getElem (by omega)) (List.getElem?_eq_getElem hk))
 rw [setMany_at hl (by omega) (sh.len hr)] at hP; refine ⟨css.set j us, hP.blk, by simp [h2], fun i y cs hy hc => ?_⟩
 have key : sh.rep w (fun b => C ≤ b ∧ b < D) y cs := by
  by_cases hij : i = j
  · subst hij
    rw [List.getElem?_set_self hj] at hy; rw [List.getElem?_set_self (by omega)] at hc
    rw [← Option.some.inj hy, ← Option.some.inj hc]; exact hr
  · rw [List.getElem?_set_ne (fun e => hij e.symm)] at hy hc
    exact h3 i y cs hy hc
 exact sh.mono key (fun _ h => h) (fun b o u hb hu => hP.fr.keep (fun e => by omega) hu)
end
section
variable {P : Program} {n : Nat} {l : Sl} {w : World} {tab : Tab} {zt : ZTab} {ty : TypeId} {α : Type} {sh : Shape α}
def OnNone (K : World → Prop) : Option Value → World → Prop
 | none, w => K w
 | some _, _ => False
theorem made_flat {zs : List Value} {k : Nat} (hsz : zs.length = k) : ∀ N : Nat, (List.range (N * k)).map (fun i => zs.toArray[i % k]!) = (List.replicate N zs).flatten
 | 0 => by simp
 | N + 1 => by
  rw [Nat.add_mul, Nat.one_mul, List.range_add, List.map_append, made_flat hsz N, List.replicate_succ', List.flatten_append]
  congr 1
  simp only [List.flatten_cons, List.flatten_nil, List.append_nil, List.map_map]
  apply List.ext_getElem
  · simp [hsz]
  · intro i h1 h2
    simp only [List.length_map, List.length_range] at h1; simp only [List.getElem_map, List.getElem_range, Function.comp]
    have : (N * k + i) % k = i := by rw [Nat.mul_comm, Nat.mul_add_mod, Nat.mod_eq_of_lt h1]
    rw [this]
    simp [h2]
theorem none0 {K X : World → Prop} (h : ∀ (_ : Unit) w1, K w1 → X w1) : ∀ v w1, OnNone K v w1 → X w1 := fun v w1 hv => by
 cases v with
 | none => exact h () w1 hv
 | some v => exact hv.elim
theorem does_make {t e sz1 sz C D : Nat} {sE : Sk} {zs : List Value} {x y : Operand} {N : Nat} {z : α} (T : TabOk P tab) (Z : ZTabOk P zt) (ht : lookT tab t = some (.slice e, sz1)) (hE : lookT tab e = some (sE, sz)) (hz : lookZ zt e = some zs) (hzl : zs.length = sz)
 (hby : bytesOk P e = true) (hx : ev l x = some (.int .i64 (N : Int))) (hy : ev l y = some (.int .i64 (N : Int))) (hN : N ≤ 100000000000) (hz0 : ∀ w S, sh.rep w S z zs) :
 Does P n l (.makeSlice t x y) ty w (OnSome fun o w' => ∃ g, o = .slice (some ⟨g, 0, none⟩) N N ∧ ArrS sh C D w' g (List.replicate N z) ∧ g = w.heap.size ∧ w'.heap.size = g + 1 ∧ Ext w w') := by
 unfold Does
 intro a dst pos after gd next Q ha hn _; obtain ⟨i, v0, z1, z2, z3⟩ := lookZ_ok Z hz; obtain ⟨i', hi', hs'⟩ := (T _ _ _ hE).info; rw [z1] at hi'; obtain rfl := Option.some.inj hi'
 have hbb : i.bytes ≤ 1000 := by
  unfold bytesOk at hby
  rw [z1] at hby
  exact Nat.le_of_ble_eq_true hby
 have hu := (T _ _ _ ht).under
 have hb2 : (i.bytes : Int) * (N : Int) ≤ 281474976710656 := by
  have : i.bytes * N ≤ 1000 * 100000000000 := Nat.mul_le_mul hbb hN
  have h2 : ((i.bytes * N : Nat) : Int) ≤ 281474976710656 := by omega
  rwa [Int.natCast_mul] at h2
 have hr := run_make (P := P) w t e i v0 hu z1 z2 .i64 .i64 N N (by omega) (Int.le_refl _) hb2 (by omega); simp only [Int.toNat_natCast] at hr
 have e2 : (execOp a.eval ⟨dst, .makeSlice t x y, ty, pos, after, gd⟩).run P w = .ok (.value (.slice (some ⟨w.heap.size, 0, none⟩) N N)) (w.alloc (.cells (madeCells v0.cells (N * i.size)) e)) := by
  simp only [execOp, ha.ev hx, ha.ev hy, Sem.run_bind, hr, Result.andThen_ok, Sem.run_pure]
 have ecell : madeCells v0.cells (N * i.size) = (List.replicate N zs).flatten.toArray := by
  rw [z3]
  have hsz : zs.length = i.size := by omega
  apply Array.ext'
  simp only [madeCells, Array.toList_map, Array.toList_range, List.size_toArray]; rw [hsz]
  exact made_flat hsz N
 unfold Oper.wp
 rw [e2, ecell]; have hnew := new_alloc w (List.replicate N zs).flatten e
 exact hn _ _ ⟨w.heap.size, rfl, .made hnew.blk hz0, rfl, hnew.size, hnew.ext⟩
theorem does_storeA {x y : Operand} {t sz C D g j : Nat} {s : Sk} {v : Value} {us : List Value} {xs : List α} {z : α} (T : TabOk P tab) (ht : lookT tab t = some (s, sz)) (hx : ev l x = some (.pointer (some ⟨g, 0 + j * sh.sz, none⟩))) (hy : ev l y = some v) (hv : v.cells = us.toArray) (hl : us.length = sz) (h1 : us.all Value.one = true)
 (hA : ArrS sh C D w g xs) (hj : j < xs.length) (hg : g < C ∨ D ≤ g) (hr : sh.rep w (fun b => C ≤ b ∧ b < D) z us) :
 Does P n l (.store t x y) ty w (OnNone fun w' => ArrS sh C D w' g (xs.set j z) ∧ Fr (· = g) w w' ∧ w'.heap.size = w.heap.size) := by
 obtain ⟨css, c1, c2, c3⟩ := hA.ex; have hfl := flatten_length (hA.lens c2 c3); have hus := sh.len hr
 have hjs : j * sh.sz + sh.sz ≤ css.flatten.length := by
  rw [hfl, c2, ← Nat.succ_mul]; exact Nat.mul_le_mul_right _ hj
 have hd := does_store (P := P) (n := n) (l := l) (ty := ty) T ht hx hy hv hl h1 c1 (by rw [Nat.ble_eq]; omega)
 unfold Does at hd ⊢
 intro a dst pos after gd next Q ha hn hn0; refine hd a dst pos after gd next Q ha (fun v' w' h => h.elim) (fun w' hP => hn0 w' ?_)
 have hP' : Put w w' g (setMany css.flatten (j * sh.sz) us) := by rw [show j * sh.sz = 0 + j * sh.sz by omega]; exact hP
 exact ⟨arr_put c2 c3 hj hg hr hP', hP'.fr, hP'.size⟩
theorem does_storeB {x y : Operand} {t sz C D g j : Nat} {s : Sk} {v : Value} {us : List Value} {xs : List α} {z : α} (T : TabOk P tab) (ht : lookT tab t = some (s, sz)) (hx : ev l x = some (.pointer (some ⟨g, 0 + j * sh.sz, none⟩))) (hy : ev l y = some v) (hv : v.cells = us.toArray) (hl : us.length = sz) (h1 : us.all Value.one = true)
 (hA : ArrS sh C D w g xs) (hj : j < xs.length) (hg : g < C) (hD : D ≤ w.heap.size) (hr : sh.rep w (fun b => C ≤ b) z us) :
 Does P n l (.store t x y) ty w (OnNone fun w' => ArrS sh C w.heap.size w' g (xs.set j z) ∧ Fr (· = g) w w' ∧ w'.heap.size = w.heap.size) :=
 does_storeA T ht hx hy hv hl h1 (hA.wide hD) hj (Or.inl hg) (sh.lt hr)
end
section
variable {P : Program} {n : Nat} {l : Sl} {w : World} {tab : Tab} {zt : ZTab} {ty : TypeId}
end
theorem cw_meet {P : Program} {n : Nat} {l : Sl} {w : World} {Q : Exit → Act → World → Prop} {x y : Code} {ι : Type} (L : ι → Sl) (I : ι → World → Prop) (h : CW P n x (Exit.then (fun a w => ∃ i, Env n (L i) a ∧ I i w) Q) l w) (k : ∀ i w, I i w → CW P n y Q (L i) w) : CW P n (.seq x y) Q l w :=
 cw_cut _ h (fun a w ⟨i, he, hi⟩ => by have := k i w hi; unfold CW at this; exact this a he)
theorem qw_meet {n : Nat} {l : Sl} {w : World} {Q : Exit → Act → World → Prop} {ι : Type} {L : ι → Sl} {I : ι → World → Prop} (i : ι) (hs : Sub (L i) l) (h : I i w) : QW n (Exit.then (fun a w => ∃ i, Env n (L i) a ∧ I i w) Q) .normal l w :=
 qw_then_I fun _ ha => ⟨i, ha.sub hs, h⟩
end Bk
namespace Bk
open Go Go.RowKit
def earlyE (late : List Nat) (i : Nat) : Bool := !(late.contains i)
def ForcedE (ops : Array Oper) (late free0 : List Nat) (i : Nat) : Prop := ∀ (listed : Array Bool) (j : Nat) (o : Oper), DC ops listed → (∀ k ∈ free0, listed.getD k false = true) → listed.getD j true = false → earlyE late j = false → ops[j]? = some o → (∀ e ∈ o.after, Region.binds .any e = true → listed.getD e.on false = true) → listed.getD i false = true
def lateOkE (ops : Array Oper) (late free0 : List Nat) (j0 : Nat) : Bool := ((List.range ops.size).all fun i => !(earlyE late i) || (List.range' (i + 1) (ops.size - (i + 1))).any fun m => (Nat.beq m j0 || earlyE late m) && waits ops m i) && late.all fun j => free0.contains j || (Nat.beq j j0 || waits ops j j0)
theorem lateOkE_forced {ops : Array Oper} {late free0 : List Nat} {j0 : Nat} (h : lateOkE ops late free0 j0 = true) {i : Nat} (hi : i < ops.size) (hE : earlyE late i = true) : ForcedE ops late free0 i := by
 simp only [lateOkE, Bool.and_eq_true, List.all_eq_true, List.mem_range] at h; obtain ⟨h1, h2⟩ := h; intro listed j o hdc hF hun hj ho hall
 have hjm : j ∈ late := by
  unfold earlyE at hj
  simpa using hj
 have hj2 := h2 j hjm
 have hj2 : (Nat.beq j j0 || waits ops j j0) = true := by
  rw [Bool.or_eq_true] at hj2
  rcases hj2 with hc | hc
  · exfalso
    have hl := hF j (by simpa using hc)
    rcases Nat.lt_or_ge j listed.size with h' | h'
    · simp [h'] at hl hun; rw [hl] at hun; cases hun
    · simp [Array.getElem?_eq_none h'] at hl
  · exact hc
 simp only [Bool.or_eq_true] at hj2
 have hall0 : ∀ o0, ops[j0]? = some o0 → ∀ e ∈ o0.after, Region.binds .any e = true → listed.getD e.on false = true := by
  intro o0 ho0
  rcases hj2 with hj2 | hj2
  · have hjj := Nat.eq_of_beq_eq_true hj2
    subst hjj; rw [ho] at ho0; obtain rfl := Option.some.inj ho0
    exact hall
  · obtain ⟨oj, e', hoj, he', hb', hon'⟩ := waits_spec hj2
    rw [ho] at hoj; obtain rfl := Option.some.inj hoj; have hl := hall e' he' hb'; rw [hon'] at hl
    exact hdc j0 o0 ho0 hl
 have key : ∀ d i, ops.size - i ≤ d → i < ops.size → earlyE late i = true → listed.getD i false = true := by
  intro d
  induction d with
  | zero => intro i hd hi; omega
  | succ d ih =>
   intro i hd hi hE; have hg := h1 i hi; rw [hE] at hg; simp only [Bool.not_true, Bool.false_or, List.any_eq_true, List.mem_range'_1, Bool.and_eq_true, Bool.or_eq_true] at hg; obtain ⟨m, hm, hc, hw⟩ := hg; obtain ⟨om, e, hom, he, hb, hon⟩ := waits_spec hw
   rcases hc with hc | hc
   · have hmj := Nat.eq_of_beq_eq_true hc
     subst hmj; have := hall0 om hom e he hb
     rwa [hon] at this
   · have hl := ih m (by omega) (by omega) hc
     have := hdc m om hom hl e he hb
     rwa [hon] at this
 exact key _ i (Nat.le_refl _) hi hE
section
variable {P : Program} {ops : Array Oper} {Q : Exit → Act → World → Prop} {S S2 : World → Prop} {late free0 : List Nat} {K : Nat}
def wpAnyE (P : Program) (ops : Array Oper) (Q : Exit → Act → World → Prop) (S S2 : World → Prop) (late : List Nat) (K : Nat) : Nat → Array Bool → Act → World → Prop
 | 0, listed, a, w => Region.ready .any ops listed = [] ∧ Q .normal a w
 | fuel + 1, listed, a, w =>
  (Region.ready .any ops listed = [] → Q .normal a w) ∧
  ∀ i ∈ Region.ready .any ops listed, wpOp P ops Q i (fun a' w' => (earlyE late i = true → S w') ∧ (i < K → S2 w') ∧ wpAnyE P ops Q S S2 late K fuel (listed.setIfInBounds i true) a' w') a w
theorem wpAny_of_E : ∀ (fuel : Nat) (listed : Array Bool) (a : Act) (w : World), wpAnyE P ops Q S S2 late K fuel listed a w → wpAny P .any ops Q fuel listed a w
 | 0, _, _, _, h => h
 | fuel + 1, _, _, _, h => ⟨h.1, fun i hi => wpOp_mono (fun a' w' h' => wpAny_of_E fuel _ a' w' h'.2.2) (h.2 i hi)⟩
theorem getD_set_mono {listed : Array Bool} {j k : Nat} (h : listed.getD k false = true) : (listed.setIfInBounds j true).getD k false = true := by
 by_cases hjk : j = k
 · subst hjk
   rcases Nat.lt_or_ge j listed.size with h' | h'
   · simp [h']
   · simp [Array.getElem?_eq_none h'] at h
 · rw [getD_set_ne false hjk]; exact h
theorem wpAnyE_first {i : Nat} {oi : Oper} {v : Value} {T : World → Prop} (hi : ops[i]? = some oi) (hSS : ∀ w, S w → S2 w) (hT : (earlyE late i = true ∧ ForcedE ops late free0 i ∧ T = S) ∨ (earlyE late i = false ∧ Forced ops K i ∧ T = S2)) (hsel : ∀ (j : Nat) (o : Oper) cs b, ops[j]? = some o → o.op ≠ .select cs b)
 (hQ : ∀ c a w, Q (.panic c) (a.put oi.dst v) w → Q (.panic c) a w) :
 ∀ (fuel : Nat) (listed : Array Bool) (a : Act) (w : World), DC ops listed → (earlyE late i = true → ∀ k ∈ free0, listed.getD k false = true) →
  (∀ j oj, ops[j]? = some oj → j ≠ i → listed.getD j true = false → (∀ e ∈ oj.after, Region.binds .any e = true → e.on ≠ i) → oi.apart ops oj = true) →
  i ∈ Region.ready .any ops listed → YieldsIf P ops T oi v a → T w →
  wpAnyE P ops Q S S2 late K fuel (listed.setIfInBounds i true) (a.put oi.dst v) w → wpAnyE P ops Q S S2 late K (fuel + 1) listed a w := by
 have hSi : ∀ w, T w → earlyE late i = true → S w := fun w h he => by
  rcases hT with ⟨-, -, rfl⟩ | ⟨h0, -⟩
  · exact h
  · rw [h0] at he; cases he
 have hSi2 : ∀ w, T w → S2 w := fun w h => by
  rcases hT with ⟨-, -, rfl⟩ | ⟨-, -, rfl⟩
  · exact hSS w h
  · exact h
 intro fuel
 induction fuel with
 | zero =>
  intro listed a w _ _ _ hr hy hS H; refine ⟨fun h => (by rw [h] at hr; cases hr), fun j hj => ?_⟩
  by_cases hji : j = i
  · subst hji; exact hy.wpOp hi hS ⟨hSi w hS, fun _ => hSi2 w hS, H⟩
  · have := ready_mono hj hji
    rw [H.1] at this
    cases this
 | succ fuel ih =>
  intro listed a w hdc hF hfree hr hy hS H; refine ⟨fun h => (by rw [h] at hr; cases hr), fun j hj => ?_⟩
  by_cases hji : j = i
  · subst hji; exact hy.wpOp hi hS ⟨hSi w hS, fun _ => hSi2 w hS, H⟩
  · have h1 := H.2 j (ready_mono hj hji)
    obtain ⟨hjun, oj, hoj, hall⟩ := mem_ready.1 hj
    have hun : ¬ listed.getD i false = true := fun hc => by
     have h0 := (mem_ready.1 hr).1
     rcases Nat.lt_or_ge i listed.size with h' | h'
     · simp [h'] at h0 hc; rw [h0] at hc; cases hc
     · simp [Array.getElem?_eq_none h'] at hc
    have hTj : ∀ w', (earlyE late j = true → S w') → (j < K → S2 w') → T w' := fun w' h' h2 => by
     rcases hT with ⟨hEi, hre, rfl⟩ | ⟨-, hre, rfl⟩
     · cases hej : earlyE late j
       · exact absurd (hre listed j oj hdc (hF hEi) hjun hej hoj hall) hun
       · exact h' hej
     · rcases Nat.lt_or_ge j K with h | h
       · exact h2 h
       · exact absurd (hre listed j oj hdc h hoj hall) hun
    have hnot : ∀ e ∈ oj.after, Region.binds .any e = true → e.on ≠ i := fun e he hb heq => hun (heq ▸ hall e he hb)
    have h2 := wpOp_putIf hoj (hfree j oj hoj hji hjun hnot) (fun cs b => hsel i oi cs b hi) (fun cs b => hsel j oj cs b hoj) hQ hy h1; have hfree' : ∀ k ok, ops[k]? = some ok → k ≠ i → (listed.setIfInBounds j true).getD k true = false →
     (∀ e ∈ ok.after, Region.binds .any e = true → e.on ≠ i) → oi.apart ops ok = true := fun k ok hk hki hun hno => by
     refine hfree k ok hk hki ?_ hno
     by_cases hjk : j = k
     · subst hjk; exact hjun
     · rw [getD_set_ne true hjk] at hun; exact hun
    refine wpOp_mono (fun a' w' h3 => ⟨h3.2.1, h3.2.2.1, ih (listed.setIfInBounds j true) a' w' (hdc.set hj) (fun hE k hk => getD_set_mono (hF hE k hk)) hfree' (ready_mono hr (Ne.symm hji)) h3.1 (hTj w' h3.2.1 h3.2.2.1) ?_⟩) h2; rw [Array.setIfInBounds_comm _ _ hji]
    exact h3.2.2.2
end
inductive ScE where
 | done
 | pure (i : Nat) (r : ScE)
 | free (i : Nat) (r : ScE)
 | put (i : Nat) (r : ScE)
 | tail (k : Nat)
def ScE.ok (ops : Array Oper) (late free0 : List Nat) (K : Nat) : ScE → Nat → Array Bool → Bool
 | .done, _, listed => (Region.ready .any ops listed).isEmpty
 | .pure i r, f + 1, listed => (free0.all fun k => listed.getD k false) && earlyE late i && (Region.ready .any ops listed).contains i && Region.free .any ops listed i && ScE.ok ops late free0 K r f (listed.setIfInBounds i true)
 | .free i r, f + 1, listed => !(earlyE late i) && Nat.blt i K && (Region.ready .any ops listed).contains i && Region.free .any ops listed i && ScE.ok ops late free0 K r f (listed.setIfInBounds i true)
 | .put i r, f + 1, listed => !(earlyE late i) && (Region.ready .any ops listed == [i]) && ScE.ok ops late free0 K r f (listed.setIfInBounds i true)
 | .tail k, f, listed => Nat.ble K k && Nat.beq (f + k) ops.size && (List.range' k f).all (fun j => !(earlyE late j)) && chain ops f k listed
 | _, _, _ => false
def HTE (P : Program) (ops : Array Oper) (Q : Exit → Act → World → Prop) (S S2 : World → Prop) : ScE → Act → World → Prop
 | .done, a, w => Q .normal a w
 | .pure i r, a, w => S w ∧ ∃ o v, ops.toList[i]? = some o ∧ YieldsIf P ops S o v a ∧ HTE P ops Q S S2 r (a.put o.dst v) w
 | .free i r, a, w => S2 w ∧ ∃ o v, ops.toList[i]? = some o ∧ YieldsIf P ops S2 o v a ∧ HTE P ops Q S S2 r (a.put o.dst v) w
 | .put i r, a, w => wpOp P ops Q i (fun a' w' => S2 w' ∧ HTE P ops Q S S2 r a' w') a w
 | .tail k, a, w => wpList P ops Q (ops.toList.drop k) a w
theorem chain_anyE {P : Program} {ops : Array Oper} {Q : Exit → Act → World → Prop} {S S2 : World → Prop} {late : List Nat} {K : Nat} : ∀ (f k : Nat) (listed : Array Bool) (a : Act) (w : World), K ≤ k → f + k = ops.size → (∀ j, k ≤ j → j < k + f → earlyE late j = false) → chain ops f k listed = true → wpList P ops Q (ops.toList.drop k) a w → wpAnyE P ops Q S S2 late K f listed a w
 | 0, k, listed, a, w, hK, hf, hl, hc, h => by
  have : ops.toList.drop k = [] := List.drop_eq_nil_of_le (by simp; omega); rw [this] at h
  exact ⟨by simpa [chain] using hc, h⟩
 | f + 1, k, listed, a, w, hK, hf, hl, hc, h => by
  simp only [chain, Bool.and_eq_true, beq_iff_eq] at hc
  have hlt : k < ops.toList.length := by simp; omega
  rw [List.drop_eq_getElem_cons hlt] at h; refine ⟨fun e => absurd (hc.1.symm.trans e) (by simp), fun i hi => ?_⟩; rw [hc.1] at hi; simp only [List.mem_singleton] at hi; subst hi; have he := hl i (Nat.le_refl _) (by omega)
  have hl' : ∀ j, i + 1 ≤ j → j < i + 1 + f → earlyE late j = false := fun j h1 h2 => hl j (by omega) (by omega)
  have ho : ops[i]? = some ops.toList[i] := by simp
  unfold wpList at h
  unfold wpOp
  rw [ho]; simp only
  split
  · rename_i hw
    rw [if_pos hw] at h
    rcases h with h | h
    · exact Or.inl (Oper.wp_mono (fun a' w' h' => ⟨fun e => (by rw [he] at e; cases e), fun e => by omega, chain_anyE f (i + 1) _ a' w' (by omega) (by omega) hl' hc.2 h'⟩) h)
    · exact Or.inr h
  · rename_i hw
    rw [if_neg hw] at h
    exact ⟨fun e => (by rw [he] at e; cases e), fun e => by omega, chain_anyE f (i + 1) _ _ w (by omega) (by omega) hl' hc.2 h⟩
theorem HTE.any {P : Program} {ops : Array Oper} {Q : Exit → Act → World → Prop} {S S2 : World → Prop} {late free0 : List Nat} {K : Nat} (hSS : ∀ w, S w → S2 w) (hre2 : ∀ i, i < K → Forced ops K i) (hs : Region.noSelect ops = true) (hre : ∀ i, i < ops.size → earlyE late i = true → ForcedE ops late free0 i) (hQ : PanicOk Q) :
 ∀ (s : ScE) (f : Nat) (listed : Array Bool) (a : Act) (w : World), DC ops listed → HTE P ops Q S S2 s a w → ScE.ok ops late free0 K s f listed = true → wpAnyE P ops Q S S2 late K f listed a w
 | .done, f, listed, a, w, hd, h, hk => by
  have hr : Region.ready .any ops listed = [] := by simpa [ScE.ok] using hk
  cases f with
  | zero => exact ⟨hr, h⟩
  | succ f => exact ⟨fun _ => h, by rw [hr]; simp⟩
 | .tail k, f, listed, a, w, hd, h, hk => by
  simp only [ScE.ok, Bool.and_eq_true, List.all_eq_true, List.mem_range'_1] at hk
  exact chain_anyE f k listed a w (Nat.le_of_ble_eq_true hk.1.1.1) (Nat.eq_of_beq_eq_true hk.1.1.2) (fun j h1 h2 => by simpa using hk.1.2 j ⟨h1, h2⟩) hk.2 h
 | .pure i r, 0, listed, a, w, hd, h, hk => by simp [ScE.ok] at hk
 | .pure i r, f + 1, listed, a, w, hd, h, hk => by
  simp only [ScE.ok, Bool.and_eq_true] at hk; obtain ⟨hS, o, v, ho, hy, hr⟩ := h
  have hi : ops[i]? = some o := by simpa using ho
  have hil : i < ops.size := (Array.getElem?_eq_some_iff.1 hi).1
  have hir : i ∈ Region.ready .any ops listed := by simpa using hk.1.1.2
  exact wpAnyE_first (T := S) (free0 := free0) hi hSS (Or.inl ⟨hk.1.1.1.2, hre i hil hk.1.1.1.2, rfl⟩) (Region.noSelect_spec hs) (fun c a w => hQ o.dst v c a w) f listed a w hd (fun _ k hkm => List.all_eq_true.1 hk.1.1.1.1 k hkm) (Region.free_spec hi hk.1.2) hir hy hS
   (HTE.any hSS hre2 hs hre hQ r f _ _ w (hd.set hir) hr hk.2)
 | .free i r, 0, listed, a, w, hd, h, hk => by simp [ScE.ok] at hk
 | .free i r, f + 1, listed, a, w, hd, h, hk => by
  simp only [ScE.ok, Bool.and_eq_true, Bool.not_eq_true'] at hk; obtain ⟨hS, o, v, ho, hy, hr⟩ := h
  have hi : ops[i]? = some o := by simpa using ho
  have hir : i ∈ Region.ready .any ops listed := by simpa using hk.1.1.2
  have hiK := Nat.le_of_ble_eq_true hk.1.1.1.2
  exact wpAnyE_first (T := S2) (free0 := free0) hi hSS (Or.inr ⟨hk.1.1.1.1, hre2 i hiK, rfl⟩) (Region.noSelect_spec hs) (fun c a w => hQ o.dst v c a w) f listed a w hd (fun e => (by rw [hk.1.1.1.1] at e; cases e)) (Region.free_spec hi hk.1.2) hir hy hS
   (HTE.any hSS hre2 hs hre hQ r f _ _ w (hd.set hir) hr hk.2)
 | .put i r, 0, listed, a, w, hd, h, hk => by simp [ScE.ok] at hk
 | .put i r, f + 1, listed, a, w, hd, h, hk => by
  simp only [ScE.ok, Bool.and_eq_true, Bool.not_eq_true', beq_iff_eq] at hk; obtain ⟨⟨h1, h2⟩, h3⟩ := hk; refine ⟨fun e => (by rw [h2] at e; cases e), fun j hj => ?_⟩; rw [h2] at hj; simp only [List.mem_singleton] at hj; subst hj
  have hir : j ∈ Region.ready .any ops listed := by rw [h2]; simp
  exact wpOp_mono (fun a' w' h' => ⟨fun e => (by rw [h1] at e; cases e), fun _ => h'.1, HTE.any hSS hre2 hs hre hQ r f _ a' w' (hd.set hir) h'.2 h3⟩) h
def TWE (P : Program) (n : Nat) (ops : Array Oper) (Q : Exit → Act → World → Prop) (S S2 : World → Prop) (s : ScE) (l : Sl) (w : World) : Prop := ∀ a, Env n l a → HTE P ops Q S S2 s a w
section draws
variable {P : Program} {n : Nat} {ops : Array Oper} {Q : Exit → Act → World → Prop} {S S2 : World → Prop} {l : Sl} {w : World}
 {d i : Nat} {ty : TypeId} {pos : String} {after : Array Edge} {r : ScE}
theorem cw_edraw {id : Nat} {os : List Oper} (S S2 : World → Prop) (late free0 : List Nat) (j0 K : Nat) (s : ScE) (hSS : ∀ w, S w → S2 w) (hm : P.follows .mixedOrders = true) (hs : (Region.noSelect os.toArray && (Nat.ble os.length K || lateOk os.toArray K) && lateOkE os.toArray late free0 j0 && ScE.ok os.toArray late free0 K s os.length (Array.replicate os.length false)) = true) (hQ : PanicOk Q)
 (h : ∀ w1, Ext w w1 → w1.heap = w.heap → TWE P n os.toArray Q S S2 s l w1) : CW P n (.region id os.toArray true) Q l w := by
 unfold CW
 intro a ha; simp only [Bool.and_eq_true] at hs; have h2 := h w.drew (Ext.refl w).drew rfl
 have hdc : DC os.toArray (Array.replicate os.length false) := fun k o _ hl => by
  exfalso
  rcases Nat.lt_or_ge k os.length with h' | h'
  · simp [h'] at hl
  · simp [Array.getElem?_eq_none, h'] at hl
 have hre2 : ∀ i, i < K → Forced os.toArray K i := by
  by_cases hK : K < os.toArray.size
  · have hl := hs.1.1.2
    simp only [Bool.or_eq_true] at hl
    rcases hl with hl | hl
    · have := Nat.le_of_ble_eq_true hl
      simp at hK; omega
    · exact lateOk_forced hl hK
  · intro i hi listed j o _ hj ho _
    have hjs : j < os.toArray.size := (Array.getElem?_eq_some_iff.1 ho).1
    omega
 refine wp_region_any hm (wpAny_of_E (S := S) (S2 := S2) (late := late) (K := K) _ _ _ _ ?_); have := HTE.any hSS hre2 hs.1.1.1 (fun i hi hE => lateOkE_forced hs.1.2 hi hE) hQ s os.length (Array.replicate os.length false) a w.drew hdc (h2 a ha) hs.2
 simpa using this
theorem twE_tail {os : List Oper} {k : Nat} (he : dropL k ops.toList = some os) (h : LW P n ops Q os l w) : TWE P n ops Q S S2 (.tail k) l w := by
 unfold LW at h
 intro a ha
 show wpList P ops Q (ops.toList.drop k) a w
 rw [dropL_drop he]; exact h a ha
theorem twE_pure {op : Op} {v : Value} (hS : S w) (hi : ops.toList[i]? = some ⟨some d, op, ty, pos, after, none⟩) (hp : Pur P n l S op ty v) (hd : Nat.blt d n = true) (k : TWE P n ops Q S S2 r ((d, v) :: l) w) :
 TWE P n ops Q S S2 (.pure i r) l w := by
 unfold Pur at hp
 exact fun a ha => ⟨hS, _, v, hi, Or.inl ⟨rfl, fun w hS => hp a w _ _ _ _ ha hS⟩, k _ (ha.put hd v)⟩
theorem twE_free {op : Op} {v : Value} (hS : S2 w) (hi : ops.toList[i]? = some ⟨some d, op, ty, pos, after, none⟩) (hp : Pur P n l S2 op ty v) (hd : Nat.blt d n = true) (k : TWE P n ops Q S S2 r ((d, v) :: l) w) :
 TWE P n ops Q S S2 (.free i r) l w := by
 unfold Pur at hp
 exact fun a ha => ⟨hS, _, v, hi, Or.inl ⟨rfl, fun w hS => hp a w _ _ _ _ ha hS⟩, k _ (ha.put hd v)⟩
theorem twE_put0 {op : Op} {K' : Option Value → World → Prop} (hi : ops.toList[i]? = some ⟨none, op, ty, pos, after, none⟩) (hp : Does P n l op ty w K')
 (k : ∀ v w1, K' v w1 → S2 w1 ∧ TWE P n ops Q S S2 r l w1) : TWE P n ops Q S S2 (.put i r) l w := fun a ha => by
 unfold Does at hp
 have hi' : ops[i]? = some ⟨none, op, ty, pos, after, none⟩ := by simpa using hi
 show wpOp P ops Q i _ a w
 unfold wpOp
 rw [hi']; simp only; rw [if_pos (wanted_plain rfl)]
 left
 exact hp a _ _ _ _ _ _ ha (fun v w1 hK => ⟨(k _ w1 hK).1, (k _ w1 hK).2 _ ha⟩) (fun w1 h => ⟨(k _ w1 h).1, (k _ w1 h).2 _ ha⟩)
end draws
end Bk
namespace Bk
open Go
def letter (c : UInt8) : Bool := decide (97 ≤ c.toNat) && decide (c.toNat ≤ 122)
def digit (c : UInt8) : Bool := decide (48 ≤ c.toNat) && decide (c.toNat ≤ 57)
def blank (c : UInt8) : Bool := decide (c.toNat = 32) || decide (c.toNat = 9) || decide (c.toNat = 13) || decide (c.toNat = 10)
def wordish (c : UInt8) : Bool := letter c || digit c
def notLf (c : UInt8) : Bool := !decide (c.toNat = 10)
def span (p : UInt8 → Bool) (s : List UInt8) : Nat := (s.takeWhile p).length
def keywords : List (List UInt8) := [[105, 110, 116], [97, 114, 114, 97, 121], [115, 116, 97, 99, 107], [112, 114, 111, 99], [109, 97, 105, 110], [112, 117, 115, 104], [112, 111, 112], [114, 101, 97, 100], [117, 110, 114, 101, 97, 100], [119, 114, 105, 116, 101], [117, 110, 119, 114, 105, 116, 101], [99, 97, 108, 108], [117, 110, 99, 97, 108, 108], [105, 102], [101, 108, 115, 101], [102, 105], [102, 114, 111, 109], [108, 111, 111, 112], [117, 110, 116, 105, 108], [108, 111, 99, 97, 108], [100, 101, 108, 111, 99, 97, 108], [116, 111, 112], [115, 105, 122, 101]]
def keyword (s : List UInt8) : Bool := keywords.contains s
def pairs : List (List UInt8) := [[58, 61], [43, 61], [45, 61], [94, 61], [61, 61], [33, 61], [60, 61], [62, 61], [38, 38], [124, 124]]
def singles : List UInt8 := [43, 45, 42, 47, 37, 38, 124, 94, 33, 61, 60, 62, 40, 41, 123, 125, 91, 93, 59, 44]
def signLen (s : List UInt8) : Nat :=
 if List.isPrefixOf [60, 61, 62] s then 3 else if pairs.contains (s.take 2) then 2 else if (s.head?.map (singles.contains ·)).getD false then 1 else 0
def firstTok : List UInt8 → Nat × Nat
 | [] => (3, 0)
 | c :: r => if letter c then (1, span wordish (c :: r)) else if digit c then (2, span digit (c :: r)) else if blank c then (4, span blank (c :: r)) else if c = 35 then (5, span notLf (c :: r)) else (3, signLen (c :: r))
def isName (s : List UInt8) : Bool := !s.isEmpty && decide (s.length ≤ 16) && ((firstTok s).1 == 1) && ((firstTok s).2 == s.length) && !keyword s
def level (k : Int) : Int :=
 if k = 23 then 1 else if k = 22 then 2 else if k = 14 then 3 else if k = 15 then 4 else if k = 13 then 5
 else if 16 ≤ k ∧ k ≤ 21 then 6 else if k = 8 ∨ k = 9 then 7 else if 10 ≤ k ∧ k ≤ 12 then 8 else if k = 6 ∨ k = 7 then 9 else 0
def symbols : List (List UInt8) := [[], [], [], [], [], [], [45], [33], [43], [45], [42], [47], [37], [38], [124], [94], [61, 61], [33, 61], [60], [60, 61], [62], [62, 61], [38, 38], [124, 124], [], [], [], [], [], [], [], [], [], [], [], [], [], [], [], [], [43, 61], [45, 61], [94, 61]]
def symbol (k : Int) : List UInt8 := symbols.getD k.toNat []
def isBin (k : Int) : Bool := decide (8 ≤ k) && decide (k ≤ 23)
def named (n : Int) (s : List UInt8) : Bool := n == 0 && isName s
def plain (n : Int) (s : List UInt8) : Bool := n == 0 && s.isEmpty
def Nd.isExpr : Nd → Bool
 | .mk k n s l =>
  if k = 1 then decide (0 ≤ n) && s.isEmpty && l.isEmpty
  else if k = 2 ∨ k = 4 ∨ k = 5 then named n s && l.isEmpty
  else if k = 3 then named n s && match l with | [x] => x.isExpr | _ => false
  else if k = 6 ∨ k = 7 then plain n s && match l with | [x] => x.isExpr | _ => false
  else if 8 ≤ k ∧ k ≤ 23 then plain n s && match l with | [x, y] => x.isExpr && y.isExpr | _ => false
  else false
def Nd.isPlace (t : Nd) : Bool := (t.kind == 2 || t.kind == 3) && t.isExpr
def Nd.isVar (t : Nd) : Bool := t.kind == 2 && t.isExpr
mutual
def Nd.isStmt : Nd → Bool
 | .mk k n s l =>
  if k = 40 ∨ k = 41 ∨ k = 42 ∨ k = 56 then plain n s && match l with | [x, y] => x.isPlace && y.isExpr | _ => false
  else if k = 43 then plain n s && match l with | [x, y] => x.isPlace && y.isPlace | _ => false
  else if k = 44 ∨ k = 45 then named n s && match l with | [x] => x.isPlace | _ => false
  else if 46 ≤ k ∧ k ≤ 49 then plain n s && match l with | [x] => x.isPlace | _ => false
  else if k = 50 ∨ k = 51 then named n s && decide (l.length ≤ 8) && l.all Nd.isVar
  else if k = 52 ∨ k = 53 then plain n s && match l with | [x, y, z, u] => x.isExpr && y.isBlock && z.isBlock && u.isExpr | _ => false
  else if k = 54 then named n s && match l with | [x, y, z] => x.isExpr && y.isBlock && z.isExpr | _ => false
  else if k = 55 then named n s && match l with | [x] => x.isBlock | _ => false
  else false
def Nd.isBlock : Nd → Bool
 | .mk k n s l => k == 57 && plain n s && rowStmt l
def rowStmt : List Nd → Bool
 | [] => true
 | t :: r => t.isStmt && rowStmt r
end
def parenL (a k : Int) : Bool := isBin a && decide (level a < level k)
def parenR (a k : Int) : Bool := isBin a && decide (level a ≤ level k)
def wrap (s : List UInt8) (b : Bool) : List UInt8 := if b then [40] ++ s ++ [41] else s
def Nd.text : Nd → List UInt8
 | .mk k n s l =>
  if k = 1 then Lib.itoa n else if k = 2 then s
  else if k = 3 then match l with | [x] => s ++ [91] ++ x.text ++ [93] | _ => []
  else if k = 4 then [116, 111, 112, 40] ++ s ++ [41] else if k = 5 then [115, 105, 122, 101, 40] ++ s ++ [41]
  else if k = 6 ∨ k = 7 then match l with | [x] => symbol k ++ wrap x.text (isBin x.kind) | _ => []
  else match l with
   | [x, y] => wrap x.text (parenL x.kind k) ++ [32] ++ symbol k ++ [32] ++ wrap y.text (parenR y.kind k)
   | _ => []
end Bk
namespace Bk
open Go
inductive StmtSh : Nd → Prop where
 | upd {k : Int} {x y : Nd} : (k = 40 ∨ k = 41 ∨ k = 42 ∨ k = 56) → x.isPlace = true → y.isExpr = true → StmtSh (.mk k 0 [] [x, y])
 | swap {x y : Nd} : x.isPlace = true → y.isPlace = true → StmtSh (.mk 43 0 [] [x, y])
 | stack {k : Int} {s : List UInt8} {x : Nd} : (k = 44 ∨ k = 45) → isName s = true → x.isPlace = true → StmtSh (.mk k 0 s [x])
 | tape {k : Int} {x : Nd} : (k = 46 ∨ k = 47 ∨ k = 48 ∨ k = 49) → x.isPlace = true → StmtSh (.mk k 0 [] [x])
 | call {k : Int} {s : List UInt8} {l : List Nd} : (k = 50 ∨ k = 51) → isName s = true → l.length ≤ 8 → l.all Nd.isVar = true → StmtSh (.mk k 0 s l)
 | branch {k : Int} {x y z u : Nd} : (k = 52 ∨ k = 53) → x.isExpr = true → y.isBlock = true → z.isBlock = true → u.isExpr = true → StmtSh (.mk k 0 [] [x, y, z, u])
 | local_ {s : List UInt8} {x y z : Nd} : isName s = true → x.isExpr = true → y.isBlock = true → z.isExpr = true → StmtSh (.mk 54 0 s [x, y, z])
 | lstack {s : List UInt8} {x : Nd} : isName s = true → x.isBlock = true → StmtSh (.mk 55 0 s [x])
theorem stmt_shape {t : Nd} (h : t.isStmt = true) : StmtSh t := by
 obtain ⟨k, n, s, l⟩ := t
 unfold Nd.isStmt at h
 by_cases c1 : k = 40 ∨ k = 41 ∨ k = 42 ∨ k = 56
 · rw [if_pos c1] at h
   simp only [Bool.and_eq_true, plain, beq_iff_eq, List.isEmpty_iff] at h; obtain ⟨⟨rfl, rfl⟩, h2⟩ := h
   split at h2
   · simp only [Bool.and_eq_true] at h2
     exact .upd c1 h2.1 h2.2
   · cases h2
 rw [if_neg c1] at h
 by_cases c2 : k = 43
 · rw [if_pos c2] at h
   simp only [Bool.and_eq_true, plain, beq_iff_eq, List.isEmpty_iff] at h; obtain ⟨⟨rfl, rfl⟩, h2⟩ := h; subst c2
   split at h2
   · simp only [Bool.and_eq_true] at h2
     exact .swap h2.1 h2.2
   · cases h2
 rw [if_neg c2] at h
 by_cases c3 : k = 44 ∨ k = 45
 · rw [if_pos c3] at h
   simp only [Bool.and_eq_true, named, beq_iff_eq] at h; obtain ⟨⟨rfl, hn⟩, h2⟩ := h
   split at h2
   · exact .stack c3 hn h2
   · cases h2
 rw [if_neg c3] at h
 by_cases c4 : 46 ≤ k ∧ k ≤ 49
 · rw [if_pos c4] at h
   simp only [Bool.and_eq_true, plain, beq_iff_eq, List.isEmpty_iff] at h; obtain ⟨⟨rfl, rfl⟩, h2⟩ := h
   split at h2
   · exact .tape (by omega) h2
   · cases h2
 rw [if_neg c4] at h
 by_cases c5 : k = 50 ∨ k = 51
 · rw [if_pos c5] at h
   simp only [Bool.and_eq_true, named, beq_iff_eq, decide_eq_true_eq] at h; obtain ⟨⟨⟨rfl, hn⟩, h1⟩, h2⟩ := h
   exact .call c5 hn h1 h2
 rw [if_neg c5] at h
 by_cases c6 : k = 52 ∨ k = 53
 · rw [if_pos c6] at h
   simp only [Bool.and_eq_true, plain, beq_iff_eq, List.isEmpty_iff] at h; obtain ⟨⟨rfl, rfl⟩, h2⟩ := h
   split at h2
   · simp only [Bool.and_eq_true] at h2
     exact .branch c6 h2.1.1.1 h2.1.1.2 h2.1.2 h2.2
   · cases h2
 rw [if_neg c6] at h
 by_cases c7 : k = 54
 · rw [if_pos c7] at h
   simp only [Bool.and_eq_true, named, beq_iff_eq] at h; obtain ⟨⟨rfl, hn⟩, h2⟩ := h; subst c7
   split at h2
   · simp only [Bool.and_eq_true] at h2
     exact .local_ hn h2.1.1 h2.1.2 h2.2
   · cases h2
 rw [if_neg c7] at h
 by_cases c8 : k = 55
 · rw [if_pos c8] at h
   simp only [Bool.and_eq_true, named, beq_iff_eq] at h; obtain ⟨⟨rfl, hn⟩, h2⟩ := h; subst c8
   split at h2
   · exact .lstack hn h2
   · cases h2
 rw [if_neg c8] at h
 cases h
theorem shape_stmt {t : Nd} (h : StmtSh t) : t.isStmt = true := by
 cases h with
 | upd hk hx hy => unfold Nd.isStmt; rw [if_pos hk]; simp [plain, hx, hy]
 | swap hx hy => unfold Nd.isStmt; simp [plain, hx, hy]
 | stack hk hs hx => rcases hk with rfl | rfl <;> (unfold Nd.isStmt; simp [named, hs, hx])
 | tape hk hx => rcases hk with rfl | rfl | rfl | rfl <;> (unfold Nd.isStmt; simp [plain, hx])
 | call hk hs hl ha => rcases hk with rfl | rfl <;> (unfold Nd.isStmt; simp only [named, hs, ha]; simp [hl])
 | branch hk hx hy hz hu => rcases hk with rfl | rfl <;> (unfold Nd.isStmt; simp [plain, hx, hy, hz, hu])
 | local_ hs hx hy hz => unfold Nd.isStmt; simp [named, hs, hx, hy, hz]
 | lstack hs hx => unfold Nd.isStmt; simp [named, hs, hx]
theorem expr_kind {t : Nd} (h : t.isExpr = true) : 1 ≤ t.kind ∧ t.kind ≤ 23 := by
 obtain ⟨k, n, s, l⟩ := t
 unfold Nd.isExpr at h
 simp only [Nd.kind]
 by_cases c1 : k = 1
 · omega
 rw [if_neg c1] at h
 by_cases c2 : k = 2 ∨ k = 4 ∨ k = 5
 · omega
 rw [if_neg c2] at h
 by_cases c3 : k = 3
 · omega
 rw [if_neg c3] at h
 by_cases c4 : k = 6 ∨ k = 7
 · omega
 rw [if_neg c4] at h
 by_cases c5 : 8 ≤ k ∧ k ≤ 23
 · omega
 rw [if_neg c5] at h
 cases h
theorem place_isExpr {t : Nd} (h : t.isPlace = true) : t.isExpr = true := by
 simp only [Nd.isPlace, Bool.and_eq_true] at h; exact h.2
theorem var_isExpr {t : Nd} (h : t.isVar = true) : t.isExpr = true := by
 simp only [Nd.isVar, Bool.and_eq_true] at h; exact h.2
theorem stmt_kind {t : Nd} (h : t.isStmt = true) : 40 ≤ t.kind ∧ t.kind ≤ 56 := by
 cases stmt_shape h <;> simp only [Nd.kind] <;> omega
theorem block_kind {t : Nd} (h : t.isBlock = true) : t = .mk 57 0 [] t.kids ∧ rowStmt t.kids = true := by
 obtain ⟨k, n, s, l⟩ := t
 unfold Nd.isBlock at h
 simp only [Bool.and_eq_true, plain, beq_iff_eq, List.isEmpty_iff] at h; obtain ⟨⟨rfl, rfl, rfl⟩, h2⟩ := h
 exact ⟨rfl, h2⟩
theorem rowStmt_iff : ∀ {l : List Nd}, rowStmt l = true ↔ ∀ x ∈ l, x.isStmt = true
 | [] => by simp [rowStmt]
 | t :: r => by simp [rowStmt, rowStmt_iff (l := r)]
end Bk
namespace Bk
open Go
structure Tok where
 kind : Int
 text : List UInt8
 pos : Int
def Tok.zero : Tok := ⟨0, [], 0⟩
structure PS where
 at_ : Nat
 off : Int
 err : Int
section
variable (ts : List Tok) (n : Int)
def peekP (σ : PS) : Tok := if σ.err ≠ 0 ∨ σ.at_ = ts.length then Tok.zero else ts.getD σ.at_ Tok.zero
def failP (σ : PS) (off e : Int) : PS := if σ.err = 0 then ⟨σ.at_, off, e⟩ else σ
def unexpP (σ : PS) : PS := if σ.at_ < ts.length then failP σ (ts.getD σ.at_ Tok.zero).pos 3 else failP σ n 4
def nextP (σ : PS) : PS := ⟨σ.at_ + 1, σ.off, σ.err⟩
def hasP (σ : PS) (t : List UInt8) : Bool := decide ((peekP ts σ).text = t)
def acceptP (σ : PS) (t : List UInt8) : PS := if hasP ts σ t then nextP σ else σ
def expectP (σ : PS) (t : List UInt8) : PS := if hasP ts σ t then nextP σ else unexpP ts n σ
def nameP (σ : PS) : List UInt8 × PS := if isName (peekP ts σ).text then ((peekP ts σ).text, nextP σ) else ([], unexpP ts n σ)
def digitsVal (s : List UInt8) : Nat := s.foldl (fun a c => a * 10 + (c.toNat - 48)) 0
def numberP (least most : Int) (σ : PS) : Int × PS :=
 if (peekP ts σ).kind = 2 then
  if (digitsVal (peekP ts σ).text : Int) ≤ 9223372036854775807 ∧ least ≤ (digitsVal (peekP ts σ).text : Int) ∧ (digitsVal (peekP ts σ).text : Int) ≤ most then ((digitsVal (peekP ts σ).text : Int), nextP σ)
  else (0, failP (nextP σ) (peekP ts σ).pos 2)
 else (0, unexpP ts n σ)
def binOf (t : List UInt8) : Option Int := [8, 9, 10, 11, 12, 13, 14, 15, 16, 17, 18, 19, 20, 21, 22, 23].find? (fun k => decide (symbol k = t))
mutual
def exprP : Nat → Int → PS → Nd × PS
 | 0, _, σ => (.mk 0 0 [] [], σ)
 | k + 1, lv, σ => climbP k lv (unaryP k σ).1 (unaryP k σ).2
def climbP : Nat → Int → Nd → PS → Nd × PS
 | 0, _, x, σ => (x, σ)
 | k + 1, lv, x, σ => match binOf (peekP ts σ).text with
  | none => (x, σ)
  | some op => if level op < lv then (x, σ) else
   climbP k lv (.mk op 0 [] [x, (exprP k (level op + 1) (nextP σ)).1]) (exprP k (level op + 1) (nextP σ)).2
def unaryP : Nat → PS → Nd × PS
 | 0, σ => (.mk 0 0 [] [], σ)
 | k + 1, σ =>
  if hasP ts σ [45] then (.mk 6 0 [] [(unaryP k (nextP σ)).1], (unaryP k (nextP σ)).2)
  else if hasP ts σ [33] then (.mk 7 0 [] [(unaryP k (nextP σ)).1], (unaryP k (nextP σ)).2)
  else primaryP k σ
def primaryP : Nat → PS → Nd × PS
 | 0, σ => (.mk 0 0 [] [], σ)
 | k + 1, σ =>
  if (peekP ts σ).kind = 2 then (.mk 1 (numberP ts n 0 9223372036854775807 σ).1 [] [], (numberP ts n 0 9223372036854775807 σ).2)
  else if hasP ts σ [116, 111, 112] then (.mk 4 0 (nameP ts n (expectP ts n (nextP σ) [40])).1 [], expectP ts n (nameP ts n (expectP ts n (nextP σ) [40])).2 [41])
  else if hasP ts σ [115, 105, 122, 101] then (.mk 5 0 (nameP ts n (expectP ts n (nextP σ) [40])).1 [], expectP ts n (nameP ts n (expectP ts n (nextP σ) [40])).2 [41])
  else if hasP ts σ [40] then ((exprP k 1 (nextP σ)).1, expectP ts n (exprP k 1 (nextP σ)).2 [41])
  else placeP k σ
def placeP : Nat → PS → Nd × PS
 | 0, σ => (.mk 0 0 [] [], σ)
 | k + 1, σ =>
  if hasP ts (nameP ts n σ).2 [91] then (.mk 3 0 (nameP ts n σ).1 [(exprP k 1 (nextP (nameP ts n σ).2)).1], expectP ts n (exprP k 1 (nextP (nameP ts n σ).2)).2 [93])
  else (.mk 2 0 (nameP ts n σ).1 [], (nameP ts n σ).2)
end
def argP (σ : PS) : Nd × PS := (.mk 2 0 (nameP ts n σ).1 [], (nameP ts n σ).2)
def argsP : Nat → List Nd → PS → List Nd × PS
 | 0, acc, σ => (acc, σ)
 | k + 1, acc, σ =>
  if hasP ts σ [44] then
   argsP k (acc ++ [(argP ts n (if acc.length = 8 ∧ isName (peekP ts (nextP σ)).text = true then failP (nextP σ) (peekP ts (nextP σ)).pos 5 else nextP σ)).1])
    (argP ts n (if acc.length = 8 ∧ isName (peekP ts (nextP σ)).text = true then failP (nextP σ) (peekP ts (nextP σ)).pos 5 else nextP σ)).2
  else (acc, σ)
def callP (k : Nat) (kind : Int) (σ : PS) : Nd × PS :=
 let m := nameP ts n (nextP σ)
 let σ1 := expectP ts n m.2 [40]
 if hasP ts σ1 [41] then (.mk kind 0 m.1 [], nextP σ1)
 else
  let a := argP ts n σ1
  let r := argsP ts n k [a.1] a.2
  (.mk kind 0 m.1 r.1, expectP ts n r.2 [41])
def updKind (t : List UInt8) : Int := if t = [43, 61] then 40 else if t = [45, 61] then 41 else if t = [94, 61] then 42 else if t = [58, 61] then 56 else 0
def updateP (k : Nat) (σ : PS) : Nd × PS :=
 let p := placeP ts n k σ
 if hasP ts p.2 [60, 61, 62] then (.mk 43 0 [] [p.1, (placeP ts n k (nextP p.2)).1], (placeP ts n k (nextP p.2)).2)
 else if updKind (peekP ts p.2).text = 0 then (.mk 0 0 [] [], unexpP ts n p.2)
 else (.mk (updKind (peekP ts p.2).text) 0 [] [p.1, (exprP ts n k 1 (nextP p.2)).1], (exprP ts n k 1 (nextP p.2)).2)
def stackP (k : Nat) (kind : Int) (σ : PS) : Nd × PS :=
 let p := placeP ts n k (nextP σ)
 let m := nameP ts n (expectP ts n p.2 [44])
 (.mk kind 0 m.1 [p.1], m.2)
def tapeP (k : Nat) (kind : Int) (σ : PS) : Nd × PS := (.mk kind 0 [] [(placeP ts n k (nextP σ)).1], (placeP ts n k (nextP σ)).2)
mutual
def stmtP : Nat → PS → Nd × PS
 | 0, σ => (.mk 0 0 [] [], σ)
 | k + 1, σ =>
  if (peekP ts σ).text = [112, 117, 115, 104] then stackP ts n k 44 σ else if (peekP ts σ).text = [112, 111, 112] then stackP ts n k 45 σ
  else if (peekP ts σ).text = [114, 101, 97, 100] then tapeP ts n k 46 σ else if (peekP ts σ).text = [117, 110, 114, 101, 97, 100] then tapeP ts n k 47 σ else if (peekP ts σ).text = [119, 114, 105, 116, 101] then tapeP ts n k 48 σ else if (peekP ts σ).text = [117, 110, 119, 114, 105, 116, 101] then tapeP ts n k 49 σ
  else if (peekP ts σ).text = [99, 97, 108, 108] then callP ts n k 50 σ else if (peekP ts σ).text = [117, 110, 99, 97, 108, 108] then callP ts n k 51 σ
  else if (peekP ts σ).text = [105, 102] then branchesP k 52 [101, 108, 115, 101] [102, 105] σ else if (peekP ts σ).text = [102, 114, 111, 109] then branchesP k 53 [108, 111, 111, 112] [117, 110, 116, 105, 108] σ
  else if (peekP ts σ).text = [108, 111, 99, 97, 108] then localP k σ else updateP ts n k σ
def branchesP : Nat → Int → List UInt8 → List UInt8 → PS → Nd × PS
 | 0, _, _, _, σ => (.mk 0 0 [] [], σ)
 | k + 1, kind, mid, last, σ =>
  let a := exprP ts n k 1 (nextP σ)
  let x := blockP k a.2
  let y := blockP k (expectP ts n x.2 mid)
  let e := exprP ts n k 1 (expectP ts n y.2 last)
  (.mk kind 0 [] [a.1, x.1, y.1, e.1], e.2)
def localP : Nat → PS → Nd × PS
 | 0, σ => (.mk 0 0 [] [], σ)
 | k + 1, σ =>
  if hasP ts (nextP σ) [115, 116, 97, 99, 107] then
   let m := nameP ts n (nextP (nextP σ))
   let x := blockP k m.2
   (.mk 55 0 m.1 [x.1], x.2)
  else
   let m := nameP ts n (nextP σ)
   let a := exprP ts n k 1 (expectP ts n m.2 [61])
   let x := blockP k a.2
   let e := exprP ts n k 1 (expectP ts n x.2 [100, 101, 108, 111, 99, 97, 108])
   (.mk 54 0 m.1 [a.1, x.1, e.1], e.2)
def blockP : Nat → PS → Nd × PS
 | 0, σ => (.mk 57 0 [] [], σ)
 | k + 1, σ => let r := stmtsP k [] (expectP ts n σ [123]); (.mk 57 0 [] r.1, r.2)
def stmtsP : Nat → List Nd → PS → List Nd × PS
 | 0, acc, σ => (acc, σ)
 | k + 1, acc, σ =>
  if σ.err ≠ 0 then (acc, σ)
  else if hasP ts σ [125] then (acc, nextP σ)
  else stmtsP k (acc ++ [(stmtP k σ).1]) (expectP ts n (stmtP k σ).2 [59])
end
end
mutual
def Nd.depth : Nd → Int
 | .mk _ _ _ l => rowDepth l + 1
def rowDepth : List Nd → Int
 | [] => 0
 | t :: r => max t.depth (rowDepth r)
end
section
variable (ts : List Tok) (n : Int)
def limitP (x : Nd) (off : Int) (σ : PS) : PS := if σ.err ≠ 0 then σ else if 80 < x.depth then failP σ off 19 else if 2000 < x.size then failP σ off 5 else σ
def linesP : Nat → List Nd → PS → List Nd × PS
 | 0, acc, σ => (acc, σ)
 | k + 1, acc, σ => if σ.err = 0 ∧ σ.at_ < ts.length then linesP k (acc ++ [(stmtP ts n k σ).1]) (expectP ts n (stmtP ts n k σ).2 [59]) else (acc, σ)
end
def lexGo : Nat → List UInt8 → Nat → List Tok → List Tok × Option Nat
 | 0, _, _, acc => (acc, none)
 | k + 1, s, p, acc => if p < s.length then
  if (firstTok (s.drop p)).2 = 0 then ([], some p)
  else lexGo k s (p + (firstTok (s.drop p)).2) (acc ++ [⟨((firstTok (s.drop p)).1 : Nat), (s.drop p).take (firstTok (s.drop p)).2, (p : Int)⟩])
  else (acc, none)
def lexT (s : List UInt8) : List Tok × Int × Int :=
 if 65536 < s.length then ([], 0, 5) else match lexGo (s.length + 1) s 0 [] with
  | (l, none) => (l, 0, 0)
  | (_, some p) => ([], (p : Int), 3)
def solidT (l : List Tok) : List Tok := l.filter fun t => decide (t.kind ≠ 4) && decide (t.kind ≠ 5)
def startP (s : List UInt8) : List Tok × PS := (solidT (lexT s).1, ⟨0, (lexT s).2.1, (lexT s).2.2⟩)
def fuelP (s : List UInt8) : Nat := 4 * s.length + 20
def zeroNd : Nd := .mk 0 0 [] []
def parseBlock (s : List UInt8) : Nd × Int × Int :=
 let ts := (startP s).1
 let r := linesP ts s.length (fuelP s) [] (startP s).2
 let x := Nd.mk 57 0 [] r.1
 let σ := limitP x 0 r.2
 if σ.err ≠ 0 then (zeroNd, σ.off, σ.err) else (x, 0, 0)
end Bk
namespace Bk
open Go
def exch (k : Int) : Int :=
 if k = 40 then 41 else if k = 41 then 40 else if k = 44 then 45 else if k = 45 then 44 else if k = 46 then 47 else if k = 47 then 46
 else if k = 48 then 49 else if k = 49 then 48 else if k = 50 then 51 else if k = 51 then 50 else k
def swapEnds (l : List Nd) : List Nd := (l.set 0 (l.getD (l.length - 1) (.mk 0 0 [] []))).set (l.length - 1) (l.getD 0 (.mk 0 0 [] []))
mutual
def Nd.inv (q : Bool) : Nd → Nd
 | .mk k n s l =>
  if k = 57 then .mk k n s (rowInv q l).reverse
  else if k = 52 ∨ k = 53 ∨ k = 54 then .mk k n s (swapEnds (kidsInv q l))
  else if k = 50 ∨ k = 51 then .mk (if q then k else exch k) n s (kidsInv q l)
  else .mk (exch k) n s (kidsInv q l)
def rowInv (q : Bool) : List Nd → List Nd
 | [] => []
 | t :: r => t.inv q :: rowInv q r
def kidsInv (q : Bool) : List Nd → List Nd
 | [] => []
 | t :: r => (if t.kind = 57 then t.inv q else t) :: kidsInv q r
end
theorem rowInv_len (q : Bool) : ∀ l : List Nd, (rowInv q l).length = l.length
 | [] => rfl
 | t :: r => by simp only [rowInv, List.length_cons, rowInv_len q r]
theorem rowInv_app (q : Bool) : ∀ l m : List Nd, rowInv q (l ++ m) = rowInv q l ++ rowInv q m
 | [], m => rfl
 | t :: r, m => by simp only [rowInv, List.cons_append, rowInv_app q r m]
theorem rowInv_rev (q : Bool) : ∀ l : List Nd, rowInv q l.reverse = (rowInv q l).reverse
 | [] => rfl
 | t :: r => by simp only [rowInv, List.reverse_cons, rowInv_app, rowInv_rev q r]
theorem kids_expr (q : Bool) {t : Nd} (h : t.isExpr = true) : (if t.kind = 57 then t.inv q else t) = t := by
 have := expr_kind h; rw [if_neg (by omega)]
theorem kids_block (q : Bool) {t : Nd} (h : t.isBlock = true) : (if t.kind = 57 then t.inv q else t) = t.inv q := by
 obtain ⟨e, -⟩ := block_kind h
 rw [e]; rfl
theorem kids_vars (q : Bool) : ∀ l : List Nd, l.all Nd.isVar = true → kidsInv q l = l
 | [], _ => rfl
 | t :: r, h => by
  simp only [List.all_cons, Bool.and_eq_true] at h; simp only [kidsInv, kids_expr q (var_isExpr h.1), kids_vars q r h.2]
theorem swap_3 (x y z : Nd) : swapEnds [x, y, z] = [z, y, x] := rfl
theorem swap_4 (x y z u : Nd) : swapEnds [x, y, z, u] = [u, y, z, x] := rfl
section
variable (q : Bool)
theorem inv_upd {k : Int} {x y : Nd} (hk : k = 40 ∨ k = 41 ∨ k = 42 ∨ k = 56) (hx : x.isExpr = true) (hy : y.isExpr = true) : (Nd.mk k 0 [] [x, y]).inv q = .mk (exch k) 0 [] [x, y] := by
 conv => lhs; unfold Nd.inv
 rw [if_neg (by omega), if_neg (by omega), if_neg (by omega)]; simp only [kidsInv, kids_expr q hx, kids_expr q hy]
theorem inv_swap {x y : Nd} (hx : x.isExpr = true) (hy : y.isExpr = true) : (Nd.mk 43 0 [] [x, y]).inv q = .mk 43 0 [] [x, y] := by
 conv => lhs; unfold Nd.inv
 rw [if_neg (by omega), if_neg (by omega), if_neg (by omega)]
 simp only [kidsInv, kids_expr q hx, kids_expr q hy]; rfl
theorem inv_one {k : Int} {s : List UInt8} {x : Nd} (hk : 44 ≤ k ∧ k ≤ 49) (hx : x.isExpr = true) : (Nd.mk k 0 s [x]).inv q = .mk (exch k) 0 s [x] := by
 conv => lhs; unfold Nd.inv
 rw [if_neg (by omega), if_neg (by omega), if_neg (by omega)]; simp only [kidsInv, kids_expr q hx]
theorem inv_call {k : Int} {s : List UInt8} {l : List Nd} (hk : k = 50 ∨ k = 51) (hl : l.all Nd.isVar = true) : (Nd.mk k 0 s l).inv q = .mk (if q then k else exch k) 0 s l := by
 conv => lhs; unfold Nd.inv
 rw [if_neg (by omega), if_neg (by omega), if_pos hk, kids_vars q l hl]
theorem inv_branch {k : Int} {x y z u : Nd} (hk : k = 52 ∨ k = 53) (hx : x.isExpr = true) (hy : y.isBlock = true) (hz : z.isBlock = true) (hu : u.isExpr = true) : (Nd.mk k 0 [] [x, y, z, u]).inv q = .mk k 0 [] [u, y.inv q, z.inv q, x] := by
 conv => lhs; unfold Nd.inv
 rw [if_neg (by omega), if_pos (by omega)]; simp only [kidsInv, kids_expr q hx, kids_expr q hu, kids_block q hy, kids_block q hz, swap_4]
theorem inv_local {s : List UInt8} {x y z : Nd} (hx : x.isExpr = true) (hy : y.isBlock = true) (hz : z.isExpr = true) : (Nd.mk 54 0 s [x, y, z]).inv q = .mk 54 0 s [z, y.inv q, x] := by
 conv => lhs; unfold Nd.inv
 rw [if_neg (by omega), if_pos (by omega)]; simp only [kidsInv, kids_expr q hx, kids_expr q hz, kids_block q hy, swap_3]
theorem inv_lstack {s : List UInt8} {x : Nd} (hx : x.isBlock = true) : (Nd.mk 55 0 s [x]).inv q = .mk 55 0 s [x.inv q] := by
 conv => lhs; unfold Nd.inv
 rw [if_neg (by omega), if_neg (by omega), if_neg (by omega)]
 simp only [kidsInv, kids_block q hx]; rfl
theorem inv_block (l : List Nd) : (Nd.mk 57 0 [] l).inv q = .mk 57 0 [] (rowInv q l).reverse := by
 conv => lhs; unfold Nd.inv
 rw [if_pos rfl]
end
theorem exch_exch {k : Int} : exch (exch k) = k := by
 unfold exch
 by_cases h1 : k = 40; · subst h1; rfl
 by_cases h2 : k = 41; · subst h2; rfl
 by_cases h3 : k = 44; · subst h3; rfl
 by_cases h4 : k = 45; · subst h4; rfl
 by_cases h5 : k = 46; · subst h5; rfl
 by_cases h6 : k = 47; · subst h6; rfl
 by_cases h7 : k = 48; · subst h7; rfl
 by_cases h8 : k = 49; · subst h8; rfl
 by_cases h9 : k = 50; · subst h9; rfl
 by_cases h10 : k = 51; · subst h10; rfl
 simp only [h1, h2, h3, h4, h5, h6, h7, h8, h9, h10, if_false]
theorem exch_upd {k : Int} (h : k = 40 ∨ k = 41 ∨ k = 42 ∨ k = 56) : exch k = 40 ∨ exch k = 41 ∨ exch k = 42 ∨ exch k = 56 := by rcases h with rfl | rfl | rfl | rfl <;> decide
theorem exch_call {k : Int} (h : k = 50 ∨ k = 51) : exch k = 50 ∨ exch k = 51 := by rcases h with rfl | rfl <;> decide
theorem exch_stack {k : Int} (h : k = 44 ∨ k = 45) : exch k = 44 ∨ exch k = 45 := by rcases h with rfl | rfl <;> decide
theorem exch_tape {k : Int} (h : k = 46 ∨ k = 47 ∨ k = 48 ∨ k = 49) : exch k = 46 ∨ exch k = 47 ∨ exch k = 48 ∨ exch k = 49 := by rcases h with rfl | rfl | rfl | rfl <;> decide
structure InvOk (q : Bool) (t : Nd) : Prop where
 st : t.isStmt = true → (t.inv q).isStmt = true
 bl : t.isBlock = true → (t.inv q).isBlock = true
 back : (t.inv q).inv q = t
 size : (t.inv q).size = t.size
 depth : (t.inv q).depth = t.depth
 wf : t.wf → (t.inv q).wf
theorem rowSize_app : ∀ l m : List Nd, rowSize (l ++ m) = rowSize l + rowSize m
 | [], m => by simp [rowSize]
 | t :: r, m => by simp only [rowSize, List.cons_append, rowSize_app r m]; omega
theorem rowSize_rev : ∀ l : List Nd, rowSize l.reverse = rowSize l
 | [] => rfl
 | t :: r => by simp only [List.reverse_cons, rowSize_app, rowSize_rev r, rowSize]; omega
theorem rowDepth_nn0 : ∀ l : List Nd, 0 ≤ rowDepth l
 | [] => by simp [rowDepth]
 | t :: r => by have := rowDepth_nn0 r; simp only [rowDepth]; omega
theorem rowDepth_app : ∀ l m : List Nd, rowDepth (l ++ m) = max (rowDepth l) (rowDepth m)
 | [], m => by have := rowDepth_nn0 m; simp only [rowDepth, List.nil_append]; omega
 | t :: r, m => by simp only [rowDepth, List.cons_append, rowDepth_app r m]; omega
theorem rowDepth_rev : ∀ l : List Nd, rowDepth l.reverse = rowDepth l
 | [] => rfl
 | t :: r => by have := rowDepth_nn0 r; simp only [List.reverse_cons, rowDepth_app, rowDepth_rev r, rowDepth]; omega
theorem rowWf_iff : ∀ {l : List Nd}, rowWf l ↔ ∀ x ∈ l, x.wf
 | [] => by simp [rowWf]
 | t :: r => by simp [rowWf, rowWf_iff (l := r)]
theorem rowSize_mem1 : ∀ {l : List Nd} {x : Nd}, x ∈ l → x.size ≤ rowSize l
 | t :: r, x, h => by
  simp only [rowSize]
  rcases List.mem_cons.1 h with rfl | h
  · omega
  · have := rowSize_mem1 h; omega
theorem row_ok (q : Bool) : ∀ l : List Nd, (∀ t ∈ l, InvOk q t) → (∀ t ∈ l, t.isStmt = true) → (∀ x ∈ rowInv q l, x.isStmt = true) ∧ rowInv q (rowInv q l) = l ∧ rowSize (rowInv q l) = rowSize l ∧ rowDepth (rowInv q l) = rowDepth l ∧ (rowWf l → rowWf (rowInv q l))
 | [], _, _ => ⟨by simp [rowInv], rfl, rfl, rfl, fun h => h⟩
 | t :: r, h, hs => by
  have ht := h t (by simp); obtain ⟨i1, i2, i3, i4, i5⟩ := row_ok q r (fun x hx => h x (by simp [hx])) (fun x hx => hs x (by simp [hx])); refine ⟨fun x hx => ?_, ?_, ?_, ?_, fun hw => ?_⟩
  · simp only [rowInv, List.mem_cons] at hx
    rcases hx with rfl | hx
    · exact ht.st (hs t (by simp))
    · exact i1 x hx
  · simp only [rowInv, ht.back, i2]
  · simp only [rowInv, rowSize, ht.size, i3]
  · simp only [rowInv, rowDepth, ht.depth, i4]
  · simp only [rowInv, rowWf] at hw ⊢
    exact ⟨ht.wf hw.1, i5 hw.2⟩
theorem exch_range {k : Int} (h0 : 0 ≤ k) (h1 : k ≤ 255) : 0 ≤ exch k ∧ exch k ≤ 255 := by
 unfold exch
 repeat' split
 all_goals omega
theorem inv_ok (q : Bool) (N : Nat) : ∀ t : Nd, t.size < N → t.isStmt = true ∨ t.isBlock = true → InvOk q t := by
 induction N with
 | zero => intro t h; omega
 | succ N ih =>
  intro t hN h
  by_cases hs : t.isStmt = true
  · have hnb : ∀ {u : Nd}, u.isStmt = true → ¬ u.isBlock = true := fun {u} hu hb => by
     have h1 := stmt_kind hu; obtain ⟨e, -⟩ := block_kind hb
     rw [e] at h1; simp only [Nd.kind] at h1; omega
    have mk : ∀ u v : Nd, u.isStmt = true → u.inv q = v → v.isStmt = true → v.inv q = u → v.size = u.size → v.depth = u.depth → (u.wf → v.wf) → InvOk q u := fun u v hu e h1 h2 h3 h4 h5 => ⟨fun _ => by rw [e]; exact h1, fun hb => absurd hb (hnb hu), by rw [e, h2], by rw [e, h3], by rw [e, h4], by rw [e]; exact h5⟩
    cases stmt_shape hs with
    | @upd k x y hk hx hy =>
     have ex := place_isExpr hx; refine mk _ _ hs (inv_upd q hk ex hy) (shape_stmt (.upd (exch_upd hk) hx hy)) (by rw [inv_upd q (exch_upd hk) ex hy, exch_exch]) rfl rfl (fun hw => ?_); have := exch_range hw.1 hw.2.1
     exact ⟨this.1, this.2, hw.2.2⟩
    | @swap x y hx hy =>
     exact mk _ _ hs (inv_swap q (place_isExpr hx) (place_isExpr hy)) hs (inv_swap q (place_isExpr hx) (place_isExpr hy)) rfl rfl (fun hw => hw)
    | @stack k s x hk hn hx =>
     have ex := place_isExpr hx; refine mk _ _ hs (inv_one q (by omega) ex) (shape_stmt (.stack (exch_stack hk) hn hx)) (by rw [inv_one q (by have := exch_stack hk; omega) ex, exch_exch]) rfl rfl (fun hw => ?_); have := exch_range hw.1 hw.2.1
     exact ⟨this.1, this.2, hw.2.2⟩
    | @tape k x hk hx =>
     have ex := place_isExpr hx; refine mk _ _ hs (inv_one q (by omega) ex) (shape_stmt (.tape (exch_tape hk) hx)) (by rw [inv_one q (by have := exch_tape hk; omega) ex, exch_exch]) rfl rfl (fun hw => ?_); have := exch_range hw.1 hw.2.1
     exact ⟨this.1, this.2, hw.2.2⟩
    | @call k s l hk hn hl ha =>
     have hk2 : (if q then k else exch k) = 50 ∨ (if q then k else exch k) = 51 := by
      cases q
      · exact exch_call hk
      · exact hk
     refine mk _ _ hs (inv_call q hk ha) (shape_stmt (.call hk2 hn hl ha)) ?_ rfl rfl (fun hw => ?_)
     · rw [inv_call q hk2 ha]
       cases q
       · simp only [Bool.false_eq_true, if_false, exch_exch]
       · simp
     · exact ⟨by omega, by omega, hw.2.2⟩
    | @branch k x y z u hk hx hy hz hu =>
     simp only [Nd.size, rowSize] at hN; have iy := ih y (by omega) (Or.inr hy); have iz := ih z (by omega) (Or.inr hz); refine mk _ _ hs (inv_branch q hk hx hy hz hu) (shape_stmt (.branch hk hu (iy.bl hy) (iz.bl hz) hx)) (by rw [inv_branch q hk hu (iy.bl hy) (iz.bl hz) hx, iy.back, iz.back]) ?_ ?_ (fun hw => ?_)
     · simp only [Nd.size, rowSize, iy.size, iz.size]; omega
     · simp only [Nd.depth, rowDepth, iy.depth, iz.depth]; omega
     · obtain ⟨w1, w2, w3, w4, w5, w6, w7⟩ := hw
       exact ⟨w1, w2, w3, w4, w5, w6, w7.2.2.2.1, iy.wf w7.2.1, iz.wf w7.2.2.1, w7.1, trivial⟩
    | @local_ s x y z hn hx hy hz =>
     simp only [Nd.size, rowSize] at hN; have iy := ih y (by omega) (Or.inr hy); refine mk _ _ hs (inv_local q hx hy hz) (shape_stmt (.local_ hn hz (iy.bl hy) hx)) (by rw [inv_local q hz (iy.bl hy) hx, iy.back]) ?_ ?_ (fun hw => ?_)
     · simp only [Nd.size, rowSize, iy.size]; omega
     · simp only [Nd.depth, rowDepth, iy.depth]; omega
     · obtain ⟨w1, w2, w3, w4, w5, w6, w7⟩ := hw
       exact ⟨w1, w2, w3, w4, w5, w6, w7.2.2.1, iy.wf w7.2.1, w7.1, trivial⟩
    | @lstack s x hn hx =>
     simp only [Nd.size, rowSize] at hN; have ix := ih x (by omega) (Or.inr hx); refine mk _ _ hs (inv_lstack q hx) (shape_stmt (.lstack hn (ix.bl hx))) (by rw [inv_lstack q (ix.bl hx), ix.back]) ?_ ?_ (fun hw => ?_)
     · simp only [Nd.size, rowSize, ix.size]
     · simp only [Nd.depth, rowDepth, ix.depth]
     · obtain ⟨w1, w2, w3, w4, w5, w6, w7⟩ := hw
       exact ⟨w1, w2, w3, w4, w5, w6, ix.wf w7.1, trivial⟩
  · have hb : t.isBlock = true := h.resolve_left hs
    obtain ⟨e, hr⟩ := block_kind hb; obtain ⟨k, n, s, l⟩ := t; simp only [Nd.kids, Nd.mk.injEq, and_true] at e; obtain ⟨rfl, rfl, rfl⟩ := e; simp only [Nd.kids] at hr; simp only [Nd.size] at hN; have hst := rowStmt_iff.1 hr; obtain ⟨i1, i2, i3, i4, i5⟩ := row_ok q l (fun t ht => ih t (by have := rowSize_mem1 ht; omega) (Or.inl (hst t ht))) hst; refine ⟨fun h => absurd h hs, fun _ => ?_, ?_, ?_, ?_, fun hw => ?_⟩
    · rw [inv_block]
      unfold Nd.isBlock
      rw [rowStmt_iff.2 (fun x hx => i1 x (List.mem_reverse.1 hx))]; rfl
    · rw [inv_block, inv_block, rowInv_rev, List.reverse_reverse, i2]
    · rw [inv_block]; simp only [Nd.size, rowSize_rev, i3]
    · rw [inv_block]; simp only [Nd.depth, rowDepth_rev, i4]
    · rw [inv_block]
      obtain ⟨w1, w2, w3, w4, w5, w6, w7⟩ := hw
      exact ⟨w1, w2, w3, w4, w5, by rw [List.length_reverse, rowInv_len]; exact w6, rowWf_iff.2 (fun x hx => rowWf_iff.1 (i5 w7) x (List.mem_reverse.1 hx))⟩
end Bk
namespace Bk
open Go Go.RowKit
mutual
theorem rowSits_lt {S : Nat → Prop} {w : World} : ∀ (l : List Nd) (a : Option Addr), rowSits S w l a → rowSits (· < w.heap.size) w l a
 | [], _, _ => by simp [rowSits]
 | t :: r, a, h => by
  simp only [rowSits] at h ⊢; obtain ⟨b, o, a', c, rfl, hb, h0, h1, h2, h3, hs, hr⟩ := h
  exact ⟨b, o, a', c, rfl, cell_lt h0, h0, h1, h2, h3, sits_lt t a' hs, rowSits_lt r _ hr⟩
theorem sits_lt {S : Nat → Prop} {w : World} : ∀ (t : Nd) (a : Option Addr), t.sits S w a → t.sits (· < w.heap.size) w a
 | .mk _ _ _ l, a, h => by
  simp only [Nd.sits] at h ⊢
  exact rowSits_lt l a h
end
mutual
theorem rowSits_ltB {S : Nat → Prop} {w : World} : ∀ (l : List Nd) (a : Option Addr), rowSits S w l a → rowSits (fun b => S b ∧ b < w.heap.size) w l a
 | [], _, _ => by simp [rowSits]
 | t :: r, a, h => by
  simp only [rowSits] at h ⊢; obtain ⟨b, o, a', c, rfl, hb, h0, h1, h2, h3, hs, hr⟩ := h
  exact ⟨b, o, a', c, rfl, ⟨hb, cell_lt h0⟩, h0, h1, h2, h3, sits_ltB t a' hs, rowSits_ltB r _ hr⟩
theorem sits_ltB {S : Nat → Prop} {w : World} : ∀ (t : Nd) (a : Option Addr), t.sits S w a → t.sits (fun b => S b ∧ b < w.heap.size) w a
 | .mk _ _ _ l, a, h => by
  simp only [Nd.sits] at h ⊢
  exact rowSits_ltB l a h
end
end Bk
namespace Bk
open Go Go.RowKit Go.Proofs
attribute [local irreducible] Go.Calls
set_option maxRecDepth 100000 in
set_option maxHeartbeats 4000000 in
theorem exchanged_c (k : Int) (w : World) (h0 : 0 ≤ k) (h1 : k ≤ 255) : Calls Tryz.prog 73 #[.int .u8 k] w fun e w' => e = .returned (.int .u8 (exch k)) ∧ w = w' := by
 refine calls_in Tryz.func73 Tryz.ntmps73 rfl rfl ?_
 focus
  refine cS (C1 Pa (cT (cw_seq (cS (C1 Mv (cT (cw_block (cS (C1 V1 (C1 Pa (cT ?_))))))))))); refine cw_dec rfl (fun c1 => ?_) (fun c1 => ?_); refine cS (C1 Pa (cT (cw_ret (qw_block_ret (qw_then_ret (qw_ret1 rfl rfl ?_)))))); rotate_left 1; refine cS (C1 V1 (C1 Pa (cT ?_))); refine cw_dec rfl (fun c2 => ?_) (fun c2 => ?_); refine cS (C1 Pa (cT (cw_ret (qw_block_ret (qw_then_ret (qw_ret1 rfl rfl ?_)))))); rotate_left 1; refine cS (C1 V1 (C1 Pa (cT ?_))); refine cw_dec rfl (fun c3 => ?_) (fun c3 => ?_); refine cS (C1 Pa (cT (cw_ret (qw_block_ret (qw_then_ret (qw_ret1 rfl rfl ?_)))))); rotate_left 1; refine cS (C1 V1 (C1 Pa (cT ?_))); refine cw_dec rfl (fun c4 => ?_) (fun c4 => ?_); refine cS (C1 Pa (cT (cw_ret (qw_block_ret (qw_then_ret (qw_ret1 rfl rfl ?_)))))); rotate_left 1; refine cS (C1 V1 (C1 Pa (cT ?_))); refine cw_dec rfl (fun c5 => ?_) (fun c5 => ?_); refine cS (C1 Pa (cT (cw_ret (qw_block_ret (qw_then_ret (qw_ret1 rfl rfl ?_)))))); rotate_left 1; refine cS (C1 V1 (C1 Pa (cT ?_))); refine cw_dec rfl (fun c6 => ?_) (fun c6 => ?_); refine cS (C1 Pa (cT (cw_ret (qw_block_ret (qw_then_ret (qw_ret1 rfl rfl ?_)))))); rotate_left 1; refine cS (C1 V1 (C1 Pa (cT ?_))); refine cw_dec rfl (fun c7 => ?_) (fun c7 => ?_); refine cS (C1 Pa (cT (cw_ret (qw_block_ret (qw_then_ret (qw_ret1 rfl rfl ?_)))))); rotate_left 1; refine cS (C1 V1 (C1 Pa (cT ?_))); refine cw_dec rfl (fun c8 => ?_) (fun c8 => ?_); refine cS (C1 Pa (cT (cw_ret (qw_block_ret (qw_then_ret (qw_ret1 rfl rfl ?_)))))); rotate_left 1
  refine cS (C1 V1 (C1 Pa (cT ?_))); refine cw_dec rfl (fun c9 => ?_) (fun c9 => ?_); refine cS (C1 Pa (cT (cw_ret (qw_block_ret (qw_then_ret (qw_ret1 rfl rfl ?_)))))); rotate_left 1; refine cS (C1 V1 (C1 Pa (cT ?_))); refine cw_dec rfl (fun c10 => ?_) (fun c10 => ?_); refine cS (C1 Pa (cT (cw_ret (qw_block_ret (qw_then_ret (qw_ret1 rfl rfl ?_)))))); rotate_left 1; refine cw_skip (qw_block_norm (qw_then (cS (C1 Mv (C1 Pa (cT (cw_ret (qw_ret1 rfl rfl ?_)))))))); rotate_left 1
 all_goals (refine ⟨congrArg (fun x => Ending.returned (.int .u8 x)) ?_, rfl⟩; unfold exch; (repeat' split) <;> omega)
def CopyR (u : Nd) (w : World) : Ending → World → Prop := fun e w' => ∃ a c, e = .returned (u.val a c) ∧ u.sits (fun b => w.heap.size ≤ b ∧ b < w'.heap.size) w' a ∧ Ext w w'
theorem CopyR.ret {u : Nd} {w : World} {e : Ending} {w' : World} (h : CopyR u w e w') : ∃ v, e = .returned v := by
 obtain ⟨_, _, h, -⟩ := h
 exact ⟨_, h⟩
def CopyC (u : Nd) (w : World) : Ending → World → Prop := fun e w' => ∃ a c, e = .returned (u.val a c) ∧ u.sits (fun b => w.heap.size ≤ b ∧ b < w'.heap.size) w' a ∧ Ext w w' ∧ u.kids.length ≤ c
theorem CopyC.ret {u : Nd} {w : World} {e : Ending} {w' : World} (h : CopyC u w e w') : ∃ v, e = .returned v := by
 obtain ⟨_, _, h, -⟩ := h
 exact ⟨_, h⟩
theorem CopyC.copy {u : Nd} {w : World} {e : Ending} {w' : World} (h : CopyC u w e w') : CopyR u w e w' := by
 obtain ⟨a, c, h1, h2, h3, -⟩ := h
 exact ⟨a, c, h1, h2, h3⟩
theorem own_cap {w : World} {b e sz n c : Nat} {a : Option Addr} {cs : List Value} (h : Own w b e sz (.slice a n c) n cs) : n ≤ c := by
 rcases h.2 with ⟨hv, -⟩ | ⟨g', cap', cur, hv, -, -, hc, -⟩
 · simp only [Value.slice.injEq] at hv
   omega
 · simp only [Value.slice.injEq] at hv
   obtain ⟨-, -, rfl⟩ := hv; exact hc
theorem kids_sits {S : Nat → Prop} {w : World} {k n : Int} {s : List UInt8} {l : List Nd} {a : Option Addr} (h : (Nd.mk k n s l).sits S w a) : rowSits S w l a := h
set_option maxRecDepth 100000 in
set_option maxHeartbeats 4000000 in
theorem Clone_c (N : Nat) : ∀ (t : Nd) (S : Nat → Prop) (a : Option Addr) (c : Nat) (w : World), t.size < N → t.size ≤ 1000000 → t.sits S w a → Calls Tryz.prog 20 #[t.val a c] w (CopyC t w) := by
 induction N with
 | zero => intro t S a c w h; omega
 | succ N ih =>
  rintro ⟨k, n, s, l⟩ S a c w hN hM hs; have hlen := length_rowA l; simp only [Nd.size] at hN hM
  have hC : ∀ x ∈ l, ∀ (S : Nat → Prop) (a : Option Addr) (c : Nat) (w : World), x.sits S w a → Calls Tryz.prog 20 #[x.val a c] w (CopyC x w) := fun x hx S a c w h => by
   have := size_memA hx
   exact ih x S a c w (by omega) (by omega) h
  clear ih
  have HC := Lib.hid hC; clear hC
  replace hs := rowSits_ltA _ _ (kids_sits hs); have X := Ext.refl w; refine calls_in Tryz.func20 Tryz.ntmps20 rfl rfl ?_
  focus
   refine cS ?_; (refine lw_box' [_, _, _, _] rfl rfl rfl ?_; intro b1 w2 n3); have h4 := n3.blk; have x5 := n3.ext; have p6 := n3.pos; have z7 := n3.size; clear n3; replace hs := Bk.rowSits.ext hs x5; replace X := X.ext x5; clear x5; (refine lw_alloc' [_, _, _, _] zOk rfl rfl ?_; intro b8 w9 n10); have h12 := n10.blk; have x13 := n10.ext; have p14 := n10.pos; have z15 := n10.size; clear n10; replace h4 := h4.ext x13; replace hs := Bk.rowSits.ext hs x13; replace X := X.ext x13; clear x13; refine cN (C1 Pa (cT (cw_seq (cS (C1 Pf (C1 (Pl h4) (C1 Pz (C1 Mv (cT (cw_block ?_)))))))))); rotate_left 1
  have hgg : b8 + 1 = w9.heap.size := by omega
  refine cw_loop (ι := Nat × List Nd × Option Addr × Nat) (fun x => [(1, .pointer (some ⟨b1, 0, none⟩)), (2, .pointer (some ⟨b8, 0, none⟩)), (3, .slice x.2.2.1 x.2.1.length x.2.2.2), (7, .slice a l.length c), (8, .int .i64 l.length), (9, .int .i64 x.1)])
   (fun x w' => OwnL ndShape w' (b8 + 1) 26 (.slice x.2.2.1 x.2.1.length x.2.2.2) x.2.1 ∧ x.1 ≤ l.length ∧ x.2.1 = l.take x.1 ∧ rowSits (· < w.heap.size) w' l a ∧ Blk w' b1 [.int .u8 k, .int .i64 n, str s, .slice a l.length c] ∧ Blk w' b8 [.int .u8 0, .int .i64 0, str [], .slice none 0 0] ∧ Ext w w' ∧ b8 + 1 ≤ w'.heap.size)
   (fun x => l.length - x.1) (0, [], none, 0) (by (refine sub_cons rfl ?_; refine sub_cons rfl ?_; refine sub_cons rfl ?_; refine sub_cons rfl ?_; refine sub_cons rfl ?_; refine sub_cons rfl ?_; exact sub_nil)) ⟨OwnL.nil, Nat.zero_le _, rfl, hs, h4, h12, X, by omega⟩ ?_
  clear hs h4 h12 X; rintro ⟨j, xs, ra, rc⟩ w1 ⟨hown, hj, hxs, hs, hb1, hb8, X, hg⟩; simp only at hown hj hxs hs hb1 hb8 X hg
  have hob : ∀ g, (Value.slice ra xs.length rc).ownBlock = some g → g < w1.heap.size := fun g h => hown.lt h
  have hxl : xs.length ≤ l.length := by rw [hxs, List.length_take]; omega
  refine CW.sub (m := [(1, .pointer (some ⟨b1, 0, none⟩)), (2, .pointer (some ⟨b8, 0, none⟩)), (3, .slice ra xs.length rc), (7, .slice a l.length c), (8, .int .i64 l.length), (9, .int .i64 j)]) ?_ (by (refine sub_cons rfl ?_; refine sub_cons rfl ?_; refine sub_cons rfl ?_; refine sub_cons rfl ?_; refine sub_cons rfl ?_; refine sub_cons rfl ?_; exact sub_nil))
  by_cases hlt : j < l.length
  · obtain ⟨kb, ko, rfl, kS, hkid⟩ := kidRows hs (by intro e; subst e; simp at hlt)
    obtain ⟨xa, xc, rx, sx⟩ := hkid j l[j] (List.getElem?_eq_getElem hlt); have hz := size_memA (List.getElem_mem hlt); have HX := Lib.hid (HC.out l[j] (List.getElem_mem hlt))
    have hnext : xs ++ [l[j]] = l.take (j + 1) := by rw [hxs, List.take_succ_eq_append_getElem hlt]
    clear hkid HC hxs
    generalize l[j] = x at *
    focus
     refine cS (C1 V3 (cT (cw_seq (Wyo (cw_skip (qw_then (cw_seq (cw_block (cS (C1 Pi (C1 (Pws rx) ?_))))))))))); (refine lw_alloc' [_, _, _, _] zOk rfl rfl ?_; intro ba1 wa2 na3); (refine lw_init' [_, _, _, _] tabOk rfl rfl rfl rfl rfl rfl na3 rfl ?_; clear na3; clear wa2; intro wa4 na3); have ha5 := na3.blk; have xa6 := na3.ext; have pa7 := na3.pos; have za8 := na3.size; clear na3; replace hown := hown.ext xa6; replace hb8 := hb8.ext xa6; replace X := X.ext xa6; replace hs := Bk.rowSits.ext hs xa6; replace hb1 := hb1.ext xa6; replace rx := rx.ext xa6; replace sx := Nd.sits.ext sx xa6; clear xa6; refine cT (cw_region (C1 Mv (lw_loads_b' [_, _, _, _] tabOk rfl rfl rfl ha5 rfl rfl rfl ?_))); refine cR (by kernel_rfl) rfl (HX.out _ _ _ _ (by assumption)) (fun _ _ h => h.ret) rfl ?_; rintro _ wa14 ⟨aa9, ⟨ca10, ⟨⟨⟩, ⟨ha11, ⟨xa12, ha13⟩⟩⟩⟩⟩; have za15 := xa12.size; replace ha5 := ha5.ext xa12; replace hown := hown.ext xa12; replace hb8 := hb8.ext xa12; replace X := X.ext xa12; replace hs := Bk.rowSits.ext hs xa12; replace hb1 := hb1.ext xa12; replace rx := rx.ext xa12; replace sx := Nd.sits.ext sx xa12; clear xa12; (refine lw_does (does_slice' [_, _, _, _] tabOk zOk rfl rfl rfl rfl rfl rfl rfl rfl rfl) rfl ?_ (fun _ h => h); rintro _ wa17 ⟨ba16, rfl, na18, ta19⟩); clear ta19; have ha20 := na18.blk; have xa21 := na18.ext; have pa22 := na18.pos; have za23 := na18.size; clear na18; replace ha11 := Nd.sits.ext ha11 xa21; replace ha5 := ha5.ext xa21; replace hown := hown.ext xa21; replace hb8 := hb8.ext xa21
     replace X := X.ext xa21; replace hs := Bk.rowSits.ext hs xa21; replace hb1 := hb1.ext xa21; replace rx := rx.ext xa21; replace sx := Nd.sits.ext sx xa21; clear xa21; refine lw_appendL (sh := ndShape) (z := x) tabOk zOk rfl rfl rfl rfl (by kernel_rfl) rfl rfl rfl hown (Blk.row (by assumption)) ⟨_, _, rfl, Nd.sits.wide (by assumption) (fun b h => ⟨by omega, fun e => by have := hob _ e; omega⟩)⟩ (by omega) (by omega) rfl ?_; rintro ga24 cap'a25 wa26 ha27 fa28; have za29 := fa28.size; clear ha20 ha11 ha5 hown; replace hb8 := hb8.fr fa28 (by omega); replace X := X.fr fa28 (by omega); replace hs := Bk.rowSits.fr hs fa28 (by omega); replace hb1 := hb1.fr fa28 (by omega); replace rx := Row.fr rx fa28 (by simp only; omega); replace sx := Nd.sits.fr sx fa28 (by omega); clear fa28; refine C1 Pa (lw_nil (qw_block_norm (qw_then (cw_region (C1 V7 (C1 Mv (lw_nil ?_))))))); rotate_left 1
    refine qw_round (j + 1, xs ++ [x], some ⟨_, 0, none⟩, _) (by (refine sub_cons rfl ?_; refine sub_cons rfl ?_; refine sub_cons rfl ?_; refine sub_cons rfl ?_; refine sub_cons rfl ?_; refine sub_cons rfl ?_; exact sub_nil)) ⟨by assumption, by simp only; omega, hnext, hs, hb1, hb8, X, by omega⟩ (by omega)
  · obtain rfl : j = l.length := by omega
    rw [List.take_length] at hxs; subst hxs
    focus
     refine cS (C1 V3 (cT (cw_seq (Wno (cw_exit (qw_then_exit (qw_then_exit (qw_block_exit (qw_then (cS (C1 Mv ?_))))))))))); refine C1 Pf ?_; (refine lw_store' [_] [_, _, _, _] tabOk rfl rfl rfl rfl rfl rfl hb1 rfl rfl ?_; intro wb1 nb2); have hb5 := nb2.blk; have fb3 := nb2.fr; have zb4 := nb2.size; clear nb2 hb1; replace hown := hown.fr fb3 (by omega); replace hb8 := hb8.fr fb3 (by omega); replace X := X.fr fb3 (by omega); replace hs := Bk.rowSits.fr hs fb3 (by omega); clear fb3; refine cN (lw_loads_b' [_, _, _, _] tabOk rfl rfl rfl hb5 rfl rfl rfl ?_); (refine lw_store' [_, _, _, _] [_, _, _, _] tabOk rfl rfl rfl rfl rfl rfl hb8 rfl rfl ?_; intro wb6 nb7); have hb10 := nb7.blk; have fb8 := nb7.fr; have zb9 := nb7.size; clear nb7 hb8; replace hb5 := hb5.fr fb8 (by omega); replace hown := hown.fr fb8 (by omega); replace X := X.fr fb8 (by omega); replace hs := Bk.rowSits.fr hs fb8 (by omega); clear fb8; refine cT (cw_ret (qw_retc rfl tabOk rfl rfl rfl hb10 rfl ?_)); rotate_left 1
    have hcap := own_cap hown.ex.choose_spec.1
    exact ⟨ra, rc, rfl, sits_ltB (Nd.mk k n s xs) ra (sits_mk (hown.sits (S := fun b => w.heap.size ≤ b) (fun b h => by omega))), X, hcap⟩
theorem clone_k (t : Nd) (hz : t.size ≤ 1000000) (S : Nat → Prop) (a : Option Addr) (c : Nat) (w : World) (hs : t.sits S w a) : Calls Tryz.prog 20 #[t.val a c] w (CopyC t w) := Clone_c (t.size + 1) t S a c w (by omega) hz hs
theorem clone_t (t : Nd) (hz : t.size ≤ 1000000) (S : Nat → Prop) (a : Option Addr) (c : Nat) (w : World) (hs : t.sits S w a) : Calls Tryz.prog 20 #[t.val a c] w (CopyR t w) := Calls.mono (clone_k t hz S a c w hs) (fun _ _ h => h.copy)
def RevTo (xs ys : List Nd) (i : Nat) : Prop := ys.length = xs.length ∧ ∀ k, k < xs.length → ys[k]? = if k < i ∨ xs.length - i ≤ k then xs[xs.length - 1 - k]? else xs[k]?
theorem revTo_0 (xs : List Nd) : RevTo xs xs 0 := ⟨rfl, fun k hk => by rw [if_neg (by omega)]⟩
theorem revTo_end {xs ys : List Nd} {i : Nat} (h : RevTo xs ys i) (hi : xs.length ≤ 2 * i + 1) : ys = xs.reverse := by
 apply List.ext_getElem?
 intro k
 by_cases hk : k < xs.length
 · rw [h.2 k hk, List.getElem?_reverse hk]
   split
   · rfl
   · have : xs.length - 1 - k = k := by omega
     rw [this]
 · rw [List.getElem?_eq_none (by rw [h.1]; omega), List.getElem?_eq_none (by rw [List.length_reverse]; omega)]
theorem revTo_step {xs ys : List Nd} {i : Nat} (h : RevTo xs ys i) (hi : 2 * i + 1 < xs.length) {x y : Nd} (hx : ys[i]? = some x) (hy : ys[xs.length - 1 - i]? = some y) : RevTo xs ((ys.set i y).set (xs.length - 1 - i) x) (i + 1) := by
 refine ⟨by simp [h.1], fun k hk => ?_⟩; have hl := h.1; rw [h.2 i (by omega), if_neg (by omega)] at hx; rw [h.2 (xs.length - 1 - i) (by omega), if_neg (by omega)] at hy
 by_cases h1 : k = xs.length - 1 - i
 · subst h1
   rw [List.getElem?_set_self (by simp [h.1]; omega), if_pos (by omega), show xs.length - 1 - (xs.length - 1 - i) = i by omega, hx]
 · rw [List.getElem?_set_ne (fun e => h1 e.symm)]
   by_cases h2 : k = i
   · subst h2
     rw [List.getElem?_set_self (by omega), if_pos (by omega), hy]
   · rw [List.getElem?_set_ne (fun e => h2 e.symm), h.2 k hk]
     by_cases h3 : k < i ∨ xs.length - i ≤ k
     · rw [if_pos h3, if_pos (by omega)]
     · rw [if_neg h3, if_neg (by omega)]
set_option maxRecDepth 100000 in
set_option maxHeartbeats 4000000 in
theorem Reverse_c (C D g cap : Nat) (xs : List Nd) (w : World) (hA : ArrS ndShape C D w g xs) (hg : g < C ∨ D ≤ g) (hl : xs.length ≤ 1000000) : Calls Tryz.prog 72 #[.slice (some ⟨g, 0, none⟩) xs.length cap] w fun e w' => e = .returned (.tuple #[]) ∧ ArrS ndShape C D w' g xs.reverse ∧ Fr (· = g) w w' := by
 have X := Fr.refl (· = g) w
 by_cases hn : xs.length = 0
 · have e0 : xs = [] := List.eq_nil_of_length_eq_zero hn
   subst e0; refine calls_in Tryz.func72 Tryz.ntmps72 rfl rfl ?_
   focus
    refine cS (C1 Mv (C1 Pz ?_)); refine C1 (pur_sub rfl rfl (IntWalk.i64_in _ (by omega))) ?_; refine C1 Pa (C1 Pa (cT (cw_block ?_))); rotate_left 1
   refine cw_loop (ι := Unit) (fun _ => [(2, .int .i64 0), (3, .int .i64 (-1))]) (fun _ w' => ArrS ndShape C D w' g [] ∧ Fr (· = g) w w') (fun _ => 0) () (by (refine sub_cons rfl ?_; refine sub_cons rfl ?_; exact sub_nil)) ⟨hA, X⟩ ?_; rintro _ w1 ⟨hA, X⟩
   focus
    refine cw_seq (cS (C1 Mv (C1 Mv (C1 V3 (cT (Wnd (cw_exit (qw_then_exit (qw_then_exit (qw_block_exit (qw_end0 rfl ?_))))))))))); rotate_left 1
   exact ⟨rfl, hA, X⟩
 refine calls_in Tryz.func72 Tryz.ntmps72 rfl rfl ?_
 focus
  refine cS (C1 Mv (C1 Pz ?_)); refine C1 (pur_sub rfl rfl (IntWalk.i64_in _ (by omega))) ?_; refine C1 Pa (C1 Pa (cT (cw_block ?_))); rotate_left 1
 obtain ⟨m0, hm0⟩ : ∃ m : Nat, ((xs.length : Int) - 1) = (m : Int) := ⟨xs.length - 1, by omega⟩; rw [hm0]; refine cw_loop (ι := Nat × Nat × List Nd) (fun x => [(0, .slice (some ⟨g, 0, none⟩) xs.length cap), (2, .int .i64 x.1), (3, .int .i64 x.2.1)]) (fun x w' => ArrS ndShape C D w' g x.2.2 ∧ RevTo xs x.2.2 x.1 ∧ x.1 + x.2.1 + 1 = xs.length ∧ Fr (· = g) w w') (fun x => x.2.1) (0, m0, xs) (by (refine sub_cons rfl ?_; refine sub_cons rfl ?_; refine sub_cons rfl ?_; exact sub_nil)) ⟨hA, revTo_0 xs, by simp only; omega, X⟩ ?_; clear hA X hm0; rintro ⟨i, m, ys⟩ w1 ⟨hA, hR, hm, X⟩; simp only at hA hR hm; refine CW.sub (m := [(0, .slice (some ⟨g, 0, none⟩) xs.length cap), (2, .int .i64 i), (3, .int .i64 m)]) ?_ (by (refine sub_cons rfl ?_; refine sub_cons rfl ?_; refine sub_cons rfl ?_; exact sub_nil)); have hyl := hR.1
 by_cases hlt : i < m
 · obtain ⟨x, hx⟩ : ∃ x, ys[i]? = some x := ⟨_, List.getElem?_eq_getElem (by omega)⟩
   obtain ⟨y, hy⟩ : ∃ y, ys[m]? = some y := ⟨_, List.getElem?_eq_getElem (by omega)⟩; obtain ⟨_, r1, xa, xc, rfl, sx⟩ := hA.row hx; obtain ⟨_, r2, ya, yc, rfl, sy⟩ := hA.row hy; have hR2 := revTo_step hR (by omega) hx (show ys[xs.length - 1 - i]? = some y by rw [show xs.length - 1 - i = m by omega]; exact hy); rw [show xs.length - 1 - i = m by omega] at hR2; clear hR hx hy; replace r1 : Row w1 ⟨g, 0 + i * 4, none⟩ _ := r1; replace r2 : Row w1 ⟨g, 0 + m * 4, none⟩ _ := r2
   focus
    refine cw_seq (cS (C1 Mv (C1 Mv (C1 V3 (cT (Wyo (cw_skip (qw_then (cw_seq (cw_block ?_)))))))))); (refine cw_edraw (fun wz => Ext w1 wz) (fun wz => Fr (fun x => x = g) w1 wz) [2, 3, 13, 14, 15] [2, 3] 13 14 (.free 2 (.free 3 (.pure 0 (.pure 1 (.pure 4 (.pure 5 (.pure 6 (.pure 7 (.pure 8 (.pure 9 (.pure 10 (.pure 11 (.pure 12 (.put 13 (.tail 14))))))))))))))) (fun _ h => Fr.of_ext h) mixed (by kernel_rfl) (panicOk_block (panicOk_then (panicOk_then (panicOk_block panicOk_body)))) ?_; intro wc1 xc2 _); have qsc3 : (fun wz => Ext w1 wz) wc1 := xc2; simp only at qsc3; have qtc4 : (fun wz => Fr (fun x => x = g) w1 wz) wc1 := Fr.of_ext xc2; simp only at qtc4; have d_hA := hA; have d_sx := sx; have d_sy := sy; have d_r1 := r1; have d_r2 := r2; have zc5 := xc2.size; replace hA := hA.ext xc2; replace X := X.ext xc2; replace sx := Nd.sits.ext sx xc2; replace sy := Nd.sits.ext sy xc2; replace r1 := r1.ext xc2; replace r2 := r2.ext xc2; clear xc2; refine twE_free (by assumption) rfl (pur_move rfl) rfl ?_; refine twE_free (by assumption) rfl (pur_move rfl) rfl ?_; refine twE_pure (by assumption) rfl (pur_move rfl) rfl ?_; refine twE_pure (by assumption) rfl (pur_move rfl) rfl ?_; refine twE_pure (by assumption) rfl (pur_move rfl) rfl ?_; refine twE_pure (by assumption) rfl (pur_move rfl) rfl ?_; refine twE_pure (by assumption) rfl (pur_indexAddr tabOk rfl rfl rfl rfl (by omega) (by omega)) rfl ?_; refine twE_pure (by assumption) rfl (pur_loads' tabOk rfl rfl rfl (fun wz hz => (Row.ext d_r2 hz)) rfl) rfl ?_
    refine twE_pure (by assumption) rfl (pur_move rfl) rfl ?_; refine twE_pure (by assumption) rfl (pur_move rfl) rfl ?_; refine twE_pure (by assumption) rfl (pur_indexAddr tabOk rfl rfl rfl rfl (by omega) (by omega)) rfl ?_; refine twE_pure (by assumption) rfl (pur_loads' tabOk rfl rfl rfl (fun wz hz => (Row.ext d_r1 hz)) rfl) rfl ?_; refine twE_pure (by assumption) rfl (pur_indexAddr tabOk rfl rfl rfl rfl (by omega) (by omega)) rfl ?_; (refine twE_put0 rfl (does_storeA (sh := ndShape) (j := i) (z := y) (us := [_, _, _, _]) tabOk rfl rfl rfl rfl rfl rfl hA (by omega) hg ⟨_, _, rfl, by assumption⟩) ?_; refine none0 ?_); rintro _ wc9 ⟨hc6, ⟨fc7, hc8⟩⟩; have zc10 := fc7.size; replace qtc4 := qtc4.fr fc7 (by omega); clear hA; replace X := X.fr fc7 (by omega); replace sx := Nd.sits.fr sx fc7 (by omega); replace sy := Nd.sits.fr sy fc7 (by omega); clear r1 r2 fc7; refine ⟨by assumption, ?_⟩; clear qsc3 d_hA d_sx d_sy d_r1 d_r2 qtc4; refine twE_tail rfl (C1 Pi ?_); (refine lw_does0 (does_storeA (sh := ndShape) (j := m) (z := x) (us := [_, _, _, _]) tabOk rfl rfl rfl rfl rfl rfl (by assumption) (by rw [List.length_set]; omega) hg ⟨_, _, rfl, by assumption⟩) ?_; refine none0 ?_); rintro _ wc14 ⟨hc11, ⟨fc12, hc13⟩⟩; have zc15 := fc12.size; clear hc6; replace X := X.fr fc12 (by omega); replace sx := Nd.sits.fr sx fc12 (by omega); replace sy := Nd.sits.fr sy fc12 (by omega); clear fc12; refine lw_nil (qw_block_norm (qw_then (cw_region (C1 Mv (C1 V7 (C1 Mv ?_)))))); refine C1 (pur_sub rfl rfl (IntWalk.i64_in _ (by omega))) ?_
    refine C1 Pa (C1 Pa (lw_nil ?_)); rotate_left 1
   refine qw_round (i + 1, m - 1, (ys.set i y).set m x) (by (refine sub_cons rfl ?_; refine sub_cons rfl ?_; refine sub_cons' rfl (by go_num) ?_; exact sub_nil)) ⟨by assumption, hR2, by simp only; omega, X⟩ (by simp only; omega)
 · have e := revTo_end hR (by omega)
   subst e
   focus
    refine cw_seq (cS (C1 Mv (C1 Mv (C1 V3 (cT (Wno (cw_exit (qw_then_exit (qw_then_exit (qw_block_exit (qw_end0 rfl ?_))))))))))); rotate_left 1
   exact ⟨rfl, hA, X⟩
end Bk
namespace Bk
open Go Go.RowKit Go.Proofs
attribute [local irreducible] Go.Calls
def invMap (q : Bool) (k : Int) (x : Nd) : Nd := if k = 57 ∨ x.kind = 57 then x.inv q else x
theorem rowInv_map (q : Bool) (l : List Nd) : rowInv q l = l.map (invMap q 57) := by
 induction l with
 | nil => rfl
 | cons t r ih => simp only [rowInv, List.map_cons, ih, invMap, true_or, if_true]
theorem kidsInv_map (q : Bool) {k : Int} (hk : k ≠ 57) (l : List Nd) : kidsInv q l = l.map (invMap q k) := by
 induction l with
 | nil => rfl
 | cons t r ih => simp only [kidsInv, List.map_cons, ih, invMap, hk, false_or]
def doneTo (f : Nd → Nd) (l : List Nd) (j : Nat) : List Nd := (l.take j).map f ++ List.replicate (l.length - j) zeroNd
theorem doneTo_len (f : Nd → Nd) (l : List Nd) (j : Nat) (h : j ≤ l.length) : (doneTo f l j).length = l.length := by
 simp only [doneTo, List.length_append, List.length_map, List.length_take, List.length_replicate]; omega
theorem doneTo_set (f : Nd → Nd) (l : List Nd) (j : Nat) (h : j < l.length) : (doneTo f l j).set j (f l[j]) = doneTo f l (j + 1) := by
 unfold doneTo
 have h1 : ((l.take j).map f).length = j := by simp; omega
 rw [List.set_append_right _ _ (by omega), h1, Nat.sub_self, show l.length - j = (l.length - (j + 1)) + 1 by omega, List.replicate_succ, List.set_cons_zero, List.take_succ_eq_append_getElem h, List.map_append, List.append_assoc]
 rfl
theorem doneTo_end (f : Nd → Nd) (l : List Nd) : doneTo f l l.length = l.map f := by simp [doneTo]
theorem kids_valid {k n : Int} {s : List UInt8} {l : List Nd} (h : (Nd.mk k n s l).isStmt = true ∨ (Nd.mk k n s l).isBlock = true) : (∀ x ∈ l, k = 57 ∨ x.kind = 57 → x.isStmt = true ∨ x.isBlock = true) ∧ (k = 52 ∨ k = 53 ∨ k = 54 → l ≠ []) ∧ 40 ≤ k ∧ k ≤ 57 := by
 rcases h with h | h
 · have hk := stmt_kind h
   simp only [Nd.kind] at hk
   have hx : ∀ x : Nd, x.isExpr = true → ¬ x.kind = 57 := fun x hx => by have := expr_kind hx; omega
   have key : ∀ x ∈ l, x.isBlock = true ∨ x.isExpr = true := by
    cases stmt_shape h with
    | call _ _ _ ha => intro x hx; exact Or.inr (var_isExpr (List.all_eq_true.1 ha x hx))
    | upd _ h1 h2 => intro x hx; simp only [List.mem_cons, List.not_mem_nil, or_false] at hx; rcases hx with rfl | rfl <;> first | exact Or.inr (place_isExpr (by assumption)) | exact Or.inr (by assumption)
    | swap h1 h2 => intro x hx; simp only [List.mem_cons, List.not_mem_nil, or_false] at hx; rcases hx with rfl | rfl <;> exact Or.inr (place_isExpr (by assumption))
    | stack _ _ h1 => intro x hx; simp only [List.mem_cons, List.not_mem_nil, or_false] at hx; rw [hx]; exact Or.inr (place_isExpr h1)
    | tape _ h1 => intro x hx; simp only [List.mem_cons, List.not_mem_nil, or_false] at hx; rw [hx]; exact Or.inr (place_isExpr h1)
    | branch _ h1 h2 h3 h4 => intro x hx; simp only [List.mem_cons, List.not_mem_nil, or_false] at hx; rcases hx with rfl | rfl | rfl | rfl <;> first | exact Or.inr (by assumption) | exact Or.inl (by assumption)
    | local_ _ h1 h2 h3 => intro x hx; simp only [List.mem_cons, List.not_mem_nil, or_false] at hx; rcases hx with rfl | rfl | rfl <;> first | exact Or.inr (by assumption) | exact Or.inl (by assumption)
    | lstack _ h1 => intro x hx; simp only [List.mem_cons, List.not_mem_nil, or_false] at hx; rw [hx]; exact Or.inl h1
   refine ⟨fun x hxl hc => ?_, fun hc => ?_, by omega, by omega⟩
   · rcases hc with rfl | hc
     · omega
     · rcases key x hxl with hb | he
       · exact Or.inr hb
       · exact absurd hc (hx x he)
   · rintro rfl
     cases stmt_shape h with
     | call hk2 => omega
 · obtain ⟨e, hr⟩ := block_kind h
   simp only [Nd.kids, Nd.mk.injEq, and_true] at e hr; obtain ⟨rfl, -, -⟩ := e
   exact ⟨fun x hx _ => Or.inl (rowStmt_iff.1 hr x hx), fun hc => by omega, by omega, by omega⟩
theorem kidsInv_inv (q : Bool) {k n : Int} {s : List UInt8} {l : List Nd} (hk : ¬ k = 57) : (Nd.mk k n s l).inv q = if k = 52 ∨ k = 53 ∨ k = 54 then .mk k n s (swapEnds (l.map (invMap q k))) else .mk (if k = 50 ∨ k = 51 then (if q then k else exch k) else exch k) n s (l.map (invMap q k)) := by
 conv => lhs; unfold Nd.inv
 rw [if_neg hk, kidsInv_map q hk]
 by_cases h1 : k = 52 ∨ k = 53 ∨ k = 54
 · rw [if_pos h1, if_pos h1]
 · rw [if_neg h1, if_neg h1]
   by_cases h2 : k = 50 ∨ k = 51
   · rw [if_pos h2, if_pos h2]
   · rw [if_neg h2, if_neg h2]
theorem zero_rep (w : World) (S : Nat → Prop) : ndShape.rep w S zeroNd [.int .u8 0, .int .i64 0, .string ⟨#[]⟩, .slice none 0 0] := ⟨none, 0, rfl, sits_nil⟩
theorem ArrS.sits {C D g : Nat} {w : World} {xs : List Nd} (h : ArrS ndShape C D w g xs) {S : Nat → Prop} (hg : S g) (hS : ∀ b, C ≤ b → b < D → S b) : rowSits S w xs (some ⟨g, 0, none⟩) :=
 rowSits_of hg xs 0 (fun i x hi => by
  obtain ⟨cs, hr, a, c, rfl, hs⟩ := h.row hi
  exact ⟨a, c, hr, Nd.sits.wide hs (fun b hb => hS b hb.1 hb.2)⟩)
theorem copyR_arr {C g : Nat} {w w' : World} {k n : Int} {s : List UInt8} {xs : List Nd} {m : Nat} (hm : xs.length = m) (h : ArrS ndShape C w'.heap.size w' g xs) (h1 : w.heap.size ≤ g) (h2 : w.heap.size ≤ C) (X : Ext w w') : CopyR (.mk k n s xs) w (.returned (.agg #[.int .u8 k, .int .i64 n, str s, .slice (some ⟨g, 0, none⟩) m m])) w' := by
 subst hm
 exact ⟨some ⟨g, 0, none⟩, xs.length, rfl, sits_mk (h.sits ⟨h1, h.lt⟩ (fun b hb1 hb2 => ⟨by omega, hb2⟩)), X⟩
set_option maxRecDepth 100000 in
set_option maxHeartbeats 4000000 in
theorem Invert_c (q : Bool) (N : Nat) : ∀ (t : Nd) (S : Nat → Prop) (a : Option Addr) (c : Nat) (w : World), t.size < N → t.size ≤ 1000000 → (t.isStmt = true ∨ t.isBlock = true) → t.sits S w a → Calls Tryz.prog 35 #[t.val a c, .bool q] w (CopyR (t.inv q) w) := by
 induction N with
 | zero => intro t S a c w h; omega
 | succ N ih =>
  rintro ⟨k, n, s, l⟩ S a c w hN hM hv hs; have hlen := length_rowA l; simp only [Nd.size] at hN hM; obtain ⟨v1, v2, v3, v4⟩ := kids_valid hv; clear hv
  have hC : ∀ x ∈ l, (k = 57 ∨ x.kind = 57) → ∀ (S : Nat → Prop) (a : Option Addr) (c : Nat) (w : World), x.sits S w a → Calls Tryz.prog 35 #[x.val a c, .bool q] w (CopyR (x.inv q) w) := fun x hx hk S a c w h => by
   have := size_memA hx
   exact ih x S a c w (by omega) (by omega) (v1 x hx hk) h
  clear ih v1
  have HC := Lib.hid hC; clear hC
  replace hs := rowSits_ltA _ _ (kids_sits hs); have X := Ext.refl w; refine calls_in Tryz.func35 Tryz.ntmps35 rfl rfl ?_
  focus
   refine cS ?_; (refine lw_box' [_, _, _, _] rfl rfl rfl ?_; intro b1 w2 n3); have h4 := n3.blk; have x5 := n3.ext; have p6 := n3.pos; have z7 := n3.size; clear n3; replace hs := Bk.rowSits.ext hs x5; replace X := X.ext x5; clear x5; (refine lw_alloc' [_, _, _, _] zOk rfl rfl ?_; intro b8 w9 n10); have h12 := n10.blk; have x13 := n10.ext; have p14 := n10.pos; have z15 := n10.size; clear n10; replace h4 := h4.ext x13; replace hs := Bk.rowSits.ext hs x13; replace X := X.ext x13; clear x13; refine cT ?_; rotate_left 1
  refine cw_meet (ι := Nat × Nat) (fun x => [(1, .bool q), (2, .pointer (some ⟨b1, 0, none⟩)), (4, .pointer (some ⟨b8, 0, none⟩)), (5, .pointer (some ⟨x.1, 0, none⟩))])
   (fun x w' => ArrS ndShape (b1 + 4) (b1 + 4) w' x.2 (List.replicate l.length zeroNd) ∧ Blk w' x.1 [.int .u8 k, .int .i64 n, str s, .slice (some ⟨x.2, 0, none⟩) l.length l.length] ∧ b8 < x.1 ∧ b8 < x.2 ∧ x.1 ≠ x.2 ∧ x.1 < b1 + 4 ∧ x.2 < b1 + 4 ∧ Blk w' b1 [.int .u8 k, .int .i64 n, str s, .slice a l.length c] ∧ Blk w' b8 [.int .u8 0, .int .i64 0, str [], .slice none 0 0] ∧ rowSits (· < w.heap.size) w' l a ∧ Ext w w' ∧ w'.heap.size = b1 + 4) ?_ ?_
  · focus
     (refine cw_tdraw (fun wz => Ext w9 wz) 12 (.pure 0 (.pure 1 (.pure 2 (.pure 3 (.pure 4 (.pure 5 (.pure 6 (.pure 7 (.pure 8 (.fork 9 (.pure 10 (.fork 11 .tail .none)) (.fork 11 (.fork 9 (.pure 10 .tail) .none) .none))))))))))) mixed (by kernel_rfl) (panicOk_then panicOk_body) ?_; intro wa1 xa2 _); have qsa3 : (fun wz => Ext w9 wz) wa1 := xa2; simp only at qsa3; have d_h12 := h12; have d_h4 := h4; have d_hs := hs; have za4 := xa2.size; replace h12 := h12.ext xa2; replace h4 := h4.ext xa2; replace hs := Bk.rowSits.ext hs xa2; replace X := X.ext xa2; clear xa2; refine ⟨qsa3, ?_⟩; refine Tq rfl Pg (Tq rfl (Db d_h4) (Tq rfl Pf (Tq rfl (Db d_h4) (Tq rfl Pf (Tq rfl (Db d_h4) (Tq rfl Pf (Tq rfl (Db d_h4) (Tq rfl Pz ?_)))))))); refine tw_does rfl (does_make (sh := ndShape) (C := b1 + 4) (D := b1 + 4) (N := l.length) (z := zeroNd) tabOk zOk rfl rfl rfl rfl (by kernel_rfl) rfl rfl (by omega) zero_rep) rfl ?_ (fun _ h => h) ?kra5; rintro _ wa11 ⟨ga6, ⟨rfl, ⟨ha7, ⟨ha8, ⟨ha9, xa10⟩⟩⟩⟩⟩; have za12 := xa10.size; replace qsa3 := qsa3.ext xa10; replace h12 := h12.ext xa10; replace h4 := h4.ext xa10; replace hs := Bk.rowSits.ext hs xa10; replace X := X.ext xa10; clear xa10; refine ⟨qsa3, ?_⟩; refine Tq rfl (pur_build' [_, _, _, _] tabOk zOk rfl rfl rfl rfl) ?_; (refine tw_does rfl (does_alloc zOk rfl) rfl ?_ (fun _ h => h) tw_none; rintro _ wa15 ⟨ba14, rfl, na16⟩); have ha17 := na16.blk; dsimp only at ha17; have xa18 := na16.ext; have pa19 := na16.pos; have za20 := na16.size; clear na16; replace ha7 := ha7.ext xa18
     replace qsa3 := qsa3.ext xa18; replace h12 := h12.ext xa18; replace h4 := h4.ext xa18; replace hs := Bk.rowSits.ext hs xa18; replace X := X.ext xa18; clear xa18; refine ⟨qsa3, ?_⟩; clear d_h12 d_h4 d_hs qsa3; refine tw_tail rfl ?_; (refine lw_store' [_, _, _, _] [_, _, _, _] tabOk rfl rfl rfl rfl rfl rfl ha17 rfl rfl ?_; intro wa21 na22); have ha25 := na22.blk; have fa23 := na22.fr; have za24 := na22.size; clear na22 ha17; replace ha7 := ha7.fr fa23 (by omega); replace h12 := h12.fr fa23 (by omega); replace h4 := h4.fr fa23 (by omega); replace hs := Bk.rowSits.fr hs fa23 (by omega); replace X := X.fr fa23 (by omega); clear fa23; refine lw_nil ?_; rotate_left 1; (refine tw_does rfl (does_alloc zOk rfl) rfl ?_ (fun _ h => h) tw_none; rintro _ wa28 ⟨ba27, rfl, na29⟩); have ha30 := na29.blk; dsimp only at ha30; have xa31 := na29.ext; have pa32 := na29.pos; have za33 := na29.size; clear na29; replace qsa3 := qsa3.ext xa31; replace h12 := h12.ext xa31; replace h4 := h4.ext xa31; replace hs := Bk.rowSits.ext hs xa31; replace X := X.ext xa31; clear xa31; refine ⟨qsa3, ?_⟩; refine tw_does rfl (does_make (sh := ndShape) (C := b1 + 4) (D := b1 + 4) (N := l.length) (z := zeroNd) tabOk zOk rfl rfl rfl rfl (by kernel_rfl) rfl rfl (by omega) zero_rep) rfl ?_ (fun _ h => h) tw_none; rintro _ wa40 ⟨ga35, ⟨rfl, ⟨ha36, ⟨ha37, ⟨ha38, xa39⟩⟩⟩⟩⟩; have za41 := xa39.size; replace ha30 := ha30.ext xa39; replace qsa3 := qsa3.ext xa39; replace h12 := h12.ext xa39; replace h4 := h4.ext xa39; replace hs := Bk.rowSits.ext hs xa39
     replace X := X.ext xa39; clear xa39; refine ⟨qsa3, ?_⟩; refine Tq rfl (pur_build' [_, _, _, _] tabOk zOk rfl rfl rfl rfl) ?_; clear d_h12 d_h4 d_hs qsa3; refine tw_tail rfl ?_; (refine lw_store' [_, _, _, _] [_, _, _, _] tabOk rfl rfl rfl rfl rfl rfl ha30 rfl rfl ?_; intro wa42 na43); have ha46 := na43.blk; have fa44 := na43.fr; have za45 := na43.size; clear na43 ha30; replace ha36 := ha36.fr fa44 (by omega); replace h12 := h12.fr fa44 (by omega); replace h4 := h4.fr fa44 (by omega); replace hs := Bk.rowSits.fr hs fa44 (by omega); replace X := X.fr fa44 (by omega); clear fa44; refine lw_nil ?_; rotate_left 1
    · have hq : wa1.heap.size = w9.heap.size := congrArg Array.size (by assumption)
      exact qw_meet (ba14, ga6) (by (refine sub_cons rfl ?_; refine sub_cons rfl ?_; refine sub_cons rfl ?_; refine sub_cons rfl ?_; exact sub_nil)) ⟨ha7, ha25, by simp only; omega, by simp only; omega, by simp only; omega, by simp only; omega, by simp only; omega, h4, h12, hs, X, by omega⟩
    · have hq : wa1.heap.size = w9.heap.size := congrArg Array.size (by assumption)
      exact qw_meet (ba27, ga35) (by (refine sub_cons rfl ?_; refine sub_cons rfl ?_; refine sub_cons rfl ?_; refine sub_cons rfl ?_; exact sub_nil)) ⟨ha36, ha46, by simp only; omega, by simp only; omega, by simp only; omega, by simp only; omega, by simp only; omega, h4, h12, hs, X, by omega⟩
  · clear h4 h12 hs X
    rintro ⟨bm, g⟩ w1 ⟨hA, hbm, o1, o2, o3, o4, o5, hb1, hb8, hs, X, hz⟩; simp only at hA hbm o1 o2 o3 o4 o5; refine CW.sub (m := [(1, .bool q), (2, .pointer (some ⟨b1, 0, none⟩)), (4, .pointer (some ⟨b8, 0, none⟩)), (5, .pointer (some ⟨bm, 0, none⟩))]) ?_ (by (refine sub_cons rfl ?_; refine sub_cons rfl ?_; refine sub_cons rfl ?_; refine sub_cons rfl ?_; exact sub_nil))
    have e0 : List.replicate l.length zeroNd = doneTo (invMap q k) l 0 := by simp [doneTo]
    rw [e0] at hA; refine cw_meet (ι := Unit) (fun _ => [(1, .bool q), (2, .pointer (some ⟨b1, 0, none⟩)), (4, .pointer (some ⟨b8, 0, none⟩)), (5, .pointer (some ⟨bm, 0, none⟩))])
     (fun _ w' => ArrS ndShape (b1 + 4) w'.heap.size w' g (l.map (invMap q k)) ∧ Blk w' bm [.int .u8 k, .int .i64 n, str s, .slice (some ⟨g, 0, none⟩) l.length l.length] ∧ Blk w' b1 [.int .u8 k, .int .i64 n, str s, .slice a l.length c] ∧ Blk w' b8 [.int .u8 0, .int .i64 0, str [], .slice none 0 0] ∧ Ext w w' ∧ b1 + 4 ≤ w'.heap.size) ?_ ?_
    · focus
       refine cS (C1 Pf (C1 (Pl hb1) (C1 Pz (C1 Mv (cT ?_))))); rotate_left 1
      refine cw_block ?_; refine cw_loop (ι := Nat) (fun j => [(1, .bool q), (2, .pointer (some ⟨b1, 0, none⟩)), (4, .pointer (some ⟨b8, 0, none⟩)), (5, .pointer (some ⟨bm, 0, none⟩)), (21, .slice a l.length c), (22, .int .i64 l.length), (23, .int .i64 j)])
       (fun j w' => j ≤ l.length ∧ ArrS ndShape (b1 + 4) w'.heap.size w' g (doneTo (invMap q k) l j) ∧ Blk w' bm [.int .u8 k, .int .i64 n, str s, .slice (some ⟨g, 0, none⟩) l.length l.length] ∧ Blk w' b1 [.int .u8 k, .int .i64 n, str s, .slice a l.length c] ∧ Blk w' b8 [.int .u8 0, .int .i64 0, str [], .slice none 0 0] ∧ rowSits (· < w.heap.size) w' l a ∧ Ext w w' ∧ b1 + 4 ≤ w'.heap.size)
       (fun j => l.length - j) 0 (by (refine sub_cons rfl ?_; refine sub_cons rfl ?_; refine sub_cons rfl ?_; refine sub_cons rfl ?_; refine sub_cons rfl ?_; refine sub_cons rfl ?_; refine sub_cons rfl ?_; exact sub_nil)) ⟨Nat.zero_le _, hA.wide (by omega), hbm, hb1, hb8, hs, X, by omega⟩ ?_
      clear hA hbm hb1 hb8 hs X hz e0; rintro j w2 ⟨hj, hA, hbm, hb1, hb8, hs, X, hz⟩
      by_cases hlt : j < l.length
      · obtain ⟨kb, ko, rfl, kS, hkid⟩ := kidRows hs (by intro e; subst e; simp at hlt)
        obtain ⟨xa, xc, rx, sx⟩ := hkid j l[j] (List.getElem?_eq_getElem hlt); have HX := Lib.hid (HC.out l[j] (List.getElem_mem hlt)); have hxz := size_memA (List.getElem_mem hlt); have hnext := doneTo_set (invMap q k) l j hlt; have hdl := doneTo_len (invMap q k) l j hj; clear hkid HC
        by_cases hk : k = 57 ∨ (l[j]).kind = 57
        · have HX2 := Lib.hid (HX.out hk)
          have hfx : invMap q k l[j] = (l[j]).inv q := by unfold invMap; rw [if_pos hk]
          rw [hfx] at hnext; clear HX hfx
          generalize l[j] = x at *
          focus
           refine cS (C1 V3 (cT (cw_seq (Wyo (cw_skip (qw_then (cw_seq (cw_block (cS (C1 Mv (C1 Pi ?_))))))))))); refine C1 (Pws rx) ?_; (refine lw_alloc' [_, _, _, _] zOk rfl rfl ?_; intro bc1 wc2 nc3); have hc5 := nc3.blk; have xc6 := nc3.ext; have pc7 := nc3.pos; have zc8 := nc3.size; clear nc3; replace hA := hA.ext xc6; replace hbm := hbm.ext xc6; replace hb8 := hb8.ext xc6; replace X := X.ext xc6; replace hb1 := hb1.ext xc6; replace hs := Bk.rowSits.ext hs xc6; replace rx := rx.ext xc6; replace sx := Nd.sits.ext sx xc6; clear xc6; refine C1 Pa ?_; (refine lw_store' [_, _, _, _] [_, _, _, _] tabOk rfl rfl rfl rfl rfl rfl hc5 rfl rfl ?_; intro wc9 nc10); have hc13 := nc10.blk; have fc11 := nc10.fr; have zc12 := nc10.size; clear nc10 hc5; replace hA := hA.fr fc11 (by omega); replace hbm := hbm.fr fc11 (by omega); replace hb8 := hb8.fr fc11 (by omega); replace X := X.fr fc11 (by omega); replace hb1 := hb1.fr fc11 (by omega); replace hs := Bk.rowSits.fr hs fc11 (by omega); replace rx := Row.fr rx fc11 (by simp only; omega); replace sx := Nd.sits.fr sx fc11 (by omega); clear fc11; refine cN (C1 Pg (C1 (Pl hb1) (C1 V1 (C1 Mv ?_)))); refine lw_dec rfl rfl rfl (fun cc14 => ?_) (fun cc14 => ?_); refine Oya (Oya (Oya (C1 Qya (cT (cw_cond_t rfl ?_))))); (refine cw_tdraw (fun wz => Ext wc9 wz) 6 (.pure 0 (.pure 1 (.pure 2 (.pure 3 (.pure 4 (.fork 5 .tail .none)))))) mixed (by kernel_rfl) (panicOk_block (panicOk_then (panicOk_then (panicOk_block (panicOk_then panicOk_body))))) ?_; intro wc15 xc16 _)
           have qsc17 : (fun wz => Ext wc9 wz) wc15 := xc16; simp only at qsc17; have d_hc13 := hc13; have d_hA := hA; have d_hbm := hbm; have d_hb8 := hb8; have d_hb1 := hb1; have d_hs := hs; have d_rx := rx; have d_sx := sx; have zc18 := xc16.size; replace hc13 := hc13.ext xc16; replace hA := hA.ext xc16; replace hbm := hbm.ext xc16; replace hb8 := hb8.ext xc16; replace X := X.ext xc16; replace hb1 := hb1.ext xc16; replace hs := Bk.rowSits.ext hs xc16; replace rx := rx.ext xc16; replace sx := Nd.sits.ext sx xc16; clear xc16; refine ⟨qsc17, ?_⟩; refine Tq rfl Pf (Tq rfl (Db d_hbm) (Tq rfl Mv (Tq rfl (pur_loads_blk' [_, _, _, _] tabOk rfl rfl rfl (fun wz hz => (Blk.ext d_hc13 hz)) rfl rfl) (Tq rfl Mv ?_)))); refine tw_does rfl (does_call (by kernel_rfl) rfl (HX2.out _ _ _ _ (by assumption)) (fun _ _ h => h.ret)) rfl ?_ (fun _ h => h) tw_none; rintro _ wc24 ⟨ac20, ⟨cc21, ⟨⟨⟩, ⟨hc22, xc23⟩⟩⟩⟩; have zc25 := xc23.size; replace qsc17 := qsc17.ext xc23; replace hc13 := hc13.ext xc23; replace hA := hA.ext xc23; replace hbm := hbm.ext xc23; replace hb8 := hb8.ext xc23; replace X := X.ext xc23; replace hb1 := hb1.ext xc23; replace hs := Bk.rowSits.ext hs xc23; replace rx := rx.ext xc23; replace sx := Nd.sits.ext sx xc23; clear xc23; refine ⟨qsc17, ?_⟩; clear d_hc13 d_hA d_hbm d_hb8 d_hb1 d_hs d_rx d_sx qsc17; refine tw_tail rfl (C1 Pi ?_); (refine lw_does0 (does_storeB (sh := ndShape) (j := j) (z := x.inv q) (us := [_, _, _, _]) tabOk rfl rfl rfl rfl rfl rfl (by assumption) (by omega) (by omega) (by omega) ⟨_, _, rfl, Nd.sits.wide (by assumption) (fun b h => by omega)⟩) ?_; refine none0 ?_)
           rintro _ wc29 ⟨hc26, ⟨fc27, hc28⟩⟩; have zc30 := fc27.size; replace hc22 := Nd.sits.fr hc22 fc27 (by omega); replace hc13 := hc13.fr fc27 (by omega); clear hA; replace hbm := hbm.fr fc27 (by omega); replace hb8 := hb8.fr fc27 (by omega); replace X := X.fr fc27 (by omega); replace hb1 := hb1.fr fc27 (by omega); replace hs := Bk.rowSits.fr hs fc27 (by omega); replace rx := Row.fr rx fc27 (by simp only; omega); replace sx := Nd.sits.fr sx fc27 (by omega); clear fc27; refine lw_nil (qw_block_norm (qw_then (cw_region (C1 V7 (C1 Mv (lw_nil ?_)))))); rotate_left 1; refine Gna (C1 Pg (Gna (C1 (Pl hc13) (Gna (C1 V1 (C1 Qna (cT (Wyo ?_)))))))); (refine cw_tdraw (fun wz => Ext wc9 wz) 6 (.pure 0 (.pure 1 (.pure 2 (.pure 3 (.pure 4 (.fork 5 .tail .none)))))) mixed (by kernel_rfl) (panicOk_block (panicOk_then (panicOk_then (panicOk_block (panicOk_then panicOk_body))))) ?_; intro wc31 xc32 _); have qsc33 : (fun wz => Ext wc9 wz) wc31 := xc32; simp only at qsc33; have d_hc13 := hc13; have d_hA := hA; have d_hbm := hbm; have d_hb8 := hb8; have d_hb1 := hb1; have d_hs := hs; have d_rx := rx; have d_sx := sx; have zc34 := xc32.size; replace hc13 := hc13.ext xc32; replace hA := hA.ext xc32; replace hbm := hbm.ext xc32; replace hb8 := hb8.ext xc32; replace X := X.ext xc32; replace hb1 := hb1.ext xc32; replace hs := Bk.rowSits.ext hs xc32; replace rx := rx.ext xc32; replace sx := Nd.sits.ext sx xc32; clear xc32; refine ⟨qsc33, ?_⟩; refine Tq rfl Pf (Tq rfl (Db d_hbm) (Tq rfl Mv (Tq rfl (pur_loads_blk' [_, _, _, _] tabOk rfl rfl rfl (fun wz hz => (Blk.ext d_hc13 hz)) rfl rfl) (Tq rfl Mv ?_))))
           refine tw_does rfl (does_call (by kernel_rfl) rfl (HX2.out _ _ _ _ (by assumption)) (fun _ _ h => h.ret)) rfl ?_ (fun _ h => h) tw_none; rintro _ wc40 ⟨ac36, ⟨cc37, ⟨⟨⟩, ⟨hc38, xc39⟩⟩⟩⟩; have zc41 := xc39.size; replace qsc33 := qsc33.ext xc39; replace hc13 := hc13.ext xc39; replace hA := hA.ext xc39; replace hbm := hbm.ext xc39; replace hb8 := hb8.ext xc39; replace X := X.ext xc39; replace hb1 := hb1.ext xc39; replace hs := Bk.rowSits.ext hs xc39; replace rx := rx.ext xc39; replace sx := Nd.sits.ext sx xc39; clear xc39; refine ⟨qsc33, ?_⟩; clear d_hc13 d_hA d_hbm d_hb8 d_hb1 d_hs d_rx d_sx qsc33; refine tw_tail rfl (C1 Pi ?_); (refine lw_does0 (does_storeB (sh := ndShape) (j := j) (z := x.inv q) (us := [_, _, _, _]) tabOk rfl rfl rfl rfl rfl rfl (by assumption) (by omega) (by omega) (by omega) ⟨_, _, rfl, Nd.sits.wide (by assumption) (fun b h => by omega)⟩) ?_; refine none0 ?_); rintro _ wc45 ⟨hc42, ⟨fc43, hc44⟩⟩; have zc46 := fc43.size; replace hc38 := Nd.sits.fr hc38 fc43 (by omega); replace hc13 := hc13.fr fc43 (by omega); clear hA; replace hbm := hbm.fr fc43 (by omega); replace hb8 := hb8.fr fc43 (by omega); replace X := X.fr fc43 (by omega); replace hb1 := hb1.fr fc43 (by omega); replace hs := Bk.rowSits.fr hs fc43 (by omega); replace rx := Row.fr rx fc43 (by simp only; omega); replace sx := Nd.sits.fr sx fc43 (by omega); clear fc43; refine lw_nil (qw_block_norm (qw_then (cw_region (C1 V7 (C1 Mv (lw_nil ?_)))))); rotate_left 1
          all_goals exact qw_round (j + 1) (by (repeat (first | exact sub_nil | refine sub_cons rfl ?_ | refine sub_cons' rfl (by go_num) ?_))) ⟨by omega, by rw [← hnext]; exact ArrS.wide (by assumption) (by omega), hbm, hb1, hb8, hs, X, by omega⟩ (by omega)
        · have hfx : invMap q k l[j] = l[j] := by unfold invMap; rw [if_neg hk]
          rw [hfx] at hnext; clear HX hfx
          generalize l[j] = x at *
          have hk1 : ¬ k = 57 := fun e => hk (Or.inl e)
          have hk2 : ¬ x.kind = 57 := fun e => hk (Or.inr e)
          have HX2 := Lib.hid (clone_t x (by omega))
          focus
           refine cS (C1 V3 (cT (cw_seq (Wyo (cw_skip (qw_then (cw_seq (cw_block (cS (C1 Mv (C1 Pi ?_))))))))))); refine C1 (Pws rx) ?_; (refine lw_alloc' [_, _, _, _] zOk rfl rfl ?_; intro bd1 wd2 nd3); have hd5 := nd3.blk; have xd6 := nd3.ext; have pd7 := nd3.pos; have zd8 := nd3.size; clear nd3; replace hA := hA.ext xd6; replace hbm := hbm.ext xd6; replace hb8 := hb8.ext xd6; replace X := X.ext xd6; replace hb1 := hb1.ext xd6; replace hs := Bk.rowSits.ext hs xd6; replace rx := rx.ext xd6; replace sx := Nd.sits.ext sx xd6; clear xd6; refine C1 Pa ?_; (refine lw_store' [_, _, _, _] [_, _, _, _] tabOk rfl rfl rfl rfl rfl rfl hd5 rfl rfl ?_; intro wd9 nd10); have hd13 := nd10.blk; have fd11 := nd10.fr; have zd12 := nd10.size; clear nd10 hd5; replace hA := hA.fr fd11 (by omega); replace hbm := hbm.fr fd11 (by omega); replace hb8 := hb8.fr fd11 (by omega); replace X := X.fr fd11 (by omega); replace hb1 := hb1.fr fd11 (by omega); replace hs := Bk.rowSits.fr hs fd11 (by omega); replace rx := Row.fr rx fd11 (by simp only; omega); replace sx := Nd.sits.fr sx fd11 (by omega); clear fd11; refine cN (C1 Pg (C1 (Pl hb1) (C1 V1 (C1 Mv (Gna (C1 Pg (Gna (C1 (Pl hd13) (Gna (C1 V1 (C1 Qna ?_))))))))))); refine cT (Wna ?_); (refine cw_tdraw (fun wz => Ext wd9 wz) 5 (.pure 0 (.pure 1 (.pure 2 (.pure 3 (.fork 4 .tail .none))))) mixed (by kernel_rfl) (panicOk_block (panicOk_then (panicOk_then (panicOk_block (panicOk_then panicOk_body))))) ?_; intro wd14 xd15 _); have qsd16 : (fun wz => Ext wd9 wz) wd14 := xd15
           simp only at qsd16; have d_hd13 := hd13; have d_hA := hA; have d_hbm := hbm; have d_hb8 := hb8; have d_hb1 := hb1; have d_hs := hs; have d_rx := rx; have d_sx := sx; have zd17 := xd15.size; replace hd13 := hd13.ext xd15; replace hA := hA.ext xd15; replace hbm := hbm.ext xd15; replace hb8 := hb8.ext xd15; replace X := X.ext xd15; replace hb1 := hb1.ext xd15; replace hs := Bk.rowSits.ext hs xd15; replace rx := rx.ext xd15; replace sx := Nd.sits.ext sx xd15; clear xd15; refine ⟨qsd16, ?_⟩; refine Tq rfl Pf (Tq rfl (Db d_hbm) (Tq rfl Mv (Tq rfl (pur_loads_blk' [_, _, _, _] tabOk rfl rfl rfl (fun wz hz => (Blk.ext d_hd13 hz)) rfl rfl) ?_))); refine tw_does rfl (does_call (by kernel_rfl) rfl (HX2.out _ _ _ _ (by assumption)) (fun _ _ h => h.ret)) rfl ?_ (fun _ h => h) tw_none; rintro _ wd23 ⟨ad19, ⟨cd20, ⟨⟨⟩, ⟨hd21, xd22⟩⟩⟩⟩; have zd24 := xd22.size; replace qsd16 := qsd16.ext xd22; replace hd13 := hd13.ext xd22; replace hA := hA.ext xd22; replace hbm := hbm.ext xd22; replace hb8 := hb8.ext xd22; replace X := X.ext xd22; replace hb1 := hb1.ext xd22; replace hs := Bk.rowSits.ext hs xd22; replace rx := rx.ext xd22; replace sx := Nd.sits.ext sx xd22; clear xd22; refine ⟨qsd16, ?_⟩; clear d_hd13 d_hA d_hbm d_hb8 d_hb1 d_hs d_rx d_sx qsd16; refine tw_tail rfl (C1 Pi ?_); (refine lw_does0 (does_storeB (sh := ndShape) (j := j) (z := x) (us := [_, _, _, _]) tabOk rfl rfl rfl rfl rfl rfl (by assumption) (by omega) (by omega) (by omega) ⟨_, _, rfl, Nd.sits.wide (by assumption) (fun b h => by omega)⟩) ?_; refine none0 ?_)
           rintro _ wd28 ⟨hd25, ⟨fd26, hd27⟩⟩; have zd29 := fd26.size; replace hd21 := Nd.sits.fr hd21 fd26 (by omega); replace hd13 := hd13.fr fd26 (by omega); clear hA; replace hbm := hbm.fr fd26 (by omega); replace hb8 := hb8.fr fd26 (by omega); replace X := X.fr fd26 (by omega); replace hb1 := hb1.fr fd26 (by omega); replace hs := Bk.rowSits.fr hs fd26 (by omega); replace rx := Row.fr rx fd26 (by simp only; omega); replace sx := Nd.sits.fr sx fd26 (by omega); clear fd26; refine lw_nil (qw_block_norm (qw_then (cw_region (C1 V7 (C1 Mv (lw_nil ?_)))))); rotate_left 1
          all_goals exact qw_round (j + 1) (by (refine sub_cons rfl ?_; refine sub_cons rfl ?_; refine sub_cons rfl ?_; refine sub_cons rfl ?_; refine sub_cons rfl ?_; refine sub_cons rfl ?_; refine sub_cons rfl ?_; exact sub_nil)) ⟨by omega, by rw [← hnext]; exact ArrS.wide (by assumption) (by omega), hbm, hb1, hb8, hs, X, by omega⟩ (by omega)
      · obtain rfl : j = l.length := by omega
        rw [doneTo_end] at hA
        focus
         refine cS (C1 V3 (cT (cw_seq (Wno (cw_exit (qw_then_exit (qw_then_exit (qw_block_exit ?_)))))))); rotate_left 1
        exact qw_meet () (by (refine sub_cons rfl ?_; refine sub_cons rfl ?_; refine sub_cons rfl ?_; refine sub_cons rfl ?_; exact sub_nil)) ⟨hA, hbm, hb1, hb8, X, hz⟩
    · clear hA hbm hb1 hb8 hs X hz e0 HC
      rintro _ w3 ⟨hA, hbm, hb1, hb8, X, hz⟩
      have hxl : (l.map (invMap q k)).length = l.length := by simp
      by_cases k57 : k = 57
      · subst k57
        have ht : (Nd.mk 57 n s l).inv q = .mk 57 n s (rowInv q l).reverse := by conv => lhs; unfold Nd.inv
                                                                                 rw [if_pos rfl]
        rw [ht, rowInv_map]
        generalize l.map (invMap q 57) = xs at *
        rw [← hxl] at hbm
        focus
         refine cw_seq (cS (C1 Pf (C1 (Pl hbm) (C1 Pz ?_)))); refine C1 (pur_sub rfl rfl (IntWalk.i64_in _ (by omega))) ?_; refine C1 Pa (cN (C1 Pg (C1 (Pl hb1) (cT (cw_block (cS (C1 V1 (C1 Pa (cT (Wyd (cw_region ?_))))))))))); refine C1 Pf (C1 (Pl hbm) ?_); refine cC rfl (Reverse_c (b1 + 4) _ _ _ _ _ (by assumption) (Or.inl (by omega)) (by omega)) ?_; rintro _ wf3 ⟨⟨⟩, ⟨hf1, ff2⟩⟩; have zf4 := ff2.size; replace hb8 := hb8.fr ff2 (by omega); replace X := X.fr ff2 (by omega); replace hb1 := hb1.fr ff2 (by omega); replace hbm := hbm.fr ff2 (by omega); clear hA ff2; refine lw_nil (qw_block_norm (qw_then (cS (lw_loads_b' [_, _, _, _] tabOk rfl rfl rfl hbm rfl rfl rfl ?_)))); (refine lw_store' [_, _, _, _] [_, _, _, _] tabOk rfl rfl rfl rfl rfl rfl hb8 rfl rfl ?_; intro wf5 nf6); have hf9 := nf6.blk; have ff7 := nf6.fr; have zf8 := nf6.size; clear nf6 hb8; replace hf1 := hf1.fr ff7 (by omega); replace X := X.fr ff7 (by omega); replace hb1 := hb1.fr ff7 (by omega); replace hbm := hbm.fr ff7 (by omega); clear ff7; refine cT (cw_ret (qw_retc rfl tabOk rfl rfl rfl hf9 rfl ?_)); rotate_left 1
        exact copyR_arr (by simp) (hf1.wide (by omega)) (by omega) (by omega) X
      rw [kidsInv_inv q k57]
      by_cases k5 : k = 52 ∨ k = 53 ∨ k = 54
      · rw [if_pos k5]
        have hne := v2 k5
        generalize l.map (invMap q k) = xs at *
        have hpos : 0 < xs.length := by rw [hxl]; exact List.length_pos_iff.2 hne
        obtain ⟨x, hx⟩ : ∃ x, xs[0]? = some x := ⟨_, List.getElem?_eq_getElem hpos⟩; obtain ⟨y, hy⟩ : ∃ y, xs[xs.length - 1]? = some y := ⟨_, List.getElem?_eq_getElem (by omega)⟩; obtain ⟨_, r1, xa, xc, rfl, sx⟩ := hA.row hx; obtain ⟨_, r2, ya, yc, rfl, sy⟩ := hA.row hy
        have em : ((xs.length : Int) - 1).toNat = xs.length - 1 := by omega
        have hsw : swapEnds xs = (xs.set 0 y).set ((xs.length : Int) - 1).toNat x := by
         unfold swapEnds
         rw [em, List.getD_eq_getElem?_getD, List.getD_eq_getElem?_getD, hx, hy]; rfl
        rw [hsw]
        have hsl : ((xs.set 0 y).set ((xs.length : Int) - 1).toNat x).length = xs.length := by simp
        replace r1 : Row w3 ⟨g, 0 + 0 * 4, none⟩ (x.cells xa xc) := r1
        replace r2 : Row w3 ⟨g, 0 + ((xs.length : Int) - 1).toNat * 4, none⟩ (y.cells ya yc) := by rw [em]; exact r2
        rw [← hxl] at hbm; clear hx hy hsw
        rcases k5 with rfl | rfl | rfl
        · focus
           refine cw_seq (cS (C1 Pf (C1 (Pl hbm) (C1 Pz ?_)))); refine C1 (pur_sub rfl rfl (IntWalk.i64_in _ (by omega))) ?_; refine C1 Pa (cN (C1 Pg (C1 (Pl hb1) (cT (cw_block (cS (C1 V1 (C1 Pa (cT (Wna (cw_seq ?_))))))))))); refine cS (C1 V1 (C1 Pa (cT (Wyd (cw_skip (qw_then (Wyd ?_))))))); (refine cw_edraw (fun wz => Ext w3 wz) (fun wz => Fr (fun x => x = g) w3 wz) [2, 3, 4, 15, 16, 17] [2, 3, 4] 15 16 (.free 2 (.free 3 (.free 4 (.pure 0 (.pure 1 (.pure 5 (.pure 6 (.pure 7 (.pure 8 (.pure 9 (.pure 10 (.pure 11 (.pure 12 (.pure 13 (.pure 14 (.put 15 (.tail 16))))))))))))))))) (fun _ h => Fr.of_ext h) mixed (by kernel_rfl) (panicOk_block (panicOk_then panicOk_body)) ?_; intro wg1 xg2 _); have qsg3 : (fun wz => Ext w3 wz) wg1 := xg2; simp only at qsg3; have qtg4 : (fun wz => Fr (fun x => x = g) w3 wz) wg1 := Fr.of_ext xg2; simp only at qtg4; have d_hb8 := hb8; have d_hA := hA; have d_sx := sx; have d_sy := sy; have d_r1 := r1; have d_r2 := r2; have d_hb1 := hb1; have d_hbm := hbm; have zg5 := xg2.size; replace hb8 := hb8.ext xg2; replace X := X.ext xg2; replace hA := hA.ext xg2; replace sx := Nd.sits.ext sx xg2; replace sy := Nd.sits.ext sy xg2; replace r1 := r1.ext xg2; replace r2 := r2.ext xg2; replace hb1 := hb1.ext xg2; replace hbm := hbm.ext xg2; clear xg2; refine twE_free (by assumption) rfl (pur_fieldAddr tabOk rfl rfl rfl) rfl ?_; refine twE_free (by assumption) rfl (pur_load tabOk rfl rfl rfl (fun wz hz => Blk.cell (Blk.fr d_hbm hz (by omega)) rfl)) rfl ?_; refine twE_free (by assumption) rfl (pur_move rfl) rfl ?_
           refine twE_pure (by assumption) rfl (pur_fieldAddr tabOk rfl rfl rfl) rfl ?_; refine twE_pure (by assumption) rfl (pur_load tabOk rfl rfl rfl (fun wz hz => Blk.cell (Blk.ext d_hbm hz) rfl)) rfl ?_; refine twE_pure (by assumption) rfl (pur_fieldAddr tabOk rfl rfl rfl) rfl ?_; refine twE_pure (by assumption) rfl (pur_load tabOk rfl rfl rfl (fun wz hz => Blk.cell (Blk.ext d_hbm hz) rfl)) rfl ?_; refine twE_pure (by assumption) rfl (pur_move rfl) rfl ?_; refine twE_pure (by assumption) rfl (pur_indexAddr tabOk rfl rfl rfl rfl (by omega) (by omega)) rfl ?_; refine twE_pure (by assumption) rfl (pur_loads' tabOk rfl rfl rfl (fun wz hz => (Row.ext d_r2 hz)) rfl) rfl ?_; refine twE_pure (by assumption) rfl (pur_fieldAddr tabOk rfl rfl rfl) rfl ?_; refine twE_pure (by assumption) rfl (pur_load tabOk rfl rfl rfl (fun wz hz => Blk.cell (Blk.ext d_hbm hz) rfl)) rfl ?_; refine twE_pure (by assumption) rfl (pur_indexAddr tabOk rfl rfl rfl rfl (by omega) (by omega)) rfl ?_; refine twE_pure (by assumption) rfl (pur_loads_row' [_, _, _, _] tabOk rfl rfl rfl (fun wz hz => (Row.ext d_r1 hz)) rfl rfl) rfl ?_; refine twE_pure (by assumption) rfl (pur_indexAddr tabOk rfl rfl rfl rfl (by omega) (by omega)) rfl ?_; (refine twE_put0 rfl (does_storeA (sh := ndShape) (j := 0) (z := y) (us := [_, _, _, _]) tabOk rfl rfl rfl rfl rfl rfl (by assumption) (by omega) (Or.inl (by omega)) ⟨_, _, rfl, by assumption⟩) ?_; refine none0 ?_); rintro _ wg9 ⟨hg6, ⟨fg7, hg8⟩⟩; have zg10 := fg7.size; replace qtg4 := qtg4.fr fg7 (by omega)
           replace hb8 := hb8.fr fg7 (by omega); replace X := X.fr fg7 (by omega); clear hA; replace sx := Nd.sits.fr sx fg7 (by omega); replace sy := Nd.sits.fr sy fg7 (by omega); clear r1 r2; replace hb1 := hb1.fr fg7 (by omega); replace hbm := hbm.fr fg7 (by omega); clear fg7; refine ⟨by assumption, ?_⟩; clear qsg3 d_hb8 d_hA d_sx d_sy d_r1 d_r2 d_hb1 d_hbm qtg4; refine twE_tail rfl (C1 Pi ?_); (refine lw_does0 (does_storeA (sh := ndShape) (j := ((xs.length : Int) - 1).toNat) (z := x) (us := [_, _, _, _]) tabOk rfl rfl rfl rfl rfl rfl (by assumption) (by rw [List.length_set]; omega) (Or.inl (by omega)) ⟨_, _, rfl, by assumption⟩) ?_; refine none0 ?_); rintro _ wg14 ⟨hg11, ⟨fg12, hg13⟩⟩; have zg15 := fg12.size; clear hg6; replace hb8 := hb8.fr fg12 (by omega); replace X := X.fr fg12 (by omega); replace sx := Nd.sits.fr sx fg12 (by omega); replace sy := Nd.sits.fr sy fg12 (by omega); replace hb1 := hb1.fr fg12 (by omega); replace hbm := hbm.fr fg12 (by omega); clear fg12; refine lw_nil (qw_block_norm (qw_then (cS (lw_loads_b' [_, _, _, _] tabOk rfl rfl rfl hbm rfl rfl rfl ?_)))); (refine lw_store' [_, _, _, _] [_, _, _, _] tabOk rfl rfl rfl rfl rfl rfl hb8 rfl rfl ?_; intro wg16 ng17); have hg20 := ng17.blk; have fg18 := ng17.fr; have zg19 := ng17.size; clear ng17 hb8; replace hg11 := hg11.fr fg18 (by omega); replace X := X.fr fg18 (by omega); replace sx := Nd.sits.fr sx fg18 (by omega); replace sy := Nd.sits.fr sy fg18 (by omega); replace hb1 := hb1.fr fg18 (by omega); replace hbm := hbm.fr fg18 (by omega)
           clear fg18; refine cT (cw_ret (qw_retc rfl tabOk rfl rfl rfl hg20 rfl ?_)); rotate_left 1
          exact copyR_arr hsl (ArrS.wide (by assumption) (by omega)) (by omega) (by omega) X
        · focus
           refine cw_seq (cS (C1 Pf (C1 (Pl hbm) (C1 Pz ?_)))); refine C1 (pur_sub rfl rfl (IntWalk.i64_in _ (by omega))) ?_; refine C1 Pa (cN (C1 Pg (C1 (Pl hb1) (cT (cw_block (cS (C1 V1 (C1 Pa (cT (Wna (cw_seq ?_))))))))))); refine cS (C1 V1 (C1 Pa (cT (Wnd (cS (C1 V1 (C1 Pa (cT (Wyd (cw_skip (qw_then ?_))))))))))); refine Wyd ?_; (refine cw_edraw (fun wz => Ext w3 wz) (fun wz => Fr (fun x => x = g) w3 wz) [2, 3, 4, 15, 16, 17] [2, 3, 4] 15 16 (.free 2 (.free 3 (.free 4 (.pure 0 (.pure 1 (.pure 5 (.pure 6 (.pure 7 (.pure 8 (.pure 9 (.pure 10 (.pure 11 (.pure 12 (.pure 13 (.pure 14 (.put 15 (.tail 16))))))))))))))))) (fun _ h => Fr.of_ext h) mixed (by kernel_rfl) (panicOk_block (panicOk_then panicOk_body)) ?_; intro wh1 xh2 _); have qsh3 : (fun wz => Ext w3 wz) wh1 := xh2; simp only at qsh3; have qth4 : (fun wz => Fr (fun x => x = g) w3 wz) wh1 := Fr.of_ext xh2; simp only at qth4; have d_hb8 := hb8; have d_hA := hA; have d_sx := sx; have d_sy := sy; have d_r1 := r1; have d_r2 := r2; have d_hb1 := hb1; have d_hbm := hbm; have zh5 := xh2.size; replace hb8 := hb8.ext xh2; replace X := X.ext xh2; replace hA := hA.ext xh2; replace sx := Nd.sits.ext sx xh2; replace sy := Nd.sits.ext sy xh2; replace r1 := r1.ext xh2; replace r2 := r2.ext xh2; replace hb1 := hb1.ext xh2; replace hbm := hbm.ext xh2; clear xh2; refine twE_free (by assumption) rfl (pur_fieldAddr tabOk rfl rfl rfl) rfl ?_; refine twE_free (by assumption) rfl (pur_load tabOk rfl rfl rfl (fun wz hz => Blk.cell (Blk.fr d_hbm hz (by omega)) rfl)) rfl ?_
           refine twE_free (by assumption) rfl (pur_move rfl) rfl ?_; refine twE_pure (by assumption) rfl (pur_fieldAddr tabOk rfl rfl rfl) rfl ?_; refine twE_pure (by assumption) rfl (pur_load tabOk rfl rfl rfl (fun wz hz => Blk.cell (Blk.ext d_hbm hz) rfl)) rfl ?_; refine twE_pure (by assumption) rfl (pur_fieldAddr tabOk rfl rfl rfl) rfl ?_; refine twE_pure (by assumption) rfl (pur_load tabOk rfl rfl rfl (fun wz hz => Blk.cell (Blk.ext d_hbm hz) rfl)) rfl ?_; refine twE_pure (by assumption) rfl (pur_move rfl) rfl ?_; refine twE_pure (by assumption) rfl (pur_indexAddr tabOk rfl rfl rfl rfl (by omega) (by omega)) rfl ?_; refine twE_pure (by assumption) rfl (pur_loads' tabOk rfl rfl rfl (fun wz hz => (Row.ext d_r2 hz)) rfl) rfl ?_; refine twE_pure (by assumption) rfl (pur_fieldAddr tabOk rfl rfl rfl) rfl ?_; refine twE_pure (by assumption) rfl (pur_load tabOk rfl rfl rfl (fun wz hz => Blk.cell (Blk.ext d_hbm hz) rfl)) rfl ?_; refine twE_pure (by assumption) rfl (pur_indexAddr tabOk rfl rfl rfl rfl (by omega) (by omega)) rfl ?_; refine twE_pure (by assumption) rfl (pur_loads_row' [_, _, _, _] tabOk rfl rfl rfl (fun wz hz => (Row.ext d_r1 hz)) rfl rfl) rfl ?_; refine twE_pure (by assumption) rfl (pur_indexAddr tabOk rfl rfl rfl rfl (by omega) (by omega)) rfl ?_; (refine twE_put0 rfl (does_storeA (sh := ndShape) (j := 0) (z := y) (us := [_, _, _, _]) tabOk rfl rfl rfl rfl rfl rfl (by assumption) (by omega) (Or.inl (by omega)) ⟨_, _, rfl, by assumption⟩) ?_; refine none0 ?_); rintro _ wh9 ⟨hh6, ⟨fh7, hh8⟩⟩
           have zh10 := fh7.size; replace qth4 := qth4.fr fh7 (by omega); replace hb8 := hb8.fr fh7 (by omega); replace X := X.fr fh7 (by omega); clear hA; replace sx := Nd.sits.fr sx fh7 (by omega); replace sy := Nd.sits.fr sy fh7 (by omega); clear r1 r2; replace hb1 := hb1.fr fh7 (by omega); replace hbm := hbm.fr fh7 (by omega); clear fh7; refine ⟨by assumption, ?_⟩; clear qsh3 d_hb8 d_hA d_sx d_sy d_r1 d_r2 d_hb1 d_hbm qth4; refine twE_tail rfl (C1 Pi ?_); (refine lw_does0 (does_storeA (sh := ndShape) (j := ((xs.length : Int) - 1).toNat) (z := x) (us := [_, _, _, _]) tabOk rfl rfl rfl rfl rfl rfl (by assumption) (by rw [List.length_set]; omega) (Or.inl (by omega)) ⟨_, _, rfl, by assumption⟩) ?_; refine none0 ?_); rintro _ wh14 ⟨hh11, ⟨fh12, hh13⟩⟩; have zh15 := fh12.size; clear hh6; replace hb8 := hb8.fr fh12 (by omega); replace X := X.fr fh12 (by omega); replace sx := Nd.sits.fr sx fh12 (by omega); replace sy := Nd.sits.fr sy fh12 (by omega); replace hb1 := hb1.fr fh12 (by omega); replace hbm := hbm.fr fh12 (by omega); clear fh12; refine lw_nil (qw_block_norm (qw_then (cS (lw_loads_b' [_, _, _, _] tabOk rfl rfl rfl hbm rfl rfl rfl ?_)))); (refine lw_store' [_, _, _, _] [_, _, _, _] tabOk rfl rfl rfl rfl rfl rfl hb8 rfl rfl ?_; intro wh16 nh17); have hh20 := nh17.blk; have fh18 := nh17.fr; have zh19 := nh17.size; clear nh17 hb8; replace hh11 := hh11.fr fh18 (by omega); replace X := X.fr fh18 (by omega); replace sx := Nd.sits.fr sx fh18 (by omega); replace sy := Nd.sits.fr sy fh18 (by omega)
           replace hb1 := hb1.fr fh18 (by omega); replace hbm := hbm.fr fh18 (by omega); clear fh18; refine cT (cw_ret (qw_retc rfl tabOk rfl rfl rfl hh20 rfl ?_)); rotate_left 1
          exact copyR_arr hsl (ArrS.wide (by assumption) (by omega)) (by omega) (by omega) X
        · focus
           refine cw_seq (cS (C1 Pf (C1 (Pl hbm) (C1 Pz ?_)))); refine C1 (pur_sub rfl rfl (IntWalk.i64_in _ (by omega))) ?_; refine C1 Pa (cN (C1 Pg (C1 (Pl hb1) (cT (cw_block (cS (C1 V1 (C1 Pa (cT (Wna (cw_seq ?_))))))))))); refine cS (C1 V1 (C1 Pa (cT (Wnd (cS (C1 V1 (C1 Pa (cT (Wnd (cw_region (C1 V1 ?_))))))))))); refine C1 Pa (cT (Wyd ?_)); (refine cw_edraw (fun wz => Ext w3 wz) (fun wz => Fr (fun x => x = g) w3 wz) [2, 3, 4, 15, 16, 17] [2, 3, 4] 15 16 (.free 2 (.free 3 (.free 4 (.pure 0 (.pure 1 (.pure 5 (.pure 6 (.pure 7 (.pure 8 (.pure 9 (.pure 10 (.pure 11 (.pure 12 (.pure 13 (.pure 14 (.put 15 (.tail 16))))))))))))))))) (fun _ h => Fr.of_ext h) mixed (by kernel_rfl) (panicOk_block (panicOk_then panicOk_body)) ?_; intro wi1 xi2 _); have qsi3 : (fun wz => Ext w3 wz) wi1 := xi2; simp only at qsi3; have qti4 : (fun wz => Fr (fun x => x = g) w3 wz) wi1 := Fr.of_ext xi2; simp only at qti4; have d_hb8 := hb8; have d_hA := hA; have d_sx := sx; have d_sy := sy; have d_r1 := r1; have d_r2 := r2; have d_hb1 := hb1; have d_hbm := hbm; have zi5 := xi2.size; replace hb8 := hb8.ext xi2; replace X := X.ext xi2; replace hA := hA.ext xi2; replace sx := Nd.sits.ext sx xi2; replace sy := Nd.sits.ext sy xi2; replace r1 := r1.ext xi2; replace r2 := r2.ext xi2; replace hb1 := hb1.ext xi2; replace hbm := hbm.ext xi2; clear xi2; refine twE_free (by assumption) rfl (pur_fieldAddr tabOk rfl rfl rfl) rfl ?_; refine twE_free (by assumption) rfl (pur_load tabOk rfl rfl rfl (fun wz hz => Blk.cell (Blk.fr d_hbm hz (by omega)) rfl)) rfl ?_
           refine twE_free (by assumption) rfl (pur_move rfl) rfl ?_; refine twE_pure (by assumption) rfl (pur_fieldAddr tabOk rfl rfl rfl) rfl ?_; refine twE_pure (by assumption) rfl (pur_load tabOk rfl rfl rfl (fun wz hz => Blk.cell (Blk.ext d_hbm hz) rfl)) rfl ?_; refine twE_pure (by assumption) rfl (pur_fieldAddr tabOk rfl rfl rfl) rfl ?_; refine twE_pure (by assumption) rfl (pur_load tabOk rfl rfl rfl (fun wz hz => Blk.cell (Blk.ext d_hbm hz) rfl)) rfl ?_; refine twE_pure (by assumption) rfl (pur_move rfl) rfl ?_; refine twE_pure (by assumption) rfl (pur_indexAddr tabOk rfl rfl rfl rfl (by omega) (by omega)) rfl ?_; refine twE_pure (by assumption) rfl (pur_loads' tabOk rfl rfl rfl (fun wz hz => (Row.ext d_r2 hz)) rfl) rfl ?_; refine twE_pure (by assumption) rfl (pur_fieldAddr tabOk rfl rfl rfl) rfl ?_; refine twE_pure (by assumption) rfl (pur_load tabOk rfl rfl rfl (fun wz hz => Blk.cell (Blk.ext d_hbm hz) rfl)) rfl ?_; refine twE_pure (by assumption) rfl (pur_indexAddr tabOk rfl rfl rfl rfl (by omega) (by omega)) rfl ?_; refine twE_pure (by assumption) rfl (pur_loads_row' [_, _, _, _] tabOk rfl rfl rfl (fun wz hz => (Row.ext d_r1 hz)) rfl rfl) rfl ?_; refine twE_pure (by assumption) rfl (pur_indexAddr tabOk rfl rfl rfl rfl (by omega) (by omega)) rfl ?_; (refine twE_put0 rfl (does_storeA (sh := ndShape) (j := 0) (z := y) (us := [_, _, _, _]) tabOk rfl rfl rfl rfl rfl rfl (by assumption) (by omega) (Or.inl (by omega)) ⟨_, _, rfl, by assumption⟩) ?_; refine none0 ?_); rintro _ wi9 ⟨hi6, ⟨fi7, hi8⟩⟩
           have zi10 := fi7.size; replace qti4 := qti4.fr fi7 (by omega); replace hb8 := hb8.fr fi7 (by omega); replace X := X.fr fi7 (by omega); clear hA; replace sx := Nd.sits.fr sx fi7 (by omega); replace sy := Nd.sits.fr sy fi7 (by omega); clear r1 r2; replace hb1 := hb1.fr fi7 (by omega); replace hbm := hbm.fr fi7 (by omega); clear fi7; refine ⟨by assumption, ?_⟩; clear qsi3 d_hb8 d_hA d_sx d_sy d_r1 d_r2 d_hb1 d_hbm qti4; refine twE_tail rfl (C1 Pi ?_); (refine lw_does0 (does_storeA (sh := ndShape) (j := ((xs.length : Int) - 1).toNat) (z := x) (us := [_, _, _, _]) tabOk rfl rfl rfl rfl rfl rfl (by assumption) (by rw [List.length_set]; omega) (Or.inl (by omega)) ⟨_, _, rfl, by assumption⟩) ?_; refine none0 ?_); rintro _ wi14 ⟨hi11, ⟨fi12, hi13⟩⟩; have zi15 := fi12.size; clear hi6; replace hb8 := hb8.fr fi12 (by omega); replace X := X.fr fi12 (by omega); replace sx := Nd.sits.fr sx fi12 (by omega); replace sy := Nd.sits.fr sy fi12 (by omega); replace hb1 := hb1.fr fi12 (by omega); replace hbm := hbm.fr fi12 (by omega); clear fi12; refine lw_nil (qw_block_norm (qw_then (cS (lw_loads_b' [_, _, _, _] tabOk rfl rfl rfl hbm rfl rfl rfl ?_)))); (refine lw_store' [_, _, _, _] [_, _, _, _] tabOk rfl rfl rfl rfl rfl rfl hb8 rfl rfl ?_; intro wi16 ni17); have hi20 := ni17.blk; have fi18 := ni17.fr; have zi19 := ni17.size; clear ni17 hb8; replace hi11 := hi11.fr fi18 (by omega); replace X := X.fr fi18 (by omega); replace sx := Nd.sits.fr sx fi18 (by omega); replace sy := Nd.sits.fr sy fi18 (by omega)
           replace hb1 := hb1.fr fi18 (by omega); replace hbm := hbm.fr fi18 (by omega); clear fi18; refine cT (cw_ret (qw_retc rfl tabOk rfl rfl rfl hi20 rfl ?_)); rotate_left 1
          exact copyR_arr hsl (ArrS.wide (by assumption) (by omega)) (by omega) (by omega) X
      · rw [if_neg k5]
        generalize l.map (invMap q k) = xs at *
        have k52 : ¬ k = 52 := fun e => k5 (Or.inl e)
        have k53 : ¬ k = 53 := fun e => k5 (Or.inr (Or.inl e))
        have k54 : ¬ k = 54 := fun e => k5 (Or.inr (Or.inr e))
        by_cases k6 : k = 50 ∨ k = 51
        · rw [if_pos k6]
          cases q
          · simp only [Bool.false_eq_true, if_false]
            rcases k6 with rfl | rfl
            · focus
               refine cw_seq (cS (C1 Pf (C1 (Pl hbm) (C1 Pz ?_)))); refine C1 (pur_sub rfl rfl (IntWalk.i64_in _ (by omega))) ?_; refine C1 Pa (cN (C1 Pg (C1 (Pl hb1) (cT (cw_block (cS (C1 V1 (C1 Pa (cT (Wna (cw_seq ?_))))))))))); refine cS (C1 V1 (C1 Pa (cT (Wna (cS (C1 V1 (C1 Pa (cT (Wna (cw_region (C1 V1 ?_))))))))))); refine C1 Pa (cT (Wna (cw_seq (cS (C1 V1 (C1 Pa (cT (Wyd (cw_skip (qw_then (Wyd ?_))))))))))); refine cS (C1 Mv (C1 Pt (cT (cw_cond_t rfl (cw_region (C1 Pg (C1 (Pl hb1) ?_))))))); refine cC rfl (exchanged_c _ _ (by omega) (by omega)) ?_; rintro _ wj1 ⟨⟨⟩, rfl⟩; refine C1 Pg ?_; (refine lw_store' [_] [_, _, _, _] tabOk rfl rfl rfl rfl rfl rfl hbm rfl rfl ?_; intro wj2 nj3); have hj6 := nj3.blk; have fj4 := nj3.fr; have zj5 := nj3.size; clear nj3 hbm; replace hb8 := hb8.fr fj4 (by omega); replace X := X.fr fj4 (by omega); replace hA := hA.fr fj4 (by omega); replace hb1 := hb1.fr fj4 (by omega); clear fj4; refine lw_nil (qw_block_norm (qw_then (cS (lw_loads_b' [_, _, _, _] tabOk rfl rfl rfl hj6 rfl rfl rfl ?_)))); (refine lw_store' [_, _, _, _] [_, _, _, _] tabOk rfl rfl rfl rfl rfl rfl hb8 rfl rfl ?_; intro wj7 nj8); have hj11 := nj8.blk; have fj9 := nj8.fr; have zj10 := nj8.size; clear nj8 hb8; replace hj6 := hj6.fr fj9 (by omega); replace X := X.fr fj9 (by omega); replace hA := hA.fr fj9 (by omega); replace hb1 := hb1.fr fj9 (by omega); clear fj9; refine cT (cw_ret (qw_retc rfl tabOk rfl rfl rfl hj11 rfl ?_)); rotate_left 1
              exact copyR_arr hxl (ArrS.wide (by assumption) (by omega)) (by omega) (by omega) X
            · focus
               refine cw_seq (cS (C1 Pf (C1 (Pl hbm) (C1 Pz ?_)))); refine C1 (pur_sub rfl rfl (IntWalk.i64_in _ (by omega))) ?_; refine C1 Pa (cN (C1 Pg (C1 (Pl hb1) (cT (cw_block (cS (C1 V1 (C1 Pa (cT (Wna (cw_seq ?_))))))))))); refine cS (C1 V1 (C1 Pa (cT (Wna (cS (C1 V1 (C1 Pa (cT (Wna (cw_region (C1 V1 ?_))))))))))); refine C1 Pa (cT (Wna (cw_seq (cS (C1 V1 (C1 Pa (cT (Wnd (cw_region (C1 V1 (C1 Pa ?_))))))))))); refine cT (Wyd (cS (C1 Mv (C1 Pt (cT (cw_cond_t rfl (cw_region (C1 Pg (C1 (Pl hb1) ?_))))))))); refine cC rfl (exchanged_c _ _ (by omega) (by omega)) ?_; rintro _ wk1 ⟨⟨⟩, rfl⟩; refine C1 Pg ?_; (refine lw_store' [_] [_, _, _, _] tabOk rfl rfl rfl rfl rfl rfl hbm rfl rfl ?_; intro wk2 nk3); have hk6 := nk3.blk; have fk4 := nk3.fr; have zk5 := nk3.size; clear nk3 hbm; replace hb8 := hb8.fr fk4 (by omega); replace X := X.fr fk4 (by omega); replace hA := hA.fr fk4 (by omega); replace hb1 := hb1.fr fk4 (by omega); clear fk4; refine lw_nil (qw_block_norm (qw_then (cS (lw_loads_b' [_, _, _, _] tabOk rfl rfl rfl hk6 rfl rfl rfl ?_)))); (refine lw_store' [_, _, _, _] [_, _, _, _] tabOk rfl rfl rfl rfl rfl rfl hb8 rfl rfl ?_; intro wk7 nk8); have hk11 := nk8.blk; have fk9 := nk8.fr; have zk10 := nk8.size; clear nk8 hb8; replace hk6 := hk6.fr fk9 (by omega); replace X := X.fr fk9 (by omega); replace hA := hA.fr fk9 (by omega); replace hb1 := hb1.fr fk9 (by omega); clear fk9; refine cT (cw_ret (qw_retc rfl tabOk rfl rfl rfl hk11 rfl ?_)); rotate_left 1
              exact copyR_arr hxl (ArrS.wide (by assumption) (by omega)) (by omega) (by omega) X
          · simp only [if_true]
            rcases k6 with rfl | rfl
            · focus
               refine cw_seq (cS (C1 Pf (C1 (Pl hbm) (C1 Pz ?_)))); refine C1 (pur_sub rfl rfl (IntWalk.i64_in _ (by omega))) ?_; refine C1 Pa (cN (C1 Pg (C1 (Pl hb1) (cT (cw_block (cS (C1 V1 (C1 Pa (cT (Wna (cw_seq ?_))))))))))); refine cS (C1 V1 (C1 Pa (cT (Wna (cS (C1 V1 (C1 Pa (cT (Wna (cw_region (C1 V1 ?_))))))))))); refine C1 Pa (cT (Wna (cw_seq (cS (C1 V1 (C1 Pa (cT (Wyd (cw_skip (qw_then (Wyd ?_))))))))))); refine cS (C1 Mv (C1 Pt (cT (cw_cond_f rfl (cw_skip (qw_block_norm (qw_then (cS (lw_loads_b' [_, _, _, _] tabOk rfl rfl rfl hbm rfl rfl rfl ?_))))))))); (refine lw_store' [_, _, _, _] [_, _, _, _] tabOk rfl rfl rfl rfl rfl rfl hb8 rfl rfl ?_; intro wl1 nl2); have hl5 := nl2.blk; have fl3 := nl2.fr; have zl4 := nl2.size; clear nl2 hb8; replace X := X.fr fl3 (by omega); replace hA := hA.fr fl3 (by omega); replace hbm := hbm.fr fl3 (by omega); replace hb1 := hb1.fr fl3 (by omega); clear fl3; refine cT (cw_ret (qw_retc rfl tabOk rfl rfl rfl hl5 rfl ?_)); rotate_left 1
              exact copyR_arr hxl (ArrS.wide (by assumption) (by omega)) (by omega) (by omega) X
            · focus
               refine cw_seq (cS (C1 Pf (C1 (Pl hbm) (C1 Pz ?_)))); refine C1 (pur_sub rfl rfl (IntWalk.i64_in _ (by omega))) ?_; refine C1 Pa (cN (C1 Pg (C1 (Pl hb1) (cT (cw_block (cS (C1 V1 (C1 Pa (cT (Wna (cw_seq ?_))))))))))); refine cS (C1 V1 (C1 Pa (cT (Wna (cS (C1 V1 (C1 Pa (cT (Wna (cw_region (C1 V1 ?_))))))))))); refine C1 Pa (cT (Wna (cw_seq (cS (C1 V1 (C1 Pa (cT (Wnd (cw_region (C1 V1 (C1 Pa ?_))))))))))); refine cT (Wyd (cS (C1 Mv (C1 Pt (cT (cw_cond_f rfl (cw_skip (qw_block_norm (qw_then (cS (lw_loads_b' [_, _, _, _] tabOk rfl rfl rfl hbm rfl rfl rfl ?_))))))))))); (refine lw_store' [_, _, _, _] [_, _, _, _] tabOk rfl rfl rfl rfl rfl rfl hb8 rfl rfl ?_; intro wm1 nm2); have hm5 := nm2.blk; have fm3 := nm2.fr; have zm4 := nm2.size; clear nm2 hb8; replace X := X.fr fm3 (by omega); replace hA := hA.fr fm3 (by omega); replace hbm := hbm.fr fm3 (by omega); replace hb1 := hb1.fr fm3 (by omega); clear fm3; refine cT (cw_ret (qw_retc rfl tabOk rfl rfl rfl hm5 rfl ?_)); rotate_left 1
              exact copyR_arr hxl (ArrS.wide (by assumption) (by omega)) (by omega) (by omega) X
        · rw [if_neg k6]
          have k50 : ¬ k = 50 := fun e => k6 (Or.inl e)
          have k51 : ¬ k = 51 := fun e => k6 (Or.inr e)
          focus
           refine cw_seq (cS (C1 Pf (C1 (Pl hbm) (C1 Pz ?_)))); refine C1 (pur_sub rfl rfl (IntWalk.i64_in _ (by omega))) ?_; refine C1 Pa (cN (C1 Pg (C1 (Pl hb1) (cT (cw_block (cS (C1 V1 (C1 Pa (cT (Wna (cw_seq ?_))))))))))); refine cS (C1 V1 (C1 Pa (cT (Wna (cS (C1 V1 (C1 Pa (cT (Wna (cw_region (C1 V1 ?_))))))))))); refine C1 Pa (cT (Wna (cw_seq (cS (C1 V1 (C1 Pa (cT (Wna (cw_region (C1 V1 (C1 Pa ?_))))))))))); refine cT (Wna (cw_region (C1 Pg (C1 (Pl hb1) ?_)))); refine cC rfl (exchanged_c _ _ (by omega) (by omega)) ?_; rintro _ wn1 ⟨⟨⟩, rfl⟩; refine C1 Pg ?_; (refine lw_store' [_] [_, _, _, _] tabOk rfl rfl rfl rfl rfl rfl hbm rfl rfl ?_; intro wn2 nn3); have hn6 := nn3.blk; have fn4 := nn3.fr; have zn5 := nn3.size; clear nn3 hbm; replace hb1 := hb1.fr fn4 (by omega); replace hb8 := hb8.fr fn4 (by omega); replace X := X.fr fn4 (by omega); replace hA := hA.fr fn4 (by omega); clear fn4; refine lw_nil (qw_block_norm (qw_then (cS (lw_loads_b' [_, _, _, _] tabOk rfl rfl rfl hn6 rfl rfl rfl ?_)))); (refine lw_store' [_, _, _, _] [_, _, _, _] tabOk rfl rfl rfl rfl rfl rfl hb8 rfl rfl ?_; intro wn7 nn8); have hn11 := nn8.blk; have fn9 := nn8.fr; have zn10 := nn8.size; clear nn8 hb8; replace hn6 := hn6.fr fn9 (by omega); replace hb1 := hb1.fr fn9 (by omega); replace X := X.fr fn9 (by omega); replace hA := hA.fr fn9 (by omega); clear fn9; refine cT (cw_ret (qw_retc rfl tabOk rfl rfl rfl hn11 rfl ?_)); rotate_left 1
          exact copyR_arr hxl (ArrS.wide (by assumption) (by omega)) (by omega) (by omega) X
end Bk
namespace Bk
open Go Go.RowKit
structure OwnM {α : Type} (sh : Shape α) (w : World) (R : Nat → Prop) (B : Nat) (e : TypeId) (v : Value) (xs : List α) : Prop where
 ex : ∃ css : List (List Value), Own w B e sh.sz v xs.length css.flatten ∧ css.length = xs.length ∧ ∀ (i : Nat) (x : α) (cs : List Value), xs[i]? = some x → css[i]? = some cs → sh.rep w (fun b => (R b ∨ B ≤ b) ∧ v.ownBlock ≠ some b) x cs
section
variable {α : Type} {sh : Shape α} {R : Nat → Prop} {B e : Nat} {w w' : World} {v : Value} {xs : List α}
theorem OwnM.nil : OwnM sh w R B e (.slice none 0 0) [] := ⟨⟨[], Own.nil, rfl, by simp⟩⟩
theorem OwnM.ge (h : OwnM sh w R B e v xs) {k : Nat} (hk : v.ownBlock = some k) : B ≤ k := by
 obtain ⟨css, h1, -⟩ := h.ex
 exact h1.ge hk
theorem OwnM.lt (h : OwnM sh w R B e v xs) {k : Nat} (hk : v.ownBlock = some k) : k < w.heap.size := by
 obtain ⟨css, h1, -⟩ := h.ex
 exact (h1.blk hk).2
theorem OwnM.ext (h : OwnM sh w R B e v xs) (x : Ext w w') : OwnM sh w' R B e v xs := by
 obtain ⟨css, h1, h2, h3⟩ := h.ex
 exact ⟨css, h1.ext x, h2, fun i y cs hy hc => sh.mono (h3 i y cs hy hc) (fun _ h => h) (fun b o u _ hu => x.keep hu)⟩
theorem OwnM.fr {S : Nat → Prop} (h : OwnM sh w R B e v xs) (x : Fr S w w') (hs : ∀ k, S k → ¬ R k ∧ k < B) : OwnM sh w' R B e v xs := by
 obtain ⟨css, h1, h2, h3⟩ := h.ex
 exact ⟨css, h1.fr x (fun k hk hS => by have := h1.ge hk; have := (hs k hS).2; omega), h2, fun i y cs hy hc => sh.mono (h3 i y cs hy hc) (fun _ h => h) (fun b o u hb hu => x.keep (fun hS => by
  obtain ⟨h1, h2⟩ := hs b hS
  rcases hb.1 with h | h
  · exact h1 h
  · omega) hu)⟩
theorem OwnM.rows (h : OwnM sh w R B e v xs) (hx : xs ≠ []) : ∃ g cap, v = .slice (some ⟨g, 0, none⟩) xs.length cap ∧ B ≤ g ∧ ∀ (i : Nat) (x : α), xs[i]? = some x → ∃ cs, Row w ⟨g, i * sh.sz, none⟩ cs ∧ sh.rep w (fun b => R b ∨ B ≤ b) x cs := by
 obtain ⟨css, h1, h2, h3⟩ := h.ex
 rcases h1.row with ⟨rfl, hn, -⟩ | ⟨g, cap, rfl, hg, hob, hr⟩
 · exact absurd (List.length_eq_zero_iff.1 hn) hx
 · refine ⟨g, cap, rfl, hg, fun i x hi => ?_⟩
   have hlt : i < xs.length := by
    rcases Nat.lt_or_ge i xs.length with h | h
    · exact h
    · rw [List.getElem?_eq_none h] at hi; cases hi
   have hc : css[i]? = some css[i] := List.getElem?_eq_getElem (by omega)
   have hlen : ∀ cs ∈ css, cs.length = sh.sz := fun cs hcs => by
    obtain ⟨k, hk, rfl⟩ := List.mem_iff_getElem.1 hcs
    exact sh.len (h3 k xs[k] css[k] (List.getElem?_eq_getElem (by omega)) (List.getElem?_eq_getElem hk))
   obtain ⟨e1, e2⟩ := flatten_at hlen (show i < css.length by omega); refine ⟨css[i], fun j u hj => ?_, sh.mono (h3 i x _ hi hc) (fun _ h => h.1) (fun _ _ _ _ h => h)⟩
   have hjl : j < css[i].length := by
    rcases Nat.lt_or_ge j css[i].length with h | h
    · exact h
    · rw [List.getElem?_eq_none h] at hj; cases hj
   have hget : css.flatten[i * sh.sz + j]? = some u := by
    rw [e1, List.append_assoc, List.getElem?_append_right (by omega), e2, Nat.add_sub_cancel_left, List.getElem?_append_left hjl]
    exact hj
   have := hr.at (i := i * sh.sz + j) hget
   have e : (⟨g, i * sh.sz, none⟩ : Addr).add j = ⟨g, 0 + (i * sh.sz + j), none⟩ := by unfold Addr.add; by_cases h0 : j = 0 <;> simp [h0]
   rw [e]; exact this
theorem OwnM.slice (h : OwnM sh w R B e v xs) : ∃ a cap, v = .slice a xs.length cap := by
 obtain ⟨css, h1, h2, h3⟩ := h.ex
 rcases h1.row with ⟨rfl, hn, -⟩ | ⟨g, cap, rfl, -⟩
 · exact ⟨none, 0, by rw [hn]⟩
 · exact ⟨_, _, rfl⟩
end
theorem OwnM.sits {w : World} {R : Nat → Prop} {B e : Nat} {a : Option Addr} {len cap : Nat} {xs : List Nd} {S : Nat → Prop} (h : OwnM ndShape w R B e (.slice a len cap) xs) (hS : ∀ b, R b ∨ B ≤ b → S b) : rowSits S w xs a := by
 by_cases hx : xs = []
 · subst hx; simp [rowSits]
 · obtain ⟨g, cap', hv, hg, hall⟩ := h.rows hx
   simp only [Value.slice.injEq] at hv; obtain ⟨rfl, -, -⟩ := hv; refine rowSits_of (hS g (Or.inr hg)) xs 0 (fun i x hi => ?_); obtain ⟨cs, hr, a, c, rfl, hs⟩ := hall i x hi
   exact ⟨a, c, by simpa [ndShape] using hr, Nd.sits_mono (fun b hb => hS b hb) (fun _ _ _ _ h => h) _ _ hs⟩
end Bk
namespace Bk
open Go Go.RowKit Go.Proofs
attribute [local irreducible] Go.Calls
def ShareR (S : Nat → Prop) (u : Nd) (w : World) : Ending → World → Prop := fun e w' => ∃ a c, e = .returned (u.val a c) ∧ u.sits (fun b => S b ∨ w.heap.size ≤ b) w' a ∧ Ext w w'
theorem ShareR.ret {S : Nat → Prop} {u : Nd} {w : World} {e : Ending} {w' : World} (h : ShareR S u w e w') : ∃ v, e = .returned v := by
 obtain ⟨_, _, h, -⟩ := h
 exact ⟨_, h⟩
end Bk
namespace Bk
open Go Go.RowKit Go.Proofs
attribute [local irreducible] Go.Calls
theorem cw_meet2 {P : Program} {n : Nat} {l : Sl} {w : World} {Q : Exit → Act → World → Prop} {x y : Code} {ι : Type} (L : ι → Sl) (I : ι → World → Prop) (h : CW P n x (Exit.then (fun a w => ∃ i, Env n (L i) a ∧ I i w) Q) l w) (k : ∀ i w, I i w → CW P n y Q (L i) w) : CW P n x (Exit.then (Code.wp P y Q) Q) l w := by
 unfold CW at h k ⊢
 intro a ha; refine Code.wp_mono (fun e a w q => ?_) (h a ha)
 cases e with
 | normal =>
  obtain ⟨i, he, hi⟩ := q
  exact k i w hi a he
 | _ => exact q
end Bk
namespace Bk
open Go Go.RowKit Go.Proofs
attribute [local irreducible] Go.Calls
theorem vd_len (v : VD) : v.cells.length = 3 := rfl
theorem vd_one (v : VD) : v.cells.all Value.one = true := rfl
theorem vds_rows {S : Nat → Prop} {w : World} {l : List VD} {a : Option Addr} (h : VDs S w l a) : Rows S w (l.flatMap VD.cells) a := by
 rcases h with h | ⟨b, o, h1, h2, h3⟩
 · subst h; exact Or.inl rfl
 · exact Or.inr ⟨b, o, h1, h2, rows_each vd_len l o (fun i x hi => h3 i x hi)⟩
theorem rows_vds {S : Nat → Prop} {w : World} {l : List VD} {a : Option Addr} (h : Rows S w (l.flatMap VD.cells) a) : VDs S w l a := by
 cases l with
 | nil => exact Or.inl rfl
 | cons v r =>
  rcases h with h | ⟨b, o, h1, h2, h3⟩
  · simp at h
  · exact Or.inr ⟨b, o, h1, h2, fun i x hi => each_rows vd_len (v :: r) o h3 i x hi⟩
def VCopyR (l : List VD) (w : World) : Ending → World → Prop := fun e w' => ∃ a c, e = .returned (.slice a l.length c) ∧ VDs (fun b => w.heap.size ≤ b ∧ b < w'.heap.size) w' l a ∧ Ext w w' ∧ l.length ≤ c
theorem VCopyR.ret {l : List VD} {w : World} {e : Ending} {w' : World} (h : VCopyR l w e w') : ∃ v, e = .returned v := by
 obtain ⟨_, _, h, -⟩ := h
 exact ⟨_, h⟩
theorem vCopyR_nil {w w' : World} (X : Ext w w') : VCopyR [] w (.returned (.slice none 0 0)) w' := ⟨none, 0, rfl, Or.inl rfl, X, Nat.le_refl _⟩
theorem vCopyR_own {l : List VD} {e B g cap m : Nat} {w w' : World} (hm : 0 + l.length = m) (h : OwnF e 3 B w' g cap m ([] ++ l.flatMap VD.cells)) (hB : w.heap.size ≤ g) (X : Ext w w') : VCopyR l w (.returned (.slice (some ⟨g, 0, none⟩) m cap)) w' := by
 have hl := h.lt; subst hm
 exact ⟨some ⟨g, 0, none⟩, cap, by rw [Nat.zero_add], rows_vds (h.rows ⟨hB, hl⟩), X, by have := h.le; omega⟩
set_option maxRecDepth 100000 in
set_option maxHeartbeats 4000000 in
theorem vdClone_c (l : List VD) (hl : l.length ≤ 1000000000) (S : Nat → Prop) (a : Option Addr) (c : Nat) (w : World) (hs : VDs S w l a) :
 Calls Tryz.prog 41 #[.slice a l.length c] w (VCopyR l w) := by
 have X := Ext.refl w; have hd := flatMap_len vd_len l; have ho := flatMap_one vd_one l
 cases a with
 | none =>
  have h0 : l = [] := by
   rcases hs with h | ⟨b, o, h, -⟩
   · exact h
   · cases h
  subst h0; refine calls_in Tryz.func41 Tryz.ntmps41 rfl rfl ?_
  focus
   refine cS (C1 Pa (cT (cw_seq (cS (C1 Mv (C1 (pur_slnil0 tabOk rfl rfl) (cT (cw_cond_t rfl (cS (C1 Pa (cT ?_))))))))))); refine cw_ret (qw_then_ret (qw_ret1 rfl rfl ?_)); rotate_left 1
  exact vCopyR_nil X
 | some p =>
  replace hs := (vds_rows hs).ltA; refine calls_in Tryz.func41 Tryz.ntmps41 rfl rfl ?_
  focus
   refine cS (C1 Pa (cT (cw_seq (cS (C1 Mv (C1 (pur_slnil1 tabOk rfl rfl) (cT (cw_cond_f rfl (cw_skip (qw_then (cS ?_))))))))))); refine lw_does (does_slice0F (B := w.heap.size) tabOk rfl rfl (by omega)) rfl ?_ (fun _ h => h); rintro _ wa6 ⟨ga1, ⟨rfl, ⟨ha2, ⟨ha3, ⟨ha4, xa5⟩⟩⟩⟩⟩; have za7 := xa5.size; replace X := X.ext xa5; replace hs := hs.ext xa5; clear xa5; refine C1 Mv ?_; refine lw_does (does_appendF tabOk zOk rfl rfl rfl rfl (by kernel_rfl) rfl rfl rfl (by assumption) (by assumption) hd ho (by omega)) rfl ?_ (fun _ h => h); rintro _ wa14 ⟨g'a8, ⟨cap'a9, ⟨rfl, ⟨ha10, ⟨ha11, ⟨ha12, fa13⟩⟩⟩⟩⟩⟩; have za15 := fa13.size; clear ha2; replace X := X.fr fa13 (by omega); replace hs := hs.fr fa13 (by omega); clear fa13; refine C1 Pa (cT (cw_ret (qw_ret1 rfl rfl ?_))); rotate_left 1
  exact vCopyR_own rfl (by assumption) (by omega) X
end Bk
