/- Texts that the proofs of PrinterBlocksRound need. No condition. (Part 7 of 7.) -/
import Derived.Test.YtajjbkcpgfgbiaaGreatDoorPPrb6
set_option linter.unusedSimpArgs false
set_option linter.unusedVariables false
namespace Bk
open Go Go.RowKit Go.Proofs
theorem Row.below {B : Nat} {w w' : World} {p : Addr} {vs : List Value} (h : Row w p vs) (x : Below B w w') (hb : p.block < B) : Row w' p vs := fun i v hi => by
 rw [Below.cell x (by rw [add_block]; exact hb)]; exact h i v hi
theorem VDs.below {B : Nat} {w w' : World} {l : List VD} {a : Option Addr} (h : VDs (· < B) w l a) (x : Below B w w') : VDs (· < B) w' l a := h.mono (fun _ h => h) (fun _ _ _ _ hb h => Row.below h x hb)
theorem sits.below {B : Nat} {w w' : World} {t : Nd} {a : Option Addr} (h : t.sits (· < B) w a) (x : Below B w w') : t.sits (· < B) w' a :=
 Nd.sits_mono (fun _ h => h) (fun b o _ hb hc => (Below.cell (p := ⟨b, o, none⟩) x hb).trans hc) t a h
theorem PDs.below {B : Nat} {w w' : World} {l : List PD} {a : Option Addr} (h : PDs (· < B) w l a) (x : Below B w w') : PDs (· < B) w' l a :=
 h.mono (fun _ h => h) (fun _ _ _ _ hb ⟨pa, pc, ba, bc, h1, h2, h3⟩ => ⟨pa, pc, ba, bc, Row.below h1 x hb, h2.below x, sits.below h3 x⟩)
theorem PG.sits.below {B : Nat} {w w' : World} {g : PG} {va pa ma : Option Addr} (h : g.sits (· < B) w va pa ma) (x : Below B w w') : g.sits (· < B) w' va pa ma := ⟨h.vars.below x, h.procs.below x, Bk.sits.below h.main x⟩
theorem VDs.lt {S : Nat → Prop} {w : World} {l : List VD} {a : Option Addr} (h : VDs S w l a) : VDs (· < w.heap.size) w l a := by
 rcases h with h | ⟨b, o, h1, h2, h3⟩
 · exact Or.inl h
 · cases l with
   | nil => exact Or.inl rfl
   | cons v r => exact Or.inr ⟨b, o, h1, cell_lt (Row.at0 (h3 0 v rfl) rfl), h3⟩
theorem PDs.lt {S : Nat → Prop} {w : World} {l : List PD} {a : Option Addr} (h : PDs S w l a) : PDs (· < w.heap.size) w l a := by
 rcases h with h | ⟨b, o, h1, h2, h3⟩
 · exact Or.inl h
 · cases l with
   | nil => exact Or.inl rfl
   | cons v r =>
    obtain ⟨pa, pc, ba, bc, r1, -, -⟩ := h3 0 v rfl; refine Or.inr ⟨b, o, h1, cell_lt (Row.at0 r1 rfl), fun i x hx => ?_⟩; obtain ⟨pa, pc, ba, bc, r1, r2, r3⟩ := h3 i x hx
    exact ⟨pa, pc, ba, bc, r1, r2.lt, sits_lt _ _ r3⟩
theorem PG.sits.lt {S : Nat → Prop} {w : World} {g : PG} {va pa ma : Option Addr} (h : g.sits S w va pa ma) : g.sits (· < w.heap.size) w va pa ma := ⟨h.vars.lt, h.procs.lt, sits_lt _ _ h.main⟩
theorem TB.fb {w w' : World} {k B b : Nat} {vs : List Value} {T : TypeId} (h : TB w k vs T) (x : Fb B b w w') (hb : k ≠ b) (hT : T ≠ 5) : TB w' k vs T :=
 (Box.fb (cs := vs.toArray) ⟨h⟩ x hb hT).heap
end Bk
namespace Bk
open Go Go.RowKit Go.Proofs
attribute [local irreducible] Go.Calls
end Bk
namespace Bk
open Go
theorem name_wf {m : List UInt8} (h : isName m = true) : m.length ≤ 16 := by
 simp only [isName, Bool.and_eq_true, decide_eq_true_eq] at h
 exact h.1.1.1.2
theorem G.wf {nt : Nt} {a : Txt} {x : Nd} (h : G nt a x) : match nt with
 | .cl _ y => y.wf → x.wf
 | _ => x.wf := by
 induction h with
 | ex _ _ i1 i2 => exact i2 i1
 | cl0 => exact fun h => h
 | @cl1 lv op t a b x y z h1 h2 h3 h4 h5 i3 i5 =>
  intro hx; obtain ⟨-, h8, h23, -⟩ := binOf_ne h1; refine i5 ?_
  exact ⟨by omega, by omega, by omega, by omega, by simp, by simp, hx, i3, trivial⟩
 | neg _ i => exact ⟨by omega, by omega, by omega, by omega, by simp, by simp, i, trivial⟩
 | not _ i => exact ⟨by omega, by omega, by omega, by omega, by simp, by simp, i, trivial⟩
 | num h1 h2 => exact ⟨by omega, by omega, by omega, by omega, by simp, by simp, trivial⟩
 | top h => have := name_wf h; exact ⟨by omega, by omega, by omega, by omega, by omega, by simp, trivial⟩
 | size h => have := name_wf h; exact ⟨by omega, by omega, by omega, by omega, by omega, by simp, trivial⟩
 | par _ i => exact i
 | place _ i => exact i
 | var h => have := name_wf h; exact ⟨by omega, by omega, by omega, by omega, by omega, by simp, trivial⟩
 | item h _ i => have := name_wf h; exact ⟨by omega, by omega, by omega, by omega, by omega, by simp, i, trivial⟩
theorem row_var_wf (l : Txt) (h : ∀ v ∈ l, isName v = true) : rowWf (l.map varN) := by
 induction l with
 | nil => trivial
 | cons v r ih =>
  have := name_wf (h v (by simp))
  exact ⟨⟨by omega, by omega, by omega, by omega, by omega, by simp, trivial⟩, ih (fun u hu => h u (by simp [hu]))⟩
theorem upd_range (t : List UInt8) : 0 ≤ updKind t ∧ updKind t ≤ 255 := by
 unfold updKind
 split
 · decide
 split
 · decide
 split
 · decide
 split
 · decide
 · decide
theorem GS.wf {nt : NtS} {a : Txt} {l : List Nd} (h : GS nt a l) (ha : a.length ≤ 9223372036854775807) : match nt with
 | .ls => rowWf l ∧ l.length ≤ a.length
 | _ => rowWf l := by
 induction h with
 | stack h1 h2 h3 =>
  have := name_wf h3; have v := h2.wf; simp only [stackKw, List.mem_cons, Prod.mk.injEq, List.not_mem_nil, or_false] at h1
  rcases h1 with ⟨-, rfl⟩ | ⟨-, rfl⟩ <;> exact ⟨⟨by omega, by omega, by omega, by omega, by omega, by simp, v, trivial⟩, trivial⟩
 | tape h1 h2 =>
  have v := h2.wf; simp only [tapeKw, List.mem_cons, Prod.mk.injEq, List.not_mem_nil, or_false] at h1
  rcases h1 with ⟨-, rfl⟩ | ⟨-, rfl⟩ | ⟨-, rfl⟩ | ⟨-, rfl⟩ <;> exact ⟨⟨by omega, by omega, by omega, by omega, by simp, by simp, v, trivial⟩, trivial⟩
 | call0 h1 h2 =>
  have := name_wf h2; simp only [callKw, List.mem_cons, Prod.mk.injEq, List.not_mem_nil, or_false] at h1
  rcases h1 with ⟨-, rfl⟩ | ⟨-, rfl⟩ <;> exact ⟨⟨by omega, by omega, by omega, by omega, by omega, by simp, trivial⟩, trivial⟩
 | @call1 kw m u kd l h1 h2 h3 h4 h5 =>
  have := name_wf h2; have v := row_var_wf (u :: l) (fun v hv => by rcases List.mem_cons.1 hv with rfl | hv; exact h3; exact h4 v hv)
  have hl : ((u :: l).map varN).length ≤ 9223372036854775807 := by simp only [List.length_map, List.length_cons]; omega
  simp only [callKw, List.mem_cons, Prod.mk.injEq, List.not_mem_nil, or_false] at h1
  rcases h1 with ⟨-, rfl⟩ | ⟨-, rfl⟩ <;> exact ⟨⟨by omega, by omega, by omega, by omega, by omega, hl, v⟩, trivial⟩
 | branch h1 h2 h3 h4 h5 i3 i4 =>
  simp only [List.length_cons, List.length_append] at ha; have v2 := h2.wf; have v5 := h5.wf; have v3 := (i3 (by omega)).1; have v4 := (i4 (by omega)).1; simp only [branchKw, List.mem_cons, Prod.mk.injEq, List.not_mem_nil, or_false] at h1
  rcases h1 with ⟨-, rfl, -⟩ | ⟨-, rfl, -⟩ <;> exact ⟨⟨by omega, by omega, by omega, by omega, by simp, by simp, v2, v3, v4, v5, trivial⟩, trivial⟩
 | lstack h1 h2 i2 =>
  simp only [List.length_cons] at ha; have := name_wf h1
  exact ⟨⟨by omega, by omega, by omega, by omega, by omega, by simp, (i2 (by omega)).1, trivial⟩, trivial⟩
 | local_ h1 h2 h3 h4 i3 =>
  simp only [List.length_cons, List.length_append] at ha; have := name_wf h1
  exact ⟨⟨by omega, by omega, by omega, by omega, by omega, by simp, h2.wf, (i3 (by omega)).1, h4.wf, trivial⟩, trivial⟩
 | @upd t a b x y h1 h2 h3 => exact ⟨⟨(upd_range t).1, (upd_range t).2, by omega, by omega, by simp, by simp, h1.wf, h3.wf, trivial⟩, trivial⟩
 | swap h1 h2 => exact ⟨⟨by omega, by omega, by omega, by omega, by simp, by simp, h1.wf, h2.wf, trivial⟩, trivial⟩
 | bl h1 i1 =>
  simp only [List.length_cons, List.length_append, List.length_nil] at ha; obtain ⟨v, hl⟩ := i1 (by omega)
  exact ⟨⟨by omega, by omega, by omega, by omega, by simp, by omega, v⟩, trivial⟩
 | ls0 => exact ⟨trivial, Nat.le_refl _⟩
 | ls1 h1 h2 i1 i2 =>
  simp only [List.length_cons, List.length_append] at ha; obtain ⟨v, hl⟩ := i2 (by omega); refine ⟨⟨(i1 (by omega)).1, v⟩, ?_⟩
  simp only [List.length_cons, List.length_append]; omega
section
variable {ts : List Tok} {n : Int}
end
end Bk
namespace Bk
open Go
section
variable {ts : List Tok} {n : Int}
end
theorem GV.len {a : Txt} {v : VD} (h : GV a v) (hd : DigT a) : v.text.length + 2 ≤ 32 * wt a := by
 cases h with
 | @int m hm => simp only [VD.text, if_true, wt, List.length_append, List.length_cons, List.length_nil]; omega
 | @stack m hm => simp only [VD.text, wt]; simp; omega
 | @array m t hm ht h1 h2 =>
  have hdg := hd t (by simp) ht
  have hne : t ≠ [] := by rintro rfl; simp [startsDigit] at ht
  have := num_len hne hdg; simp only [VD.text, wt]; rw [itoa_dec (by omega), Int.toNat_natCast]
  simp
  omega
theorem GVs.len {a : Txt} {l : List VD} (h : GVs a l) : DigT a → (cat VD.line l).length ≤ 32 * wt a := by
 induction h with
 | nil => intro _; simp [cat]
 | @cons a b v l hv hl ih =>
  intro hd; have h1 := hv.len hd.app.1; have h2 := ih hd.app.2
  have e : cat VD.line (v :: l) = VD.line v ++ cat VD.line l := by simp [cat]
  rw [e, wt_append]; simp only [VD.line, List.length_append, List.length_cons, List.length_nil]
  omega
theorem GC.len {a : Txt} {l : List VD} (h : GC a l) : DigT a → (commas VD.text false l).length ≤ 32 * wt a := by
 induction h with
 | nil => intro _; simp [commas]
 | @cons a b v l hv hl ih =>
  intro hd; have h1 := hv.len hd.tl.app.1; have h2 := ih hd.tl.app.2; simp only [commas, Bool.false_eq_true, if_false, wt, wt_append, List.length_append, List.length_cons, List.length_nil]
  omega
theorem bl_len {b : Txt} {x : Nd} (h : GS .bl b [x]) (hd : DigT b) (hw : x.wf) (hx : x.depth ≤ 80) : (x.linesT 1).length + 4 ≤ 32 * wt b := by
 have := h.len hd ⟨hw, trivial⟩; simp only [LenS] at this; have := (this 0 x rfl (by omega)).1
 omega
theorem GPr.len {a : Txt} {p : PD} (h : GPr a p) (hd : DigT a) (hw : p.wf) (hx : p.body.depth ≤ 80) : p.text.length ≤ 32 * wt a := by
 cases h with
 | @p0 m b x hm hb =>
  have := bl_len hb hd.tl.tl.tl.tl hw.body hx; simp only [PD.text, commas, wt, List.length_append, List.length_cons, List.length_nil]
  omega
 | @p1 m a c b v l x hm hv hc hb =>
  have hd1 := hd.tl.tl.tl.app; have hd2 := hd1.2.app; have h1 := hv.len hd1.1; have h2 := hc.len hd2.1; have h3 := bl_len hb hd2.2.tl hw.body hx; simp only [PD.text, commas, wt, wt_append, if_true, List.length_append, List.length_cons, List.length_nil]
  omega
theorem GPs.len {a : Txt} {l : List PD} (h : GPs a l) : DigT a → (∀ p ∈ l, p.wf ∧ p.body.depth ≤ 80) → (cat PD.text l).length ≤ 32 * wt a := by
 induction h with
 | nil => intro _ _; simp [cat]
 | @cons a b p l hp hl ih =>
  intro hd hw; obtain ⟨w1, w2⟩ := hw p (by simp); have h1 := hp.len hd.app.1 w1 w2; have h2 := ih hd.app.2 (fun q hq => hw q (by simp [hq]))
  have e : cat PD.text (p :: l) = PD.text p ++ cat PD.text l := by simp [cat]
  rw [e, wt_append, List.length_append]
  omega
theorem GPG.len {a : Txt} {g : PG} (h : GPG a g) (hd : DigT a) (hw : g.wf) (hp : ∀ p ∈ g.procs, p.body.depth ≤ 80) (hm : g.main.depth ≤ 80) : g.text.length ≤ 32 * wt a := by
 cases h with
 | @mk a b c vs ps x hv hps hx =>
  have hd2 := hd.app.2.app; have h1 := hv.len hd.app.1; have h2 := hps.len hd2.1 (fun p hpm => ⟨hw.procs p hpm, hp p hpm⟩); have h3 := bl_len hx hd2.2.tl hw.main hm; simp only [PG.text, wt, wt_append, List.length_append, List.length_cons, List.length_nil] at h3 ⊢
  omega
end Bk
namespace Bk
open Go Go.RowKit Go.Proofs
attribute [local irreducible] Go.Calls
end Bk
namespace Bk
open Go Go.RowKit Go.Proofs
def AllB : Nat → Prop := fun _ => True
theorem row_build (W : World) (b o : Nat) : ∀ (len i0 : Nat), (∀ i, i < len → ∃ (t : Nd) (a' : Option Addr) (c' : Nat), t.wf ∧ W.cell? ⟨b, o + (i0 + i) * 4, none⟩ = some (.int .u8 t.kind) ∧ W.cell? ⟨b, o + (i0 + i) * 4 + 1, none⟩ = some (.int .i64 t.num) ∧ W.cell? ⟨b, o + (i0 + i) * 4 + 2, none⟩ = some (str t.name) ∧ W.cell? ⟨b, o + (i0 + i) * 4 + 3, none⟩ = some (.slice a' t.kids.length c') ∧ t.sits AllB W a') →
 ∃ l : List Nd, l.length = len ∧ rowWf l ∧ rowSits AllB W l (some ⟨b, o + i0 * 4, none⟩)
 | 0, _, _ => ⟨[], rfl, by simp [rowWf], by simp [rowSits]⟩
 | len + 1, i0, h => by
  obtain ⟨l, hl, hw, hs⟩ := row_build W b o len (i0 + 1) (fun i hi => by
   have := h (i + 1) (by omega)
   rwa [show i0 + (i + 1) = i0 + 1 + i from by omega] at this)
  obtain ⟨t, a', c', hwf, h0, h1, h2, h3, hsk⟩ := h 0 (by omega); rw [Nat.add_zero] at h0 h1 h2 h3; refine ⟨t :: l, by simp [hl], by simp [rowWf, hwf, hw], ?_⟩; simp only [rowSits]; refine ⟨b, o + i0 * 4, a', c', rfl, trivial, h0, h1, h2, h3, hsk, ?_⟩
  rwa [show o + i0 * 4 + 4 = o + (i0 + 1) * 4 from by omega]
theorem cells4 {W : World} {a : Addr} {cs : List Value} (h : W.cells? 0 a 4 = some cs) : ∃ c0 c1 c2 c3, cs = [c0, c1, c2, c3] ∧ W.cell? (a.add 0) = some c0 ∧ W.cell? (a.add 1) = some c1 ∧ W.cell? (a.add 2) = some c2 ∧ W.cell? (a.add 3) = some c3 := by
 unfold World.cells? at h
 rw [if_pos (Nat.zero_le _)] at h; rw [show List.range 4 = [0, 1, 2, 3] from rfl] at h
 cases e0 : W.cell? (a.add 0) <;> simp [e0] at h
 cases e1 : W.cell? (a.add 1) <;> simp [e1] at h
 cases e2 : W.cell? (a.add 2) <;> simp [e2] at h
 cases e3 : W.cell? (a.add 3) <;> simp [e3] at h
 exact ⟨_, _, _, _, h.symm, rfl, rfl, rfl, rfl⟩
theorem addr_add2 (b o n m : Nat) : ((⟨b, o, none⟩ : Addr).add n).add m = ⟨b, o + n + m, none⟩ := by
 unfold Addr.add
 by_cases hn : n = 0 <;> by_cases hm : m = 0 <;> simp [hn, hm]
theorem cellsNode : Tryz.prog.cellsOf 24 = 4 := by kernel_rfl
theorem cells5 : Tryz.prog.cellsOf 5 = 1 := by kernel_rfl
theorem cells3 : Tryz.prog.cellsOf 3 = 1 := by kernel_rfl
theorem cells9 : Tryz.prog.cellsOf 9 = 1 := by kernel_rfl
theorem cells22 : Tryz.prog.cellsOf 22 = 1 := by kernel_rfl
theorem node_of_trod {H : Type} (enc : TypeId × Value → H) (W : World) (sp : Nat → Bool) (N : Nat) : ∀ (fuel : Nat), fuel < N → ∀ (cs : List Value) (x : DataW H × List MemPlace), DataW.trod enc Tryz.prog W 0 sp true fuel 24 cs = some x →
 ∃ (t : Nd) (a : Option Addr) (c : Nat), cs = [.int .u8 t.kind, .int .i64 t.num, str t.name, .slice a t.kids.length c] ∧ t.wf ∧ t.sits AllB W a := by
 induction N with
 | zero => intro fuel h; omega
 | succ N ih =>
  intro fuel hN cs x h; obtain ⟨xs, n, rfl, -, hl, hlen, hf⟩ := DataW.trod_struct Tryz.underlying24 h; rw [cellsNode] at hl
  obtain ⟨c0, c1, c2, c3, rfl⟩ : ∃ c0 c1 c2 c3, cs = [c0, c1, c2, c3] := by
   rcases cs with _ | ⟨c0, _ | ⟨c1, _ | ⟨c2, _ | ⟨c3, _ | ⟨c4, cs⟩⟩⟩⟩⟩
   · simp at hl
   · simp at hl
   · simp at hl
   · simp at hl
   · exact ⟨_, _, _, _, rfl⟩
   · simp at hl
  obtain ⟨y0, y1, y2, y3, rfl⟩ : ∃ y0 y1 y2 y3, xs = [y0, y1, y2, y3] := by
   have hlen' : xs.length = 4 := hlen
   rcases xs with _ | ⟨c0, _ | ⟨c1, _ | ⟨c2, _ | ⟨c3, _ | ⟨c4, cs⟩⟩⟩⟩⟩
   · simp at hlen'
   · simp at hlen'
   · simp at hlen'
   · simp at hlen'
   · exact ⟨_, _, _, _, rfl⟩
   · simp at hlen'
  · have f0 : DataW.trod enc Tryz.prog W 0 sp true n 5 (([c0, c1, c2, c3].drop 0).take (Tryz.prog.cellsOf 5)) = some y0 := hf 0 _ rfl
    have f1 : DataW.trod enc Tryz.prog W 0 sp true n 3 (([c0, c1, c2, c3].drop 1).take (Tryz.prog.cellsOf 3)) = some y1 := hf 1 _ rfl; have f2 : DataW.trod enc Tryz.prog W 0 sp true n 9 (([c0, c1, c2, c3].drop 2).take (Tryz.prog.cellsOf 9)) = some y2 := hf 2 _ rfl; have f3 : DataW.trod enc Tryz.prog W 0 sp true n 22 (([c0, c1, c2, c3].drop 3).take (Tryz.prog.cellsOf 22)) = some y3 := hf 3 _ rfl; simp only [cells5, cells3, cells9, cells22, List.drop_zero, List.drop_succ_cons, List.take_succ_cons, List.take_zero] at f0 f1 f2 f3; obtain ⟨k, hk, -, wk⟩ := DataW.trod_int uByte f0; obtain ⟨m, hm, -, wm⟩ := DataW.trod_int Tryz.underlying3 f1; obtain ⟨s, hs, -, ws⟩ := DataW.trod_string underStr f2; simp only [List.cons.injEq, and_true] at hk hm hs; subst hk hm hs
    have wk' : 0 ≤ k ∧ k ≤ 255 := by simpa [Lit.wf, IntKind.min, IntKind.max, IntKind.signed, IntKind.bits] using wk
    have wm' : -9223372036854775808 ≤ m ∧ m ≤ 9223372036854775807 := by simpa [Lit.wf, IntKind.min, IntKind.max, IntKind.signed, IntKind.bits] using wm
    have ws' : s.data.toList.length ≤ 9223372036854775807 := by
     have : s.data.toList.length = s.size := by rw [Array.length_toList]; rfl
     unfold maxLen at ws; omega
    rcases DataW.trod_slice Tryz.underlying22 f3 with ⟨hc, -⟩ | ⟨a, len, cap, elems, rest, n', hn', hc, -, -, hle, hcm, hel, hE, -⟩
    · simp only [List.cons.injEq, and_true] at hc
      subst hc
      exact ⟨.mk k m s.data.toList [], none, 0, rfl, ⟨wk'.1, wk'.2, wm'.1, wm'.2, ws', by simp, by simp [rowWf]⟩, by simp [Nd.sits, rowSits]⟩
    · simp only [List.cons.injEq, and_true] at hc
      subst hc; rw [cellsNode] at hE
      rcases Nat.eq_zero_or_pos len with h0 | hpos
      · subst h0
        exact ⟨.mk k m s.data.toList [], some a, cap, rfl, ⟨wk'.1, wk'.2, wm'.1, wm'.2, ws', by simp, by simp [rowWf]⟩, by simp [Nd.sits, rowSits]⟩
      · have step : ∀ i, i < len → ∃ (t : Nd) (a' : Option Addr) (c' : Nat), t.wf ∧ W.cell? ((a.add (i * 4)).add 0) = some (.int .u8 t.kind) ∧ W.cell? ((a.add (i * 4)).add 1) = some (.int .i64 t.num) ∧ W.cell? ((a.add (i * 4)).add 2) = some (str t.name) ∧ W.cell? ((a.add (i * 4)).add 3) = some (.slice a' t.kids.length c') ∧ t.sits AllB W a' := by
         intro i hi; have hEi := hE i hi
         cases hc4 : W.cells? 0 (a.add (i * 4)) 4 with
         | none =>
          rw [hc4] at hEi; have hh : elems[i]? = some elems[i] := List.getElem?_eq_getElem (by omega); rw [hh] at hEi
          simp at hEi
         | some cs4 =>
          rw [hc4, List.getElem?_eq_getElem (by omega)] at hEi; obtain ⟨d0, d1, d2, d3, rfl, e0, e1, e2, e3⟩ := cells4 hc4; obtain ⟨t, a', c', hcs, hw, hs⟩ := ih n' (by omega) _ _ hEi; simp only [List.cons.injEq, and_true] at hcs; obtain ⟨rfl, rfl, rfl, rfl⟩ := hcs
          exact ⟨t, a', c', hw, e0, e1, e2, e3, hs⟩
        obtain ⟨b, o, spot⟩ := a
        have hspot : spot = none := by
         obtain ⟨t, a', c', -, e0, -⟩ := step 0 hpos; simp only [Nat.zero_mul, Addr.add, if_true] at e0
         unfold World.cell? at e0
         cases spot with
         | none => rfl
         | some q => simp at e0; split at e0 <;> simp at e0
        subst hspot
        obtain ⟨l, hl', hw', hs'⟩ := row_build W b o len 0 (fun i hi => by
         obtain ⟨t, a', c', hw, e0, e1, e2, e3, hs⟩ := step i hi; rw [addr_add2] at e0 e1 e2 e3; rw [Nat.zero_add]
         exact ⟨t, a', c', hw, e0, e1, e2, e3, hs⟩)
        subst hl'; refine ⟨.mk k m s.data.toList l, some ⟨b, o, none⟩, cap, rfl, ⟨wk'.1, wk'.2, wm'.1, wm'.2, ws', by unfold maxLen at hcm; omega, hw'⟩, ?_⟩
        simpa [Nd.sits] using hs'
end Bk
namespace Bk
open Go Go.RowKit Go.Proofs
section
variable {H : Type} (enc : TypeId × Value → H) (W : World) (sp : Nat → Bool)
end
end Bk
namespace Bk
open Go Go.RowKit Go.Proofs
theorem PrinterBlocksRound_d (t : Nd) (a : Option Addr) (c : Nat) (u : Nd) (a' : Option Addr) (c' : Nat) (w : World) (hwf : t.wf) (hs : t.sits AllB w a) (hwf' : u.wf) (hs' : u.sits AllB w a') (hT : Tabs5 w ∧ Syms w) (hE : Errs w) :
 Calls Tryz.prog 5 #[t.val a c, u.val a' c'] w fun e w' => e = .returned (.bool true) ∧ Ext w w' := PrinterBlocksRound_c t a c u a' c' w hwf AllB hs hwf' AllB hs' hT hE
end Bk
namespace Bk
open Go Go.RowKit Go.Proofs Go.Lib
theorem cells_of_strs {H : Type} {enc : TypeId × Value → H} {P : Program} {w : World} {base : Nat} {sp : Nat → Bool} {held : Bool} {fuel : Nat} {t e : TypeId} {n : Nat} {cs : List Value} {zs : List (List UInt8)} {p : List MemPlace}
 (ht : P.underlying t = some (.array n e)) (he : P.underlying e = some .string) (hce : P.cellsOf e = 1) (hct : P.cellsOf t = n)
 (h : DataW.trod enc P w base sp held fuel t cs = some (.agg (zs.map fun z => .lit (.string z)), p)) : cs = zs.map str := by
 cases fuel with
 | zero => simp [DataW.trod] at h
 | succ fuel =>
  simp only [DataW.trod, ht, hce, hct, Nat.mul_one] at h
  split at h
  · rename_i hl
    obtain ⟨xs, hm, hx⟩ := Option.map_eq_some_iff.1 h
    have hxs : xs.map (·.1) = zs.map fun z => (DataW.lit (.string z) : DataW H) := by
     have := congrArg Prod.fst hx
     simpa using this
    have hxl : xs.length = n := by simpa using mapM_length hm
    have hzl : zs.length = n := by
     have := congrArg List.length hxs
     simp at this
     omega
    apply List.ext_getElem?
    intro i
    by_cases hi : i < n
    · obtain ⟨b, hb, hf⟩ := mapM_at hm i i (by simp [hi])
      obtain ⟨z, hc, rfl, _⟩ := DataW.trod_string he hf
      have h1 : cs[i]? = some (.string z) := by
       have := congrArg (·[0]?) hc
       simpa [List.getElem?_take, List.getElem?_drop] using this
      have h2 : (xs.map (·.1))[i]? = some (DataW.lit (.string z.data.toList) : DataW H) := by simp [hb]
      rw [hxs] at h2; simp only [List.getElem?_map, Option.map_eq_some_iff, DataW.lit.injEq, Lit.string.injEq] at h2; obtain ⟨z', hz', rfl⟩ := h2
      simp [h1, hz']
    · rw [List.getElem?_eq_none (by omega), List.getElem?_eq_none (by simp; omega)]
  · cases h
end Bk
namespace Bk
open Go Go.RowKit Go.Proofs Go.Lib
theorem gSym4 : Tryz.prog.globalNamed "backstep/arith.symbols" = some 0 := by kernel_rfl
theorem gSymT4 : (Tryz.prog.globals[0]?).map (·.type) = some 111 := by kernel_rfl
theorem uSymT4 : Tryz.prog.underlying 111 = some (.array 43 9) := by kernel_rfl
theorem cSymT4 : Tryz.prog.cellsOf 111 = 43 := by kernel_rfl
theorem uStr4 : Tryz.prog.underlying 9 = some .string := by kernel_rfl
theorem cStr4 : Tryz.prog.cellsOf 9 = 1 := by kernel_rfl
theorem gErr4 : Tryz.prog.globalNamed "strconv.ErrRange" = some 4 := by kernel_rfl
theorem gErrT4 : (Tryz.prog.globals[4]?).map (·.type) = some 105 := by kernel_rfl
theorem uErr4 : ∃ ms, Tryz.prog.underlying 105 = some (.interface ms) := ⟨_, Tryz.underlying105⟩
theorem symData4 : (YtajjbkcpgfgbiaaGreatDoor.Rows.laid_backstep_arith_symbols : DataW Unit) = .agg (symbols.map fun z => .lit (.string z)) := rfl
abbrev laid4 : List (String × DataW Unit) := [("backstep/arith.symbols", YtajjbkcpgfgbiaaGreatDoor.Rows.laid_backstep_arith_symbols), ("math/bits.deBruijn32tab", YtajjbkcpgfgbiaaGreatDoor.Rows.laid_math_bits_deBruijn32tab), ("math/bits.deBruijn64tab", YtajjbkcpgfgbiaaGreatDoor.Rows.laid_math_bits_deBruijn64tab), ("internal/strconv.uint64pow10", YtajjbkcpgfgbiaaGreatDoor.Rows.laid_internal_strconv_uint64pow10), ("strconv.ErrRange", YtajjbkcpgfgbiaaGreatDoor.Rows.laid_strconv_ErrRange), ("strconv.ErrSyntax", YtajjbkcpgfgbiaaGreatDoor.Rows.laid_strconv_ErrSyntax)]
theorem syms_of_laid {W : World} (h : laidMetH Tryz.prog laid4 W) : Syms W ∧ Errs W := by
 have h' : laidMet Tryz.prog laid4 W := h; obtain ⟨ps, ⟨g1, t1, cs1, f1, p1, q1, hg1, ht1, hv1, hd1, ⟨g2, t2, cs2, f2, p2, q2, hg2, ht2, hv2, hd2, ⟨g3, t3, cs3, f3, p3, q3, hg3, ht3, hv3, hd3, ⟨g4, t4, cs4, f4, p4, q4, hg4, ht4, hv4, hd4, ⟨g5, t5, cs5, f5, p5, q5, hg5, ht5, hv5, hd5, -, -⟩, -⟩, -⟩, -⟩, -⟩, -⟩ := h'; obtain rfl := Option.some.inj (gSym4.symm.trans hg1); obtain rfl := Option.some.inj (gSymT4.symm.trans ht1); obtain rfl := Option.some.inj (gErr4.symm.trans hg5); obtain rfl := Option.some.inj (gErrT4.symm.trans ht5); rw [symData4] at hd1; have e1 := cells_of_strs uSymT4 uStr4 cStr4 cSymT4 hd1; refine ⟨⟨fun i hi => ?_⟩, ?_⟩
 · rw [World.var?_cell gSym4 hv1 i, ← Array.getElem?_toList, e1, List.getElem?_map]
   have : symbols[i]? = some (symbols.getD i []) := by
    rw [List.getD_eq_getElem?_getD, List.getElem?_eq_getElem (show i < symbols.length from hi)]; rfl
   rw [this]; rfl
 · obtain ⟨ms, hu⟩ := uErr4
   obtain ⟨f, u, v, hc, -, -⟩ := iface_of_trod hu hd5; refine ⟨⟨u, v, ?_⟩⟩; rw [World.var?_cell gErr4 hv5 0, ← Array.getElem?_toList, hc]
   rfl
end Bk
namespace Bk
open Go Go.RowKit Go.Proofs Go.Lib
theorem gPow5 : Tryz.prog.globalNamed "internal/strconv.uint64pow10" = some 1 := by kernel_rfl
theorem gPowT5 : (Tryz.prog.globals[1]?).map (·.type) = some 135 := by kernel_rfl
theorem uPowT5 : Tryz.prog.underlying 135 = some (.array 20 127) := by kernel_rfl
theorem uU645 : Tryz.prog.underlying 127 = some (.int .u64) := by kernel_rfl
theorem cU645 : Tryz.prog.cellsOf 127 = 1 := by kernel_rfl
theorem cPowT5 : Tryz.prog.cellsOf 135 = 20 := by kernel_rfl
theorem powData5 : (YtajjbkcpgfgbiaaGreatDoor.Rows.laid_internal_strconv_uint64pow10 : DataW Unit) = tabData .u64 pow10Tab := rfl
theorem heap5_of_laid {W : World} (h : laidMetH Tryz.prog laid4 W) : Tryz.prog.globals.size ≤ W.heap.size := by
 have h' : laidMet Tryz.prog laid4 W := h; obtain ⟨ps, ⟨g1, t1, cs1, f1, p1, q1, hg1, ht1, hv1, hd1, ⟨g2, t2, cs2, f2, p2, q2, hg2, ht2, hv2, hd2, ⟨g3, t3, cs3, f3, p3, q3, hg3, ht3, hv3, hd3, -, -⟩, -⟩, -⟩, -⟩ := h'
 have hg : Tryz.prog.globalNamed "math/bits.deBruijn64tab" = some 6 := by kernel_rfl
 have hn : Tryz.prog.globals.size ≤ 6 + 1 := of_decide_eq_true (by kernel_rfl); obtain rfl := Option.some.inj (hg.symm.trans hg3)
 rcases Nat.lt_or_ge 6 W.heap.size with hlt | hge
 · omega
 · unfold World.var? at hv3
   rw [hg] at hv3
   simp [Array.getElem?_eq_none hge] at hv3
theorem tabs5_of_laid {W : World} (h : laidMetH Tryz.prog laid4 W) : (Tabs5 W ∧ Syms W) ∧ Errs W := by
 obtain ⟨hS, hE⟩ := syms_of_laid h; have hg := heap5_of_laid h; have h' : laidMet Tryz.prog laid4 W := h; obtain ⟨ps, ⟨g1, t1, cs1, f1, p1, q1, hg1, ht1, hv1, hd1, ⟨g2, t2, cs2, f2, p2, q2, hg2, ht2, hv2, hd2, ⟨g3, t3, cs3, f3, p3, q3, hg3, ht3, hv3, hd3, ⟨g4, t4, cs4, f4, p4, q4, hg4, ht4, hv4, hd4, -, -⟩, -⟩, -⟩, -⟩, -⟩ := h'; obtain rfl := Option.some.inj (gPow5.symm.trans hg4); obtain rfl := Option.some.inj (gPowT5.symm.trans ht4); rw [powData5] at hd4; have e4 := cells_of_tab uPowT5 uU645 cU645 cPowT5 hd4; refine ⟨⟨⟨⟨hS.sym, ?_⟩, hg⟩, hS⟩, hE⟩
 unfold TabIs
 rw [hv4, ← e4]
end Bk
