/- Contracts of the printer's decl and Program. -/
import Derived.Test.YtkadkafapjhhkaaDoorSpecP
import Derived.Test.YtkadkafapjhhkaaDoorPBlock3
namespace Bk
open Go Go.RowKit Go.Proofs
theorem Row.below {B : Nat} {w w' : World} {p : Addr} {vs : List Value} (h : Row w p vs) (x : Below B w w') (hb : p.block < B) : Row w' p vs := fun i v hi => by
  rw [Below.cell x (by rw [add_block]; exact hb)]; exact h i v hi
theorem VDs.below {B : Nat} {w w' : World} {l : List VD} {a : Option Addr} (h : VDs (· < B) w l a) (x : Below B w w') : VDs (· < B) w' l a := h.mono (fun _ h => h) (fun _ _ _ _ hb h => Row.below h x hb)
theorem sits.below {B : Nat} {w w' : World} {t : Nd} {a : Option Addr} (h : t.sits (· < B) w a) (x : Below B w w') : t.sits (· < B) w' a :=
  Nd.sits_mono (fun _ h => h) (fun b o _ hb hc => (Below.cell (p := ⟨b, o, none⟩) x hb).trans hc) t a h
theorem PDs.below {B : Nat} {w w' : World} {l : List PD} {a : Option Addr} (h : PDs (· < B) w l a) (x : Below B w w') : PDs (· < B) w' l a :=
  h.mono (fun _ h => h) (fun _ _ _ _ hb ⟨pa, pc, ba, bc, h1, h2, h3⟩ => ⟨pa, pc, ba, bc, Row.below h1 x hb, h2.below x, sits.below h3 x⟩)
theorem PG.sits.below {B : Nat} {w w' : World} {g : PG} {va pa ma : Option Addr} (h : g.sits (· < B) w va pa ma) (x : Below B w w') : g.sits (· < B) w' va pa ma := ⟨h.vars.below x, h.procs.below x, Bk.sits.below h.main x⟩
theorem VDs.lt {S : Nat → Prop} {w : World} {l : List VD} {a : Option Addr} (h : VDs S w l a) : VDs (· < w.heap.size) w l a := by
  rcases h with h | ⟨b, o, h1, h2, h3⟩
  · exact Or.inl h
  · cases l with
    | nil => exact Or.inl rfl
    | cons v r => exact Or.inr ⟨b, o, h1, cell_lt (Row.at0 (h3 0 v rfl) rfl), h3⟩
theorem PDs.lt {S : Nat → Prop} {w : World} {l : List PD} {a : Option Addr} (h : PDs S w l a) : PDs (· < w.heap.size) w l a := by
  rcases h with h | ⟨b, o, h1, h2, h3⟩
  · exact Or.inl h
  · cases l with
    | nil => exact Or.inl rfl
    | cons v r =>
      obtain ⟨pa, pc, ba, bc, r1, -, -⟩ := h3 0 v rfl
      refine Or.inr ⟨b, o, h1, cell_lt (Row.at0 r1 rfl), fun i x hx => ?_⟩
      obtain ⟨pa, pc, ba, bc, r1, r2, r3⟩ := h3 i x hx
      exact ⟨pa, pc, ba, bc, r1, r2.lt, sits_lt _ _ r3⟩
theorem PG.sits.lt {S : Nat → Prop} {w : World} {g : PG} {va pa ma : Option Addr} (h : g.sits S w va pa ma) : g.sits (· < w.heap.size) w va pa ma := ⟨h.vars.lt, h.procs.lt, sits_lt _ _ h.main⟩
theorem TB.fb {w w' : World} {k B b : Nat} {vs : List Value} {T : TypeId} (h : TB w k vs T) (x : Fb B b w w') (hb : k ≠ b) (hT : T ≠ 5) : TB w' k vs T :=
  (Box.fb (cs := vs.toArray) ⟨h⟩ x hb hT).heap
theorem Bld.ofTB {w : World} {B b : Nat} (h : TB w b [.pointer none, .slice none 0 0] 50) (hB : B ≤ b) : Bld B b [] w :=
  ⟨.inl ⟨hB, .slice none 0 0, h, ⟨rfl, .inl ⟨rfl, rfl⟩⟩, by simp [Value.ownBlock]⟩, by have := h.blk.lt; omega⟩
set_option maxRecDepth 100000 in
set_option maxHeartbeats 1000000 in
theorem decl_c (v : VD) (hok : v.ok = true) (B b : Nat) (l : List UInt8) (w : World) (h : Bld B b l w) (ht : Tabs w) (hg : Tryd.prog.globals.size ≤ B) (hlen : l.length + v.text.length ≤ 140737488355328) :
    Calls Tryd.prog 36 #[.pointer (some ⟨b, 0, none⟩), v.val] w fun e w' => e = .returned (.tuple #[]) ∧ Bld B b (l ++ v.text) w' ∧ Fb B b w w' := by
  have hle := h.le
  simp only [VD.ok, Bool.and_eq_true] at hok
  have h2 := hok.2
  refine calls_in Tryd.func36 Tryd.ntmps36 rfl rfl ?_
  (refine cw_seq ?_; refine cw_region ?_)
  refine lw_boxT rfl rfl rfl ?_
  intro b1 w1 hn1 t1
  have h1 := hn1.blk
  have x1 := hn1.ext
  have hb1 := h.ext x1
  by_cases c1 : v.kind = 1
  · have htx : v.text = [105, 110, 116, 32] ++ v.name := by simp [VD.text, c1]
    rw [htx] at hlen ⊢
    (refine lw_nil ?_; refine qw_then ?_; refine cw_seq ?_; refine cw_region ?_; (refine lw_is ?_; refine lw_pure (by exact pur_fieldAddr tabOk rfl rfl rfl) rfl ?_); (refine lw_is ?_; refine lw_pure (by exact pur_load tabOk rfl rfl rfl (by exact fun wz hz => by (try subst hz); exact (Blk.cell (by assumption) (by rfl)))) rfl ?_); refine lw_nil ?_; refine qw_then ?_; refine cw_block ?_; refine cw_seq ?_; refine cw_region ?_; (refine lw_is ?_; refine lw_pure (by exact pur_eql rfl rfl) rfl ?_); (refine lw_is ?_; refine lw_pure (by exact pur_assign rfl) rfl ?_); refine lw_nil ?_; refine qw_then ?_; (refine cw_is ?_; refine cw_yes rfl (by assumption) ?_); refine cw_region ?_; (refine lw_is ?_; refine lw_pure (by exact pur_move rfl) rfl ?_); (refine lw_is ?_; refine lw_pure (by exact pur_fieldAddr0 tabOk rfl rfl rfl) rfl ?_); (refine lw_is ?_; refine lw_pure (by exact pur_load tabOk rfl rfl rfl (by exact fun wz hz => by (try subst hz); exact (Blk.cell (by assumption) (by rfl)))) rfl ?_))
    refine lw_does (does_slice tabOk zOk rfl rfl rfl rfl rfl rfl rfl rfl) rfl ?_ (fun _ h => h)
    rintro _ w2 ⟨b2, rfl, hn2, hh2⟩
    refine lw_does (does_call (by kernel_rfl) rfl (write_c B b b2 2 l [[105, 110, 116, 32], v.name] _ (hb1.ext hn2.ext) ⟨hh2⟩ (by simp) (by simpa using hlen)) (fun _ _ h => ⟨_, h.1⟩)) rfl ?_ (fun _ h => h)
    rintro _ w3 ⟨⟨⟩, hb3, f3⟩
    (refine lw_nil ?_; refine qw_block_norm ?_)
    exact qw_end0 rfl ⟨rfl, by simpa using hb3, (Fb.of_ext (x1.trans hn2.ext) hle).trans f3⟩
  by_cases c3 : v.kind = 3
  · have htx : v.text = [115, 116, 97, 99, 107, 32] ++ v.name := by simp [VD.text, c3]
    rw [htx] at hlen ⊢
    (refine lw_nil ?_; refine qw_then ?_; refine cw_seq ?_; refine cw_region ?_; (refine lw_is ?_; refine lw_pure (by exact pur_fieldAddr tabOk rfl rfl rfl) rfl ?_); (refine lw_is ?_; refine lw_pure (by exact pur_load tabOk rfl rfl rfl (by exact fun wz hz => by (try subst hz); exact (Blk.cell (by assumption) (by rfl)))) rfl ?_); refine lw_nil ?_; refine qw_then ?_; refine cw_block ?_; refine cw_seq ?_; refine cw_region ?_; (refine lw_is ?_; refine lw_pure (by exact pur_eql rfl rfl) rfl ?_); (refine lw_is ?_; refine lw_pure (by exact pur_assign rfl) rfl ?_); refine lw_nil ?_; refine qw_then ?_; (refine cw_is ?_; refine cw_no rfl (by assumption) ?_); refine cw_seq ?_; refine cw_region ?_; (refine lw_is ?_; refine lw_pure (by exact pur_eql rfl rfl) rfl ?_); (refine lw_is ?_; refine lw_pure (by exact pur_assign rfl) rfl ?_); refine lw_nil ?_; refine qw_then ?_; (refine cw_is ?_; refine cw_yes rfl (by assumption) ?_); refine cw_region ?_; (refine lw_is ?_; refine lw_pure (by exact pur_move rfl) rfl ?_); (refine lw_is ?_; refine lw_pure (by exact pur_fieldAddr0 tabOk rfl rfl rfl) rfl ?_); (refine lw_is ?_; refine lw_pure (by exact pur_load tabOk rfl rfl rfl (by exact fun wz hz => by (try subst hz); exact (Blk.cell (by assumption) (by rfl)))) rfl ?_))
    refine lw_does (does_slice tabOk zOk rfl rfl rfl rfl rfl rfl rfl rfl) rfl ?_ (fun _ h => h)
    rintro _ w2 ⟨b2, rfl, hn2, hh2⟩
    refine lw_does (does_call (by kernel_rfl) rfl (write_c B b b2 2 l [[115, 116, 97, 99, 107, 32], v.name] _ (hb1.ext hn2.ext) ⟨hh2⟩ (by simp) (by simpa using hlen)) (fun _ _ h => ⟨_, h.1⟩)) rfl ?_ (fun _ h => h)
    rintro _ w3 ⟨⟨⟩, hb3, f3⟩
    (refine lw_nil ?_; refine qw_block_norm ?_)
    exact qw_end0 rfl ⟨rfl, by simpa using hb3, (Fb.of_ext (x1.trans hn2.ext) hle).trans f3⟩
  by_cases c2 : v.kind = 2
  · have htx : v.text = [97, 114, 114, 97, 121, 32] ++ v.name ++ [91] ++ Lib.itoa v.len ++ [93] := by simp [VD.text, c2]
    rw [htx] at hlen ⊢
    rw [if_neg (by omega), if_pos c2] at h2
    simp only [Bool.and_eq_true, decide_eq_true_eq] at h2
    obtain ⟨hl0, hl1⟩ := h2
    (refine lw_nil ?_; refine qw_then ?_; refine cw_seq ?_; refine cw_region ?_; (refine lw_is ?_; refine lw_pure (by exact pur_fieldAddr tabOk rfl rfl rfl) rfl ?_); (refine lw_is ?_; refine lw_pure (by exact pur_load tabOk rfl rfl rfl (by exact fun wz hz => by (try subst hz); exact (Blk.cell (by assumption) (by rfl)))) rfl ?_); refine lw_nil ?_; refine qw_then ?_; refine cw_block ?_; refine cw_seq ?_; refine cw_region ?_; (refine lw_is ?_; refine lw_pure (by exact pur_eql rfl rfl) rfl ?_); (refine lw_is ?_; refine lw_pure (by exact pur_assign rfl) rfl ?_); refine lw_nil ?_; refine qw_then ?_; (refine cw_is ?_; refine cw_no rfl (by assumption) ?_); refine cw_seq ?_; refine cw_region ?_; (refine lw_is ?_; refine lw_pure (by exact pur_eql rfl rfl) rfl ?_); (refine lw_is ?_; refine lw_pure (by exact pur_assign rfl) rfl ?_); refine lw_nil ?_; refine qw_then ?_; (refine cw_is ?_; refine cw_no rfl (by assumption) ?_); refine cw_seq ?_; refine cw_region ?_; (refine lw_is ?_; refine lw_pure (by exact pur_eql rfl rfl) rfl ?_); (refine lw_is ?_; refine lw_pure (by exact pur_assign rfl) rfl ?_); refine lw_nil ?_; refine qw_then ?_; (refine cw_is ?_; refine cw_yes rfl (by assumption) ?_))
    refine cw_draw (fun w' => Blk w' b1 v.cells) (.pure 0 (.pure 1 (.pure 2 (.pure 3 (.pure 4 (.fork 5 (.fork 6 (.fork 7 .done .none) .none) .none)))))) mixed (by kernel_rfl) (by refine panicOk_block ?_; exact panicOk_body) ?_
    intro w2 x2 _
    refine ⟨h1.ext x2, ?_⟩
    (refine dw_pure rfl (by exact pur_move rfl) rfl ?_; refine dw_pure rfl (by exact pur_fieldAddr0 tabOk rfl rfl rfl) rfl ?_; refine dw_pure rfl (by exact pur_load tabOk rfl rfl rfl (by exact fun wz hz => by (try subst hz); exact (Blk.cell (by assumption) (by rfl)))) rfl ?_; refine dw_pure rfl (by exact pur_fieldAddr tabOk rfl rfl rfl) rfl ?_; refine dw_pure rfl (by exact pur_load tabOk rfl rfl rfl (by exact fun wz hz => by (try subst hz); exact (Blk.cell (by assumption) (by rfl)))) rfl ?_)
    refine dw_does rfl (does_call (by kernel_rfl) rfl (Itoa_c v.len (by omega) (by omega) _ (ht.ext (x1.trans x2) (by omega))) (fun _ _ h => ⟨_, h.1⟩)) rfl ?_ (fun _ h => h) dw_none
    rintro _ w3 ⟨⟨⟩, x3⟩
    refine ⟨(h1.ext x2).ext x3, ?_⟩
    refine dw_does rfl (does_slice tabOk zOk rfl rfl rfl rfl rfl rfl rfl rfl) rfl ?_ (fun _ h => h) dw_none
    rintro _ w4 ⟨b4, rfl, hn4, hh4⟩
    have x14 : Ext w1 w4 := (x2.trans x3).trans hn4.ext
    refine ⟨h1.ext x14, ?_⟩
    refine dw_does rfl (does_call (by kernel_rfl) rfl (write_c B b b4 5 l [[97, 114, 114, 97, 121, 32], v.name, [91], Lib.itoa v.len, [93]] _ (hb1.ext x14) ⟨hh4⟩ (by simp) (by simpa [Nat.add_assoc] using hlen)) (fun _ _ h => ⟨_, h.1⟩)) rfl ?_ (fun _ h => h) dw_none
    rintro _ w5 ⟨⟨⟩, hb5, f5⟩
    refine ⟨(TB.fb (t1.ext x14) f5 (by have := hn1.pos; have := h.lt; omega) (by decide)).blk, ?_⟩
    (refine dw_done ?_)
    (refine qw_block_norm ?_)
    exact qw_end0 rfl ⟨rfl, by simpa using hb5, (Fb.of_ext (x1.trans x14) hle).trans f5⟩
  · rw [if_neg (by omega), if_neg c2] at h2
    cases h2
set_option maxRecDepth 100000 in
set_option maxHeartbeats 2000000 in
theorem Program_c (g : PG) (S : Nat → Prop) (va : Option Addr) (vc : Nat) (pa : Option Addr) (pc : Nat) (ma : Option Addr) (mc : Nat) (w : World) (hwf : g.wf) (ht : Tabs w) (hg : Tryd.prog.globals.size ≤ w.heap.size) (hs : g.sits S w va pa ma) :
    Calls Tryd.prog 15 #[.agg (g.cells va vc pa pc ma mc).toArray] w fun e w' => e = .returned (.tuple #[str (if g.ok then g.text else []), .int .i64 (if g.ok then 0 else 3)]) ∧ Ext w w' := by
  have hnv := hwf.nv
  have hnp := hwf.np
  refine calls_in Tryd.func15 Tryd.ntmps15 rfl rfl ?_
  (refine cw_seq ?_; refine cw_region ?_)
  refine lw_boxT rfl rfl rfl ?_
  intro b1 w1 hn1 t1
  have h1 := hn1.blk
  have x1 := hn1.ext
  ((refine lw_is ?_; refine lw_pure (by exact pur_assign rfl) rfl ?_); (refine lw_is ?_; refine lw_pure (by exact pur_assign rfl) rfl ?_); refine lw_nil ?_; refine qw_then ?_; refine cw_seq ?_; refine cw_seq ?_; refine cw_region ?_; (refine lw_is ?_; refine lw_pure (by exact pur_loads' tabOk rfl rfl rfl (by exact fun wz hz => by (try subst hz); exact (Blk.row (by assumption))) (by rfl)) rfl ?_))
  refine lw_does (does_call (by kernel_rfl) rfl (Valid_c g S va vc pa pc ma mc _ hwf (hs.ext x1)) (fun _ _ h => ⟨_, h.1⟩)) rfl ?_ (fun _ h => h)
  rintro _ w2 ⟨⟨⟩, x2⟩
  cases hok : g.ok
  · try rw [hok]
    ((refine lw_is ?_; refine lw_pure (by exact pur_not rfl) rfl ?_); refine lw_nil ?_; refine qw_then ?_; (refine cw_is ?_; refine cw_bt rfl (by rfl) ?_); refine cw_seq ?_; refine cw_region ?_; (refine lw_is ?_; refine lw_pure (by exact pur_assign rfl) rfl ?_); (refine lw_is ?_; refine lw_pure (by exact pur_assign rfl) rfl ?_); refine lw_nil ?_; refine qw_then ?_; refine cw_ret ?_; refine qw_then_ret ?_)
    refine qw_ret2 Tryd.results15 rfl rfl ?_
    exact ⟨rfl, x1.trans x2⟩
  try rw [hok]
  have hlen := PG.text_len g hwf hok
  have HK := Lib.hid hok
  simp only [PG.ok, Bool.and_eq_true, decide_eq_true_eq] at hok
  obtain ⟨⟨⟨⟨o1, o2⟩, o3⟩, o4⟩, o5⟩ := hok
  obtain ⟨m1, m2, m3⟩ := body_len g.main hwf.main o5
  have O3 := Lib.hid o3; clear o3
  have O4 := Lib.hid o4; clear o4
  simp only [PG.text, List.length_append, List.length_cons, List.length_nil] at hlen
  have hs0 := hs.lt
  have x12 : Ext w w2 := x1.trans x2
  ((refine lw_is ?_; refine lw_pure (by exact pur_not rfl) rfl ?_); refine lw_nil ?_; refine qw_then ?_; (refine cw_is ?_; refine cw_bf rfl (by rfl) ?_); refine cw_skip ?_; refine qw_then ?_; refine cw_seq ?_; refine cw_region ?_)
  refine lw_allocT zOk rfl rfl ?_
  intro b2 w3 hn3 t3
  have hb0 : Bld w.heap.size b2 [] w3 := Bld.ofTB t3 (by have := hn3.pos; have := x12.size; omega)
  have x13 : Ext w w3 := x12.trans hn3.ext
  have t13 := (t1.ext x2).ext hn3.ext
  have hne : b1 ≠ b2 := by have := hn3.pos; have := (t1.ext x2).blk.lt; omega
  have b1p := hn1.pos
  have b2p := hn3.pos
  have x12s := x12.size
  have h13 := t13.blk
  generalize hB : w.heap.size = B at *
  have HB := Lib.hid hB; clear hB
  have y13 : Below B w w3 := HB.out ▸ x13
  have f3r := Fb.refl B b2 w3
  clear hn1 hn3 t1 h1
  (refine lw_nil ?_; refine qw_then ?_; refine cw_seq ?_; refine cw_seq ?_; refine cw_region ?_; (refine lw_is ?_; refine lw_pure (by exact pur_fieldAddr0 tabOk rfl rfl rfl) rfl ?_); (refine lw_is ?_; refine lw_pure (by exact pur_load tabOk rfl rfl rfl (by exact fun wz hz => by (try subst hz); exact (Blk.cell (by assumption) (by rfl)))) rfl ?_); (refine lw_is ?_; refine lw_pure (by exact pur_len_slice tabOk rfl rfl) rfl ?_); (refine lw_is ?_; refine lw_pure (by exact pur_move rfl) rfl ?_); refine lw_nil ?_; refine qw_then ?_; refine cw_block ?_)
  refine cw_loop (ι := Nat) (fun j => [(17, .int .i64 j), (16, .int .i64 g.vars.length), (15, .slice va g.vars.length vc), (4, .pointer (some ⟨b2, 0, none⟩)), (1, .pointer (some ⟨b1, 0, none⟩))]) (fun j w' => Fb B b2 w3 w' ∧ Bld B b2 (cat VD.line (g.vars.take j)) w' ∧ j ≤ g.vars.length) (fun j => g.vars.length - j) 0 (by (refine sub_cons rfl ?_; refine sub_cons rfl ?_; refine sub_cons rfl ?_; refine sub_cons rfl ?_; refine sub_cons rfl ?_; exact sub_nil)) ⟨f3r, hb0, by omega⟩ ?_
  rintro j w4 ⟨f4, hb4, hj⟩
  have t4 := t13.fb f4 hne (by decide)
  have h4 := t4.blk
  have y4 : Below B w w4 := y13.trans f4.below
  have hcl := cat_le VD.line g.vars j
  by_cases hlt : j < g.vars.length
  · obtain ⟨kb, ko, rfl, -, hkid⟩ := Arr.get (hs0.vars.below y4) (by omega)
    have rx : Row w4 ⟨kb, ko + j * 3, none⟩ g.vars[j].cells := hkid j g.vars[j] (List.getElem?_eq_getElem hlt)
    have hvo : g.vars[j].ok = true := by have := O3.out; unfold allOk at this; exact List.all_eq_true.1 this _ (List.getElem_mem hlt)
    have hcs := cat_snoc VD.line g.vars j hlt
    have hc2 := cat_le VD.line g.vars (j + 1)
    rw [hcs] at hc2
    simp only [VD.line, List.length_append, List.length_cons, List.length_nil] at hc2 hcs hcl
    have HC := Lib.hid hcs
    clear hcs hkid
    generalize g.vars[j] = v at *
    (refine cw_seq ?_; refine cw_region ?_; (refine lw_is ?_; refine lw_pure (by exact pur_lss rfl rfl) rfl ?_); refine lw_nil ?_; refine qw_then ?_; refine cw_seq ?_; (refine cw_is ?_; refine cw_yes rfl (by omega) ?_); refine cw_skip ?_; refine qw_then ?_; refine cw_seq ?_; refine cw_block ?_; refine cw_seq ?_; refine cw_region ?_; (refine lw_is ?_; refine lw_pure (by exact pur_indexAddr tabOk rfl rfl rfl rfl (by omega) (by omega)) rfl ?_); (refine lw_is ?_; refine lw_pure (by exact pur_loads' tabOk rfl rfl rfl (by exact fun wz hz => by (try subst hz); exact (by assumption)) (by rfl)) rfl ?_))
    refine lw_alloc zOk rfl rfl ?_
    intro b5 w5 hn5
    refine lw_init tabOk rfl rfl rfl rfl rfl rfl (hn5) rfl ?_
    clear hn5 w5
    intro w5 hn5
    have h5 := hn5.blk
    have x5 := hn5.ext
    (refine lw_nil ?_; refine qw_then ?_; refine cw_seq ?_; refine cw_region ?_; (refine lw_is ?_; refine lw_pure (by exact pur_loads' tabOk rfl rfl rfl (by exact fun wz hz => by (try subst hz); exact (Blk.row (by assumption))) (by rfl)) rfl ?_))
    refine lw_does (does_call (by kernel_rfl) rfl (decl_c v hvo B b2 _ _ (hb4.ext x5) (ht.below (y4.trans (Below.mono x5 hb4.le)) (by omega)) (by omega) (by simp only at *; omega)) (fun _ _ h => ⟨_, h.1⟩)) rfl ?_ (fun _ h => h)
    rintro _ w6 ⟨⟨⟩, hb6, f6⟩
    (refine lw_nil ?_; refine qw_then ?_; refine cw_region ?_)
    refine lw_does (does_slice tabOk zOk rfl rfl rfl rfl rfl rfl rfl rfl) rfl ?_ (fun _ h => h)
    rintro _ w7 ⟨b7, rfl, hn7, hh7⟩
    refine lw_does (does_call (by kernel_rfl) rfl (write_c B b2 b7 1 _ [[10]] _ (hb6.ext hn7.ext) ⟨hh7⟩ (by simp) (by simp only [List.flatten_cons, List.flatten_nil, List.length_append, List.length_cons, List.length_nil] at *; omega)) (fun _ _ h => ⟨_, h.1⟩)) rfl ?_ (fun _ h => h)
    rintro _ w8 ⟨⟨⟩, hb8, f8⟩
    (refine lw_nil ?_; refine qw_block_norm ?_; refine qw_then ?_; refine cw_region ?_; (refine lw_is ?_; refine lw_pure (by exact pur_add rfl rfl (IntWalk.i64_in _ (by omega))) rfl ?_); (refine lw_is ?_; refine lw_pure (by exact pur_move rfl) rfl ?_); refine lw_nil ?_)
    refine qw_round (j + 1) (by (refine sub_cons rfl ?_; refine sub_cons rfl ?_; refine sub_cons rfl ?_; refine sub_cons rfl ?_; refine sub_cons rfl ?_; exact sub_nil)) ⟨(f4.trans (Fb.of_ext x5 hb4.le)).trans (f6.trans ((Fb.of_ext hn7.ext hb6.le).trans f8)), ?_, by omega⟩ (by omega)
    rw [HC.out]
    simpa using hb8
  obtain rfl : j = g.vars.length := by omega
  simp only [List.take_length] at hcl hb4
  clear hj
  (refine cw_seq ?_; refine cw_region ?_; (refine lw_is ?_; refine lw_pure (by exact pur_lss rfl rfl) rfl ?_); refine lw_nil ?_; refine qw_then ?_; refine cw_seq ?_; (refine cw_is ?_; refine cw_no rfl (by omega) ?_); refine cw_exit ?_; refine qw_then_exit ?_; refine qw_then_exit ?_; refine qw_block_exit ?_; refine qw_then ?_; refine cw_seq ?_; refine cw_seq ?_; refine cw_region ?_; (refine lw_is ?_; refine lw_pure (by exact pur_fieldAddr tabOk rfl rfl rfl) rfl ?_); (refine lw_is ?_; refine lw_pure (by exact pur_load tabOk rfl rfl rfl (by exact fun wz hz => by (try subst hz); exact (Blk.cell (by assumption) (by rfl)))) rfl ?_); (refine lw_is ?_; refine lw_pure (by exact pur_len_slice tabOk rfl rfl) rfl ?_); (refine lw_is ?_; refine lw_pure (by exact pur_move rfl) rfl ?_); refine lw_nil ?_; refine qw_then ?_; refine cw_block ?_)
  have f4r := Fb.refl B b2 w4
  have t4' := t4
  refine cw_loop (ι := Nat) (fun j => [(29, .int .i64 j), (28, .int .i64 g.procs.length), (27, .slice pa g.procs.length pc), (4, .pointer (some ⟨b2, 0, none⟩)), (1, .pointer (some ⟨b1, 0, none⟩))]) (fun j w' => Fb B b2 w4 w' ∧ Bld B b2 (cat VD.line g.vars ++ cat PD.text (g.procs.take j)) w' ∧ j ≤ g.procs.length) (fun j => g.procs.length - j) 0 (by (refine sub_cons rfl ?_; refine sub_cons rfl ?_; refine sub_cons rfl ?_; refine sub_cons rfl ?_; refine sub_cons rfl ?_; exact sub_nil)) ⟨f4r, by simpa [cat] using hb4, by omega⟩ ?_
  rintro j w5 ⟨f5, hb5, hj⟩
  have t5 := t4'.fb f5 hne (by decide)
  have h5 := t5.blk
  have y5 : Below B w w5 := y4.trans f5.below
  have hpl := cat_le PD.text g.procs j
  by_cases hlt2 : j < g.procs.length
  · obtain ⟨kb, ko, rfl, -, hkid⟩ := Arr.get (hs0.procs.below y5) (by omega)
    obtain ⟨qa, qc, ba, bc, rx, sv, sb⟩ := hkid j g.procs[j] (List.getElem?_eq_getElem hlt2)
    have hpo : g.procs[j].ok = true := List.all_eq_true.1 O4.out _ (List.getElem_mem hlt2)
    have hpw := hwf.procs g.procs[j] (List.getElem_mem hlt2)
    have hcs := cat_snoc PD.text g.procs j hlt2
    have hc2 := cat_le PD.text g.procs (j + 1)
    rw [hcs] at hc2
    have HC := Lib.hid hcs
    clear hcs hkid
    generalize g.procs[j] = p at *
    simp only [PD.ok, Bool.and_eq_true, decide_eq_true_eq] at hpo
    obtain ⟨⟨⟨q1, q2⟩, q3⟩, q4⟩ := hpo
    obtain ⟨n1, n2, n3⟩ := body_len p.body hpw.body q4
    have hpn := hpw.len
    have Q3 := Lib.hid q3; clear q3
    simp only [PD.text, List.length_append, List.length_cons, List.length_nil] at hc2
    (refine cw_seq ?_; refine cw_region ?_; (refine lw_is ?_; refine lw_pure (by exact pur_lss rfl rfl) rfl ?_); refine lw_nil ?_; refine qw_then ?_; refine cw_seq ?_; (refine cw_is ?_; refine cw_yes rfl (by omega) ?_); refine cw_skip ?_; refine qw_then ?_; refine cw_seq ?_; refine cw_block ?_; refine cw_seq ?_; refine cw_region ?_; (refine lw_is ?_; refine lw_pure (by exact pur_indexAddr tabOk rfl rfl rfl rfl (by omega) (by omega)) rfl ?_); (refine lw_is ?_; refine lw_pure (by exact pur_loads' tabOk rfl rfl rfl (by exact fun wz hz => by (try subst hz); exact (by assumption)) (by rfl)) rfl ?_))
    refine lw_allocT zOk rfl rfl ?_
    intro b6 w6 hn6 t6
    refine lw_initT tabOk rfl rfl rfl rfl rfl rfl hn6 t6 rfl ?_
    clear hn6 t6 w6
    intro w6 hn6 t6
    have h6 := hn6.blk
    have x6 := hn6.ext
    have ne6 : b6 ≠ b2 := by have := hn6.pos; have := hb5.lt; omega
    (refine lw_nil ?_; refine qw_then ?_; refine cw_seq ?_; refine cw_region ?_; (refine lw_is ?_; refine lw_pure (by exact pur_fieldAddr0 tabOk rfl rfl rfl) rfl ?_); (refine lw_is ?_; refine lw_pure (by exact pur_load tabOk rfl rfl rfl (by exact fun wz hz => by (try subst hz); exact (Blk.cell (by assumption) (by rfl)))) rfl ?_))
    refine lw_does (does_slice tabOk zOk rfl rfl rfl rfl rfl rfl rfl rfl) rfl ?_ (fun _ h => h)
    rintro _ w7 ⟨b7, rfl, hn7, hh7⟩
    refine lw_does (does_call (by kernel_rfl) rfl (write_c B b2 b7 3 _ [[112, 114, 111, 99, 32], p.name, [40]] _ ((hb5.ext x6).ext hn7.ext) ⟨hh7⟩ (by simp) (by simp only [List.flatten_cons, List.flatten_nil, List.length_append, List.length_cons, List.length_nil]; omega)) (fun _ _ h => ⟨_, h.1⟩)) rfl ?_ (fun _ h => h)
    rintro _ w8 ⟨⟨⟩, hb8, f8⟩
    have f58 : Fb B b2 w5 w8 := (Fb.of_ext (x6.trans hn7.ext) hb5.le).trans f8
    have t8 := (t6.ext hn7.ext).fb f8 ne6 (by decide)
    have h8 := t8.blk
    have hb8' : Bld B b2 (cat VD.line g.vars ++ cat PD.text (g.procs.take j) ++ [112, 114, 111, 99, 32] ++ p.name ++ [40]) w8 := by simpa using hb8
    clear hb8 hn7 hh7 hn6
    (refine lw_nil ?_; refine qw_then ?_; refine cw_seq ?_; refine cw_seq ?_; refine cw_region ?_; (refine lw_is ?_; refine lw_pure (by exact pur_fieldAddr tabOk rfl rfl rfl) rfl ?_); (refine lw_is ?_; refine lw_pure (by exact pur_load tabOk rfl rfl rfl (by exact fun wz hz => by (try subst hz); exact (Blk.cell (by assumption) (by rfl)))) rfl ?_); (refine lw_is ?_; refine lw_pure (by exact pur_len_slice tabOk rfl rfl) rfl ?_); (refine lw_is ?_; refine lw_pure (by exact pur_move rfl) rfl ?_); refine lw_nil ?_; refine qw_then ?_; refine cw_block ?_)
    have f8r := Fb.refl B b2 w8
    refine cw_loop (ι := Nat) (fun i => [(40, .int .i64 i), (39, .int .i64 p.params.length), (38, .slice qa p.params.length qc), (29, .int .i64 j), (28, .int .i64 g.procs.length), (27, .slice (some ⟨kb, ko, none⟩) g.procs.length pc), (8, .pointer (some ⟨b6, 0, none⟩)), (4, .pointer (some ⟨b2, 0, none⟩)), (1, .pointer (some ⟨b1, 0, none⟩))]) (fun i w' => Fb B b2 w8 w' ∧ Bld B b2 (cat VD.line g.vars ++ cat PD.text (g.procs.take j) ++ [112, 114, 111, 99, 32] ++ p.name ++ [40] ++ commas VD.text true (p.params.take i)) w' ∧ i ≤ p.params.length) (fun i => p.params.length - i) 0 (by (refine sub_cons rfl ?_; refine sub_cons rfl ?_; refine sub_cons rfl ?_; refine sub_cons rfl ?_; refine sub_cons rfl ?_; refine sub_cons rfl ?_; refine sub_cons rfl ?_; refine sub_cons rfl ?_; refine sub_cons rfl ?_; exact sub_nil)) ⟨f8r, by simpa [commas] using hb8', by omega⟩ ?_
    rintro i w9 ⟨f9, hb9, hi⟩
    have t9 := t8.fb f9 ne6 (by decide)
    have h9 := t9.blk
    have f59 : Fb B b2 w5 w9 := f58.trans f9
    have y9 : Below B w w9 := y5.trans f59.below
    have hml := commas_le VD.text p.params i
    by_cases hlt3 : i < p.params.length
    · obtain ⟨vb, vo, rfl, -, hvid⟩ := Arr.get (sv.below f59.below) (by omega)
      have rv : Row w9 ⟨vb, vo + i * 3, none⟩ p.params[i].cells := hvid i p.params[i] (List.getElem?_eq_getElem hlt3)
      have hvo : p.params[i].ok = true := by have := Q3.out; unfold allOk at this; exact List.all_eq_true.1 this _ (List.getElem_mem hlt3)
      have hms := commas_snoc VD.text p.params i hlt3
      have hm2 := commas_le VD.text p.params (i + 1)
      rw [hms] at hm2
      have HM := Lib.hid hms
      clear hms hvid
      generalize p.params[i] = v at *
      (refine cw_seq ?_; refine cw_region ?_; (refine lw_is ?_; refine lw_pure (by exact pur_lss rfl rfl) rfl ?_); refine lw_nil ?_; refine qw_then ?_; refine cw_seq ?_; (refine cw_is ?_; refine cw_yes rfl (by omega) ?_); refine cw_skip ?_; refine qw_then ?_; refine cw_seq ?_; refine cw_block ?_; refine cw_seq ?_; refine cw_region ?_; (refine lw_is ?_; refine lw_pure (by exact pur_move rfl) rfl ?_); (refine lw_is ?_; refine lw_pure (by exact pur_indexAddr tabOk rfl rfl rfl rfl (by omega) (by omega)) rfl ?_); (refine lw_is ?_; refine lw_pure (by exact pur_loads' tabOk rfl rfl rfl (by exact fun wz hz => by (try subst hz); exact (by assumption)) (by rfl)) rfl ?_))
      refine lw_allocT zOk rfl rfl ?_
      intro b10 w10 hn10 t10
      ((refine lw_is ?_; refine lw_pure (by exact pur_assign rfl) rfl ?_))
      refine lw_initT tabOk rfl rfl rfl rfl rfl rfl hn10 t10 rfl ?_
      clear hn10 t10 w10
      intro w10 hn10 t10
      have h10 := hn10.blk
      have x10 := hn10.ext
      have ne10 : b10 ≠ b2 := by have := hn10.pos; have := hb9.lt; omega
      have hb10 := hb9.ext x10
      have y10 : Below B w w10 := y9.trans (Below.mono x10 hb9.le)
      by_cases hi0 : i = 0
      · subst hi0
        simp only [if_true, List.length_append, List.length_nil] at hm2
        (refine lw_nil ?_; refine qw_then ?_; refine cw_seq ?_; refine cw_seq ?_; refine cw_region ?_; (refine lw_is ?_; refine lw_pure (by exact pur_move rfl) rfl ?_); (refine lw_is ?_; refine lw_pure (by exact pur_gtr rfl rfl) rfl ?_); refine lw_nil ?_; refine qw_then ?_; (refine cw_is ?_; refine cw_no rfl (by omega) ?_); refine cw_skip ?_; refine qw_then ?_; refine cw_region ?_; (refine lw_is ?_; refine lw_pure (by exact pur_loads' tabOk rfl rfl rfl (by exact fun wz hz => by (try subst hz); exact (Blk.row (by assumption))) (by rfl)) rfl ?_))
        refine lw_does (does_call (by kernel_rfl) rfl (decl_c v hvo B b2 _ _ hb10 (ht.below y10 (by omega)) (by omega) (by simp only [List.length_append, List.length_cons, List.length_nil]; omega)) (fun _ _ h => ⟨_, h.1⟩)) rfl ?_ (fun _ h => h)
        rintro _ w11 ⟨⟨⟩, hb11, f11⟩
        (refine lw_nil ?_; refine qw_block_norm ?_; refine qw_then ?_; refine cw_region ?_; (refine lw_is ?_; refine lw_pure (by exact pur_add rfl rfl (IntWalk.i64_in _ (by omega))) rfl ?_); (refine lw_is ?_; refine lw_pure (by exact pur_move rfl) rfl ?_); refine lw_nil ?_)
        refine qw_round (1 : Nat) (by (refine sub_cons rfl ?_; refine sub_cons rfl ?_; refine sub_cons rfl ?_; refine sub_cons rfl ?_; refine sub_cons rfl ?_; refine sub_cons rfl ?_; refine sub_cons rfl ?_; refine sub_cons rfl ?_; refine sub_cons rfl ?_; exact sub_nil)) ⟨f9.trans ((Fb.of_ext x10 hb9.le).trans f11), ?_, by omega⟩ (by simp; omega)
        rw [HM.out]; simpa using hb11
      · simp only [if_neg hi0, List.length_append, List.length_cons, List.length_nil] at hm2
        (refine lw_nil ?_; refine qw_then ?_; refine cw_seq ?_; refine cw_seq ?_; refine cw_region ?_; (refine lw_is ?_; refine lw_pure (by exact pur_move rfl) rfl ?_); (refine lw_is ?_; refine lw_pure (by exact pur_gtr rfl rfl) rfl ?_); refine lw_nil ?_; refine qw_then ?_; (refine cw_is ?_; refine cw_yes rfl (by omega) ?_); refine cw_region ?_)
        refine lw_does (does_slice tabOk zOk rfl rfl rfl rfl rfl rfl rfl rfl) rfl ?_ (fun _ h => h)
        rintro _ w11 ⟨b11, rfl, hn11, hh11⟩
        refine lw_does (does_call (by kernel_rfl) rfl (write_c B b2 b11 1 _ [[44, 32]] _ (hb10.ext hn11.ext) ⟨hh11⟩ (by simp) (by simp only [List.flatten_cons, List.flatten_nil, List.length_append, List.length_cons, List.length_nil]; omega)) (fun _ _ h => ⟨_, h.1⟩)) rfl ?_ (fun _ h => h)
        rintro _ w12 ⟨⟨⟩, hb12, f12⟩
        have t12 := (t10.ext hn11.ext).fb f12 ne10 (by decide)
        have h12 := t12.blk
        have y12 : Below B w w12 := y10.trans ((Below.mono hn11.ext hb10.le).trans f12.below)
        (refine lw_nil ?_; refine qw_then ?_; refine cw_region ?_; (refine lw_is ?_; refine lw_pure (by exact pur_loads' tabOk rfl rfl rfl (by exact fun wz hz => by (try subst hz); exact (Blk.row (by assumption))) (by rfl)) rfl ?_))
        refine lw_does (does_call (by kernel_rfl) rfl (decl_c v hvo B b2 _ _ hb12 (ht.below y12 (by omega)) (by omega) (by simp only [List.flatten_cons, List.flatten_nil, List.length_append, List.length_cons, List.length_nil]; omega)) (fun _ _ h => ⟨_, h.1⟩)) rfl ?_ (fun _ h => h)
        rintro _ w13 ⟨⟨⟩, hb13, f13⟩
        (refine lw_nil ?_; refine qw_block_norm ?_; refine qw_then ?_; refine cw_region ?_; (refine lw_is ?_; refine lw_pure (by exact pur_add rfl rfl (IntWalk.i64_in _ (by omega))) rfl ?_); (refine lw_is ?_; refine lw_pure (by exact pur_move rfl) rfl ?_); refine lw_nil ?_)
        refine qw_round (i + 1) (by (refine sub_cons rfl ?_; refine sub_cons rfl ?_; refine sub_cons rfl ?_; refine sub_cons rfl ?_; refine sub_cons rfl ?_; refine sub_cons rfl ?_; refine sub_cons rfl ?_; refine sub_cons rfl ?_; refine sub_cons rfl ?_; exact sub_nil)) ⟨f9.trans ((Fb.of_ext x10 hb9.le).trans ((Fb.of_ext hn11.ext hb10.le).trans (f12.trans f13))), ?_, by omega⟩ (by omega)
        rw [HM.out]; simpa [hi0] using hb13
    · obtain rfl : i = p.params.length := by omega
      simp only [List.take_length] at hml hb9
      (refine cw_seq ?_; refine cw_region ?_; (refine lw_is ?_; refine lw_pure (by exact pur_lss rfl rfl) rfl ?_); refine lw_nil ?_; refine qw_then ?_; refine cw_seq ?_; (refine cw_is ?_; refine cw_no rfl (by omega) ?_); refine cw_exit ?_; refine qw_then_exit ?_; refine qw_then_exit ?_; refine qw_block_exit ?_; refine qw_then ?_; refine cw_seq ?_; refine cw_region ?_)
      refine lw_does (does_slice tabOk zOk rfl rfl rfl rfl rfl rfl rfl rfl) rfl ?_ (fun _ h => h)
      rintro _ w10 ⟨b10, rfl, hn10, hh10⟩
      refine lw_does (does_call (by kernel_rfl) rfl (write_c B b2 b10 1 _ [[41]] _ (hb9.ext hn10.ext) ⟨hh10⟩ (by simp) (by simp only [List.flatten_cons, List.flatten_nil, List.length_append, List.length_cons, List.length_nil]; omega)) (fun _ _ h => ⟨_, h.1⟩)) rfl ?_ (fun _ h => h)
      rintro _ w11 ⟨⟨⟩, hb11, f11⟩
      have t11 := (t9.ext hn10.ext).fb f11 ne6 (by decide)
      have h11 := t11.blk
      have f511 : Fb B b2 w5 w11 := f59.trans ((Fb.of_ext hn10.ext hb9.le).trans f11)
      have y11 : Below B w w11 := y5.trans f511.below
      have hbl := bracesT_len p.body 0
      simp only [Nat.zero_add] at hbl
      (refine lw_nil ?_; refine qw_then ?_; refine cw_seq ?_; refine cw_region ?_; (refine lw_is ?_; refine lw_pure (by exact pur_fieldAddr tabOk rfl rfl rfl) rfl ?_); (refine lw_is ?_; refine lw_pure (by exact pur_loads_blk tabOk rfl rfl rfl (by exact fun wz hz => by (try subst hz); exact (by assumption)) (by rfl)) rfl ?_))
      refine lw_does (does_call (by kernel_rfl) rfl (braces_c p.body (block_t p.body hpw.body n2) B b2 _ _ ba bc 0 hb11 (ht.below y11 (by omega)) (by omega) (sits.below sb f511.below) (by omega) (by simp only [List.flatten_cons, List.flatten_nil, List.length_append, List.length_cons, List.length_nil] at *; omega)) (fun _ _ h => ⟨_, h.1⟩)) rfl ?_ (fun _ h => h)
      rintro _ w12 ⟨⟨⟩, hb12, f12⟩
      (refine lw_nil ?_; refine qw_then ?_; refine cw_region ?_)
      refine lw_does (does_slice tabOk zOk rfl rfl rfl rfl rfl rfl rfl rfl) rfl ?_ (fun _ h => h)
      rintro _ w13 ⟨b13, rfl, hn13, hh13⟩
      refine lw_does (does_call (by kernel_rfl) rfl (write_c B b2 b13 1 _ [[10]] _ (hb12.ext hn13.ext) ⟨hh13⟩ (by simp) (by simp only [List.flatten_cons, List.flatten_nil, List.length_append, List.length_cons, List.length_nil] at *; omega)) (fun _ _ h => ⟨_, h.1⟩)) rfl ?_ (fun _ h => h)
      rintro _ w14 ⟨⟨⟩, hb14, f14⟩
      (refine lw_nil ?_; refine qw_block_norm ?_; refine qw_then ?_; refine cw_region ?_; (refine lw_is ?_; refine lw_pure (by exact pur_add rfl rfl (IntWalk.i64_in _ (by omega))) rfl ?_); (refine lw_is ?_; refine lw_pure (by exact pur_move rfl) rfl ?_); refine lw_nil ?_)
      refine qw_round (j + 1) (by (refine sub_cons rfl ?_; refine sub_cons rfl ?_; refine sub_cons rfl ?_; refine sub_cons rfl ?_; refine sub_cons rfl ?_; exact sub_nil)) ⟨f5.trans (f511.trans (f12.trans ((Fb.of_ext hn13.ext hb12.le).trans f14))), ?_, by omega⟩ (by omega)
      rw [HC.out]; simpa [PD.text, bracesT, tabT] using hb14
  · obtain rfl : j = g.procs.length := by omega
    simp only [List.take_length] at hpl hb5
    (refine cw_seq ?_; refine cw_region ?_; (refine lw_is ?_; refine lw_pure (by exact pur_lss rfl rfl) rfl ?_); refine lw_nil ?_; refine qw_then ?_; refine cw_seq ?_; (refine cw_is ?_; refine cw_no rfl (by omega) ?_); refine cw_exit ?_; refine qw_then_exit ?_; refine qw_then_exit ?_; refine qw_block_exit ?_; refine qw_then ?_; refine cw_seq ?_; refine cw_region ?_)
    refine lw_does (does_slice tabOk zOk rfl rfl rfl rfl rfl rfl rfl rfl) rfl ?_ (fun _ h => h)
    rintro _ w6 ⟨b6, rfl, hn6, hh6⟩
    refine lw_does (does_call (by kernel_rfl) rfl (write_c B b2 b6 1 _ [[109, 97, 105, 110]] _ (hb5.ext hn6.ext) ⟨hh6⟩ (by simp) (by simp only [List.flatten_cons, List.flatten_nil, List.length_append, List.length_cons, List.length_nil]; omega)) (fun _ _ h => ⟨_, h.1⟩)) rfl ?_ (fun _ h => h)
    rintro _ w7 ⟨⟨⟩, hb7, f7⟩
    have f57 : Fb B b2 w5 w7 := (Fb.of_ext hn6.ext hb5.le).trans f7
    have t7 := t5.fb f57 hne (by decide)
    have h7 := t7.blk
    have y7 : Below B w w7 := y5.trans f57.below
    have hbl := bracesT_len g.main 0
    simp only [Nat.zero_add] at hbl
    (refine lw_nil ?_; refine qw_then ?_; refine cw_seq ?_; refine cw_region ?_; (refine lw_is ?_; refine lw_pure (by exact pur_fieldAddr tabOk rfl rfl rfl) rfl ?_); (refine lw_is ?_; refine lw_pure (by exact pur_loads_blk tabOk rfl rfl rfl (by exact fun wz hz => by (try subst hz); exact (by assumption)) (by rfl)) rfl ?_))
    refine lw_does (does_call (by kernel_rfl) rfl (braces_c g.main (block_t g.main hwf.main m2) B b2 _ _ ma mc 0 hb7 (ht.below y7 (by omega)) (by omega) (sits.below hs0.main y7) (by omega) (by simp only [List.flatten_cons, List.flatten_nil, List.length_append, List.length_cons, List.length_nil] at *; omega)) (fun _ _ h => ⟨_, h.1⟩)) rfl ?_ (fun _ h => h)
    rintro _ w8 ⟨⟨⟩, hb8, f8⟩
    (refine lw_nil ?_; refine qw_then ?_; refine cw_seq ?_; refine cw_region ?_)
    refine lw_does (does_slice tabOk zOk rfl rfl rfl rfl rfl rfl rfl rfl) rfl ?_ (fun _ h => h)
    rintro _ w9 ⟨b9, rfl, hn9, hh9⟩
    refine lw_does (does_call (by kernel_rfl) rfl (write_c B b2 b9 1 _ [[10]] _ (hb8.ext hn9.ext) ⟨hh9⟩ (by simp) (by simp only [List.flatten_cons, List.flatten_nil, List.length_append, List.length_cons, List.length_nil] at *; omega)) (fun _ _ h => ⟨_, h.1⟩)) rfl ?_ (fun _ h => h)
    rintro _ w10 ⟨⟨⟩, hb10, f10⟩
    have y10 : Below B w w10 := y7.trans (f8.below.trans ((Below.mono hn9.ext hb8.le).trans f10.below))
    have hfin : Bld B b2 g.text w10 := by simpa [PG.text, bracesT, tabT] using hb10
    clear hb10 hb8 hb7 hb5
    (refine lw_nil ?_; refine qw_then ?_; refine cw_seq ?_; refine cw_region ?_; (refine lw_is ?_; refine lw_pure (by exact pur_fieldAddr0 tabOk rfl rfl rfl) rfl ?_))
    refine lw_does (does_call (by kernel_rfl) rfl (String_any 50 B b2 g.text _ hfin.is hfin.le) (fun _ _ h => ⟨_, h.1⟩)) rfl ?_ (fun _ h => h)
    rintro _ w11 ⟨⟨⟩, -, f11⟩
    ((refine lw_is ?_; refine lw_pure (by exact pur_assign rfl) rfl ?_); (refine lw_is ?_; refine lw_pure (by exact pur_assign rfl) rfl ?_); refine lw_nil ?_; refine qw_then ?_; refine cw_ret ?_)
    refine qw_ret2 Tryd.results15 rfl rfl ?_
    refine ⟨rfl, ?_⟩
    unfold Ext
    rw [HB.out]
    exact y10.trans f11.below
end Bk
