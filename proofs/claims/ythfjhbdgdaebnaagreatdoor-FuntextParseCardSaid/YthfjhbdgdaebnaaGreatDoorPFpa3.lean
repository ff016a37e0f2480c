/- Texts that the proofs of FuntextParse need. No condition. (Part 3 of 8.) -/
import Derived.Test.YthfjhbdgdaebnaaGreatDoorPFpa2
set_option linter.unusedSimpArgs false
set_option linter.unusedVariables false
namespace Bk
open Go Go.RowKit Go.Proofs
attribute [local irreducible] Go.Calls
section
variable {P : Program} {n : Nat} {ops : Array Oper} {Q : Exit → Act → World → Prop} {rest : List Oper} {l : Sl} {w : World} {tab : Tab} {ty : TypeId} {pos : String} {after : Array Edge}
theorem lw_mapput {x y z : Operand} {t kt e sz1 sz2 r : Nat} {k : List UInt8} {v : Value} {kvs : List (List UInt8 × Value)} (T : TabOk P tab) (ht : lookT tab t = some (.map kt e, sz1)) (hkt : lookT tab kt = some (.str, sz2)) (hx : ev l x = some (.map (some r))) (hy : ev l y = some (str k)) (hz : ev l z = some v) (hm : MapIs w r kvs)
 (kk : ∀ w1, MapIs w1 r (setS kvs k v) → Fr (· = r) w w1 → LW P n ops Q rest l w1) : LW P n ops Q (⟨none, .mapUpdate t x y z, ty, pos, after, none⟩ :: rest) l w := by
 refine lw_does0 (K := MapPut w r (setS kvs k v)) ?_ (fun v w1 h => by cases v with | none => exact kk w1 h.1 h.2.1 | some _ => exact h.elim)
 unfold Does
 intro a dst pos after g next Q ha _ hn; obtain ⟨w1, h1, h2, h3, h4⟩ := run_mapUpdate (P := P) (k := k) (v := v) T ht hkt hm
 have e1 : (execOp a.eval ⟨dst, .mapUpdate t x y z, ty, pos, after, g⟩).run P w = .ok .skip w1 := by
  simp only [execOp, ha.ev hx, ha.ev hy, ha.ev hz, Sem.run_bind, h1, Result.andThen, Sem.run_pure]
 unfold Oper.wp
 rw [e1]
 exact hn w1 ⟨h2, h3, h4⟩
theorem lw_makeMap {t d : Nat} (hd : Nat.blt d n = true) (k : ∀ r w1, r = w.heap.size → MapIs w1 r [] → Ext w w1 → w1.heap.size = r + 1 → LW P n ops Q rest ((d, .map (some r)) :: l) w1) : LW P n ops Q (⟨some d, .makeMap t none, ty, pos, after, none⟩ :: rest) l w :=
 lw_does does_makeMap hd (fun v w1 ⟨r, h1, h2, h3, h4, h5⟩ => by subst h1; exact k r w1 h2 h3 h4 h5) (fun _ h => h)
end
def u8Shape : Shape Int where
 sz := 1
 rep := fun _ _ v cs => cs = [.int .u8 v]
 len := fun h => by rw [h]; rfl
 one := fun h => by rw [h]; rfl
 mono := fun h _ _ => h
 lt := fun h => h
def ops8 (j : Nat) : List Int := (List.range j).map fun (i : Nat) => (8 : Int) + (i : Int)
theorem ops8_snoc (j : Nat) : ops8 (j + 1) = ops8 j ++ [8 + (j : Int)] := by simp [ops8, List.range_succ]
theorem ops8_len (j : Nat) : (ops8 j).length = j := by simp [ops8]
def OpsR (w : World) : Ending → World → Prop := fun e w' => ∃ b k, e = .returned (.slice (some ⟨b, 0, none⟩) 16 k) ∧ w.heap.size ≤ b ∧ b < w'.heap.size ∧ Row w' ⟨b, 0, none⟩ ((ops8 16).map (.int .u8 ·)) ∧ Ext w w'
theorem OpsR.ret {w : World} {e : Ending} {w' : World} (h : OpsR w e w') : ∃ v, e = .returned v := by
 obtain ⟨_, _, h, -⟩ := h
 exact ⟨_, h⟩
set_option maxRecDepth 100000 in
set_option maxHeartbeats 2000000 in
theorem Operators_c (w : World) : Calls Tryz.prog 25 #[] w (OpsR w) := by
 have X := Ext.refl w; refine calls_in (args := []) Tryz.func25 Tryz.ntmps25 rfl rfl ?_
 focus
  refine cS (C1 Pa (cN (C1 Pa (cT (cw_seq (cS (C1 Pa (cT (cw_block ?_))))))))); rotate_left 1
 refine cw_loop (ι := Nat × Option Addr × Nat) (fun x => [(1, .slice x.2.1 (ops8 x.1).length x.2.2), (2, .int .u8 (8 + (x.1 : Int)))])
  (fun x w' => OwnL u8Shape w' w.heap.size 5 (.slice x.2.1 (ops8 x.1).length x.2.2) (ops8 x.1) ∧ Ext w w' ∧ x.1 ≤ 16) (fun x => 16 - x.1) (0, none, 0) (by (refine sub_cons rfl ?_; refine sub_cons rfl ?_; exact sub_nil)) ⟨OwnL.nil, X, Nat.zero_le _⟩ ?_
 rintro ⟨j, a, cap⟩ w1 ⟨hown, X, hj⟩; simp only at hown hj; have hsz := X.size; have hl := ops8_len j; refine CW.sub (m := [(1, .slice a (ops8 j).length cap), (2, .int .u8 (8 + (j : Int)))]) ?_ (by (refine sub_cons rfl ?_; refine sub_cons rfl ?_; exact sub_nil))
 by_cases hlt : j < 16
 · have hsn := ops8_snoc j
   focus
    refine cw_seq (cS (C1 Mv (C1 V4 (cT (Wyo (cw_skip (qw_then (cw_seq (cw_block (cw_region (C1 Mv ?_))))))))))); refine C1 Mv ?_; (refine lw_does (does_slice' [_] tabOk zOk rfl rfl rfl rfl rfl rfl rfl rfl rfl) rfl ?_ (fun _ h => h); rintro _ wa2 ⟨ba1, rfl, na3, ta4⟩); clear ta4; have ha5 := na3.blk; have xa6 := na3.ext; have pa7 := na3.pos; have za8 := na3.size; clear na3; replace hown := hown.ext xa6; replace X := X.ext xa6; clear xa6; refine lw_appendL (sh := u8Shape) (z := 8 + (j : Int)) tabOk zOk rfl rfl rfl rfl (by kernel_rfl) rfl rfl rfl hown (Blk.row (by assumption)) rfl (by omega) (by omega) rfl ?_; rintro ga9 cap'a10 wa11 ha12 fa13; have za14 := fa13.size; clear ha5 hown; replace X := X.fr fa13 (by omega); clear fa13; refine C1 Pa (lw_nil (qw_block_norm (qw_then (cw_region (C1 Mv ?_))))); refine C1 (pur_add rfl rfl (u8_wrap _ (by omega) (by omega))) ?_; refine C1 Pa (lw_nil ?_); rotate_left 1
   refine qw_round (j + 1, some ⟨_, 0, none⟩, _) ?_ ⟨by rw [hsn]; assumption, X, by simp only; omega⟩ (by simp only; omega); refine sub_cons' rfl (by rw [hsn]) (sub_cons' rfl ?_ sub_nil)
   simp only [Value.int.injEq, true_and]; omega
 · have : j = 16 := by omega
   subst this
   focus
    refine cw_seq (cS (C1 Mv (C1 V4 (cT (Wnd (cw_exit (qw_then_exit (qw_then_exit (qw_block_exit (qw_then (cS ?_))))))))))); refine C1 Mv (C1 Pa (cT (cw_ret (qw_ret1 rfl rfl ?_)))); rotate_left 1
   obtain ⟨g, cap', hv, hg, hall⟩ := hown.rows (by decide); simp only [Value.slice.injEq] at hv; obtain ⟨rfl, -, -⟩ := hv
   have hrow : Row w1 ⟨g, 0, none⟩ ((ops8 16).map (.int .u8 ·)) := fun i v hi => by
    rw [List.getElem?_map, Option.map_eq_some_iff] at hi; obtain ⟨x, hx, rfl⟩ := hi; obtain ⟨cs, hr, rfl⟩ := hall i x hx; have := hr.at0 rfl
    have e : (⟨g, 0, none⟩ : Addr).add i = ⟨g, i * u8Shape.sz, none⟩ := by
     have : u8Shape.sz = 1 := rfl
     unfold Addr.add; by_cases h0 : i = 0 <;> simp [h0, this]
    rw [e]; exact this
   exact ⟨g, cap, by rw [ops8_len], hg, hown.lt rfl, hrow, X⟩
end Bk
namespace Bk
open Go Go.RowKit Go.Proofs
attribute [local irreducible] Go.Calls
theorem ret2 {v v' : Value} {w w' : World} (h : v = v') (x : Ext w w') : Ending.returned v = Ending.returned v' ∧ Ext w w' := ⟨by rw [h], x⟩
set_option maxRecDepth 100000 in
set_option maxHeartbeats 4000000 in
theorem measure_c (N : Nat) : ∀ (t : Nd) (S : Nat → Prop) (a : Option Addr) (c : Nat) (w : World), t.size < N → t.size ≤ 1000000000 → t.sits S w a →
 Calls Tryz.prog 70 #[t.val a c] w fun e w' => e = .returned (.tuple #[.int .i64 (t.size : Int), .int .i64 (t.depth : Int)]) ∧ Ext w w' := by
 induction N with
 | zero => intro t S a c w h; omega
 | succ N ih =>
  rintro ⟨k, n, s, l⟩ S a c w hN hM hs
  have IH := Lib.hid ih; clear ih
  simp only [Nd.sits] at hs; simp only [Nd.size] at hN hM; have X := Ext.refl w; have hl := length_rowSize l; rw [show ((Nd.mk k n s l).size : Int) = ((rowSize l : Nat) : Int) + 1 from by simp only [Nd.size]; omega]; rw [show ((Nd.mk k n s l).depth : Int) = rowDepth l + 1 from by simp only [Nd.depth]]; refine calls_in Tryz.func70 Tryz.ntmps70 rfl rfl ?_
  focus
   refine cS ?_; (refine lw_box' [_, _, _, _] rfl rfl rfl ?_; intro b1 w2 n3); have h4 := n3.blk; have x5 := n3.ext; have p6 := n3.pos; have z7 := n3.size; clear n3; replace hs := Bk.rowSits.ext hs x5; replace X := X.ext x5; clear x5; refine C1 Pa (C1 Pa (cT (cw_seq (cS (C1 Pf (C1 (Pl h4) (C1 Pz (C1 Mv (cT (cw_block ?_)))))))))); rotate_left 1
  refine cw_loop (ι := Nat) (fun j => [(1, .pointer (some ⟨b1, 0, none⟩)), (9, .slice a l.length c), (10, .int .i64 l.length), (11, .int .i64 j), (2, .int .i64 ((rowSize (l.take j) : Nat) : Int)), (3, .int .i64 (rowDepth (l.take j)))]) (fun j w' => rowSits S w' l a ∧ Ext w w' ∧ j ≤ l.length) (fun j => l.length - j) 0 (by (refine sub_cons rfl ?_; refine sub_cons rfl ?_; refine sub_cons rfl ?_; refine sub_cons rfl ?_; refine sub_cons rfl ?_; refine sub_cons rfl ?_; exact sub_nil)) ⟨hs, X, Nat.zero_le _⟩ ?_; clear hs X h4; rintro j w1 ⟨hs, X, hj⟩
  by_cases hlt : j < l.length
  · obtain ⟨kb, ko, rfl, hkS, hkid⟩ := kidRows hs (by intro e; subst e; simp at hlt)
    obtain ⟨xa, xc, rx, sx⟩ := hkid j l[j] (List.getElem?_eq_getElem hlt); have hsz := size_mem (List.getElem_mem hlt)
    have ht : l.take (j + 1) = l.take j ++ [l[j]] := by rw [List.take_add_one, List.getElem?_eq_getElem hlt]; rfl
    have hb0 := rowDepth_le (l.take j); have hb1 := rowSize_take l j; have hb2 := rowSize_take l (j + 1); have hb3 := depth_le l[j]; rw [ht, rowSize_snoc] at hb2; clear hkid
    generalize l[j] = x at *
    have hq : max (rowDepth (l.take j)) x.depth = rowDepth (l.take (j + 1)) := by rw [ht, rowDepth_snoc]
    focus
     refine cS (C1 V3 (cT (cw_seq (Wyo (cw_skip (qw_then (cw_seq (cw_block (cS (C1 Pi (C1 (Pws rx) ?_))))))))))); (refine lw_alloc' [_, _, _, _] zOk rfl rfl ?_; intro ba1 wa2 na3); (refine lw_init' [_, _, _, _] tabOk rfl rfl rfl rfl rfl rfl na3 rfl ?_; clear na3; clear wa2; intro wa4 na3); have ha5 := na3.blk; have xa6 := na3.ext; have pa7 := na3.pos; have za8 := na3.size; clear na3; replace X := X.ext xa6; replace hs := Bk.rowSits.ext hs xa6; replace rx := rx.ext xa6; replace sx := Nd.sits.ext sx xa6; clear xa6; refine cN (lw_loads_b' [_, _, _, _] tabOk rfl rfl rfl ha5 rfl rfl rfl ?_); refine cC rfl (IH.out _ S _ _ _ (by omega) (by omega) (by assumption)) ?_; rintro _ wa10 ⟨⟨⟩, xa9⟩; have za11 := xa9.size; replace ha5 := ha5.ext xa9; replace X := X.ext xa9; replace hs := Bk.rowSits.ext hs xa9; replace rx := rx.ext xa9; replace sx := Nd.sits.ext sx xa9; clear xa9; refine C1 Mv (C1 Px (C1 Px (C1 Pa (C1 Pa (cN (C1 Mv (C1 Mv (C1 V7 (C1 Pa (cT (cw_region ?_))))))))))); refine C1 Mv (C1 Mv (C1 (pur_max rfl rfl rfl) (C1 Pa (lw_nil (qw_block_norm (qw_then (cw_region (C1 V7 (C1 Mv (lw_nil ?_)))))))))); rotate_left 1
    refine qw_round (j + 1) ?_ ⟨hs, X, by omega⟩ (by omega); rw [← hq, ht, rowSize_snoc]; (refine sub_cons rfl ?_; refine sub_cons rfl ?_; refine sub_cons rfl ?_; refine sub_cons rfl ?_; refine sub_cons rfl ?_; refine sub_cons rfl ?_; exact sub_nil)
  · have : j = l.length := by omega
    subst this; have hb0 := rowDepth_le l; rw [List.take_length]
    focus
     refine cS (C1 V3 (cT (cw_seq (Wno (cw_exit (qw_then_exit (qw_then_exit (qw_block_exit (qw_then (cS (C1 Mv ?_))))))))))); refine C1 V7 (C1 Mv (C1 V7 (C1 Pa (C1 Pa (cT (cw_ret (qw_ret2 rfl rfl rfl ?_))))))); rotate_left 1
    exact ⟨rfl, X⟩
theorem findF_at {lib : List FD} {s : List UInt8} {j : Nat} (hj : j < lib.length) (h : ∀ x ∈ lib.take j, x.name ≠ s) (hc : lib[j].name = s) : findF lib s = some j := by
 unfold findF
 rw [List.findIdx?_eq_some_iff_getElem]; refine ⟨hj, by simp [hc], fun i hi => ?_⟩; have := h lib[i] (List.mem_take_iff_getElem.2 ⟨i, by omega, rfl⟩)
 simpa using this
theorem findF_no {lib : List FD} {s : List UInt8} (h : ∀ x ∈ lib, x.name ≠ s) : findF lib s = none := by
 unfold findF
 rw [List.findIdx?_eq_none_iff]; intro x hx
 simpa using h x hx
theorem not_snoc {lib : List FD} {s : List UInt8} {j : Nat} (hj : j < lib.length) (h : ∀ x ∈ lib.take j, x.name ≠ s) (hc : lib[j].name ≠ s) : ∀ x ∈ lib.take (j + 1), x.name ≠ s := by
 rw [List.take_succ_eq_append_getElem hj]; intro x hx
 rcases List.mem_append.1 hx with hx | hx
 · exact h x hx
 · obtain rfl := List.mem_singleton.1 hx
   exact hc
def findI (lib : List FD) (s : List UInt8) : Int := ((findF lib s).map fun i : Nat => (i : Int)).getD (-1)
set_option maxRecDepth 100000 in
set_option maxHeartbeats 4000000 in
theorem Find_c (lib : List FD) (s : List UInt8) (S : Nat → Prop) (a : Option Addr) (c : Nat) (w : World) (hL : lib.length ≤ 1000000) (hs : FDs S w lib a) :
 Calls Tryz.prog 67 #[.slice a lib.length c, str s] w fun e w' => e = .returned (.int .i64 (findI lib s)) ∧ Ext w w' := by
 have X := Ext.refl w; replace hs := hs.ltA; refine calls_in Tryz.func67 Tryz.ntmps67 rfl rfl ?_
 focus
  refine cS (C1 Pa (cT (cw_seq (cS (C1 Mv (C1 Pz (C1 Mv (cT (cw_block ?_))))))))); rotate_left 1
 refine cw_loop (ι := Nat) (fun j => [(1, str s), (7, .slice a lib.length c), (8, .int .i64 lib.length), (9, .int .i64 j)]) (fun j w' => FDs (· < w.heap.size) w' lib a ∧ Ext w w' ∧ j ≤ lib.length ∧ ∀ x ∈ lib.take j, x.name ≠ s) (fun j => lib.length - j) 0 (by (refine sub_cons rfl ?_; refine sub_cons rfl ?_; refine sub_cons rfl ?_; refine sub_cons rfl ?_; exact sub_nil)) ⟨hs, X, Nat.zero_le _, by simp⟩ ?_; clear hs X; rintro j w1 ⟨hs, X, hj, hn⟩; have HN := Lib.hid hn; clear hn
 by_cases hlt : j < lib.length
 · obtain ⟨kb, ko, ⟨⟩, -, hk⟩ := Arr.get hs (by omega)
   obtain ⟨pa, pc, ba, bc, hr, h1, h2⟩ := hk j lib[j] (List.getElem?_eq_getElem hlt); clear hk; have hnx := Lib.hid (not_snoc hlt HN.out); have hnt := Lib.hid (findF_at hlt HN.out); clear HN; have hsz := X.size
   generalize lib[j] = x at *
   by_cases hx : x.name = s
   · have hq := Lib.hid (hnt.out hx)
     clear hnx hnt
     focus
      refine cS (C1 V3 (cT (cw_seq (Wyo (cw_skip (qw_then (cw_seq (cw_block (cS (C1 Mv (C1 Pi ?_))))))))))); refine C1 (Pws hr) ?_; (refine lw_alloc' [_, _, _, _, _, _, _] zOk rfl rfl ?_; intro ba1 wa2 na3); have ha5 := na3.blk; have xa6 := na3.ext; have pa7 := na3.pos; have za8 := na3.size; clear na3; replace X := X.ext xa6; replace hs := hs.ext xa6; replace hr := hr.ext xa6; replace h1 := h1.ext xa6; replace h2 := Nd.sits.ext h2 xa6; clear xa6; refine C1 Pa ?_; (refine lw_store' [_, _, _, _, _, _, _] [_, _, _, _, _, _, _] tabOk rfl rfl rfl rfl rfl rfl ha5 rfl rfl ?_; intro wa9 na10); have ha13 := na10.blk; have fa11 := na10.fr; have za12 := na10.size; clear na10 ha5; replace X := X.fr fa11 (by omega); replace hs := hs.fr fa11 (by omega); clear hr; replace h1 := h1.fr fa11 (by omega); replace h2 := Nd.sits.fr h2 fa11 (by omega); clear fa11; refine cN (C1 Pg (C1 (Pl ha13) (C1 Mv (C1 V8 (cT (Wya (cS (C1 Mv (C1 Pa (cT (cw_ret ?_))))))))))); refine qw_block_ret (qw_then_ret (qw_then_ret (qw_block_ret (qw_then_ret (qw_ret1 rfl rfl ?_))))); rotate_left 1
     exact ⟨by simp [findI, hq.out], X⟩
   · have hq := Lib.hid (hnx.out hx)
     clear hnx hnt
     focus
      refine cS (C1 V3 (cT (cw_seq (Wyo (cw_skip (qw_then (cw_seq (cw_block (cS (C1 Mv (C1 Pi ?_))))))))))); refine C1 (Pws hr) ?_; (refine lw_alloc' [_, _, _, _, _, _, _] zOk rfl rfl ?_; intro bb1 wb2 nb3); have hb5 := nb3.blk; have xb6 := nb3.ext; have pb7 := nb3.pos; have zb8 := nb3.size; clear nb3; replace X := X.ext xb6; replace hs := hs.ext xb6; replace hr := hr.ext xb6; replace h1 := h1.ext xb6; replace h2 := Nd.sits.ext h2 xb6; clear xb6; refine C1 Pa ?_; (refine lw_store' [_, _, _, _, _, _, _] [_, _, _, _, _, _, _] tabOk rfl rfl rfl rfl rfl rfl hb5 rfl rfl ?_; intro wb9 nb10); have hb13 := nb10.blk; have fb11 := nb10.fr; have zb12 := nb10.size; clear nb10 hb5; replace X := X.fr fb11 (by omega); replace hs := hs.fr fb11 (by omega); clear hr; replace h1 := h1.fr fb11 (by omega); replace h2 := Nd.sits.fr h2 fb11 (by omega); clear fb11; refine cN (C1 Pg (C1 (Pl hb13) (C1 Mv (C1 V8 (cT (Wna (cw_skip (qw_block_norm (qw_then (cw_region (C1 V7 ?_))))))))))); refine C1 Mv (lw_nil ?_); rotate_left 1
     exact qw_round (j + 1) (by (refine sub_cons rfl ?_; refine sub_cons rfl ?_; refine sub_cons rfl ?_; refine sub_cons rfl ?_; exact sub_nil)) ⟨hs, X, by omega, hq.out⟩ (by omega)
 · have hje : j = lib.length := by omega
   subst hje; have hn := HN.out; rw [List.take_length] at hn; have hq := Lib.hid (findF_no hn); clear hn HN
   focus
    refine cS (C1 V3 (cT (cw_seq (Wno (cw_exit (qw_then_exit (qw_then_exit (qw_block_exit (qw_then (cS (C1 Pa ?_))))))))))); refine cT (cw_ret (qw_ret1 rfl rfl ?_)); rotate_left 1
   exact ⟨by simp [findI, hq.out], X⟩
def namesM (l : List FP) : List (List UInt8 × Value) := l.foldl (fun m p => setS m p.name (.bool true)) []
theorem namesM_snoc (l : List FP) (p : FP) : namesM (l ++ [p]) = setS (namesM l) p.name (.bool true) := by simp [namesM]
theorem namesM_keys (l : List FP) : ∀ s, s ∈ (namesM l).map Prod.fst ↔ s ∈ l.map FP.name := by
 have key : ∀ (l : List FP) (m : List (List UInt8 × Value)) (s : List UInt8), s ∈ (l.foldl (fun m p => setS m p.name (.bool true)) m).map Prod.fst ↔ s ∈ m.map Prod.fst ∨ s ∈ l.map FP.name := by
  intro l
  induction l with
  | nil => intro m s; simp
  | cons p r ih =>
   intro m s; rw [List.foldl_cons, ih, keys_set]
   by_cases h : p.name ∈ m.map Prod.fst
   · rw [if_pos h]
     simp only [List.map_cons, List.mem_cons]
     constructor
     · rintro (h | h)
       · exact Or.inl h
       · exact Or.inr (Or.inr h)
     · rintro (h | rfl | h)
       · exact Or.inl h
       · exact Or.inl (by assumption)
       · exact Or.inr h
   · rw [if_neg h]
     simp only [List.mem_append, List.map_cons, List.mem_cons, List.not_mem_nil, or_false, or_assoc]
 intro s; rw [namesM, key]
 simp
theorem namesM_len (l : List FP) : (namesM l).length ≤ l.length ∧ ((l.map FP.name).Nodup ↔ (namesM l).length = l.length) := by
 have key : ∀ r : List FP, ∀ l : List FP, (namesM l).length ≤ l.length ∧ ((l.map FP.name).Nodup ↔ (namesM l).length = l.length) → (namesM (l ++ r)).length ≤ (l ++ r).length ∧ (((l ++ r).map FP.name).Nodup ↔ (namesM (l ++ r)).length = (l ++ r).length) := by
  intro r
  induction r with
  | nil => intro l h; simpa using h
  | cons p r ih =>
   intro l ⟨h1, h2⟩
   have e : l ++ p :: r = (l ++ [p]) ++ r := by simp
   rw [e]; refine ih _ ?_; have hk := keys_set (namesM l) p.name (.bool true); have hl := congrArg List.length hk; rw [List.length_map] at hl; rw [namesM_snoc]
   by_cases h : p.name ∈ (namesM l).map Prod.fst
   · rw [if_pos h] at hl
     rw [List.length_map] at hl; refine ⟨by simp only [List.length_append, List.length_singleton]; omega, ?_⟩; have h3 := (namesM_keys l p.name).1 h; rw [List.map_append, List.nodup_append]
     constructor
     · rintro ⟨-, -, h⟩
       exact absurd rfl (h _ h3 p.name (by simp))
     · simp only [List.length_append, List.length_singleton]; omega
   · rw [if_neg h] at hl
     simp only [List.length_append, List.length_map, List.length_singleton] at hl; refine ⟨by simp only [List.length_append, List.length_singleton]; omega, ?_⟩; have h3 := mt (namesM_keys l p.name).2 h; rw [List.map_append, List.nodup_append, h2]
     constructor
     · rintro ⟨h, -, -⟩; simp only [List.length_append, List.length_singleton]; omega
     · intro hh
       simp only [List.length_append, List.length_singleton] at hh; refine ⟨by omega, by simp, ?_⟩; intro x hx y hy he; simp only [List.map_cons, List.map_nil, List.mem_singleton] at hy
       subst hy; subst he; exact h3 hx
 simpa using key l [] (by simp [namesM])
theorem all_snoc {l : List FP} {j : Nat} (hj : j < l.length) (h : (l.take j).all (fun p => funName p.name) = true) (hc : funName l[j].name = true) : (l.take (j + 1)).all (fun p => funName p.name) = true := by
 rw [List.take_succ_eq_append_getElem hj, List.all_append, h]
 simp [hc]
theorem all_not {l : List FP} {j : Nat} (hj : j < l.length) (hc : funName l[j].name = false) : l.all (fun p => funName p.name) = false := by
 rw [List.all_eq_false]
 exact ⟨l[j], List.getElem_mem hj, by simp [hc]⟩
theorem namesM_take {l : List FP} {j : Nat} (hj : j < l.length) : setS (namesM (l.take j)) l[j].name (.bool true) = namesM (l.take (j + 1)) := by
 rw [List.take_succ_eq_append_getElem hj, namesM_snoc]
theorem funIsName_v {s : List UInt8} {b : Bool} (h : funName s = b) (w : World) (hs : s.length ≤ 9223372036854775807) : Calls Tryz.prog 66 #[str s] w fun e w' => e = .returned (.bool b) ∧ Ext w w' := by
 have := funIsName_c s w (by omega)
 rw [h] at this; exact this
set_option maxRecDepth 100000 in
set_option maxHeartbeats 4000000 in
theorem parameters_c (l : List FP) (S : Nat → Prop) (a : Option Addr) (c : Nat) (w : World) (hL : l.length ≤ 1000000) (hN : ∀ p ∈ l, p.name.length ≤ 9223372036854775807) (hs : FPs S w l a) :
 Calls Tryz.prog 68 #[.slice a l.length c] w fun e w' => e = .returned (.int .i64 (paramErr l)) ∧ Ext w w' := by
 have X := Ext.refl w; have HN := Lib.hid hN; clear hN
 have hpe : paramErr l = if 8 < l.length then 5 else if l.all (fun p => funName p.name) then (if (l.map FP.name).Nodup then 0 else 22) else 3 := rfl
 by_cases h8 : 8 < l.length
 · rw [hpe, if_pos h8]
   clear hpe; refine calls_in Tryz.func68 Tryz.ntmps68 rfl rfl ?_
   focus
    refine cS (C1 Pa (cT (cw_seq (cS (C1 Mv (C1 Pz (C1 V5 (cT (Wyo (cS (C1 Pa ?_))))))))))); refine cT (cw_ret (qw_then_ret (qw_ret1 rfl rfl ?_))); rotate_left 1
   exact ⟨rfl, X⟩
 rw [if_neg h8] at hpe; have HP := Lib.hid hpe; clear hpe; have hnl := namesM_len l; have HD := Lib.hid hnl.2; have hn1 := hnl.1; clear hnl
 generalize hm : paramErr l = pe at *
 clear hm; replace hs := hs.ltA; refine calls_in Tryz.func68 Tryz.ntmps68 rfl rfl ?_
 focus
  refine cS (C1 Pa (cT (cw_seq (cS (C1 Mv (C1 Pz (C1 V5 (cT (Wno (cw_skip (qw_then ?_))))))))))); refine cS (lw_makeMap rfl ?_); rintro ra1 wa2 rfl ha3 xa4 ha5; have za6 := xa4.size; replace X := X.ext xa4; replace hs := hs.ext xa4; clear xa4; refine C1 Pa (cT (cw_seq (cS (C1 Mv (C1 Pz (C1 Mv (cT (cw_block ?_)))))))); rotate_left 1
 generalize hr : w.heap.size = r at *
 refine cw_loop (ι := Nat) (fun j => [(0, .slice a l.length c), (3, .map (some r)), (10, .slice a l.length c), (11, .int .i64 l.length), (12, .int .i64 j)]) (fun j w' => MapIs w' r (namesM (l.take j)) ∧ FPs (· < r) w' l a ∧ Ext w w' ∧ j ≤ l.length ∧ (l.take j).all (fun p => funName p.name) = true ∧ r < w'.heap.size) (fun j => l.length - j) 0 (by (refine sub_cons rfl ?_; refine sub_cons rfl ?_; refine sub_cons rfl ?_; refine sub_cons rfl ?_; refine sub_cons rfl ?_; exact sub_nil)) ⟨by assumption, hs, X, Nat.zero_le _, by simp, by omega⟩ ?_; clear hs X; rintro j w1 ⟨hM, hs, X, hj, hn, hz⟩; have HA := Lib.hid hn; clear hn
 by_cases hlt : j < l.length
 · obtain ⟨kb, ko, ⟨⟩, -, hk⟩ := Arr.get hs (by omega)
   have hrx := hk j l[j] (List.getElem?_eq_getElem hlt); simp only [FPAt] at hrx; have hnx := Lib.hid (all_snoc hlt HA.out); have hnt := Lib.hid (all_not hlt); have hst := namesM_take hlt; have hxl := HN.out _ (List.getElem_mem hlt); clear hk HA
   generalize l[j] = x at *
   by_cases hx : funName x.name = true
   · have hq := Lib.hid (hnx.out hx)
     have hi := Lib.hid (funIsName_v hx); clear hnx hnt hx
     focus
      refine cS (C1 V3 (cT (cw_seq (Wyo (cw_skip (qw_then (cw_seq (cw_block (cS (C1 Pi (C1 (Pws hrx) ?_))))))))))); (refine lw_alloc' [_, _] zOk rfl rfl ?_; intro bb1 wb2 nb3); (refine lw_init' [_, _] tabOk rfl rfl rfl rfl rfl rfl nb3 rfl ?_; clear nb3; clear wb2; intro wb4 nb3); have hb5 := nb3.blk; have xb6 := nb3.ext; have pb7 := nb3.pos; have zb8 := nb3.size; clear nb3; replace hM := hM.ext xb6; replace X := X.ext xb6; replace hs := hs.ext xb6; replace hrx := hrx.ext xb6; clear xb6; refine cT (cw_seq (cS (C1 Pg (C1 (Pl hb5) ?_)))); refine cC rfl (hi.out _ (by omega)) ?_; rintro _ wb10 ⟨⟨⟩, xb9⟩; have zb11 := xb9.size; replace hb5 := hb5.ext xb9; replace hM := hM.ext xb9; replace X := X.ext xb9; replace hs := hs.ext xb9; replace hrx := hrx.ext xb9; clear xb9; refine C1 Pt (cT (cw_cond_f rfl (cw_skip (qw_then (cw_region (C1 Mv (C1 Pg (C1 (Pl hb5) (lw_mapput tabOk rfl rfl rfl rfl rfl hM ?_))))))))); rintro wb12 hb13 fb14; have zb15 := fb14.size; replace hb5 := hb5.fr fb14 (by omega); clear hM; replace X := X.fr fb14 (by omega); replace hs := hs.fr fb14 (by omega); clear hrx fb14; refine lw_nil (qw_block_norm (qw_then (cw_region (C1 V7 (C1 Mv (lw_nil ?_)))))); rotate_left 1
     exact qw_round (j + 1) (by (refine sub_cons rfl ?_; refine sub_cons rfl ?_; refine sub_cons rfl ?_; refine sub_cons rfl ?_; refine sub_cons rfl ?_; exact sub_nil)) ⟨by rw [← hst]; assumption, hs, X, by omega, hq.out, by omega⟩ (by omega)
   · have hx : funName x.name = false := by simpa using hx
     have hq := Lib.hid (hnt.out hx); have hi := Lib.hid (funIsName_v hx); clear hnx hnt hx
     focus
      refine cS (C1 V3 (cT (cw_seq (Wyo (cw_skip (qw_then (cw_seq (cw_block (cS (C1 Pi (C1 (Pws hrx) ?_))))))))))); (refine lw_alloc' [_, _] zOk rfl rfl ?_; intro bc1 wc2 nc3); (refine lw_init' [_, _] tabOk rfl rfl rfl rfl rfl rfl nc3 rfl ?_; clear nc3; clear wc2; intro wc4 nc3); have hc5 := nc3.blk; have xc6 := nc3.ext; have pc7 := nc3.pos; have zc8 := nc3.size; clear nc3; replace hM := hM.ext xc6; replace X := X.ext xc6; replace hs := hs.ext xc6; replace hrx := hrx.ext xc6; clear xc6; refine cT (cw_seq (cS (C1 Pg (C1 (Pl hc5) ?_)))); refine cC rfl (hi.out _ (by omega)) ?_; rintro _ wc10 ⟨⟨⟩, xc9⟩; have zc11 := xc9.size; replace hc5 := hc5.ext xc9; replace hM := hM.ext xc9; replace X := X.ext xc9; replace hs := hs.ext xc9; replace hrx := hrx.ext xc9; clear xc9; refine C1 Pt (cT (cw_cond_t rfl (cS (C1 Pa (cT (cw_ret (qw_then_ret (qw_block_ret (qw_then_ret (qw_then_ret (qw_block_ret ?_))))))))))); refine qw_then_ret (qw_ret1 rfl rfl ?_); rotate_left 1
     exact ⟨by rw [HP.out, hq.out]; rfl, X⟩
 · have hje : j = l.length := by omega
   subst hje; have hn := HA.out; rw [List.take_length] at hn hM; have hq := Lib.hid hn; clear hn HA
   by_cases hd : (namesM l).length = l.length
   · have hdd := Lib.hid (HD.out.2 hd)
     focus
      refine cS (C1 V3 (cT (cw_seq (Wno (cw_exit (qw_then_exit (qw_then_exit (qw_block_exit (qw_then (cw_seq (cS ?_))))))))))); refine C1 Mv ?_; refine C1 (pur_maplen tabOk rfl rfl (fun wz hz => by subst hz; exact hM)) ?_; refine C1 Mv (C1 Pz (C1 V3 (cT (Wno (cw_skip (qw_then (cS (C1 Pa (cT (cw_ret (qw_ret1 rfl rfl ?_))))))))))); rotate_left 1
     exact ⟨by rw [HP.out, hq.out, if_pos rfl, if_pos hdd.out], X⟩
   · have hdd := Lib.hid (fun h => hd (HD.out.1 h))
     focus
      refine cS (C1 V3 (cT (cw_seq (Wno (cw_exit (qw_then_exit (qw_then_exit (qw_block_exit (qw_then (cw_seq (cS ?_))))))))))); refine C1 Mv ?_; refine C1 (pur_maplen tabOk rfl rfl (fun wz hz => by subst hz; exact hM)) ?_; refine C1 Mv (C1 Pz (C1 V3 (cT (Wyo (cS (C1 Pa (cT (cw_ret (qw_then_ret (qw_ret1 rfl rfl ?_)))))))))); rotate_left 1
     exact ⟨by rw [HP.out, hq.out, if_pos rfl, if_neg hdd.out], X⟩
end Bk
namespace Bk
open Go Go.RowKit
mutual
theorem rowSits_lt {S : Nat → Prop} {w : World} : ∀ (l : List Nd) (a : Option Addr), rowSits S w l a → rowSits (· < w.heap.size) w l a
 | [], _, _ => by simp [rowSits]
 | t :: r, a, h => by
  simp only [rowSits] at h ⊢; obtain ⟨b, o, a', c, rfl, hb, h0, h1, h2, h3, hs, hr⟩ := h
  exact ⟨b, o, a', c, rfl, cell_lt h0, h0, h1, h2, h3, sits_lt t a' hs, rowSits_lt r _ hr⟩
theorem sits_lt {S : Nat → Prop} {w : World} : ∀ (t : Nd) (a : Option Addr), t.sits S w a → t.sits (· < w.heap.size) w a
 | .mk _ _ _ l, a, h => by
  simp only [Nd.sits] at h ⊢
  exact rowSits_lt l a h
end
end Bk
namespace Bk
open Go Go.RowKit Go.Proofs
attribute [local irreducible] Go.Calls
end Bk
namespace Bk
def digitsFrom (a : Nat) (s : List UInt8) : Nat := s.foldl (fun a c => a * 10 + (c.toNat - 48)) a
theorem digitsFrom_le (s : List UInt8) : ∀ a, a ≤ digitsFrom a s := by
 induction s with
 | nil => intro a; exact Nat.le_refl _
 | cons c r ih => intro a; have := ih (a * 10 + (c.toNat - 48)); simp only [digitsFrom, List.foldl_cons] at this ⊢; omega
theorem digitsFrom_append (a : Nat) (s t : List UInt8) : digitsFrom a (s ++ t) = digitsFrom (digitsFrom a s) t := by simp [digitsFrom]
theorem digitsFrom_snoc (a : Nat) (s : List UInt8) (c : UInt8) : digitsFrom a (s ++ [c]) = digitsFrom a s * 10 + (c.toNat - 48) := by simp [digitsFrom]
end Bk
namespace Bk
open Go Go.RowKit Go.Proofs
attribute [local irreducible] Go.Calls
theorem parseUint_digits : ∀ (s : List UInt8) (a : Nat), a < 18446744073709551616 → (∀ c ∈ s, digit c = true) →
 (Lib.parseUint10 a s = .ok (digitsFrom a s) ∧ digitsFrom a s < 18446744073709551616) ∨ (Lib.parseUint10 a s = .range ∧ 18446744073709551616 ≤ digitsFrom a s)
 | [], a, ha, _ => Or.inl ⟨rfl, ha⟩
 | c :: r, a, ha, hd => by
  have hc := hd c List.mem_cons_self; simp only [digit, Bool.and_eq_true, decide_eq_true_eq] at hc
  have hr : ∀ x ∈ r, digit x = true := fun x hx => hd x (List.mem_cons_of_mem _ hx)
  have hle := digitsFrom_le r (a * 10 + (c.toNat - 48)); have he : digitsFrom a (c :: r) = digitsFrom (a * 10 + (c.toNat - 48)) r := rfl; rw [he]; simp only [Lib.parseUint10, hc, and_self, if_true]
  by_cases h1 : 1844674407370955162 ≤ a
  · rw [if_pos h1]; exact Or.inr ⟨rfl, by omega⟩
  · rw [if_neg h1]
    by_cases h2 : 18446744073709551616 ≤ a * 10 + (c.toNat - 48)
    · rw [if_pos h2]; exact Or.inr ⟨rfl, by omega⟩
    · rw [if_neg h2]
      exact parseUint_digits r _ (by omega) hr
theorem atoi_digits (s : List UInt8) (hs : s ≠ []) (hd : ∀ c ∈ s, digit c = true) :
 Lib.atoiAll s = if (digitsVal s : Int) ≤ 9223372036854775807 then .ok (digitsVal s) else .range := by
 cases s with
 | nil => exact absurd rfl hs
 | cons c r =>
  have hc := hd c List.mem_cons_self; simp only [digit, Bool.and_eq_true, decide_eq_true_eq] at hc
  have n45 : ¬ c.toNat = 45 := by omega
  have n43 : ¬ c.toNat = 43 := by omega
  have e : digitsVal (c :: r) = digitsFrom 0 (c :: r) := rfl; rw [e]
  have hm : Lib.parseMag (c :: r) = Lib.parseUint10 0 (c :: r) := by simp [Lib.parseMag]
  unfold Lib.atoiAll
  simp only [n45, n43, or_self, if_false, hm, not_false_eq_true, true_and, false_and]
  rcases parseUint_digits (c :: r) 0 (by omega) hd with ⟨h1, h2⟩ | ⟨h1, h2⟩
  · rw [h1]
    simp only
    by_cases h : 9223372036854775808 ≤ digitsFrom 0 (c :: r)
    · rw [if_pos h, if_neg (by omega)]
    · rw [if_neg h, if_pos (by omega)]
  · rw [h1, if_neg (by omega)]
theorem Ext.bytes (w : World) (e : TypeId) (s : ByteArray) : Ext w (Lib.bytesWorld w e s) := Lib.bytesWorld_below w e s
theorem Atoi_ok (s : List UInt8) (w : World) (hs : s ≠ []) (hd : ∀ c ∈ s, digit c = true) (hl : s.length ≤ 1000000) (h : (digitsVal s : Int) ≤ 9223372036854775807) :
 Calls Tryz.prog 128 #[str s] w fun e w' => e = .returned (.tuple #[.int .i64 (digitsVal s), .nilIface]) ∧ Ext w w' := by
 have ha := atoi_digits s hs hd; rw [if_pos h] at ha; refine (Tryz.strconv_Atoi_ok ⟨s.toArray⟩ (by rw [ba_size]; omega) (digitsVal s) (by simpa using ha) w).mono ?_; rintro e w' ⟨rfl, rfl | ⟨t, rfl⟩⟩
 · exact ⟨rfl, Ext.refl _⟩
 · exact ⟨rfl, Ext.bytes _ _ _⟩
theorem Atoi_range (s : List UInt8) (w : World) (hs : s ≠ []) (hd : ∀ c ∈ s, digit c = true) (hl : s.length ≤ 1000000) (h : ¬ (digitsVal s : Int) ≤ 9223372036854775807) (he : Errs w) :
 Calls Tryz.prog 128 #[str s] w fun e w' => ∃ te pe, e = .returned (.tuple #[.int .i64 9223372036854775807, .iface te pe]) ∧ Ext w w' := by
 have ha := atoi_digits s hs hd; rw [if_neg h] at ha; obtain ⟨te, pe, hv⟩ := he.ex; refine (Tryz.strconv_Atoi_range ⟨s.toArray⟩ (by rw [ba_size]; omega) (by simpa using ha) (.iface te pe) w hv (Or.inr ⟨te, pe, rfl⟩)).mono ?_; rintro e w' ⟨N, rfl, -, -, hb⟩
 have : Lib.atoiSat (⟨s.toArray⟩ : ByteArray).data.toList = 9223372036854775807 := by
  cases s with
  | nil => exact absurd rfl hs
  | cons c r =>
   have hc := hd c List.mem_cons_self; simp only [digit, Bool.and_eq_true, decide_eq_true_eq] at hc
   simp [Lib.atoiSat]; omega
 rw [this]
 exact ⟨_, _, rfl, hb⟩
end Bk
namespace Bk
open Go Go.RowKit Go.Proofs
attribute [local irreducible] Go.Calls
structure PCF where
 pb : Nat
 B : Nat
 ts : List Tok
 n : Int
 a : Option Addr
 cap : Nat
 r : Nat
abbrev PCF.cells (c : PCF) (σ : PS) : List Value := [.slice c.a c.ts.length c.cap, .int .i64 σ.at_, .int .i64 c.n, .map (some c.r), .int .i64 σ.err, .int .i64 σ.off]
structure PPF (c : PCF) (σ : PS) (w : World) : Prop where
 blk : Blk w c.pb (c.cells σ)
 toks : Arr (fun b => b < c.B ∧ b ≠ c.pb) 3 TokAt w c.ts c.a
 map : MapIs w c.r binMap
 pbB : c.pb < c.B
 rB : c.r < c.B
 rne : c.r ≠ c.pb
 B : c.B ≤ w.heap.size
 at_ : σ.at_ ≤ c.ts.length
 len : c.ts.length ≤ 1000000
 tok : ∀ t ∈ c.ts, t.text.length ≤ 1000000
 num : ∀ t ∈ c.ts, t.kind = 2 → t.text ≠ [] ∧ ∀ x ∈ t.text, digit x = true
 errs : Errs w
 gl : 6 < c.pb
theorem PPF.ext {c : PCF} {σ : PS} {w w' : World} (h : PPF c σ w) (x : Ext w w') : PPF c σ w' :=
 ⟨h.blk.ext x, h.toks.mono (fun _ h => h) (fun _ _ _ _ _ h => Row.ext h x), h.map.ext x, h.pbB, h.rB, h.rne, Nat.le_trans h.B x.size, h.at_, h.len, h.tok, h.num, h.errs.ext x, h.gl⟩
theorem PPF.fr {c : PCF} {σ : PS} {S : Nat → Prop} {w w' : World} (h : PPF c σ w) (x : Fr S w w') (hs : ∀ k, S k → c.B ≤ k) : PPF c σ w' :=
 ⟨h.blk.fr x (fun e => by have := hs _ e; have := h.pbB; omega), h.toks.mono (fun _ h => h) (fun b _ _ _ hb h => Row.fr h x (fun e => by have h1 := hs _ e; have h2 := hb.1; have h3 : c.B ≤ b := h1; omega)), h.map.fr x (fun e => by have := hs _ e; have := h.rB; omega), h.pbB, h.rB, h.rne, Nat.le_trans h.B x.size, h.at_, h.len, h.tok, h.num, h.errs.fr x (fun e => by have := hs _ e; have := h.gl; have := h.pbB; omega), h.gl⟩
theorem PPF.put {c : PCF} {σ σ' : PS} {w w' : World} (h : PPF c σ w) (p : Put w w' c.pb (c.cells σ')) (ha : σ'.at_ ≤ c.ts.length) : PPF c σ' w' :=
 ⟨p.blk, h.toks.mono (fun _ h => h) (fun b _ _ _ hb h => Row.fr h p.fr (fun e => hb.2 e)), h.map.fr p.fr (fun e => h.rne e), h.pbB, h.rB, h.rne, Nat.le_trans h.B p.fr.size, ha, h.len, h.tok, h.num, h.errs.fr p.fr (fun e => by have := h.gl; have e' : 6 = c.pb := e; omega), h.gl⟩
section
variable {P : Program} {n : Nat} {ops : Array Oper} {Q : Exit → Act → World → Prop} {rest : List Oper} {l : Sl} {w : World} {tab : Tab} {ty : TypeId} {pos : String} {after : Array Edge}
theorem lw_ppf {c : PCF} {σ σ' : PS} {x y : Operand} {t sz o : Nat} {s : Sk} {v : Value} (T : TabOk P tab) (ht : lookT tab t = some (s, sz)) (hsz : sz = 1) (hx : ev l x = some (.pointer (some ⟨c.pb, o, none⟩))) (hy : ev l y = some v) (hv : v.cells = #[v]) (h1 : Value.one v = true) (hP : PPF c σ w) (ho : Nat.ble (o + 1) 6 = true)
 (he : (c.cells σ).set o v = c.cells σ') (ha : σ'.at_ ≤ c.ts.length) (k : ∀ w1, PPF c σ' w1 → Fr (· = c.pb) w w1 → LW P n ops Q rest l w1) : LW P n ops Q (⟨none, .store t x y, ty, pos, after, none⟩ :: rest) l w :=
 lw_store T ht hx hy (us := [v]) hv (by simp [hsz]) (by simp [h1]) hP.blk (by simpa using ho) (fun w1 p => by
  have e : setMany (c.cells σ) o [v] = c.cells σ' := by simp only [setMany]; exact he
  rw [e] at p
  exact k w1 (hP.put p ha) p.fr)
theorem lw_ppf_at {c : PCF} {σ : PS} {x y : Operand} {t sz : Nat} {s : Sk} (T : TabOk P tab) (ht : lookT tab t = some (s, sz)) (hsz : sz = 1) (hx : ev l x = some (.pointer (some ⟨c.pb, 1, none⟩))) (hy : ev l y = some (.int .i64 ((σ.at_ : Int) + 1))) (hP : PPF c σ w) (ha : σ.at_ < c.ts.length)
 (k : ∀ w1, PPF c (nextP σ) w1 → Fr (· = c.pb) w w1 → LW P n ops Q rest l w1) : LW P n ops Q (⟨none, .store t x y, ty, pos, after, none⟩ :: rest) l w :=
 lw_ppf (σ' := nextP σ) T ht hsz hx hy rfl rfl hP rfl rfl ha k
theorem lw_ppf_off {c : PCF} {σ : PS} {x y : Operand} {t sz : Nat} {s : Sk} {v : Int} (T : TabOk P tab) (ht : lookT tab t = some (s, sz)) (hsz : sz = 1) (hx : ev l x = some (.pointer (some ⟨c.pb, 5, none⟩))) (hy : ev l y = some (.int .i64 v)) (hP : PPF c σ w)
 (k : ∀ w1, PPF c ⟨σ.at_, v, σ.err⟩ w1 → Fr (· = c.pb) w w1 → LW P n ops Q rest l w1) : LW P n ops Q (⟨none, .store t x y, ty, pos, after, none⟩ :: rest) l w :=
 lw_ppf (σ' := ⟨σ.at_, v, σ.err⟩) T ht hsz hx hy rfl rfl hP rfl rfl hP.at_ k
theorem lw_ppf_err {c : PCF} {σ : PS} {x y : Operand} {t sz : Nat} {s : Sk} {v : Int} (T : TabOk P tab) (ht : lookT tab t = some (s, sz)) (hsz : sz = 1) (hx : ev l x = some (.pointer (some ⟨c.pb, 4, none⟩))) (hy : ev l y = some (.int .i64 v)) (hP : PPF c σ w)
 (k : ∀ w1, PPF c ⟨σ.at_, σ.off, v⟩ w1 → Fr (· = c.pb) w w1 → LW P n ops Q rest l w1) : LW P n ops Q (⟨none, .store t x y, ty, pos, after, none⟩ :: rest) l w :=
 lw_ppf (σ' := ⟨σ.at_, σ.off, v⟩) T ht hsz hx hy rfl rfl hP rfl rfl hP.at_ k
end
set_option maxRecDepth 100000 in
set_option maxHeartbeats 1000000 in
theorem fpeek_c (c : PCF) (σ : PS) (w : World) (hP : PPF c σ w) :
 Calls Tryz.prog 88 #[.pointer (some ⟨c.pb, 0, none⟩)] w fun e w' => e = .returned (peekP c.ts σ).val ∧ Ext w w' := by
 have hat := hP.at_; have X := Ext.refl w
 by_cases h : σ.err ≠ 0 ∨ σ.at_ = c.ts.length
 · rw [peek_off h]
   by_cases he : σ.err = 0
   · have ha : σ.at_ = c.ts.length := h.resolve_left (fun e => e he)
     refine calls_in Tryz.func88 Tryz.ntmps88 rfl rfl ?_
     focus
      refine cS ?_; (refine lw_alloc' [_, _, _] zOk rfl rfl ?_; intro b1 w2 n3); have h5 := n3.blk; have x6 := n3.ext; have p7 := n3.pos; have z8 := n3.size; clear n3; replace hP := hP.ext x6; replace X := X.ext x6; clear x6; refine cT (cw_seq (cw_seq ?_)); (refine cw_tdraw (fun wz => Ext w2 wz) 15 (.pure 0 (.pure 1 (.pure 2 (.pure 3 (.pure 4 (.pure 5 (.pure 6 (.pure 7 (.pure 8 (.pure 9 (.pure 10 (.pure 11 (.pure 12 (.pure 13 (.pure 14 .tail))))))))))))))) mixed (by kernel_rfl) (panicOk_then (panicOk_then panicOk_body)) ?_; intro w9 x10 _); have qs11 : (fun wz => Ext w2 wz) w9 := x10; simp only at qs11; have d_h5 := h5; have d_hP := hP; have z12 := x10.size; replace h5 := h5.ext x10; replace hP := hP.ext x10; replace X := X.ext x10; clear x10; refine ⟨qs11, ?_⟩; refine Tq rfl Mv (Tq rfl Pn (Tq rfl Pf (Tq rfl (pur_load tabOk rfl rfl rfl (fun wz hz => Blk.cell (Blk.ext (PPF.blk d_hP) hz) rfl)) (Tq rfl V2 (Tq rfl Mv ?_))))); refine tw_on rfl rfl rfl rfl (gd_ff (by omega)) (pur_move rfl) rfl ?_; refine tw_on rfl rfl rfl rfl (gd_ff (by omega)) (pur_nilCheck rfl) rfl ?_; refine tw_on rfl rfl rfl rfl (gd_ff (by omega)) (pur_fieldAddr tabOk rfl rfl rfl) rfl ?_; refine tw_on rfl rfl rfl rfl (gd_ff (by omega)) (pur_load tabOk rfl rfl rfl (fun wz hz => Blk.cell (Blk.ext (PPF.blk d_hP) hz) rfl)) rfl ?_; refine tw_on rfl rfl rfl rfl (gd_ff (by omega)) (pur_move rfl) rfl ?_; refine tw_on rfl rfl rfl rfl (gd_ff (by omega)) (pur_nilCheck rfl) rfl ?_; refine tw_on rfl rfl rfl rfl (gd_ff (by omega)) (pur_fieldAddr0 tabOk rfl rfl rfl) rfl ?_
      refine tw_on rfl rfl rfl rfl (gd_ff (by omega)) (pur_load tabOk rfl rfl rfl (fun wz hz => Blk.cell (Blk.ext (PPF.blk d_hP) hz) rfl)) rfl ?_; refine tw_on rfl rfl rfl rfl (gd_ff (by omega)) (pur_len_slice tabOk rfl rfl) rfl ?_; clear qs11 d_h5 d_hP; refine tw_tail rfl (Gno (C1 V6 (C1 Qno (cT (Wyo (cS (C1 (pur_build' [_, _, _] tabOk zOk rfl rfl rfl rfl) ?_))))))); (refine lw_store' [_, _, _] [_, _, _] tabOk rfl rfl rfl rfl rfl rfl h5 rfl rfl ?_; intro w13 n14); have h17 := n14.blk; have f15 := n14.fr; have z16 := n14.size; clear n14 h5 hP; replace X := X.fr f15 (by omega); clear f15; refine cT (cw_ret (qw_then_ret (qw_retc rfl tabOk rfl rfl rfl h17 rfl ?_))); rotate_left 1
     exact ⟨rfl, X⟩
   · refine calls_in Tryz.func88 Tryz.ntmps88 rfl rfl ?_
     focus
      refine cS ?_; (refine lw_alloc' [_, _, _] zOk rfl rfl ?_; intro ba1 wa2 na3); have ha5 := na3.blk; have xa6 := na3.ext; have pa7 := na3.pos; have za8 := na3.size; clear na3; replace hP := hP.ext xa6; replace X := X.ext xa6; clear xa6; refine cT (cw_seq (cw_seq ?_)); (refine cw_tdraw (fun wz => Ext wa2 wz) 15 (.pure 0 (.pure 1 (.pure 2 (.pure 3 (.pure 4 (.pure 5 (.pure 6 (.pure 7 (.pure 8 (.pure 9 (.pure 10 (.pure 11 (.pure 12 (.pure 13 (.pure 14 .tail))))))))))))))) mixed (by kernel_rfl) (panicOk_then (panicOk_then panicOk_body)) ?_; intro wa9 xa10 _); have qsa11 : (fun wz => Ext wa2 wz) wa9 := xa10; simp only at qsa11; have d_ha5 := ha5; have d_hP := hP; have za12 := xa10.size; replace ha5 := ha5.ext xa10; replace hP := hP.ext xa10; replace X := X.ext xa10; clear xa10; refine ⟨qsa11, ?_⟩; refine Tq rfl Mv (Tq rfl Pn (Tq rfl Pf (Tq rfl (pur_load tabOk rfl rfl rfl (fun wz hz => Blk.cell (Blk.ext (PPF.blk d_hP) hz) rfl)) (Tq rfl V2 (Tq rfl Mv ?_))))); refine tw_off rfl rfl rfl rfl (gd_ft (by assumption)) rfl ?_; refine tw_off rfl rfl rfl rfl (gd_ft (by assumption)) rfl ?_; refine tw_off rfl rfl rfl rfl (gd_ft (by assumption)) rfl ?_; refine tw_off rfl rfl rfl rfl (gd_ft (by assumption)) rfl ?_; refine tw_off rfl rfl rfl rfl (gd_ft (by assumption)) rfl ?_; refine tw_off rfl rfl rfl rfl (gd_ft (by assumption)) rfl ?_; refine tw_off rfl rfl rfl rfl (gd_ft (by assumption)) rfl ?_; refine tw_off rfl rfl rfl rfl (gd_ft (by assumption)) rfl ?_; refine tw_off rfl rfl rfl rfl (gd_ft (by assumption)) rfl ?_
      clear qsa11 d_ha5 d_hP; refine tw_tail rfl (Oya (C1 Qya (cT (cw_cond_t rfl (cS (C1 (pur_build' [_, _, _] tabOk zOk rfl rfl rfl rfl) ?_)))))); (refine lw_store' [_, _, _] [_, _, _] tabOk rfl rfl rfl rfl rfl rfl ha5 rfl rfl ?_; intro wa13 na14); have ha17 := na14.blk; have fa15 := na14.fr; have za16 := na14.size; clear na14 ha5 hP; replace X := X.fr fa15 (by omega); clear fa15; refine cT (cw_ret (qw_then_ret (qw_retc rfl tabOk rfl rfl rfl ha17 rfl ?_))); rotate_left 1
     exact ⟨rfl, X⟩
 · have he : σ.err = 0 := Decidable.byContradiction fun e => h (Or.inl e)
   have hlt : σ.at_ < c.ts.length := by have : σ.at_ ≠ c.ts.length := fun e => h (Or.inr e); omega
   rw [peek_is h hlt]; obtain ⟨tb, tof, hta, -, hrow⟩ := hP.toks.get (by omega); have hr : Row w ⟨tb, tof + σ.at_ * 3, none⟩ c.ts[σ.at_].cells := hrow σ.at_ _ (List.getElem?_eq_getElem hlt); clear hrow; refine calls_in Tryz.func88 Tryz.ntmps88 rfl rfl ?_
   focus
    refine cS ?_; (refine lw_alloc' [_, _, _] zOk rfl rfl ?_; intro bb1 wb2 nb3); have hb5 := nb3.blk; have xb6 := nb3.ext; have pb7 := nb3.pos; have zb8 := nb3.size; clear nb3; replace hP := hP.ext xb6; replace X := X.ext xb6; replace hr := hr.ext xb6; clear xb6; refine cT (cw_seq (cw_seq ?_)); (refine cw_tdraw (fun wz => Ext wb2 wz) 15 (.pure 0 (.pure 1 (.pure 2 (.pure 3 (.pure 4 (.pure 5 (.pure 6 (.pure 7 (.pure 8 (.pure 9 (.pure 10 (.pure 11 (.pure 12 (.pure 13 (.pure 14 .tail))))))))))))))) mixed (by kernel_rfl) (panicOk_then (panicOk_then panicOk_body)) ?_; intro wb9 xb10 _); have qsb11 : (fun wz => Ext wb2 wz) wb9 := xb10; simp only at qsb11; have d_hb5 := hb5; have d_hP := hP; have d_hr := hr; have zb12 := xb10.size; replace hb5 := hb5.ext xb10; replace hP := hP.ext xb10; replace X := X.ext xb10; replace hr := hr.ext xb10; clear xb10; refine ⟨qsb11, ?_⟩; refine Tq rfl Mv (Tq rfl Pn (Tq rfl Pf (Tq rfl (pur_load tabOk rfl rfl rfl (fun wz hz => Blk.cell (Blk.ext (PPF.blk d_hP) hz) rfl)) (Tq rfl V2 (Tq rfl Mv ?_))))); refine tw_on rfl rfl rfl rfl (gd_ff (by omega)) (pur_move rfl) rfl ?_; refine tw_on rfl rfl rfl rfl (gd_ff (by omega)) (pur_nilCheck rfl) rfl ?_; refine tw_on rfl rfl rfl rfl (gd_ff (by omega)) (pur_fieldAddr tabOk rfl rfl rfl) rfl ?_; refine tw_on rfl rfl rfl rfl (gd_ff (by omega)) (pur_load tabOk rfl rfl rfl (fun wz hz => Blk.cell (Blk.ext (PPF.blk d_hP) hz) rfl)) rfl ?_; refine tw_on rfl rfl rfl rfl (gd_ff (by omega)) (pur_move rfl) rfl ?_; refine tw_on rfl rfl rfl rfl (gd_ff (by omega)) (pur_nilCheck rfl) rfl ?_
    refine tw_on rfl rfl rfl rfl (gd_ff (by omega)) (pur_fieldAddr0 tabOk rfl rfl rfl) rfl ?_; refine tw_on rfl rfl rfl rfl (gd_ff (by omega)) (pur_load tabOk rfl rfl rfl (fun wz hz => Blk.cell (Blk.ext (PPF.blk d_hP) hz) rfl)) rfl ?_; refine tw_on rfl rfl rfl rfl (gd_ff (by omega)) (pur_len_slice tabOk rfl rfl) rfl ?_; clear qsb11 d_hb5 d_hP d_hr; refine tw_tail rfl (Gno (C1 V6 (C1 Qno (cT (Wno (cw_skip (qw_then (cw_seq ?_)))))))); (refine cw_tdraw (fun wz => Ext wb9 wz) 8 (.pure 0 (.pure 1 (.pure 2 (.pure 3 (.pure 4 (.pure 5 (.pure 6 (.pure 7 .tail)))))))) mixed (by kernel_rfl) (panicOk_then panicOk_body) ?_; intro wb13 xb14 _); have qsb15 : (fun wz => Ext wb9 wz) wb13 := xb14; simp only at qsb15; have d_hb5 := hb5; have d_hP := hP; have d_hr := hr; have zb16 := xb14.size; replace hb5 := hb5.ext xb14; replace hP := hP.ext xb14; replace X := X.ext xb14; replace hr := hr.ext xb14; clear xb14; refine ⟨qsb15, ?_⟩; refine Tq rfl Mv (Tq rfl Pn (Tq rfl Pg (Tq rfl (pur_load tabOk rfl rfl rfl (fun wz hz => Blk.cell (Blk.ext (PPF.blk d_hP) hz) rfl)) (Tq rfl Mv (Tq rfl Pn (Tq rfl Pf (Tq rfl (pur_load tabOk rfl rfl rfl (fun wz hz => Blk.cell (Blk.ext (PPF.blk d_hP) hz) rfl)) ?_))))))); clear qsb15 d_hb5 d_hP d_hr; refine tw_tail rfl ?_; refine C1 (pur_indexAddr_eq tabOk rfl rfl rfl (by assumption) rfl (by omega) (by omega)) ?_; refine C1 (Pws hr) ?_; (refine lw_store' [_, _, _] [_, _, _] tabOk rfl rfl rfl rfl rfl rfl hb5 rfl rfl ?_; intro wb17 nb18); have hb21 := nb18.blk; have fb19 := nb18.fr
    have zb20 := nb18.size; clear nb18 hb5 hP; replace X := X.fr fb19 (by omega); clear hr fb19; refine cT (cw_ret (qw_retc rfl tabOk rfl rfl rfl hb21 rfl ?_)); rotate_left 1
   exact ⟨rfl, X⟩
set_option maxRecDepth 100000 in
set_option maxHeartbeats 1000000 in
theorem ffail_c (c : PCF) (σ : PS) (off e : Int) (w : World) (hP : PPF c σ w) :
 Calls Tryz.prog 105 #[.pointer (some ⟨c.pb, 0, none⟩), .int .i64 off, .int .i64 e] w fun r w' => r = .returned (.tuple #[]) ∧ PPF c (failP σ off e) w' ∧ Fr (· = c.pb) w w' := by
 have X := Fr.refl (· = c.pb) w
 by_cases he : σ.err = 0
 · rw [show failP σ off e = ⟨σ.at_, off, e⟩ from by simp [failP, he]]
   refine calls_in Tryz.func105 Tryz.ntmps105 rfl rfl ?_
   focus
    refine cS (C1 Mv (C1 Pn (C1 Pf (lw_load_b tabOk rfl rfl rfl (PPF.blk hP) rfl rfl (C1 V1 (cT (Wya (cw_region (C1 Mv (C1 Mv (C1 Mv ?_))))))))))); refine C1 Mv (C1 Pn (C1 Pf (lw_ppf_off tabOk rfl rfl rfl rfl hP ?_))); rintro w1 h2 f3; have z4 := f3.size; clear hP; replace X := X.fr f3 (by omega); clear f3; refine C1 Pn (C1 Pf ?_); refine lw_ppf_err tabOk rfl rfl rfl rfl (by assumption) ?_; rintro w5 h6 f7; have z8 := f7.size; clear h2; replace X := X.fr f7 (by omega); clear f7; refine lw_nil (qw_end0 rfl ?_); rotate_left 1
   exact ⟨rfl, by assumption, X⟩
 · rw [show failP σ off e = σ from by simp [failP, he]]
   refine calls_in Tryz.func105 Tryz.ntmps105 rfl rfl ?_
   focus
    refine cS (C1 Mv (C1 Pn (C1 Pf (lw_load_b tabOk rfl rfl rfl (PPF.blk hP) rfl rfl (C1 V1 (cT (Wna (cw_skip (qw_end0 rfl ?_))))))))); rotate_left 1
   exact ⟨rfl, hP, X⟩
set_option maxRecDepth 100000 in
set_option maxHeartbeats 1000000 in
theorem fmiss_c (c : PCF) (σ : PS) (w : World) (hP : PPF c σ w) :
 Calls Tryz.prog 87 #[.pointer (some ⟨c.pb, 0, none⟩)] w fun r w' => r = .returned (.tuple #[]) ∧ PPF c (unexpP c.ts c.n σ) w' ∧ Fr (· = c.pb) w w' := by
 have X := Fr.refl (· = c.pb) w
 by_cases hlt : σ.at_ < c.ts.length
 · rw [show unexpP c.ts c.n σ = failP σ (c.ts[σ.at_]).pos 3 from by simp [unexpP, hlt]]
   obtain ⟨tb, tof, hta, -, hrow⟩ := hP.toks.get (by omega); have hr : Row w ⟨tb, tof + σ.at_ * 3, none⟩ c.ts[σ.at_].cells := hrow σ.at_ _ (List.getElem?_eq_getElem hlt); clear hrow; refine calls_in Tryz.func87 Tryz.ntmps87 rfl rfl ?_
   focus
    refine cw_seq ?_; (refine cw_tdraw (fun wz => Ext w wz) 9 (.pure 0 (.pure 1 (.pure 2 (.pure 3 (.pure 4 (.pure 5 (.pure 6 (.pure 7 (.pure 8 .tail))))))))) mixed (by kernel_rfl) (panicOk_then panicOk_body) ?_; intro w1 x2 _); have qs3 : (fun wz => Ext w wz) w1 := x2; simp only at qs3; have d_hP := hP; have d_hr := hr; have z4 := x2.size; replace hP := hP.ext x2; replace X := X.ext x2; replace hr := hr.ext x2; clear x2; refine ⟨qs3, ?_⟩; refine Tq rfl Mv (Tq rfl Pn (Tq rfl Pf (Tq rfl (pur_load tabOk rfl rfl rfl (fun wz hz => Blk.cell (Blk.ext (PPF.blk d_hP) hz) rfl)) (Tq rfl Mv (Tq rfl Pn (Tq rfl Pg (Tq rfl (pur_load tabOk rfl rfl rfl (fun wz hz => Blk.cell (Blk.ext (PPF.blk d_hP) hz) rfl)) (Tq rfl Pz ?_)))))))); clear qs3 d_hP d_hr; refine tw_tail rfl (C1 V6 (cT (Wno ?_))); (refine cw_tdraw (fun wz => Ext w1 wz) 12 (.pure 0 (.pure 1 (.pure 2 (.pure 3 (.pure 4 (.pure 5 (.pure 6 (.pure 7 (.pure 8 (.pure 9 (.pure 10 (.pure 11 .tail)))))))))))) mixed (by kernel_rfl) panicOk_body ?_; intro w5 x6 _); have qs7 : (fun wz => Ext w1 wz) w5 := x6; simp only at qs7; have d_hP := hP; have d_hr := hr; have z8 := x6.size; replace hP := hP.ext x6; replace X := X.ext x6; replace hr := hr.ext x6; clear x6; refine ⟨qs7, ?_⟩; refine Tq rfl Mv (Tq rfl Mv (Tq rfl Pn (Tq rfl Pg (Tq rfl (pur_load tabOk rfl rfl rfl (fun wz hz => Blk.cell (Blk.ext (PPF.blk d_hP) hz) rfl)) (Tq rfl Mv (Tq rfl Pn (Tq rfl Pf (Tq rfl (pur_load tabOk rfl rfl rfl (fun wz hz => Blk.cell (Blk.ext (PPF.blk d_hP) hz) rfl)) ?_))))))))
    refine Tq rfl (pur_indexAddr_eq tabOk rfl rfl rfl (by assumption) rfl (by omega) (by omega)) ?_; refine Tq rfl Pf (Tq rfl (Dr d_hr) ?_); clear qs7 d_hP d_hr; refine tw_tail rfl ?_; refine cC rfl (ffail_c _ _ _ _ _ (by assumption)) ?_; rintro _ w11 ⟨⟨⟩, ⟨h9, f10⟩⟩; have z12 := f10.size; clear hP; replace X := X.fr f10 (by omega); clear hr f10; refine lw_nil (qw_end0 rfl ?_); rotate_left 1
   exact ⟨rfl, by assumption, X⟩
 · rw [show unexpP c.ts c.n σ = failP σ c.n 4 from by simp [unexpP, hlt]]
   refine calls_in Tryz.func87 Tryz.ntmps87 rfl rfl ?_
   focus
    refine cw_seq ?_; (refine cw_tdraw (fun wz => Ext w wz) 9 (.pure 0 (.pure 1 (.pure 2 (.pure 3 (.pure 4 (.pure 5 (.pure 6 (.pure 7 (.pure 8 .tail))))))))) mixed (by kernel_rfl) (panicOk_then panicOk_body) ?_; intro wa1 xa2 _); have qsa3 : (fun wz => Ext w wz) wa1 := xa2; simp only at qsa3; have d_hP := hP; have za4 := xa2.size; replace hP := hP.ext xa2; replace X := X.ext xa2; clear xa2; refine ⟨qsa3, ?_⟩; refine Tq rfl Mv (Tq rfl Pn (Tq rfl Pf (Tq rfl (pur_load tabOk rfl rfl rfl (fun wz hz => Blk.cell (Blk.ext (PPF.blk d_hP) hz) rfl)) (Tq rfl Mv (Tq rfl Pn (Tq rfl Pg (Tq rfl (pur_load tabOk rfl rfl rfl (fun wz hz => Blk.cell (Blk.ext (PPF.blk d_hP) hz) rfl)) (Tq rfl Pz ?_)))))))); clear qsa3 d_hP; refine tw_tail rfl (C1 V6 (cT (Wyo (cw_region (C1 Mv (C1 Mv (C1 Pn (C1 Pf (lw_load_b tabOk rfl rfl rfl (PPF.blk hP) rfl rfl ?_))))))))); refine cC rfl (ffail_c _ _ _ _ _ (by assumption)) ?_; rintro _ wa7 ⟨⟨⟩, ⟨ha5, fa6⟩⟩; have za8 := fa6.size; clear hP; replace X := X.fr fa6 (by omega); clear fa6; refine lw_nil (qw_end0 rfl ?_); rotate_left 1
   exact ⟨rfl, by assumption, X⟩
set_option maxRecDepth 100000 in
set_option maxHeartbeats 1000000 in
theorem faccept_c (c : PCF) (σ : PS) (t : List UInt8) (w : World) (hP : PPF c σ w) (ht : t ≠ []) :
 Calls Tryz.prog 57 #[.pointer (some ⟨c.pb, 0, none⟩), str t] w fun r w' => r = .returned (.bool (hasP c.ts σ t)) ∧ PPF c (acceptP c.ts σ t) w' ∧ Fr (· = c.pb) w w' := by
 have X := Fr.refl (· = c.pb) w; have hl := hP.len
 by_cases h : (peekP c.ts σ).text = t
 · have h1 : hasP c.ts σ t = true := by simp [hasP, h]
   rw [show acceptP c.ts σ t = nextP σ from by simp [acceptP, h1], h1]; obtain ⟨h2, h3⟩ := has_in hP.at_ h1 ht; refine calls_in Tryz.func57 Tryz.ntmps57 rfl rfl ?_
   focus
    refine cS (C1 Pa (cT (cw_seq (cS (C1 Mv ?_))))); refine cC rfl (fpeek_c _ _ _ (by assumption)) ?_; rintro _ w2 ⟨⟨⟩, x1⟩; have z3 := x1.size; replace hP := hP.ext x1; replace X := X.ext x1; clear x1; refine C1 (pur_field tabOk rfl rfl rfl rfl rfl rfl) (C1 Mv (C1 V9 (cT ?_))); refine cw_no rfl (not_not_intro (by assumption)) ?_; refine cw_skip (qw_then (cS (C1 Mv (C1 Pn (C1 Pf (lw_load_b tabOk rfl rfl rfl (PPF.blk hP) rfl rfl (C1 V7 (C1 Pn (C1 Pf ?_))))))))); refine lw_ppf_at tabOk rfl rfl rfl rfl (by assumption) h3 ?_; rintro w4 h5 f6; have z7 := f6.size; clear hP; replace X := X.fr f6 (by omega); clear f6; refine cN (C1 Pa (cT (cw_ret (qw_ret1 rfl rfl ?_)))); rotate_left 1
   exact ⟨rfl, by assumption, X⟩
 · have h1 : hasP c.ts σ t = false := by simp [hasP, h]
   rw [show acceptP c.ts σ t = σ from by simp [acceptP, h1], h1]; refine calls_in Tryz.func57 Tryz.ntmps57 rfl rfl ?_
   focus
    refine cS (C1 Pa (cT (cw_seq (cS (C1 Mv ?_))))); refine cC rfl (fpeek_c _ _ _ (by assumption)) ?_; rintro _ wa2 ⟨⟨⟩, xa1⟩; have za3 := xa1.size; replace hP := hP.ext xa1; replace X := X.ext xa1; clear xa1; refine C1 (pur_field tabOk rfl rfl rfl rfl rfl rfl) (C1 Mv (C1 V9 (cT (Wya (cS (C1 Pa (cT (cw_ret (qw_then_ret (qw_ret1 rfl rfl ?_)))))))))); rotate_left 1
   exact ⟨rfl, by assumption, X⟩
theorem faccept_t (c : PCF) (σ : PS) (t : List UInt8) (w : World) (hP : PPF c σ w) (ht : t ≠ []) (h : hasP c.ts σ t = true) :
 Calls Tryz.prog 57 #[.pointer (some ⟨c.pb, 0, none⟩), str t] w fun r w' => r = .returned (.bool true) ∧ PPF c (nextP σ) w' ∧ Fr (· = c.pb) w w' := by
 have := faccept_c c σ t w hP ht; rw [show acceptP c.ts σ t = nextP σ from by simp [acceptP, h], h] at this
 exact this
theorem faccept_f (c : PCF) (σ : PS) (t : List UInt8) (w : World) (hP : PPF c σ w) (ht : t ≠ []) (h : hasP c.ts σ t = false) :
 Calls Tryz.prog 57 #[.pointer (some ⟨c.pb, 0, none⟩), str t] w fun r w' => r = .returned (.bool false) ∧ PPF c σ w' ∧ Fr (· = c.pb) w w' := by
 have := faccept_c c σ t w hP ht; rw [show acceptP c.ts σ t = σ from by simp [acceptP, h], h] at this
 exact this
set_option maxRecDepth 100000 in
set_option maxHeartbeats 1000000 in
theorem fexpect_c (c : PCF) (σ : PS) (t : List UInt8) (w : World) (hP : PPF c σ w) (ht : t ≠ []) :
 Calls Tryz.prog 55 #[.pointer (some ⟨c.pb, 0, none⟩), str t] w fun r w' => r = .returned (.tuple #[]) ∧ PPF c (expectP c.ts c.n σ t) w' ∧ Fr (· = c.pb) w w' := by
 have X := Fr.refl (· = c.pb) w
 cases h : hasP c.ts σ t
 · have e1 : acceptP c.ts σ t = σ := by simp [acceptP, h]
   have e2 : expectP c.ts c.n σ t = unexpP c.ts c.n σ := by simp [expectP, h]
   rw [e2]; refine calls_in Tryz.func55 Tryz.ntmps55 rfl rfl ?_
   focus
    refine cS (C1 Mv (C1 Mv ?_)); refine cC rfl (faccept_c _ _ _ _ (by assumption) (by assumption)) ?_; rintro _ w3 ⟨⟨⟩, ⟨h1, f2⟩⟩; have z4 := f2.size; clear hP; replace X := X.fr f2 (by omega); clear f2; refine C1 Pt (cT ?_); refine cw_nt rfl (by assumption) ?_; refine cw_region (C1 Mv ?_); refine cC rfl (fmiss_c _ _ _ (by assumption)) ?_; rintro _ w7 ⟨⟨⟩, ⟨h5, f6⟩⟩; have z8 := f6.size; clear h1; replace X := X.fr f6 (by omega); clear f6; refine lw_nil (qw_end0 rfl ?_); rotate_left 1
   exact ⟨rfl, by rw [e1] at *; assumption, X⟩
 · have e1 : acceptP c.ts σ t = nextP σ := by simp [acceptP, h]
   have e2 : expectP c.ts c.n σ t = nextP σ := by simp [expectP, h]
   rw [e2]; refine calls_in Tryz.func55 Tryz.ntmps55 rfl rfl ?_
   focus
    refine cS (C1 Mv (C1 Mv ?_)); refine cC rfl (faccept_c _ _ _ _ (by assumption) (by assumption)) ?_; rintro _ wa3 ⟨⟨⟩, ⟨ha1, fa2⟩⟩; have za4 := fa2.size; clear hP; replace X := X.fr fa2 (by omega); clear fa2; refine C1 Pt (cT ?_); refine cw_nf rfl (by assumption) ?_; refine cw_skip (qw_end0 rfl ?_); rotate_left 1
   exact ⟨rfl, by rw [e1] at *; assumption, X⟩
theorem fpeek_len {c : PCF} {σ : PS} {w : World} (hP : PPF c σ w) : (peekP c.ts σ).text.length ≤ 1000000 := by
 by_cases h : σ.err ≠ 0 ∨ σ.at_ = c.ts.length
 · rw [peek_off h]; simp [Tok.zero]
 · have hlt : σ.at_ < c.ts.length := by have : σ.at_ ≠ c.ts.length := fun e => h (Or.inr e); have := hP.at_; omega
   rw [peek_is h hlt]
   exact hP.tok _ (List.getElem_mem hlt)
def TreeF (c : PCF) (w : World) (r : Nd × PS) : Ending → World → Prop := fun e w' => ∃ a k, e = .returned (r.1.val a k) ∧ r.1.sits (fun b => w.heap.size ≤ b ∧ b < w'.heap.size) w' a ∧ PPF c r.2 w' ∧ Fr (· = c.pb) w w'
theorem treeF_ret {c : PCF} {w w' : World} {r : Nd × PS} {a : Option Addr} {k : Nat} (hs : r.1.sits (w.heap.size ≤ ·) w' a) (hP : PPF c r.2 w') (X : Fr (· = c.pb) w w') : TreeF c w r (.returned (r.1.val a k)) w' :=
 ⟨a, k, rfl, sits_lt2 _ _ hs, hP, X⟩
theorem TreeF.ret {c : PCF} {w : World} {r : Nd × PS} {e : Ending} {w' : World} (h : TreeF c w r e w') : ∃ v, e = .returned v := by
 obtain ⟨_, _, h, -⟩ := h
 exact ⟨_, h⟩
set_option maxRecDepth 100000 in
set_option maxHeartbeats 1000000 in
theorem fname_c (c : PCF) (σ : PS) (w : World) (hP : PPF c σ w) :
 Calls Tryz.prog 56 #[.pointer (some ⟨c.pb, 0, none⟩)] w fun r w' => r = .returned (str (nameP c.ts c.n σ).1) ∧ PPF c (nameP c.ts c.n σ).2 w' ∧ Fr (· = c.pb) w w' := by
 have X := Fr.refl (· = c.pb) w; have hl := hP.len; have hpl := fpeek_len hP; have hpb := hP.pbB; have hB := hP.B
 cases h : isName (peekP c.ts σ).text
 · rw [show nameP c.ts c.n σ = ([], unexpP c.ts c.n σ) from by simp [nameP, h]]
   refine calls_in Tryz.func56 Tryz.ntmps56 rfl rfl ?_
   focus
    refine cS (C1 Pa (cN (C1 Mv ?_))); refine cC rfl (fpeek_c _ _ _ (by assumption)) ?_; rintro _ w2 ⟨⟨⟩, x1⟩; have z3 := x1.size; replace hP := hP.ext x1; replace X := X.ext x1; clear x1; (refine lw_alloc' [_, _, _] zOk rfl rfl ?_; intro b4 w5 n6); (refine lw_init' [_, _, _] tabOk rfl rfl rfl rfl rfl rfl n6 rfl ?_; clear n6; clear w5; intro w7 n6); have h8 := n6.blk; have x9 := n6.ext; have p10 := n6.pos; have z11 := n6.size; clear n6; replace hP := hP.ext x9; replace X := X.ext x9; clear x9; refine cT (cw_seq (cS (C1 Pf (C1 (Pl h8) ?_)))); refine cC rfl (Name_c _ _ (by omega)) ?_; rintro _ w13 ⟨⟨⟩, x12⟩; have z14 := x12.size; replace h8 := h8.ext x12; replace hP := hP.ext x12; replace X := X.ext x12; clear x12; refine C1 Pt (cT ?_); refine cw_nt rfl (by assumption) ?_; refine cS (C1 Mv ?_); refine cC rfl (fmiss_c _ _ _ (by assumption)) ?_; rintro _ w17 ⟨⟨⟩, ⟨h15, f16⟩⟩; have z18 := f16.size; replace h8 := h8.fr f16 (by omega); clear hP; replace X := X.fr f16 (by omega); clear f16; refine cN (C1 Pa (cT (cw_ret (qw_then_ret (qw_ret1 rfl rfl ?_))))); rotate_left 1
   exact ⟨rfl, by assumption, X⟩
 · rw [show nameP c.ts c.n σ = ((peekP c.ts σ).text, nextP σ) from by simp [nameP, h]]
   obtain ⟨h2, h3⟩ := peek_in hP.at_ (Or.inl (isName_ne h)); refine calls_in Tryz.func56 Tryz.ntmps56 rfl rfl ?_
   focus
    refine cS (C1 Pa (cN (C1 Mv ?_))); refine cC rfl (fpeek_c _ _ _ (by assumption)) ?_; rintro _ wa2 ⟨⟨⟩, xa1⟩; have za3 := xa1.size; replace hP := hP.ext xa1; replace X := X.ext xa1; clear xa1; (refine lw_alloc' [_, _, _] zOk rfl rfl ?_; intro ba4 wa5 na6); (refine lw_init' [_, _, _] tabOk rfl rfl rfl rfl rfl rfl na6 rfl ?_; clear na6; clear wa5; intro wa7 na6); have ha8 := na6.blk; have xa9 := na6.ext; have pa10 := na6.pos; have za11 := na6.size; clear na6; replace hP := hP.ext xa9; replace X := X.ext xa9; clear xa9; refine cT (cw_seq (cS (C1 Pf (C1 (Pl ha8) ?_)))); refine cC rfl (Name_c _ _ (by omega)) ?_; rintro _ wa13 ⟨⟨⟩, xa12⟩; have za14 := xa12.size; replace ha8 := ha8.ext xa12; replace hP := hP.ext xa12; replace X := X.ext xa12; clear xa12; refine C1 Pt (cT ?_); refine cw_nf rfl (by assumption) ?_; refine cw_skip (qw_then (cS (C1 Mv (C1 Pn (C1 Pf (lw_load_b tabOk rfl rfl rfl (PPF.blk hP) rfl rfl (C1 V7 (C1 Pn (C1 Pf ?_))))))))); refine lw_ppf_at tabOk rfl rfl rfl rfl (by assumption) h3 ?_; rintro wa15 ha16 fa17; have za18 := fa17.size; replace ha8 := ha8.fr fa17 (by omega); clear hP; replace X := X.fr fa17 (by omega); clear fa17; refine cN (C1 Pf (C1 (Pl ha8) (C1 Pa (cT (cw_ret (qw_ret1 rfl rfl ?_)))))); rotate_left 1
   exact ⟨rfl, by assumption, X⟩
theorem fpeek_tok {c : PCF} {σ : PS} {w : World} (hP : PPF c σ w) (h : (peekP c.ts σ).kind = 2) : (peekP c.ts σ).text ≠ [] ∧ ∀ x ∈ (peekP c.ts σ).text, digit x = true := by
 by_cases h' : σ.err ≠ 0 ∨ σ.at_ = c.ts.length
 · rw [peek_off h'] at h; simp [Tok.zero] at h
 · have hlt : σ.at_ < c.ts.length := by have : σ.at_ ≠ c.ts.length := fun e => h' (Or.inr e); have := hP.at_; omega
   rw [peek_is h' hlt] at h ⊢
   exact hP.num _ (List.getElem_mem hlt) h
set_option maxRecDepth 100000 in
set_option maxHeartbeats 1000000 in
theorem flist_c (c : PCF) (σ : PS) (w : World) (hP : PPF c σ w) :
 Calls Tryz.prog 58 #[.pointer (some ⟨c.pb, 0, none⟩)] w fun r w' => r = .returned (.bool (listP c.ts c.n σ).1) ∧ PPF c (listP c.ts c.n σ).2 w' ∧ Fr (· = c.pb) w w' := by
 have X := Fr.refl (· = c.pb) w; have hpb := hP.pbB; have hB := hP.B
 cases h : hasP c.ts σ [115, 116, 97, 99, 107]
 · rw [show listP c.ts c.n σ = (false, expectP c.ts c.n σ [105, 110, 116]) from by simp [listP, h]]
   refine calls_in Tryz.func58 Tryz.ntmps58 rfl rfl ?_
   focus
    refine cS (C1 Pa (cT (cw_seq (cS (C1 Mv ?_))))); refine cC rfl (faccept_f _ _ _ _ (by assumption) (by decide) (by assumption)) ?_; rintro _ w3 ⟨⟨⟩, ⟨h1, f2⟩⟩; have z4 := f2.size; clear hP; replace X := X.fr f2 (by omega); clear f2; refine cT (cw_cond_f rfl (cw_skip (qw_then (cS (C1 Mv ?_))))); refine cC rfl (fexpect_c _ _ _ _ (by assumption) (by decide)) ?_; rintro _ w7 ⟨⟨⟩, ⟨h5, f6⟩⟩; have z8 := f6.size; clear h1; replace X := X.fr f6 (by omega); clear f6; refine cN (C1 Pa (cT (cw_ret (qw_ret1 rfl rfl ?_)))); rotate_left 1
   exact ⟨rfl, by assumption, X⟩
 · rw [show listP c.ts c.n σ = (true, nextP σ) from by simp [listP, h]]
   refine calls_in Tryz.func58 Tryz.ntmps58 rfl rfl ?_
   focus
    refine cS (C1 Pa (cT (cw_seq (cS (C1 Mv ?_))))); refine cC rfl (faccept_t _ _ _ _ (by assumption) (by decide) (by assumption)) ?_; rintro _ wa3 ⟨⟨⟩, ⟨ha1, fa2⟩⟩; have za4 := fa2.size; clear hP; replace X := X.fr fa2 (by omega); clear fa2; refine cT (cw_cond_t rfl (cS (C1 Pa (cT (cw_ret (qw_then_ret (qw_ret1 rfl rfl ?_))))))); rotate_left 1
   exact ⟨rfl, by assumption, X⟩
set_option maxRecDepth 100000 in
set_option maxHeartbeats 1000000 in
theorem fnumber_c (c : PCF) (σ : PS) (w : World) (hP : PPF c σ w) (hk : (peekP c.ts σ).kind = 2) :
 Calls Tryz.prog 120 #[.pointer (some ⟨c.pb, 0, none⟩)] w (TreeF c w (fnumP c.ts σ)) := by
 have X := Fr.refl (· = c.pb) w; have hpl := fpeek_len hP; have hl := hP.len; have hpb := hP.pbB; have hB := hP.B; obtain ⟨h2, h3⟩ := peek_in hP.at_ (Or.inr (show (peekP c.ts σ).kind ≠ 0 by omega)); obtain ⟨d1, d2⟩ := fpeek_tok hP hk
 by_cases hr : (digitsVal (peekP c.ts σ).text : Int) ≤ 9223372036854775807
 · rw [show fnumP c.ts σ = (.mk 80 (digitsVal (peekP c.ts σ).text : Int) [] [], nextP σ) from by simp [fnumP, hr]]
   refine calls_in Tryz.func120 Tryz.ntmps120 rfl rfl ?_
   focus
    refine cS ?_; (refine lw_alloc' [_, _, _, _] zOk rfl rfl ?_; intro b1 w2 n3); have h5 := n3.blk; have x6 := n3.ext; have p7 := n3.pos; have z8 := n3.size; clear n3; replace hP := hP.ext x6; replace X := X.ext x6; clear x6; refine cN (C1 Mv ?_); refine cC rfl (fpeek_c _ _ _ (by assumption)) ?_; rintro _ w10 ⟨⟨⟩, x9⟩; have z11 := x9.size; replace h5 := h5.ext x9; replace hP := hP.ext x9; replace X := X.ext x9; clear x9; (refine lw_alloc' [_, _, _] zOk rfl rfl ?_; intro b12 w13 n14); (refine lw_init' [_, _, _] tabOk rfl rfl rfl rfl rfl rfl n14 rfl ?_; clear n14; clear w13; intro w15 n14); have h16 := n14.blk; have x17 := n14.ext; have p18 := n14.pos; have z19 := n14.size; clear n14; replace h5 := h5.ext x17; replace hP := hP.ext x17; replace X := X.ext x17; clear x17; refine cN (C1 Pf (C1 (Pl h16) (cC rfl (Atoi_ok _ _ d1 d2 hpl hr) ?_))); rintro _ w21 ⟨⟨⟩, x20⟩; have z22 := x20.size; replace h16 := h16.ext x20; replace h5 := h5.ext x20; replace hP := hP.ext x20; replace X := X.ext x20; clear x20; refine C1 Mv (C1 Px (C1 Px (C1 Pa (C1 Pa (cT (cw_seq (cS (C1 Mv (C1 (pur_ifn0 tabOk rfl rfl) (cT (cw_cond_f rfl ?_))))))))))); refine cw_skip (qw_then (cS (C1 Mv (C1 Pn (C1 Pf (lw_load_b tabOk rfl rfl rfl (PPF.blk hP) rfl rfl (C1 V7 (C1 Pn (C1 Pf ?_))))))))); refine lw_ppf_at tabOk rfl rfl rfl rfl (by assumption) h3 ?_; rintro w23 h24 f25; have z26 := f25.size; replace h16 := h16.fr f25 (by omega); replace h5 := h5.fr f25 (by omega); clear hP; replace X := X.fr f25 (by omega); clear f25
    refine cN (C1 Mv (C1 (pur_build' [_, _, _, _] tabOk zOk rfl rfl rfl rfl) ?_)); (refine lw_store' [_, _, _, _] [_, _, _, _] tabOk rfl rfl rfl rfl rfl rfl h5 rfl rfl ?_; intro w27 n28); have h31 := n28.blk; have f29 := n28.fr; have z30 := n28.size; clear n28 h5; replace h24 := h24.fr f29 (by omega); replace h16 := h16.fr f29 (by omega); replace X := X.fr f29 (by omega); clear f29; refine cT (cw_ret (qw_retc rfl tabOk rfl rfl rfl h31 rfl ?_)); rotate_left 1
   exact treeF_ret sits_nil (by assumption) X
 · rw [show fnumP c.ts σ = (.mk 0 0 [] [], failP σ (peekP c.ts σ).pos 2) from by simp [fnumP, hr]]
   refine calls_in Tryz.func120 Tryz.ntmps120 rfl rfl ?_
   focus
    refine cS ?_; (refine lw_alloc' [_, _, _, _] zOk rfl rfl ?_; intro ba1 wa2 na3); have ha5 := na3.blk; have xa6 := na3.ext; have pa7 := na3.pos; have za8 := na3.size; clear na3; replace hP := hP.ext xa6; replace X := X.ext xa6; clear xa6; refine cN (C1 Mv ?_); refine cC rfl (fpeek_c _ _ _ (by assumption)) ?_; rintro _ wa10 ⟨⟨⟩, xa9⟩; have za11 := xa9.size; replace ha5 := ha5.ext xa9; replace hP := hP.ext xa9; replace X := X.ext xa9; clear xa9; (refine lw_alloc' [_, _, _] zOk rfl rfl ?_; intro ba12 wa13 na14); (refine lw_init' [_, _, _] tabOk rfl rfl rfl rfl rfl rfl na14 rfl ?_; clear na14; clear wa13; intro wa15 na14); have ha16 := na14.blk; have xa17 := na14.ext; have pa18 := na14.pos; have za19 := na14.size; clear na14; replace ha5 := ha5.ext xa17; replace hP := hP.ext xa17; replace X := X.ext xa17; clear xa17; refine cN (C1 Pf (C1 (Pl ha16) ?_)); refine lw_does (does_call (by kernel_rfl) rfl (Atoi_range _ _ d1 d2 hpl hr (PPF.errs (by assumption))) (fun _ _ ⟨_, _, h⟩ => ⟨_, h.1⟩)) rfl ?_ (fun _ h => h); rintro _ wa23 ⟨tea20, ⟨pea21, ⟨⟨⟩, xa22⟩⟩⟩; have za24 := xa22.size; replace ha16 := ha16.ext xa22; replace ha5 := ha5.ext xa22; replace hP := hP.ext xa22; replace X := X.ext xa22; clear xa22; refine C1 Mv (C1 Px (C1 Px (C1 Pa (C1 Pa (cT (cw_seq (cS (C1 Mv (C1 (pur_ifn1 tabOk rfl rfl) (cT (cw_cond_t rfl ?_))))))))))); refine cS (C1 Mv (C1 Pf (C1 (Pl ha16) ?_))); refine cC rfl (ffail_c _ _ _ _ _ (by assumption)) ?_; rintro _ wa27 ⟨⟨⟩, ⟨ha25, fa26⟩⟩; have za28 := fa26.size; replace ha16 := ha16.fr fa26 (by omega)
    replace ha5 := ha5.fr fa26 (by omega); clear hP; replace X := X.fr fa26 (by omega); clear fa26; refine cN (C1 (pur_build' [_, _, _, _] tabOk zOk rfl rfl rfl rfl) ?_); (refine lw_store' [_, _, _, _] [_, _, _, _] tabOk rfl rfl rfl rfl rfl rfl ha5 rfl rfl ?_; intro wa29 na30); have ha33 := na30.blk; have fa31 := na30.fr; have za32 := na30.size; clear na30 ha5; replace ha25 := ha25.fr fa31 (by omega); replace ha16 := ha16.fr fa31 (by omega); replace X := X.fr fa31 (by omega); clear fa31; refine cT (cw_ret (qw_then_ret (qw_retc rfl tabOk rfl rfl rfl ha33 rfl ?_))); rotate_left 1
   exact treeF_ret sits_nil (by assumption) X
end Bk
namespace Bk
open Go
section
variable (ts : List Tok) (n : Int)
end
section
variable {ts : List Tok} {n : Int}
theorem arg_le {σ : PS} (h : σ.at_ ≤ ts.length) : Le ts σ (argP ts n σ).2 := name_le h
theorem args_le (k : Nat) : ∀ acc σ, σ.at_ ≤ ts.length → Le ts σ (argsP ts n k acc σ).2 := by
 induction k with
 | zero => intro acc σ h; rw [argsP]; exact Le.refl h
 | succ k ih =>
  intro acc σ h; rw [argsP]
  split
  · rename_i hh
    have h1 := next_le (has_in h hh (by decide))
    split
    · have h2 := h1.trans (fail_le (off := (peekP ts (nextP σ)).pos) (e := 5) h1.wf)
      exact (h2.trans (arg_le h2.wf)).trans (ih _ _ (arg_le h2.wf).wf)
    · exact (h1.trans (arg_le h1.wf)).trans (ih _ _ (arg_le h1.wf).wf)
  · exact Le.refl h
end
end Bk
namespace Bk
open Go
section
variable {ts : List Tok} {n : Int}
abbrev In (ts : List Tok) (σ : PS) : Prop := σ.err = 0 ∧ σ.at_ < ts.length
theorem expr_le {k : Nat} {lv : Int} {σ : PS} (h : σ.at_ ≤ ts.length) : Le ts σ (exprP ts n k lv σ).2 := ((expr_inv k).1 lv σ h).1
theorem place_le {k : Nat} {σ : PS} (h : σ.at_ ≤ ts.length) : Le ts σ (placeP ts n k σ).2 := ((expr_inv k).2.2.2.2 σ h).1
theorem stack_le {k : Nat} {kind : Int} {σ : PS} (hn : In ts σ) : Le ts σ (stackP ts n k kind σ).2 := by
 unfold stackP
 have h1 := next_le hn; have h2 := h1.trans (place_le (n := n) (k := k) h1.wf); have h3 := h2.trans (expect_le (n := n) (t := [44]) h2.wf (by decide))
 exact h3.trans (name_le h3.wf)
theorem tape_le {k : Nat} {kind : Int} {σ : PS} (hn : In ts σ) : Le ts σ (tapeP ts n k kind σ).2 := by
 unfold tapeP
 have h1 := next_le hn
 exact h1.trans (place_le (n := n) (k := k) h1.wf)
theorem call_le {k : Nat} {kind : Int} {σ : PS} (hn : In ts σ) : Le ts σ (callP ts n k kind σ).2 := by
 unfold callP
 have h1 := next_le hn; have h2 := h1.trans (name_le (n := n) h1.wf); have h3 := h2.trans (expect_le (n := n) (t := [40]) h2.wf (by decide)); simp only
 split
 · rename_i hh; exact h3.trans (next_le (has_in h3.wf hh (by decide)))
 · have h4 := h3.trans (arg_le (n := n) h3.wf)
   exact (h4.trans (args_le (n := n) k _ _ h4.wf)).trans (expect_le (args_le (n := n) k _ _ h4.wf).wf (by decide))
theorem upd_ne {t : List UInt8} (h : ¬ updKind t = 0) : t ≠ [] := by rintro rfl; exact h (by decide)
theorem update_le {k : Nat} {σ : PS} (h : σ.at_ ≤ ts.length) : Le ts σ (updateP ts n k σ).2 := by
 unfold updateP
 have h1 := place_le (n := n) (k := k) h; simp only
 split
 · rename_i hh
   have h2 := h1.trans (next_le (has_in h1.wf hh (by decide)))
   exact h2.trans (place_le h2.wf)
 · split
   · exact h1.trans (unexp_le h1.wf)
   · rename_i hh
     have h2 := h1.trans (next_le (peek_in h1.wf (Or.inl (upd_ne hh))))
     exact h2.trans (expr_le h2.wf)
theorem stmt_inv (k : Nat) : (∀ σ, σ.at_ ≤ ts.length → Le ts σ (stmtP ts n k σ).2) ∧ (∀ kind mid last σ, In ts σ → mid ≠ [] → last ≠ [] → Le ts σ (branchesP ts n k kind mid last σ).2) ∧ (∀ σ, In ts σ → Le ts σ (localP ts n k σ).2) ∧
 (∀ σ, σ.at_ ≤ ts.length → Le ts σ (blockP ts n k σ).2) ∧ (∀ acc σ, σ.at_ ≤ ts.length → Le ts σ (stmtsP ts n k acc σ).2) := by
 induction k with
 | zero =>
  refine ⟨fun σ h => ?_, fun kind mid last σ h _ _ => ?_, fun σ h => ?_, fun σ h => ?_, fun acc σ h => ?_⟩
  · rw [stmtP]; exact Le.refl h
  · rw [branchesP]; exact Le.refl (Nat.le_of_lt h.2)
  · rw [localP]; exact Le.refl (Nat.le_of_lt h.2)
  · rw [blockP]; exact Le.refl h
  · rw [stmtsP]; exact Le.refl h
 | succ k ih =>
  obtain ⟨iS, iB, iL, iK, iT⟩ := ih; refine ⟨fun σ h => ?_, fun kind mid last σ hn hmid hlast => ?_, fun σ hn => ?_, fun σ h => ?_, fun acc σ h => ?_⟩
  · rw [stmtP]
    have hin : ∀ t : List UInt8, t ≠ [] → (peekP ts σ).text = t → In ts σ := fun t ht e => peek_in h (Or.inl (by rw [e]; exact ht))
    by_cases c : (peekP ts σ).text = [112, 117, 115, 104]
    · rw [if_pos c]; exact stack_le (hin _ (by decide) c)
    rw [if_neg c]; clear c
    by_cases c : (peekP ts σ).text = [112, 111, 112]
    · rw [if_pos c]; exact stack_le (hin _ (by decide) c)
    rw [if_neg c]; clear c
    by_cases c : (peekP ts σ).text = [114, 101, 97, 100]
    · rw [if_pos c]; exact tape_le (hin _ (by decide) c)
    rw [if_neg c]; clear c
    by_cases c : (peekP ts σ).text = [117, 110, 114, 101, 97, 100]
    · rw [if_pos c]; exact tape_le (hin _ (by decide) c)
    rw [if_neg c]; clear c
    by_cases c : (peekP ts σ).text = [119, 114, 105, 116, 101]
    · rw [if_pos c]; exact tape_le (hin _ (by decide) c)
    rw [if_neg c]; clear c
    by_cases c : (peekP ts σ).text = [117, 110, 119, 114, 105, 116, 101]
    · rw [if_pos c]; exact tape_le (hin _ (by decide) c)
    rw [if_neg c]; clear c
    by_cases c : (peekP ts σ).text = [99, 97, 108, 108]
    · rw [if_pos c]; exact call_le (hin _ (by decide) c)
    rw [if_neg c]; clear c
    by_cases c : (peekP ts σ).text = [117, 110, 99, 97, 108, 108]
    · rw [if_pos c]; exact call_le (hin _ (by decide) c)
    rw [if_neg c]; clear c
    by_cases c : (peekP ts σ).text = [105, 102]
    · rw [if_pos c]; exact iB _ _ _ _ (hin _ (by decide) c) (by decide) (by decide)
    rw [if_neg c]; clear c
    by_cases c : (peekP ts σ).text = [102, 114, 111, 109]
    · rw [if_pos c]; exact iB _ _ _ _ (hin _ (by decide) c) (by decide) (by decide)
    rw [if_neg c]; clear c
    by_cases c : (peekP ts σ).text = [108, 111, 99, 97, 108]
    · rw [if_pos c]; exact iL _ (hin _ (by decide) c)
    rw [if_neg c]; clear c
    exact update_le h
  · rw [branchesP]
    have h1 := next_le hn; have h2 := h1.trans (expr_le (n := n) (k := k) (lv := 1) h1.wf); have h3 := h2.trans (iK _ h2.wf); have h4 := h3.trans (expect_le (n := n) (t := mid) h3.wf hmid); have h5 := h4.trans (iK _ h4.wf); have h6 := h5.trans (expect_le (n := n) (t := last) h5.wf hlast)
    exact h6.trans (expr_le h6.wf)
  · rw [localP]
    have h1 := next_le hn
    split
    · rename_i hh
      have h2 := h1.trans (next_le (has_in h1.wf hh (by decide))); have h3 := h2.trans (name_le (n := n) h2.wf)
      exact h3.trans (iK _ h3.wf)
    · have h2 := h1.trans (name_le (n := n) h1.wf)
      have h3 := h2.trans (expect_le (n := n) (t := [61]) h2.wf (by decide)); have h4 := h3.trans (expr_le (n := n) (k := k) (lv := 1) h3.wf); have h5 := h4.trans (iK _ h4.wf); have h6 := h5.trans (expect_le (n := n) (t := [100, 101, 108, 111, 99, 97, 108]) h5.wf (by decide))
      exact h6.trans (expr_le h6.wf)
  · rw [blockP]
    have h1 := expect_le (n := n) (t := [123]) h (by decide)
    exact h1.trans (iT [] _ h1.wf)
  · rw [stmtsP]
    split
    · exact Le.refl h
    · split
      · rename_i hh; exact next_le (has_in h hh (by decide))
      · have h1 := iS σ h
        have h2 := h1.trans (expect_le (n := n) (t := [59]) h1.wf (by decide))
        exact h2.trans (iT _ _ h2.wf)
end
end Bk
namespace Bk
open Go
section
variable {ts : List Tok} {n : Int}
theorem block_le {k : Nat} {σ : PS} (h : σ.at_ ≤ ts.length) : Le ts σ (blockP ts n k σ).2 := (stmt_inv k).2.2.2.1 σ h
end
end Bk
namespace Bk
open Go
section
variable {ts : List Tok} {n : Int}
end
end Bk
namespace Bk
open Go
section
variable (ts : List Tok) (n : Int)
end
section
variable {ts : List Tok} {n : Int}
theorem decl_le {σ : PS} (h : σ.at_ ≤ ts.length) : Le ts σ (declP ts n σ).2 := by
 unfold declP
 split
 · rename_i hh
   have h1 := next_le (has_in h hh (by decide))
   exact h1.trans (name_le h1.wf)
 · split
   · rename_i hh
     have h1 := next_le (has_in h hh (by decide))
     exact h1.trans (name_le h1.wf)
   · split
     · rename_i hh
       have h1 := next_le (has_in h hh (by decide)); have h2 := h1.trans (name_le (n := n) h1.wf); have h3 := h2.trans (expect_le (n := n) (t := [91]) h2.wf (by decide)); have h4 := h3.trans (number_le (n := n) (a := 1) (b := 16) h3.wf)
       exact h4.trans (expect_le h4.wf (by decide))
     · exact unexp_le h
end
section
variable (ts : List Tok) (n : Int)
end
section
variable {ts : List Tok} {n : Int}
theorem params_le (k : Nat) : ∀ acc σ, σ.at_ ≤ ts.length → Le ts σ (paramsP ts n k acc σ).2 := by
 induction k with
 | zero => intro acc σ h; rw [paramsP]; exact Le.refl h
 | succ k ih =>
  intro acc σ h; rw [paramsP]
  split
  · rename_i hh
    have h1 := next_le (has_in h hh (by decide)); simp only
    have h2 : Le ts σ (if acc.length = 8 ∧ atDeclP ts (nextP σ) = true then failP (nextP σ) (peekP ts (nextP σ)).pos 5 else nextP σ) := by
     split
     · exact h1.trans (fail_le h1.wf _ _)
     · exact h1
    generalize (if acc.length = 8 ∧ atDeclP ts (nextP σ) = true then failP (nextP σ) (peekP ts (nextP σ)).pos 5 else nextP σ) = τ at *
    have h3 := h2.trans (decl_le (n := n) h2.wf)
    exact h3.trans (ih _ _ h3.wf)
  · exact Le.refl h
end
section
variable (ts : List Tok) (n : Int)
end
section
variable {ts : List Tok} {n : Int}
theorem limit_le {x : Nd} {off : Int} {σ : PS} (h : σ.at_ ≤ ts.length) : Le ts σ (limitP x off σ) := by
 unfold limitP
 split
 · exact Le.refl h
 · split
   · exact fail_le h _ _
   · split
     · exact fail_le h _ _
     · exact Le.refl h
end
section
variable (ts : List Tok) (n : Int)
end
section
variable {ts : List Tok} {n : Int}
theorem bodyP_le {k : Nat} {σ : PS} (h : σ.at_ ≤ ts.length) : Le ts σ (bodyP ts n k σ).2 := by
 unfold bodyP
 have h1 := block_le (n := n) (k := k) h
 exact h1.trans (limit_le h1.wf)
theorem vars_le (k : Nat) : ∀ acc σ, σ.at_ ≤ ts.length → Le ts σ (varsP ts n k acc σ).2 := by
 induction k with
 | zero => intro acc σ h; rw [varsP]; exact Le.refl h
 | succ k ih =>
  intro acc σ h; rw [varsP]
  split
  · have h2 : Le ts σ (if acc.length = 32 then failP σ (peekP ts σ).pos 5 else σ) := by
     split
     · exact fail_le h _ _
     · exact Le.refl h
    have h3 := h2.trans (decl_le (n := n) h2.wf)
    exact h3.trans (ih _ _ h3.wf)
  · exact Le.refl h
end
end Bk
namespace Bk
open Go
section
variable {ts : List Tok} {n : Int}
def procQ (ts : List Tok) (n : Int) (k : Nat) (σ : PS) : List VD × PS :=
 if hasP ts σ [41] then ([], nextP σ) else ((paramsP ts n k [(declP ts n σ).1] (declP ts n σ).2).1, expectP ts n (paramsP ts n k [(declP ts n σ).1] (declP ts n σ).2).2 [41])
theorem procQ_le {k : Nat} {σ : PS} (h : σ.at_ ≤ ts.length) : Le ts σ (procQ ts n k σ).2 := by
 unfold procQ
 split
 · rename_i hh
   exact next_le (has_in h hh (by decide))
 · have h1 := decl_le (n := n) h
   have h2 := h1.trans (params_le (n := n) k [(declP ts n σ).1] _ h1.wf)
   exact h2.trans (expect_le h2.wf (by decide))
theorem procP_at {k : Nat} {σ : PS} : procP ts n k σ = (⟨(nameP ts n (expectP ts n σ [112, 114, 111, 99])).1, (procQ ts n k (expectP ts n (nameP ts n (expectP ts n σ [112, 114, 111, 99])).2 [40])).1, (bodyP ts n k (procQ ts n k (expectP ts n (nameP ts n (expectP ts n σ [112, 114, 111, 99])).2 [40])).2).1⟩, (bodyP ts n k (procQ ts n k (expectP ts n (nameP ts n (expectP ts n σ [112, 114, 111, 99])).2 [40])).2).2) := by
 simp only [procP, procQ]
theorem procP_le {k : Nat} {σ : PS} (h : σ.at_ ≤ ts.length) : Le ts σ (procP ts n k σ).2 := by
 rw [procP_at]; have h1 := expect_le (n := n) (t := [112, 114, 111, 99]) h (by decide); have h2 := h1.trans (name_le (n := n) h1.wf); have h3 := h2.trans (expect_le (n := n) (t := [40]) h2.wf (by decide)); have h4 := h3.trans (procQ_le (n := n) (k := k) h3.wf)
 exact h4.trans (bodyP_le h4.wf)
theorem procs_le (k : Nat) : ∀ acc σ, σ.at_ ≤ ts.length → Le ts σ (procsP ts n k acc σ).2 := by
 induction k with
 | zero => intro acc σ h; rw [procsP]; exact Le.refl h
 | succ k ih =>
  intro acc σ h; rw [procsP]
  split
  · have h2 : Le ts σ (if acc.length = 64 then failP σ (peekP ts σ).pos 5 else σ) := by
     split
     · exact fail_le h _ _
     · exact Le.refl h
    have h3 := h2.trans (procP_le (n := n) (k := k) h2.wf)
    exact h3.trans (ih _ _ h3.wf)
  · exact Le.refl h
end
end Bk
namespace Bk
open Go
section
variable {ts : List Tok} {n : Int} {I : PS → Prop}
structure Clo (ts : List Tok) (n : Int) (I : PS → Prop) : Prop where
 next : ∀ σ, In ts σ → I σ → I (nextP σ)
 unexp : ∀ σ, σ.at_ ≤ ts.length → I σ → I (unexpP ts n σ)
 full : ∀ σ, In ts σ → I σ → I (failP σ (peekP ts σ).pos 5)
 range : ∀ σ, In ts σ → I σ → I (failP (nextP σ) (peekP ts σ).pos 2)
theorem Clo.expect (C : Clo ts n I) {σ : PS} {t : List UInt8} (h : σ.at_ ≤ ts.length) (ht : t ≠ []) (i : I σ) : I (expectP ts n σ t) := by
 unfold expectP
 split
 · rename_i hh; exact C.next _ (has_in h hh ht) i
 · exact C.unexp _ h i
theorem Clo.name (C : Clo ts n I) {σ : PS} (h : σ.at_ ≤ ts.length) (i : I σ) : I (nameP ts n σ).2 := by
 unfold nameP
 split
 · rename_i hh; exact C.next _ (peek_in h (Or.inl (isName_ne hh))) i
 · exact C.unexp _ h i
theorem Clo.number (C : Clo ts n I) {a b : Int} {σ : PS} (h : σ.at_ ≤ ts.length) (i : I σ) : I (numberP ts n a b σ).2 := by
 unfold numberP
 split
 · rename_i hh
   have hn := peek_in h (Or.inr (by rw [hh]; decide))
   split
   · exact C.next _ hn i
   · exact C.range _ hn i
 · exact C.unexp _ h i
theorem Clo.exprs (C : Clo ts n I) (k : Nat) : (∀ lv σ, σ.at_ ≤ ts.length → I σ → I (exprP ts n k lv σ).2) ∧ (∀ lv x σ, σ.at_ ≤ ts.length → I σ → I (climbP ts n k lv x σ).2) ∧
 (∀ σ, σ.at_ ≤ ts.length → I σ → I (unaryP ts n k σ).2) ∧ (∀ σ, σ.at_ ≤ ts.length → I σ → I (primaryP ts n k σ).2) ∧ (∀ σ, σ.at_ ≤ ts.length → I σ → I (placeP ts n k σ).2) := by
 induction k with
 | zero =>
  refine ⟨fun lv σ h i => ?_, fun lv x σ h i => ?_, fun σ h i => ?_, fun σ h i => ?_, fun σ h i => ?_⟩
  · rw [exprP]; exact i
  · rw [climbP]; exact i
  · rw [unaryP]; exact i
  · rw [primaryP]; exact i
  · rw [placeP]; exact i
 | succ k ih =>
  obtain ⟨iE, iC, iU, iP, iL⟩ := ih; obtain ⟨vE, vC, vU, vP, vL⟩ := expr_inv (ts := ts) (n := n) k; refine ⟨fun lv σ h i => ?_, fun lv x σ h i => ?_, fun σ h i => ?_, fun σ h i => ?_, fun σ h i => ?_⟩
  · rw [exprP]
    exact iC _ _ _ (vU σ h).1.wf (iU _ h i)
  · rw [climbP]
    split
    · exact i
    · rename_i op hop
      obtain ⟨hne, -⟩ := binOf_ne hop; have hn := peek_in h (Or.inl hne)
      split
      · exact i
      · have h1 := next_le hn
        have h2 := vE (level op + 1) (nextP σ) h1.wf
        exact iC _ _ _ h2.1.wf (iE _ _ h1.wf (C.next _ hn i))
  · rw [unaryP]
    split
    · rename_i hh
      have hn := has_in h hh (by decide)
      exact iU _ (next_le hn).wf (C.next _ hn i)
    · split
      · rename_i hh
        have hn := has_in h hh (by decide)
        exact iU _ (next_le hn).wf (C.next _ hn i)
      · exact iP _ h i
  · rw [primaryP]
    split
    · exact C.number h i
    · split
      · rename_i hh
        have hn := has_in h hh (by decide); have h1 := next_le hn; have h2 := expect_le (n := n) (t := [40]) h1.wf (by decide); have h3 := name_le (n := n) h2.wf
        exact C.expect h3.wf (by decide) (C.name h2.wf (C.expect h1.wf (by decide) (C.next _ hn i)))
      · split
        · rename_i hh
          have hn := has_in h hh (by decide); have h1 := next_le hn; have h2 := expect_le (n := n) (t := [40]) h1.wf (by decide); have h3 := name_le (n := n) h2.wf
          exact C.expect h3.wf (by decide) (C.name h2.wf (C.expect h1.wf (by decide) (C.next _ hn i)))
        · split
          · rename_i hh
            have hn := has_in h hh (by decide); have h1 := next_le hn
            exact C.expect (vE 1 _ h1.wf).1.wf (by decide) (iE _ _ h1.wf (C.next _ hn i))
          · exact iL _ h i
  · rw [placeP]
    have h0 := name_le (n := n) h
    split
    · rename_i hh
      have hn := has_in h0.wf hh (by decide); have h1 := next_le hn
      exact C.expect (vE 1 _ h1.wf).1.wf (by decide) (iE _ _ h1.wf (C.next _ hn (C.name h i)))
    · exact C.name h i
theorem Clo.expr (C : Clo ts n I) {k : Nat} {lv : Int} {σ : PS} (h : σ.at_ ≤ ts.length) (i : I σ) : I (exprP ts n k lv σ).2 := (C.exprs k).1 lv σ h i
theorem Clo.place (C : Clo ts n I) {k : Nat} {σ : PS} (h : σ.at_ ≤ ts.length) (i : I σ) : I (placeP ts n k σ).2 := (C.exprs k).2.2.2.2 σ h i
theorem place_le' {k : Nat} {σ : PS} (h : σ.at_ ≤ ts.length) : Le ts σ (placeP ts n k σ).2 := ((expr_inv (ts := ts) (n := n) k).2.2.2.2 σ h).1
theorem Clo.args (C : Clo ts n I) (k : Nat) : ∀ acc σ, σ.at_ ≤ ts.length → I σ → I (argsP ts n k acc σ).2 := by
 induction k with
 | zero => intro acc σ h i; rw [argsP]; exact i
 | succ k ih =>
  intro acc σ h i; rw [argsP]
  split
  · rename_i hh
    have hn := has_in h hh (by decide); have h1 := next_le hn; have i1 := C.next _ hn i
    split
    · rename_i h8
      have l2 := fail_le (ts := ts) h1.wf (peekP ts (nextP σ)).pos 5
      exact ih _ _ (name_le (n := n) l2.wf).wf (C.name l2.wf (C.full _ (peek_in h1.wf (Or.inl (isName_ne h8.2))) i1))
    · exact ih _ _ (name_le (n := n) h1.wf).wf (C.name h1.wf i1)
  · exact i
theorem args_le' (k : Nat) : ∀ acc σ, σ.at_ ≤ ts.length → Le ts σ (argsP ts n k acc σ).2 := by
 induction k with
 | zero => intro acc σ h; rw [argsP]; exact Le.refl h
 | succ k ih =>
  intro acc σ h; rw [argsP]
  split
  · rename_i hh
    have h1 := next_le (has_in h hh (by decide))
    split
    · have l2 := h1.trans (fail_le (ts := ts) h1.wf (peekP ts (nextP σ)).pos 5)
      have l3 := l2.trans (name_le (n := n) l2.wf)
      exact l3.trans (ih _ _ l3.wf)
    · have l3 := h1.trans (name_le (n := n) h1.wf)
      exact l3.trans (ih _ _ l3.wf)
  · exact Le.refl h
theorem Clo.call (C : Clo ts n I) {k : Nat} {kind : Int} {σ : PS} (h : In ts σ) (i : I σ) : I (callP ts n k kind σ).2 := by
 unfold callP
 have h1 := next_le h; have h2 := name_le (n := n) h1.wf; have h3 := expect_le (n := n) (t := [40]) h2.wf (by decide); have i3 := C.expect (t := [40]) h2.wf (by decide) (C.name h1.wf (C.next _ h i)); simp only
 split
 · rename_i hh; exact C.next _ (has_in h3.wf hh (by decide)) i3
 · have h4 := name_le (n := n) h3.wf
   exact C.expect (args_le' k _ _ h4.wf).wf (by decide) (C.args k _ _ h4.wf (C.name h3.wf i3))
theorem Clo.update (C : Clo ts n I) {k : Nat} {σ : PS} (h : σ.at_ ≤ ts.length) (i : I σ) : I (updateP ts n k σ).2 := by
 unfold updateP
 have h1 := place_le' (n := n) (k := k) h; have i1 := C.place (k := k) h i; simp only
 split
 · rename_i hh
   have hn := has_in h1.wf hh (by decide)
   exact C.place (next_le hn).wf (C.next _ hn i1)
 · split
   · exact C.unexp _ h1.wf i1
   · rename_i hh
     have hn := peek_in h1.wf (Or.inl (upd_ne hh))
     exact C.expr (next_le hn).wf (C.next _ hn i1)
theorem Clo.stack (C : Clo ts n I) {k : Nat} {kind : Int} {σ : PS} (h : In ts σ) (i : I σ) : I (stackP ts n k kind σ).2 := by
 unfold stackP
 have h1 := next_le h; have h2 := place_le' (n := n) (k := k) h1.wf; have h3 := expect_le (n := n) (t := [44]) h2.wf (by decide)
 exact C.name h3.wf (C.expect h2.wf (by decide) (C.place h1.wf (C.next _ h i)))
theorem Clo.tape (C : Clo ts n I) {k : Nat} {kind : Int} {σ : PS} (h : In ts σ) (i : I σ) : I (tapeP ts n k kind σ).2 := by
 unfold tapeP
 exact C.place (next_le h).wf (C.next _ h i)
theorem Clo.stmts (C : Clo ts n I) (k : Nat) : (∀ σ, σ.at_ ≤ ts.length → I σ → I (stmtP ts n k σ).2) ∧ (∀ kind mid last σ, In ts σ → mid ≠ [] → last ≠ [] → I σ → I (branchesP ts n k kind mid last σ).2) ∧ (∀ σ, In ts σ → I σ → I (localP ts n k σ).2) ∧
 (∀ σ, σ.at_ ≤ ts.length → I σ → I (blockP ts n k σ).2) ∧ (∀ acc σ, σ.at_ ≤ ts.length → I σ → I (stmtsP ts n k acc σ).2) := by
 induction k with
 | zero =>
  refine ⟨fun σ h i => ?_, fun kind mid last σ h _ _ i => ?_, fun σ h i => ?_, fun σ h i => ?_, fun acc σ h i => ?_⟩
  · rw [stmtP]; exact i
  · rw [branchesP]; exact i
  · rw [localP]; exact i
  · rw [blockP]; exact i
  · rw [stmtsP]; exact i
 | succ k ih =>
  obtain ⟨iS, iB, iL, iK, iT⟩ := ih; obtain ⟨vS, vB, vL, vK, vT⟩ := stmt_inv (ts := ts) (n := n) k; refine ⟨fun σ h i => ?_, fun kind mid last σ hn hmid hlast i => ?_, fun σ hn i => ?_, fun σ h i => ?_, fun acc σ h i => ?_⟩
  · rw [stmtP]
    have hin : ∀ t : List UInt8, t ≠ [] → (peekP ts σ).text = t → In ts σ := fun t ht e => peek_in h (Or.inl (by rw [e]; exact ht))
    by_cases c : (peekP ts σ).text = [112, 117, 115, 104]
    · rw [if_pos c]; exact C.stack (hin _ (by decide) c) i
    rw [if_neg c]; clear c
    by_cases c : (peekP ts σ).text = [112, 111, 112]
    · rw [if_pos c]; exact C.stack (hin _ (by decide) c) i
    rw [if_neg c]; clear c
    by_cases c : (peekP ts σ).text = [114, 101, 97, 100]
    · rw [if_pos c]; exact C.tape (hin _ (by decide) c) i
    rw [if_neg c]; clear c
    by_cases c : (peekP ts σ).text = [117, 110, 114, 101, 97, 100]
    · rw [if_pos c]; exact C.tape (hin _ (by decide) c) i
    rw [if_neg c]; clear c
    by_cases c : (peekP ts σ).text = [119, 114, 105, 116, 101]
    · rw [if_pos c]; exact C.tape (hin _ (by decide) c) i
    rw [if_neg c]; clear c
    by_cases c : (peekP ts σ).text = [117, 110, 119, 114, 105, 116, 101]
    · rw [if_pos c]; exact C.tape (hin _ (by decide) c) i
    rw [if_neg c]; clear c
    by_cases c : (peekP ts σ).text = [99, 97, 108, 108]
    · rw [if_pos c]; exact C.call (hin _ (by decide) c) i
    rw [if_neg c]; clear c
    by_cases c : (peekP ts σ).text = [117, 110, 99, 97, 108, 108]
    · rw [if_pos c]; exact C.call (hin _ (by decide) c) i
    rw [if_neg c]; clear c
    by_cases c : (peekP ts σ).text = [105, 102]
    · rw [if_pos c]; exact iB _ _ _ _ (hin _ (by decide) c) (by decide) (by decide) i
    rw [if_neg c]; clear c
    by_cases c : (peekP ts σ).text = [102, 114, 111, 109]
    · rw [if_pos c]; exact iB _ _ _ _ (hin _ (by decide) c) (by decide) (by decide) i
    rw [if_neg c]; clear c
    by_cases c : (peekP ts σ).text = [108, 111, 99, 97, 108]
    · rw [if_pos c]; exact iL _ (hin _ (by decide) c) i
    rw [if_neg c]; clear c
    exact C.update h i
  · rw [branchesP]
    have h1 := next_le hn; have h2 := expr_le (n := n) (k := k) (lv := 1) h1.wf; have h3 := vK _ h2.wf; have h4 := expect_le (n := n) (t := mid) h3.wf hmid; have h5 := vK _ h4.wf; have h6 := expect_le (n := n) (t := last) h5.wf hlast
    exact C.expr h6.wf (C.expect h5.wf hlast (iK _ h4.wf (C.expect h3.wf hmid (iK _ h2.wf (C.expr h1.wf (C.next _ hn i))))))
  · rw [localP]
    have h1 := next_le hn; have i1 := C.next _ hn i
    split
    · rename_i hh
      have hn2 := has_in h1.wf hh (by decide); have h2 := next_le hn2
      exact iK _ (name_le (n := n) h2.wf).wf (C.name h2.wf (C.next _ hn2 i1))
    · have h2 := name_le (n := n) h1.wf
      have h3 := expect_le (n := n) (t := [61]) h2.wf (by decide); have h4 := expr_le (n := n) (k := k) (lv := 1) h3.wf; have h5 := vK _ h4.wf; have h6 := expect_le (n := n) (t := [100, 101, 108, 111, 99, 97, 108]) h5.wf (by decide)
      exact C.expr h6.wf (C.expect h5.wf (by decide) (iK _ h4.wf (C.expr h3.wf (C.expect h2.wf (by decide) (C.name h1.wf i1)))))
  · rw [blockP]
    exact iT _ _ (expect_le (n := n) (t := [123]) h (by decide)).wf (C.expect h (by decide) i)
  · rw [stmtsP]
    split
    · exact i
    · split
      · rename_i hh; exact C.next _ (has_in h hh (by decide)) i
      · have h1 := vS _ h
        exact iT _ _ (expect_le (n := n) (t := [59]) h1.wf (by decide)).wf (C.expect h1.wf (by decide) (iS _ h i))
theorem Clo.decl (C : Clo ts n I) {σ : PS} (h : σ.at_ ≤ ts.length) (i : I σ) : I (declP ts n σ).2 := by
 unfold declP
 split
 · rename_i hh
   have hn := has_in h hh (by decide)
   exact C.name (next_le hn).wf (C.next _ hn i)
 · split
   · rename_i hh
     have hn := has_in h hh (by decide)
     exact C.name (next_le hn).wf (C.next _ hn i)
   · split
     · rename_i hh
       have hn := has_in h hh (by decide); have h1 := next_le hn; have h2 := name_le (n := n) h1.wf; have h3 := expect_le (n := n) (t := [91]) h2.wf (by decide); have h4 := number_le (n := n) (a := 1) (b := 16) h3.wf
       exact C.expect h4.wf (by decide) (C.number h3.wf (C.expect h2.wf (by decide) (C.name h1.wf (C.next _ hn i))))
     · exact C.unexp _ h i
theorem atDecl_in {σ : PS} (h : σ.at_ ≤ ts.length) (hd : atDeclP ts σ = true) : In ts σ := by
 simp only [atDeclP, Bool.or_eq_true] at hd
 rcases hd with (c | c) | c <;> exact has_in h c (by decide)
theorem Clo.params (C : Clo ts n I) (k : Nat) : ∀ acc σ, σ.at_ ≤ ts.length → I σ → I (paramsP ts n k acc σ).2 := by
 induction k with
 | zero => intro acc σ h i; rw [paramsP]; exact i
 | succ k ih =>
  intro acc σ h i; rw [paramsP]
  split
  · rename_i hh
    have hn := has_in h hh (by decide); have h1 := next_le hn; have i1 := C.next _ hn i; simp only
    split
    · rename_i h8
      have l2 := fail_le (ts := ts) h1.wf (peekP ts (nextP σ)).pos 5
      exact ih _ _ (decl_le (n := n) l2.wf).wf (C.decl l2.wf (C.full _ (atDecl_in h1.wf h8.2) i1))
    · exact ih _ _ (decl_le (n := n) h1.wf).wf (C.decl h1.wf i1)
  · exact i
structure CloL (ts : List Tok) (n : Int) (I : PS → Prop) : Prop extends Clo ts n I where
 lim : ∀ σ x τ, σ.at_ ≤ ts.length → I σ → I τ → I (limitP x (peekP ts σ).pos τ)
theorem CloL.body (C : CloL ts n I) {k : Nat} {σ : PS} (h : σ.at_ ≤ ts.length) (i : I σ) : I (bodyP ts n k σ).2 := by
 unfold bodyP
 exact C.lim _ _ _ h i ((C.toClo.stmts k).2.2.2.1 _ h i)
theorem CloL.proc (C : CloL ts n I) {k : Nat} {σ : PS} (h : σ.at_ ≤ ts.length) (i : I σ) : I (procP ts n k σ).2 := by
 rw [procP_at]; have h1 := expect_le (n := n) (t := [112, 114, 111, 99]) h (by decide); have h2 := name_le (n := n) h1.wf; have h3 := expect_le (n := n) (t := [40]) h2.wf (by decide); have i3 := C.expect (t := [40]) h2.wf (by decide) (C.name h1.wf (C.expect (t := [112, 114, 111, 99]) h (by decide) i)); have h4 := procQ_le (n := n) (k := k) h3.wf; refine C.body h4.wf ?_
 unfold procQ
 split
 · rename_i hh; exact C.next _ (has_in h3.wf hh (by decide)) i3
 · have h5 := decl_le (n := n) h3.wf
   exact C.expect (params_le (n := n) k _ _ h5.wf).wf (by decide) (C.params k _ _ h5.wf (C.decl h3.wf i3))
theorem CloL.vars (C : CloL ts n I) (k : Nat) : ∀ acc σ, σ.at_ ≤ ts.length → I σ → I (varsP ts n k acc σ).2 := by
 induction k with
 | zero => intro acc σ h i; rw [varsP]; exact i
 | succ k ih =>
  intro acc σ h i; rw [varsP]
  split
  · rename_i hh
    simp only
    split
    · have l2 := fail_le (ts := ts) h (peekP ts σ).pos 5
      exact ih _ _ (decl_le (n := n) l2.wf).wf (C.decl l2.wf (C.full _ (atDecl_in h hh) i))
    · exact ih _ _ (decl_le (n := n) h).wf (C.decl h i)
  · exact i
theorem CloL.procs (C : CloL ts n I) (k : Nat) : ∀ acc σ, σ.at_ ≤ ts.length → I σ → I (procsP ts n k acc σ).2 := by
 induction k with
 | zero => intro acc σ h i; rw [procsP]; exact i
 | succ k ih =>
  intro acc σ h i; rw [procsP]
  split
  · rename_i hh
    simp only
    split
    · have l2 := fail_le (ts := ts) h (peekP ts σ).pos 5
      exact ih _ _ (procP_le (n := n) (k := k) l2.wf).wf (C.proc l2.wf (C.full _ (has_in h hh (by decide)) i))
    · exact ih _ _ (procP_le (n := n) (k := k) h).wf (C.proc h i)
  · exact i
theorem CloL.program (C : CloL ts n I) {k : Nat} {σ : PS} (h : σ.at_ ≤ ts.length) (i : I σ) : I (programP ts n k σ).2 := by
 unfold programP
 have h1 := vars_le (n := n) k [] σ h; have h2 := procs_le (n := n) k [] _ h1.wf
 exact C.body (expect_le (n := n) (t := [109, 97, 105, 110]) h2.wf (by decide)).wf (C.expect h2.wf (by decide) (C.procs k _ _ h1.wf (C.vars k _ _ h i)))
end
end Bk
namespace Bk
open Go
abbrev Pr (α : Type) := List Tok → Int → PS → α × PS
section
variable (ts us : List Tok) (n m : Int) (c : Nat) (Q : PS → PS → Prop)
structure DD (σ τ : PS) : Prop where
 a : c ≤ σ.at_
 b : c ≤ τ.at_
 w : σ.at_ ≤ ts.length
 v : τ.at_ ≤ us.length
 e : us.length = c → τ.err = 0 ∨ (τ.err = 4 ∧ τ.off = m)
structure EE (σ τ : PS) : Prop extends DD ts us m c σ τ where
 x : us.length = c → τ.err ≠ 0
structure Syn (σ τ : PS) : Prop where
 kind : (peekP ts σ).kind = (peekP us τ).kind
 text : (peekP ts σ).text = (peekP us τ).text
 err : σ.err = 0 ↔ τ.err = 0
 next : In ts σ → In us τ → Q (nextP σ) (nextP τ)
 unexp : Q (unexpP ts n σ) (unexpP us m τ)
 full : ∀ e : Int, In ts σ → In us τ → Q (failP σ (peekP ts σ).pos e) (failP τ (peekP us τ).pos e)
 range : In ts σ → In us τ → Q (failP (nextP σ) (peekP ts σ).pos 2) (failP (nextP τ) (peekP us τ).pos 2)
 lim : ∀ x σ' τ', Q σ' τ' → Q (limitP x (peekP ts σ).pos σ') (limitP x (peekP us τ).pos τ')
structure Sim : Prop where
 wf : ∀ σ τ, Q σ τ → σ.at_ ≤ ts.length ∧ τ.at_ ≤ us.length
 syn : ∀ σ τ, Q σ τ → DD ts us m c σ τ ∨ Syn ts us n m Q σ τ
def RD {α : Type} (a b : α × PS) : Prop := (a.1 = b.1 ∧ Q a.2 b.2) ∨ DD ts us m c a.2 b.2
def RE {α : Type} (a b : α × PS) : Prop := (a.1 = b.1 ∧ Q a.2 b.2) ∨ EE ts us m c a.2 b.2
end
structure Good {α : Type} (p : Pr α) : Prop where
 le : ∀ ts n σ, σ.at_ ≤ ts.length → Le ts σ (p ts n σ).2
 fin : ∀ ts n σ, σ.at_ = ts.length → (p ts n σ).2 = σ ∨ (p ts n σ).2 = unexpP ts n σ
 sim : ∀ ts us n m c Q, Sim ts us n m c Q → ∀ σ τ, Q σ τ → RD ts us m c Q (p ts n σ) (p us m τ)
def FE {α : Type} (p : Pr α) : Prop := ∀ ts n σ, σ.at_ = ts.length → (p ts n σ).2 = unexpP ts n σ
def GE {α : Type} (p : Pr α) : Prop := ∀ ts us n m c Q, Sim ts us n m c Q → ∀ σ τ, Q σ τ → RE ts us m c Q (p ts n σ) (p us m τ)
def bindP {α β : Type} (p : Pr α) (f : α → Pr β) : Pr β := fun ts n σ => f (p ts n σ).1 ts n (p ts n σ).2
def retP {α : Type} (x : α) : Pr α := fun _ _ σ => (x, σ)
def rdP {α : Type} (c : Int → List UInt8 → Bool) (y z : Int → List UInt8 → Pr α) : Pr α := fun ts n σ => if c (peekP ts σ).kind (peekP ts σ).text then y (peekP ts σ).kind (peekP ts σ).text ts n (nextP σ) else z (peekP ts σ).kind (peekP ts σ).text ts n σ
def unP {α : Type} (x : α) : Pr α := fun ts n σ => (x, unexpP ts n σ)
theorem Good.congr {α : Type} {p q : Pr α} (h : ∀ ts n σ, p ts n σ = q ts n σ) (g : Good q) : Good p := by
 have : p = q := by funext ts n σ; exact h ts n σ
 rw [this]; exact g
theorem GE.congr {α : Type} {p q : Pr α} (h : ∀ ts n σ, p ts n σ = q ts n σ) (g : GE q) : GE p := by
 have : p = q := by funext ts n σ; exact h ts n σ
 rw [this]; exact g
theorem FE.congr {α : Type} {p q : Pr α} (h : ∀ ts n σ, p ts n σ = q ts n σ) (g : FE q) : FE p := by
 have : p = q := by funext ts n σ; exact h ts n σ
 rw [this]; exact g
theorem unexp_end {ts : List Tok} {n : Int} {σ : PS} (h : σ.at_ = ts.length) : unexpP ts n σ = failP σ n 4 := by unfold unexpP; rw [if_neg (by omega)]
theorem fail_at (σ : PS) (o e : Int) : (failP σ o e).at_ = σ.at_ := by unfold failP; split <;> rfl
theorem unexp_at {ts : List Tok} {n : Int} (σ : PS) : (unexpP ts n σ).at_ = σ.at_ := by unfold unexpP; split <;> exact fail_at _ _ _
section
variable {ts us : List Tok} {n m : Int} {c : Nat} {Q : PS → PS → Prop}
theorem DD.un {σ τ : PS} (d : DD ts us m c σ τ) (h : us.length = c) : (unexpP us m τ).err = 4 ∧ (unexpP us m τ).off = m := by
 have hv := d.v; have hb := d.b; rw [unexp_end (by omega)]
 unfold failP
 rcases d.e h with e | e
 · rw [if_pos e]; exact ⟨rfl, rfl⟩
 · rw [if_neg (by rw [e.1]; decide)]; exact e
theorem DD.of {σ τ σ' τ' : PS} (d : DD ts us m c σ τ) (l1 : Le ts σ σ') (l2 : Le us τ τ') (f : τ.at_ = us.length → τ' = τ ∨ τ' = unexpP us m τ) : DD ts us m c σ' τ' := by
 refine ⟨Nat.le_trans d.a l1.le, Nat.le_trans d.b l2.le, l1.wf, l2.wf, fun h => ?_⟩; have hv := d.v; have hb := d.b
 rcases f (by omega) with e | e
 · rw [e]; exact d.e h
 · rw [e]; exact Or.inr (d.un h)
theorem DD.step {α β : Type} {p : Pr α} {q : Pr β} (g : Good p) (k : Good q) {σ τ : PS} (d : DD ts us m c σ τ) : DD ts us m c (p ts n σ).2 (q us m τ).2 := by
 have l1 := g.le ts n σ d.w; have l2 := k.le us m τ d.v; refine ⟨Nat.le_trans d.a l1.le, Nat.le_trans d.b l2.le, l1.wf, l2.wf, fun h => ?_⟩; have hv := d.v; have hb := d.b
 rcases k.fin us m τ (by omega) with e | e
 · rw [e]; exact d.e h
 · rw [e]; exact Or.inr (d.un h)
theorem DD.stepE {α β : Type} {p : Pr α} {q : Pr β} (g : Good p) (k : Good q) (f : FE q) {σ τ : PS} (d : DD ts us m c σ τ) : EE ts us m c (p ts n σ).2 (q us m τ).2 := by
 refine ⟨d.step g k, fun h => ?_⟩; have hv := d.v; have hb := d.b
 rw [f us m τ (by omega)]; exact unexp_err
theorem EE.le {σ τ σ' τ' : PS} (d : EE ts us m c σ τ) (l1 : Le ts σ σ') (l2 : Le us τ τ') : EE ts us m c σ' τ' := by
 refine ⟨⟨Nat.le_trans d.a l1.le, Nat.le_trans d.b l2.le, l1.wf, l2.wf, fun h => ?_⟩, fun h => ?_⟩
 · rw [l2.err (d.x h)]; exact d.e h
 · rw [l2.err (d.x h)]; exact d.x h
theorem RE.rd {α : Type} {a b : α × PS} (h : RE ts us m c Q a b) : RD ts us m c Q a b := by
 rcases h with h | h
 · exact Or.inl h
 · exact Or.inr h.toDD
end
theorem Good.ret {α : Type} (x : α) : Good (retP x) := ⟨fun ts n σ h => Le.refl h, fun ts n σ h => Or.inl rfl, fun ts us n m c Q S σ τ q => Or.inl ⟨rfl, q⟩⟩
theorem GE.ret {α : Type} (x : α) : GE (retP x) := fun ts us n m c Q S σ τ q => Or.inl ⟨rfl, q⟩
theorem Good.bind {α β : Type} {p : Pr α} {f : α → Pr β} (g : Good p) (k : ∀ x, Good (f x)) : Good (bindP p f) where
 le := fun ts n σ h => (g.le ts n σ h).trans ((k _).le ts n _ (g.le ts n σ h).wf)
 fin := fun ts n σ h => by
  unfold bindP
  rcases g.fin ts n σ h with e | e
  · rw [e]; exact (k _).fin ts n σ h
  · rw [e]
    right
    exact ((k _).le ts n _ (by rw [unexp_at]; omega)).err unexp_err
 sim := fun ts us n m c Q S σ τ q => by
  unfold bindP
  rcases g.sim ts us n m c Q S σ τ q with ⟨e, q1⟩ | d
  · rw [e]; exact (k _).sim ts us n m c Q S _ _ q1
  · exact Or.inr (d.step (k _) (k _))
theorem GE.bind {α β : Type} {p : Pr α} {f : α → Pr β} (g : Good p) (k : ∀ x, Good (f x)) (l : ∀ x, GE (f x)) (e : ∀ x, FE (f x)) : GE (bindP p f) := fun ts us n m c Q S σ τ q => by
 unfold bindP
 rcases g.sim ts us n m c Q S σ τ q with ⟨e, q1⟩ | d
 · rw [e]; exact l _ ts us n m c Q S _ _ q1
 · exact Or.inr (d.stepE (k _) (k _) (e _))
theorem GE.bindL {α β : Type} {p : Pr α} {f : α → Pr β} (g : GE p) (k : ∀ x, Good (f x)) (l : ∀ x, GE (f x)) : GE (bindP p f) := fun ts us n m c Q S σ τ q => by
 unfold bindP
 rcases g ts us n m c Q S σ τ q with ⟨e, q1⟩ | d
 · rw [e]; exact l _ ts us n m c Q S _ _ q1
 · exact Or.inr (d.le ((k _).le _ _ _ d.w) ((k _).le _ _ _ d.v))
theorem FE.bindL {α β : Type} {p : Pr α} {f : α → Pr β} (g : FE p) (k : ∀ x, Good (f x)) : FE (bindP p f) := fun ts n σ h => by
 unfold bindP
 rw [g ts n σ h]
 exact ((k _).le ts n _ (by rw [unexp_at]; omega)).err unexp_err
theorem FE.bind {α β : Type} {p : Pr α} {f : α → Pr β} (g : Good p) (k : ∀ x, Good (f x)) (e : ∀ x, FE (f x)) : FE (bindP p f) := fun ts n σ h => by
 unfold bindP
 rcases g.fin ts n σ h with h' | h'
 · rw [h']; exact e _ ts n σ h
 · rw [h']; exact ((k _).le ts n _ (by rw [unexp_at]; omega)).err unexp_err
theorem rd_in {ts : List Tok} {σ : PS} {c : Int → List UInt8 → Bool} (hc : c 0 [] = false) (h : σ.at_ ≤ ts.length) (hh : c (peekP ts σ).kind (peekP ts σ).text = true) : In ts σ := by
 refine peek_in h ?_
 by_cases h1 : (peekP ts σ).text = []
 · right
   intro h2
   rw [h1, h2, hc] at hh; cases hh
 · exact Or.inl h1
theorem rd_end {ts : List Tok} {σ : PS} {c : Int → List UInt8 → Bool} (hc : c 0 [] = false) (h : σ.at_ = ts.length) : c (peekP ts σ).kind (peekP ts σ).text = false := by
 rw [peek_end h]; exact hc
theorem Good.rd {α : Type} {c : Int → List UInt8 → Bool} {y z : Int → List UInt8 → Pr α} (hc : c 0 [] = false) (hy : ∀ k t, Good (y k t)) (hz : ∀ k t, Good (z k t)) : Good (rdP c y z) where
 le := fun ts n σ h => by
  unfold rdP
  split
  · rename_i hh
    have l := next_le (rd_in hc h hh)
    exact l.trans ((hy _ _).le ts n _ l.wf)
  · exact (hz _ _).le ts n σ h
 fin := fun ts n σ h => by
  unfold rdP
  rw [if_neg (by rw [rd_end hc h]; decide)]
  exact (hz _ _).fin ts n σ h
 sim := fun ts us n m c' Q S σ τ q => by
  rcases S.syn σ τ q with d | s
  · right
    have gl : ∀ (ts : List Tok) (n : Int) (σ : PS), σ.at_ ≤ ts.length → Le ts σ (rdP c y z ts n σ).2 := fun ts n σ h => by
     unfold rdP
     split
     · rename_i hh
       have l := next_le (rd_in hc h hh)
       exact l.trans ((hy _ _).le ts n _ l.wf)
     · exact (hz _ _).le ts n σ h
    have l1 := gl ts n σ d.w; have l2 := gl us m τ d.v; refine ⟨Nat.le_trans d.a l1.le, Nat.le_trans d.b l2.le, l1.wf, l2.wf, fun h => ?_⟩; have hv := d.v; have hb := d.b
    have hend : τ.at_ = us.length := by omega
    unfold rdP
    rw [if_neg (by rw [rd_end hc hend]; decide)]
    rcases (hz (peekP us τ).kind (peekP us τ).text).fin us m τ hend with e | e
    · rw [e]; exact d.e h
    · rw [e]; exact Or.inr (d.un h)
  · unfold rdP
    obtain ⟨w1, w2⟩ := S.wf σ τ q; rw [← s.kind, ← s.text]
    split
    · rename_i hh
      have i1 := rd_in hc w1 hh; have i2 := rd_in hc w2 (by rw [← s.kind, ← s.text]; exact hh)
      exact (hy _ _).sim ts us n m c' Q S _ _ (s.next i1 i2)
    · exact (hz _ _).sim ts us n m c' Q S _ _ q
theorem FE.rd {α : Type} {c : Int → List UInt8 → Bool} {y z : Int → List UInt8 → Pr α} (hc : c 0 [] = false) (hz : FE (z 0 [])) : FE (rdP c y z) := fun ts n σ h => by
 unfold rdP
 rw [if_neg (by rw [rd_end hc h]; decide), peek_end h]
 exact hz ts n σ h
theorem GE.rd {α : Type} {c : Int → List UInt8 → Bool} {y z : Int → List UInt8 → Pr α} (hc : c 0 [] = false) (hy : ∀ k t, Good (y k t)) (hz : ∀ k t, Good (z k t)) (ly : ∀ k t, GE (y k t)) (lz : ∀ k t, GE (z k t)) (fz : FE (z 0 [])) : GE (rdP c y z) := fun ts us n m c' Q S σ τ q => by
 rcases S.syn σ τ q with d | s
 · exact Or.inr (d.stepE (Good.rd hc hy hz) (Good.rd hc hy hz) (FE.rd hc fz))
 · unfold rdP
   obtain ⟨w1, w2⟩ := S.wf σ τ q; rw [← s.kind, ← s.text]
   split
   · rename_i hh
     have i1 := rd_in hc w1 hh; have i2 := rd_in hc w2 (by rw [← s.kind, ← s.text]; exact hh)
     exact ly _ _ ts us n m c' Q S _ _ (s.next i1 i2)
   · exact lz _ _ ts us n m c' Q S _ _ q
theorem FE.un {α : Type} (x : α) : FE (unP x) := fun ts n σ h => rfl
theorem Good.un {α : Type} (x : α) : Good (unP x) where
 le := fun ts n σ h => unexp_le h
 fin := fun ts n σ h => Or.inr rfl
 sim := fun ts us n m c Q S σ τ q => by
  rcases S.syn σ τ q with d | s
  · right
    refine ⟨by unfold unP; rw [unexp_at]; exact d.a, by unfold unP; rw [unexp_at]; exact d.b, by unfold unP; rw [unexp_at]; exact d.w, by unfold unP; rw [unexp_at]; exact d.v, fun h => Or.inr (d.un h)⟩
  · exact Or.inl ⟨rfl, s.unexp⟩
theorem GE.un {α : Type} (x : α) : GE (unP x) := fun ts us n m c Q S σ τ q => by
 rcases S.syn σ τ q with d | s
 · exact Or.inr (d.stepE (Good.un x) (Good.un x) (FE.un x))
 · exact Or.inl ⟨rfl, s.unexp⟩
theorem Good.map {α β : Type} {p : Pr α} (f : α → β) (g : Good p) : Good (fun ts n σ => (f (p ts n σ).1, (p ts n σ).2)) := Good.bind g (fun x => Good.ret (f x))
def fullP {α : Type} (b : Bool) (g : Int → List UInt8 → Bool) (r : Pr α) : Pr α := fun ts n σ => if b && g (peekP ts σ).kind (peekP ts σ).text then r ts n (failP σ (peekP ts σ).pos 5) else r ts n σ
theorem Good.full {α : Type} {b : Bool} {g : Int → List UInt8 → Bool} {r : Pr α} (hc : g 0 [] = false) (hr : Good r) : Good (fullP b g r) := by
 have gl : ∀ (ts : List Tok) (n : Int) (σ : PS), σ.at_ ≤ ts.length → Le ts σ (fullP b g r ts n σ).2 := fun ts n σ h => by
  unfold fullP
  split
  · have l := fail_le (ts := ts) h (peekP ts σ).pos 5
    exact l.trans (hr.le ts n _ l.wf)
  · exact hr.le ts n σ h
 have gf : ∀ (ts : List Tok) (n : Int) (σ : PS), σ.at_ = ts.length → fullP b g r ts n σ = r ts n σ := fun ts n σ h => by
  unfold fullP
  rw [rd_end hc h]; simp
 refine ⟨gl, fun ts n σ h => by rw [gf ts n σ h]; exact hr.fin ts n σ h, fun ts us n m c' Q S σ τ q => ?_⟩
 rcases S.syn σ τ q with d | s
 · right
   have l1 := gl ts n σ d.w; have l2 := gl us m τ d.v; refine ⟨Nat.le_trans d.a l1.le, Nat.le_trans d.b l2.le, l1.wf, l2.wf, fun h => ?_⟩; have hv := d.v; have hb := d.b
   have hend : τ.at_ = us.length := by omega
   rw [gf us m τ hend]
   rcases hr.fin us m τ hend with e | e
   · rw [e]; exact d.e h
   · rw [e]; exact Or.inr (d.un h)
 · unfold fullP
   obtain ⟨w1, w2⟩ := S.wf σ τ q; rw [s.kind, s.text]
   split
   · rename_i hh
     have h2 := (Bool.and_eq_true_iff.1 hh).2; have i2 := rd_in hc w2 h2; have i1 := rd_in hc w1 (by rw [s.kind, s.text]; exact h2)
     exact hr.sim ts us n m c' Q S _ _ (s.full 5 i1 i2)
   · exact hr.sim ts us n m c' Q S _ _ q
def teP {α : Type} (g : Int → List UInt8 → Bool) (y z : Pr α) : Pr α := fun ts n σ => if g (peekP ts σ).kind (peekP ts σ).text then y ts n σ else z ts n σ
theorem Good.te {α : Type} {g : Int → List UInt8 → Bool} {y z : Pr α} (hy : Good y) (hz : Good z) : Good (teP g y z) := by
 have gl : ∀ (ts : List Tok) (n : Int) (σ : PS), σ.at_ ≤ ts.length → Le ts σ (teP g y z ts n σ).2 := fun ts n σ h => by
  unfold teP
  split
  · exact hy.le ts n σ h
  · exact hz.le ts n σ h
 have gf : ∀ (ts : List Tok) (n : Int) (σ : PS), σ.at_ = ts.length → (teP g y z ts n σ).2 = σ ∨ (teP g y z ts n σ).2 = unexpP ts n σ := fun ts n σ h => by
  unfold teP
  split
  · exact hy.fin ts n σ h
  · exact hz.fin ts n σ h
 refine ⟨gl, gf, fun ts us n m c Q S σ τ q => ?_⟩
 rcases S.syn σ τ q with d | s
 · exact Or.inr (d.of (gl _ _ _ d.w) (gl _ _ _ d.v) (gf us m τ))
 · unfold teP
   rw [s.kind, s.text]
   split
   · exact hy.sim ts us n m c Q S _ _ q
   · exact hz.sim ts us n m c Q S _ _ q
def erP {α : Type} (y z : Pr α) : Pr α := fun ts n σ => if σ.err ≠ 0 then y ts n σ else z ts n σ
theorem Good.er {α : Type} {y z : Pr α} (hy : Good y) (hz : Good z) : Good (erP y z) := by
 have gl : ∀ (ts : List Tok) (n : Int) (σ : PS), σ.at_ ≤ ts.length → Le ts σ (erP y z ts n σ).2 := fun ts n σ h => by
  unfold erP
  split
  · exact hy.le ts n σ h
  · exact hz.le ts n σ h
 have gf : ∀ (ts : List Tok) (n : Int) (σ : PS), σ.at_ = ts.length → (erP y z ts n σ).2 = σ ∨ (erP y z ts n σ).2 = unexpP ts n σ := fun ts n σ h => by
  unfold erP
  split
  · exact hy.fin ts n σ h
  · exact hz.fin ts n σ h
 refine ⟨gl, gf, fun ts us n m c Q S σ τ q => ?_⟩
 rcases S.syn σ τ q with d | s
 · exact Or.inr (d.of (gl _ _ _ d.w) (gl _ _ _ d.v) (gf us m τ))
 · unfold erP
   by_cases h : σ.err = 0
   · rw [if_neg (by simpa using h), if_neg (by simpa using s.err.1 h)]
     exact hz.sim ts us n m c Q S _ _ q
   · rw [if_pos h, if_pos (fun e => h (s.err.2 e))]
     exact hy.sim ts us n m c Q S _ _ q
theorem FE.er {α : Type} {y z : Pr α} (hy : Good y) (hz : FE z) : FE (erP y z) := fun ts n σ h => by
 unfold erP
 split
 · rename_i he
   rw [(hy.le ts n σ (by omega)).err he, (unexp_le (n := n) (by omega : σ.at_ ≤ ts.length)).err he]
 · exact hz ts n σ h
theorem GE.er {α : Type} {y z : Pr α} (hy : Good y) (hz : Good z) (ly : GE y) (lz : GE z) (fz : FE z) : GE (erP y z) := fun ts us n m c Q S σ τ q => by
 rcases S.syn σ τ q with d | s
 · exact Or.inr (d.stepE (Good.er hy hz) (Good.er hy hz) (FE.er hy fz))
 · unfold erP
   by_cases h : σ.err = 0
   · rw [if_neg (by simpa using h), if_neg (by simpa using s.err.1 h)]
     exact lz ts us n m c Q S _ _ q
   · rw [if_pos h, if_pos (fun e => h (s.err.2 e))]
     exact ly ts us n m c Q S _ _ q
end Bk
namespace Bk
open Go
def expP (t : List UInt8) : Pr Unit := rdP (fun _ u => decide (u = t)) (fun _ _ => retP ()) (fun _ _ => unP ())
theorem exp_at (t : List UInt8) (ts : List Tok) (n : Int) (σ : PS) : expectP ts n σ t = (expP t ts n σ).2 := by
 unfold expectP expP rdP hasP retP unP
 split <;> rfl
theorem ne_dec {t : List UInt8} (h : t ≠ []) : decide (([] : List UInt8) = t) = false := by simpa using fun e : [] = t => h e.symm
theorem good_exp {t : List UInt8} (h : t ≠ []) : Good (expP t) := Good.rd (ne_dec h) (fun _ _ => Good.ret _) (fun _ _ => Good.un _)
theorem good_name : Good (fun ts n σ => nameP ts n σ) :=
 Good.congr (q := rdP (fun _ t => isName t) (fun _ t => retP t) (fun _ _ => unP [])) (fun ts n σ => by unfold nameP rdP retP unP; split <;> rfl) (Good.rd (by decide) (fun _ _ => Good.ret _) (fun _ _ => Good.un _))
theorem bin_nil0 : binOf [] = none := by decide
end Bk
namespace Bk
open Go
def TokEq (ts us : List Tok) : Prop := ts.map (fun t => (t.kind, t.text)) = us.map (fun t => (t.kind, t.text))
theorem TokEq.len {ts us : List Tok} (h : TokEq ts us) : ts.length = us.length := by simpa using congrArg List.length h
theorem TokEq.get {ts us : List Tok} (h : TokEq ts us) (i : Nat) : (ts.getD i Tok.zero).kind = (us.getD i Tok.zero).kind ∧ (ts.getD i Tok.zero).text = (us.getD i Tok.zero).text := by
 have hl := h.len
 by_cases hi : i < ts.length
 · have := congrArg (fun l => l[i]?) h
   simp only [List.getElem?_map] at this; rw [List.getElem?_eq_getElem hi, List.getElem?_eq_getElem (by omega)] at this; rw [List.getD_eq_getElem?_getD, List.getD_eq_getElem?_getD, List.getElem?_eq_getElem hi, List.getElem?_eq_getElem (by omega)]
   simpa using this
 · rw [List.getD_eq_getElem?_getD, List.getD_eq_getElem?_getD, List.getElem?_eq_none (by omega), List.getElem?_eq_none (by omega)]
   exact ⟨rfl, rfl⟩
theorem REq.symm {α : Type} {a b : α × PS} (h : REq a b) : REq b a := ⟨h.err.symm, h.off.symm, fun e => ⟨(h.ok (by rw [h.err]; exact e)).1.symm, (h.ok (by rw [h.err]; exact e)).2.symm⟩⟩
end Bk
namespace Bk
open Go
section
variable (ts : List Tok) (n : Int)
def fnumS (σ : PS) : Nd × PS :=
 if (digitsVal (peekP ts σ).text : Int) ≤ 9223372036854775807 then (.mk 80 (digitsVal (peekP ts σ).text : Int) [] [], nextP σ)
 else (.mk 80 0 [] [], failP σ (peekP ts σ).pos 2)
mutual
def exprS : Nat → Int → PS → Nd × PS
 | 0, _, σ => (.mk 0 0 [] [], σ)
 | k + 1, lv, σ => if 8 < lv then primS k σ else loopS k lv (exprS k (lv + 1) σ).1 (exprS k (lv + 1) σ).2
def loopS : Nat → Int → Nd → PS → Nd × PS
 | 0, _, x, σ => (x, σ)
 | k + 1, lv, x, σ => if σ.err ≠ 0 then (x, σ) else match binOf (peekP ts σ).text with
  | none => (x, σ)
  | some op => if level op ≠ lv then (x, σ) else
   loopS k lv (.mk 82 op [] [x, (exprS k (lv + 1) (nextP σ)).1]) (exprS k (lv + 1) (nextP σ)).2
def primS : Nat → PS → Nd × PS
 | 0, σ => (.mk 0 0 [] [], σ)
 | k + 1, σ =>
  if startsDigit (peekP ts σ).text then fnumS ts σ
  else if hasP ts σ [91] then (.mk 86 0 [] [], expectP ts n (nextP σ) [93])
  else if hasP ts σ [112, 117, 115, 104] then (.mk 87 0 [] (argsS k 2 (nextP σ)).1, (argsS k 2 (nextP σ)).2)
  else if hasP ts σ [112, 111, 112] then (.mk 89 0 [] (argsS k 1 (nextP σ)).1, (argsS k 1 (nextP σ)).2)
  else if hasP ts σ [116, 111, 112] then (.mk 88 0 [] (argsS k 1 (nextP σ)).1, (argsS k 1 (nextP σ)).2)
  else if hasP ts σ [33] then (.mk 90 0 [] [(primS k (nextP σ)).1], (primS k (nextP σ)).2)
  else if hasP ts σ [105, 102] then
   let c := exprS k 1 (nextP σ)
   let a := braceS k c.2
   let b := braceS k (expectP ts n a.2 [101, 108, 115, 101])
   (.mk 83 0 [] [c.1, a.1, b.1], b.2)
  else if hasP ts σ [108, 111, 99, 97, 108] then
   let m := nameP ts n (nextP σ)
   let v := exprS k 1 (expectP ts n m.2 [61])
   let b := braceS k v.2
   (.mk 84 0 m.1 [v.1, b.1], b.2)
  else if hasP ts σ [40] then ((exprS k 1 (nextP σ)).1, expectP ts n (exprS k 1 (nextP σ)).2 [41])
  else
   let m := nameP ts n σ
   if (peekP ts m.2).text = [40] then (.mk 85 0 m.1 (argsS k 0 m.2).1, (argsS k 0 m.2).2) else (.mk 81 0 m.1 [], m.2)
def argsS : Nat → Nat → PS → List Nd × PS
 | 0, _, σ => ([], σ)
 | k + 1, least, σ =>
  let σ1 := expectP ts n σ [40]
  if least = 0 ∧ hasP ts σ1 [41] = true then ([], nextP σ1)
  else
   let r := listS k least [] σ1
   (r.1, expectP ts n (if r.1.length < least then unexpP ts n r.2 else r.2) [41])
def listS : Nat → Nat → List Nd → PS → List Nd × PS
 | 0, _, acc, σ => (acc, σ)
 | k + 1, least, acc, σ =>
  if σ.err ≠ 0 then (acc, σ) else
  let a := exprS k 1 σ
  if 0 < least ∧ acc.length + 1 = least then (acc ++ [a.1], a.2)
  else if hasP ts a.2 [44] then listS k least (acc ++ [a.1]) (nextP a.2) else (acc ++ [a.1], a.2)
def braceS : Nat → PS → Nd × PS
 | 0, σ => (.mk 0 0 [] [], σ)
 | k + 1, σ =>
  let a := exprS k 1 (expectP ts n σ [123])
  (a.1, expectP ts n a.2 [125])
end
def functionS (k : Nat) (σ : PS) : FD × PS :=
 let m := nameP ts n (expectP ts n σ [112, 114, 111, 99])
 let σ1 := expectP ts n m.2 [40]
 let r := if σ1.err = 0 ∧ (peekP ts σ1).text ≠ [41] then fparamsP ts n k [] σ1 else ([], σ1)
 let l := listP ts n (expectP ts n r.2 [41])
 let b := braceS ts n k l.2
 (⟨m.1, r.1, l.1, b.1⟩, b.2)
def libS : Nat → List FD → List Int → PS → (List FD × List Int) × PS
 | 0, acc, at_, σ => ((acc, at_), σ)
 | k + 1, acc, at_, σ =>
  if σ.err = 0 ∧ σ.at_ < ts.length then
   libS k (acc ++ [(functionS ts n k σ).1]) (at_ ++ [(ts.getD σ.at_ Tok.zero).pos]) (functionS ts n k σ).2
  else ((acc, at_), σ)
end
end Bk
namespace Bk
open Go
def fnumZ (z : Pr Nd) : Pr Nd := fun ts n σ => if (peekP ts σ).kind = 2 then fnumP ts σ else z ts n σ
theorem good_fnumZ {z : Pr Nd} (hz : Good z) : Good (fnumZ z) := by
 have gl : ∀ (ts : List Tok) (n : Int) (σ : PS), σ.at_ ≤ ts.length → Le ts σ (fnumZ z ts n σ).2 := fun ts n σ h => by
  unfold fnumZ
  split
  · rename_i hh
    have hn := peek_in h (Or.inr (by rw [hh]; decide))
    unfold fnumP
    split
    · exact next_le hn
    · exact fail_le h _ _
  · exact hz.le ts n σ h
 have gf : ∀ (ts : List Tok) (n : Int) (σ : PS), σ.at_ = ts.length → (fnumZ z ts n σ).2 = σ ∨ (fnumZ z ts n σ).2 = unexpP ts n σ := fun ts n σ h => by
  unfold fnumZ
  rw [peek_end h, if_neg (by decide)]
  exact hz.fin ts n σ h
 refine ⟨gl, gf, fun ts us n m c Q S σ τ q => ?_⟩
 rcases S.syn σ τ q with d | s
 · exact Or.inr (d.of (gl _ _ _ d.w) (gl _ _ _ d.v) (gf us m τ))
 · obtain ⟨w1, w2⟩ := S.wf σ τ q
   unfold fnumZ
   rw [← s.kind]
   by_cases hk : (peekP ts σ).kind = 2
   · have i1 := peek_in w1 (Or.inr (by rw [hk]; decide))
     have i2 := peek_in w2 (Or.inr (by rw [← s.kind, hk]; decide)); rw [if_pos hk, if_pos hk]
     unfold fnumP
     rw [← s.text]
     split
     · exact Or.inl ⟨rfl, s.next i1 i2⟩
     · exact Or.inl ⟨rfl, s.full 2 i1 i2⟩
   · rw [if_neg hk, if_neg hk]
     exact hz.sim ts us n m c Q S _ _ q
abbrev eqF (t : List UInt8) : Int → List UInt8 → Bool := fun _ u => decide (u = t)
theorem eqF_nil {t : List UInt8} (h : t ≠ []) : eqF t 0 [] = false := ne_dec h
def args1C (e : Pr Nd) : Pr (List Nd) := bindP (expP [40]) (fun _ => bindP e (fun a => bindP (expP [41]) (fun _ => retP [a])))
def args2C (e : Pr Nd) : Pr (List Nd) := bindP (expP [40]) (fun _ => bindP e (fun a => bindP (expP [44]) (fun _ => bindP e (fun b => bindP (expP [41]) (fun _ => retP [a, b])))))
def braceC (e : Pr Nd) : Pr Nd := bindP (expP [123]) (fun _ => bindP e (fun a => bindP (expP [125]) (fun _ => retP a)))
def ifC (e b : Pr Nd) : Pr Nd := bindP (expP [105, 102]) (fun _ => bindP e (fun c => bindP b (fun x => bindP (expP [101, 108, 115, 101]) (fun _ => bindP b (fun y => retP (Nd.mk 83 0 [] [c, x, y]))))))
def letC (e b : Pr Nd) : Pr Nd := bindP (expP [108, 111, 99, 97, 108]) (fun _ => bindP (fun ts n σ => nameP ts n σ) (fun m => bindP (expP [61]) (fun _ => bindP e (fun v => bindP b (fun y => retP (Nd.mk 84 0 m [v, y]))))))
def namedC (e : Pr Nd) (r : List Nd → Pr (List Nd)) : Pr Nd := bindP (fun ts n σ => nameP ts n σ) (fun m => rdP (eqF [40]) (fun _ _ => rdP (eqF [41]) (fun _ _ => retP (Nd.mk 85 0 m [])) (fun _ _ => bindP e (fun a => bindP (r [a]) (fun l => bindP (expP [41]) (fun _ => retP (Nd.mk 85 0 m l)))))) (fun _ _ => retP (Nd.mk 81 0 m [])))
def moreC (e : Pr Nd) (r : List Nd → Pr (List Nd)) (acc : List Nd) : Pr (List Nd) := rdP (eqF [44]) (fun _ _ => bindP e (fun a => r (acc ++ [a]))) (fun _ _ => retP acc)
def climbC (lv : Int) (x : Nd) (e : Int → Pr Nd) (r : Nd → Pr Nd) : Pr Nd := rdP (fun _ t => match binOf t with | none => false | some op => !decide (level op < lv)) (fun _ t => match binOf t with | none => retP x | some op => bindP (e (level op + 1)) (fun y => r (.mk 82 op [] [x, y]))) (fun _ _ => retP x)
def primC (e p i l d : Pr Nd) (a1 a2 : Pr (List Nd)) : Pr Nd :=
 rdP (eqF [91]) (fun _ _ => bindP (expP [93]) (fun _ => retP (Nd.mk 86 0 [] []))) (fun _ _ =>
 rdP (eqF [112, 117, 115, 104]) (fun _ _ => bindP a2 (fun x => retP (Nd.mk 87 0 [] x))) (fun _ _ =>
 rdP (eqF [112, 111, 112]) (fun _ _ => bindP a1 (fun x => retP (Nd.mk 89 0 [] x))) (fun _ _ =>
 rdP (eqF [116, 111, 112]) (fun _ _ => bindP a1 (fun x => retP (Nd.mk 88 0 [] x))) (fun _ _ =>
 rdP (eqF [33]) (fun _ _ => bindP p (fun x => retP (Nd.mk 90 0 [] [x]))) (fun _ _ =>
 teP (eqF [105, 102]) i (teP (eqF [108, 111, 99, 97, 108]) l
  (rdP (eqF [40]) (fun _ _ => bindP e (fun x => bindP (expP [41]) (fun _ => retP x))) (fun _ _ => fnumZ d))))))))
theorem exprF_at (k : Nat) (lv : Int) (ts : List Tok) (n : Int) (σ : PS) : exprF ts n (k + 1) lv σ = bindP (fun ts n σ => primF ts n k σ) (fun x ts n σ => climbF ts n k lv x σ) ts n σ := by rw [exprF]; rfl
theorem climbF_at (k : Nat) (lv : Int) (x : Nd) (ts : List Tok) (n : Int) (σ : PS) : climbF ts n (k + 1) lv x σ = climbC lv x (fun l ts n σ => exprF ts n k l σ) (fun y ts n σ => climbF ts n k lv y σ) ts n σ := by
 rw [climbF]
 unfold climbC rdP
 cases ho : binOf (peekP ts σ).text with
 | none => simp only [ho]; rfl
 | some op =>
  by_cases hl : level op < lv
  · simp only [ho, hl, decide_true, Bool.not_true, if_true, Bool.false_eq_true, if_false]; rfl
  · simp only [ho, hl, decide_false, Bool.not_false, if_true, if_false]; rfl
theorem args1F_at (k : Nat) (ts : List Tok) (n : Int) (σ : PS) : args1F ts n (k + 1) σ = args1C (fun ts n σ => exprF ts n k 1 σ) ts n σ := by rw [args1F]; simp only [exp_at]; rfl
theorem args2F_at (k : Nat) (ts : List Tok) (n : Int) (σ : PS) : args2F ts n (k + 1) σ = args2C (fun ts n σ => exprF ts n k 1 σ) ts n σ := by rw [args2F]; simp only [exp_at]; rfl
theorem braceF_at (k : Nat) (ts : List Tok) (n : Int) (σ : PS) : braceF ts n (k + 1) σ = braceC (fun ts n σ => exprF ts n k 1 σ) ts n σ := by rw [braceF]; simp only [exp_at]; rfl
theorem ifF_at (k : Nat) (ts : List Tok) (n : Int) (σ : PS) : ifF ts n (k + 1) σ = ifC (fun ts n σ => exprF ts n k 1 σ) (fun ts n σ => braceF ts n k σ) ts n σ := by rw [ifF]; simp only [exp_at]; rfl
theorem letF_at (k : Nat) (ts : List Tok) (n : Int) (σ : PS) : letF ts n (k + 1) σ = letC (fun ts n σ => exprF ts n k 1 σ) (fun ts n σ => braceF ts n k σ) ts n σ := by rw [letF]; simp only [exp_at]; rfl
theorem namedF_at (k : Nat) (ts : List Tok) (n : Int) (σ : PS) : namedF ts n (k + 1) σ = namedC (fun ts n σ => exprF ts n k 1 σ) (fun a ts n σ => moreF ts n k a σ) ts n σ := by rw [namedF]; simp only [exp_at]; rfl
theorem moreF_at (k : Nat) (acc : List Nd) (ts : List Tok) (n : Int) (σ : PS) : moreF ts n (k + 1) acc σ = moreC (fun ts n σ => exprF ts n k 1 σ) (fun a ts n σ => moreF ts n k a σ) acc ts n σ := by rw [moreF]; rfl
theorem primF_at (k : Nat) (ts : List Tok) (n : Int) (σ : PS) : primF ts n (k + 1) σ = primC (fun ts n σ => exprF ts n k 1 σ) (fun ts n σ => primF ts n k σ) (fun ts n σ => ifF ts n k σ) (fun ts n σ => letF ts n k σ) (fun ts n σ => namedF ts n k σ) (fun ts n σ => args1F ts n k σ) (fun ts n σ => args2F ts n k σ) ts n σ := by rw [primF]; simp only [exp_at]; rfl
section
variable {e p i l d b : Pr Nd} {a1 a2 : Pr (List Nd)} {r : List Nd → Pr (List Nd)}
theorem good_args1C (he : Good e) : Good (args1C e) := Good.bind (good_exp (by decide)) (fun _ => Good.bind he (fun _ => Good.bind (good_exp (by decide)) (fun _ => Good.ret _)))
theorem good_args2C (he : Good e) : Good (args2C e) := Good.bind (good_exp (by decide)) (fun _ => Good.bind he (fun _ => Good.bind (good_exp (by decide)) (fun _ => Good.bind he (fun _ => Good.bind (good_exp (by decide)) (fun _ => Good.ret _)))))
theorem good_braceC (he : Good e) : Good (braceC e) := Good.bind (good_exp (by decide)) (fun _ => Good.bind he (fun _ => Good.bind (good_exp (by decide)) (fun _ => Good.ret _)))
theorem good_ifC (he : Good e) (hb : Good b) : Good (ifC e b) := Good.bind (good_exp (by decide)) (fun _ => Good.bind he (fun _ => Good.bind hb (fun _ => Good.bind (good_exp (by decide)) (fun _ => Good.bind hb (fun _ => Good.ret _)))))
theorem good_letC (he : Good e) (hb : Good b) : Good (letC e b) := Good.bind (good_exp (by decide)) (fun _ => Good.bind good_name (fun _ => Good.bind (good_exp (by decide)) (fun _ => Good.bind he (fun _ => Good.bind hb (fun _ => Good.ret _)))))
theorem good_namedC (he : Good e) (hr : ∀ a, Good (r a)) : Good (namedC e r) := Good.bind good_name (fun _ => Good.rd (eqF_nil (by decide)) (fun _ _ => Good.rd (eqF_nil (by decide)) (fun _ _ => Good.ret _) (fun _ _ => Good.bind he (fun _ => Good.bind (hr _) (fun _ => Good.bind (good_exp (by decide)) (fun _ => Good.ret _))))) (fun _ _ => Good.ret _))
theorem good_moreC (he : Good e) (hr : ∀ a, Good (r a)) (acc : List Nd) : Good (moreC e r acc) := Good.rd (eqF_nil (by decide)) (fun _ _ => Good.bind he (fun _ => hr _)) (fun _ _ => Good.ret _)
theorem good_climbC (lv : Int) (x : Nd) {e : Int → Pr Nd} {r : Nd → Pr Nd} (he : ∀ l, Good (e l)) (hr : ∀ y, Good (r y)) : Good (climbC lv x e r) := by
 refine Good.rd (by rw [bin_nil0]) (fun _ t => ?_) (fun _ _ => Good.ret _)
 cases binOf t with
 | none => exact Good.ret _
 | some op => exact Good.bind (he _) (fun y => hr _)
theorem good_primC (he : Good e) (hp : Good p) (hi : Good i) (hl : Good l) (hd : Good d) (h1 : Good a1) (h2 : Good a2) : Good (primC e p i l d a1 a2) :=
 Good.rd (eqF_nil (by decide)) (fun _ _ => Good.bind (good_exp (by decide)) (fun _ => Good.ret _)) (fun _ _ =>
 Good.rd (eqF_nil (by decide)) (fun _ _ => Good.bind h2 (fun _ => Good.ret _)) (fun _ _ =>
 Good.rd (eqF_nil (by decide)) (fun _ _ => Good.bind h1 (fun _ => Good.ret _)) (fun _ _ =>
 Good.rd (eqF_nil (by decide)) (fun _ _ => Good.bind h1 (fun _ => Good.ret _)) (fun _ _ =>
 Good.rd (eqF_nil (by decide)) (fun _ _ => Good.bind hp (fun _ => Good.ret _)) (fun _ _ =>
 Good.te hi (Good.te hl (Good.rd (eqF_nil (by decide)) (fun _ _ => Good.bind he (fun _ => Good.bind (good_exp (by decide)) (fun _ => Good.ret _))) (fun _ _ => good_fnumZ hd))))))))
end
structure GoodF (k : Nat) : Prop where
 e : ∀ lv, Good (fun ts n σ => exprF ts n k lv σ)
 c : ∀ lv x, Good (fun ts n σ => climbF ts n k lv x σ)
 p : Good (fun ts n σ => primF ts n k σ)
 i : Good (fun ts n σ => ifF ts n k σ)
 l : Good (fun ts n σ => letF ts n k σ)
 d : Good (fun ts n σ => namedF ts n k σ)
 a1 : Good (fun ts n σ => args1F ts n k σ)
 a2 : Good (fun ts n σ => args2F ts n k σ)
 b : Good (fun ts n σ => braceF ts n k σ)
 m : ∀ acc, Good (fun ts n σ => moreF ts n k acc σ)
theorem good_F (k : Nat) : GoodF k := by
 induction k with
 | zero =>
  exact ⟨fun lv => Good.congr (fun ts n σ => by rw [exprF]; rfl) (Good.ret (Nd.mk 0 0 [] [])), fun lv x => Good.congr (fun ts n σ => by rw [climbF]; rfl) (Good.ret x), Good.congr (fun ts n σ => by rw [primF]; rfl) (Good.ret (Nd.mk 0 0 [] [])),
   Good.congr (fun ts n σ => by rw [ifF]; rfl) (Good.ret (Nd.mk 0 0 [] [])), Good.congr (fun ts n σ => by rw [letF]; rfl) (Good.ret (Nd.mk 0 0 [] [])), Good.congr (fun ts n σ => by rw [namedF]; rfl) (Good.ret (Nd.mk 0 0 [] [])), Good.congr (fun ts n σ => by rw [args1F]; rfl) (Good.ret []),
   Good.congr (fun ts n σ => by rw [args2F]; rfl) (Good.ret []), Good.congr (fun ts n σ => by rw [braceF]; rfl) (Good.ret (Nd.mk 0 0 [] [])), fun acc => Good.congr (fun ts n σ => by rw [moreF]; rfl) (Good.ret acc)⟩
 | succ k ih =>
  exact ⟨fun lv => Good.congr (exprF_at k lv) (Good.bind ih.p (fun x => ih.c lv x)), fun lv x => Good.congr (climbF_at k lv x) (good_climbC lv x ih.e (fun y => ih.c lv y)), Good.congr (primF_at k) (good_primC (ih.e 1) ih.p ih.i ih.l ih.d ih.a1 ih.a2),
   Good.congr (ifF_at k) (good_ifC (ih.e 1) ih.b), Good.congr (letF_at k) (good_letC (ih.e 1) ih.b), Good.congr (namedF_at k) (good_namedC (ih.e 1) ih.m), Good.congr (args1F_at k) (good_args1C (ih.e 1)), Good.congr (args2F_at k) (good_args2C (ih.e 1)),
   Good.congr (braceF_at k) (good_braceC (ih.e 1)), fun acc => Good.congr (moreF_at k acc) (good_moreC (ih.e 1) ih.m acc)⟩
end Bk
namespace Bk
open Go
def LtP {α : Type} (p : Pr α) : Prop := ∀ ts n σ, σ.at_ ≤ ts.length → Lt σ (p ts n σ).2
theorem LtP.congr {α : Type} {p q : Pr α} (h : ∀ ts n σ, p ts n σ = q ts n σ) (g : LtP q) : LtP p := fun ts n σ hw => by rw [h]; exact g ts n σ hw
theorem LtP.bind {α β : Type} {p : Pr α} {f : α → Pr β} (h : LtP p) (gp : Good p) (gf : ∀ x, Good (f x)) : LtP (bindP p f) := fun ts n σ hw => Lt.of_lt (h ts n σ hw) ((gf _).le ts n _ (gp.le ts n σ hw).wf)
theorem LtP.rd {α : Type} {c : Int → List UInt8 → Bool} {y z : Int → List UInt8 → Pr α} (hc : c 0 [] = false) (hy : ∀ k t, Good (y k t)) (hz : ∀ k t, LtP (z k t)) : LtP (rdP c y z) := fun ts n σ hw => by
 unfold rdP
 split
 · rename_i hh
   exact Lt.of_lt next_lt ((hy _ _).le ts n _ (next_le (rd_in hc hw hh)).wf)
 · exact hz _ _ ts n σ hw
theorem LtP.te {α : Type} {g : Int → List UInt8 → Bool} {y z : Pr α} (hy : LtP y) (hz : LtP z) : LtP (teP g y z) := fun ts n σ hw => by
 unfold teP
 split
 · exact hy ts n σ hw
 · exact hz ts n σ hw
theorem LtP.un {α : Type} (x : α) : LtP (unP x) := fun ts n σ hw => unexp_lt
theorem lt_exp {t : List UInt8} : LtP (expP t) := fun ts n σ hw => by rw [← exp_at]; exact expect_lt
theorem lt_name : LtP (fun ts n σ => nameP ts n σ) := fun ts n σ hw => name_lt
theorem lt_fnumZ {z : Pr Nd} (hz : LtP z) : LtP (fnumZ z) := fun ts n σ hw => by
 unfold fnumZ fnumP
 split
 · split
   · exact next_lt
   · exact fun e => absurd e (fail_err (by decide))
 · exact hz ts n σ hw
theorem lt_prim (k : Nat) : LtP (fun ts n σ => primF ts n (k + 2) σ) := by
 have g := good_F (k + 1); have g0 := good_F k; refine LtP.congr (primF_at (k + 1)) ?_
 refine LtP.rd (eqF_nil (by decide)) (fun _ _ => Good.bind (good_exp (by decide)) (fun _ => Good.ret _)) (fun _ _ => LtP.rd (eqF_nil (by decide)) (fun _ _ => Good.bind g.a2 (fun _ => Good.ret _)) (fun _ _ => LtP.rd (eqF_nil (by decide)) (fun _ _ => Good.bind g.a1 (fun _ => Good.ret _)) (fun _ _ =>
  LtP.rd (eqF_nil (by decide)) (fun _ _ => Good.bind g.a1 (fun _ => Good.ret _)) (fun _ _ => LtP.rd (eqF_nil (by decide)) (fun _ _ => Good.bind g.p (fun _ => Good.ret _)) (fun _ _ => LtP.te ?_ (LtP.te ?_ (LtP.rd (eqF_nil (by decide)) (fun _ _ => Good.bind (g.e 1) (fun _ => Good.bind (good_exp (by decide)) (fun _ => Good.ret _))) (fun _ _ => lt_fnumZ ?_))))))))
 · exact LtP.congr (ifF_at k) (LtP.bind lt_exp (good_exp (by decide)) (fun _ => Good.bind (g0.e 1) (fun _ => Good.bind g0.b (fun _ => Good.bind (good_exp (by decide)) (fun _ => Good.bind g0.b (fun _ => Good.ret _))))))
 · exact LtP.congr (letF_at k) (LtP.bind lt_exp (good_exp (by decide)) (fun _ => Good.bind good_name (fun _ => Good.bind (good_exp (by decide)) (fun _ => Good.bind (g0.e 1) (fun _ => Good.bind g0.b (fun _ => Good.ret _))))))
 · exact LtP.congr (namedF_at k) (LtP.bind lt_name good_name (fun _ => Good.rd (eqF_nil (by decide)) (fun _ _ => Good.rd (eqF_nil (by decide)) (fun _ _ => Good.ret _) (fun _ _ => Good.bind (g0.e 1) (fun _ => Good.bind (g0.m _) (fun _ => Good.bind (good_exp (by decide)) (fun _ => Good.ret _))))) (fun _ _ => Good.ret _)))
section
variable (ts : List Tok) (n : Int)
def EqB {α : Type} (m : Nat) (p q : Pr α) : Prop := ∀ σ, σ.at_ ≤ ts.length → mS ts σ ≤ m → p ts n σ = q ts n σ
def RQ {α : Type} (m : Nat) (p q : Pr α) : Prop := ∀ σ, σ.at_ ≤ ts.length → mS ts σ ≤ m → REq (p ts n σ) (q ts n σ)
end
section
variable {ts : List Tok} {n : Int} {m : Nat}
theorem EqB.refl {α : Type} (p : Pr α) : EqB ts n m p p := fun _ _ _ => rfl
theorem EqB.mono {α : Type} {p q : Pr α} {m' : Nat} (h : EqB ts n m p q) (hm : m' ≤ m) : EqB ts n m' p q := fun σ hw h' => h σ hw (Nat.le_trans h' hm)
theorem EqB.congr {α : Type} {p p' q q' : Pr α} (hp : ∀ ts n σ, p ts n σ = p' ts n σ) (hq : ∀ ts n σ, q ts n σ = q' ts n σ) (h : EqB ts n m p' q') : EqB ts n m p q := fun σ hw hm => by rw [hp, hq]; exact h σ hw hm
theorem EqB.bind {α β : Type} {p q : Pr α} {f g : α → Pr β} (hp : EqB ts n m p q) (gp : Good p) (hf : ∀ x, EqB ts n m (f x) (g x)) : EqB ts n m (bindP p f) (bindP q g) := fun σ hw hm => by
 unfold bindP
 rw [← hp σ hw hm]; have l := gp.le ts n σ hw
 exact hf _ _ l.wf (Nat.le_trans (mS_le l) hm)
theorem EqB.bindL {α β : Type} {p q : Pr α} {f g : α → Pr β} (hp : EqB ts n m p q) (gp : Good p) (lp : LtP p) (hf : ∀ x, EqB ts n (m - 1) (f x) (g x)) : EqB ts n m (bindP p f) (bindP q g) := fun σ hw hm => by
 unfold bindP
 rw [← hp σ hw hm]; have l := gp.le ts n σ hw; have := mS_lt l (lp ts n σ hw)
 exact hf _ _ l.wf (by omega)
theorem EqB.rd {α : Type} {c : Int → List UInt8 → Bool} {y z y' z' : Int → List UInt8 → Pr α} (hc : c 0 [] = false) (hy : 1 ≤ m → ∀ k t, EqB ts n (m - 1) (y k t) (y' k t)) (hz : ∀ k t, EqB ts n m (z k t) (z' k t)) : EqB ts n m (rdP c y z) (rdP c y' z') := fun σ hw hm => by
 unfold rdP
 split
 · rename_i hh
   have i := rd_in hc hw hh; have := mS_next i
   exact hy (by omega) _ _ _ (next_le i).wf (by omega)
 · exact hz _ _ σ hw hm
theorem EqB.te {α : Type} {c : Int → List UInt8 → Bool} {y z y' z' : Pr α} (hc : c 0 [] = false) (hy : 1 ≤ m → EqB ts n m y y') (hz : EqB ts n m z z') : EqB ts n m (teP c y z) (teP c y' z') := fun σ hw hm => by
 unfold teP
 split
 · rename_i hh
   have := mS_pos (rd_in hc hw hh)
   exact hy (by omega) σ hw hm
 · exact hz σ hw hm
theorem EqB.fnumZ {z z' : Pr Nd} (hz : EqB ts n m z z') : EqB ts n m (fnumZ z) (Bk.fnumZ z') := fun σ hw hm => by
 unfold Bk.fnumZ
 split
 · rfl
 · exact hz σ hw hm
structure FuelF (ts : List Tok) (n : Int) (k : Nat) : Prop where
 e : ∀ m lv, 4 * m + 4 ≤ k → EqB ts n m (fun ts n σ => exprF ts n (k + 1) lv σ) (fun ts n σ => exprF ts n k lv σ)
 c : ∀ m lv x, 4 * m + 1 ≤ k → EqB ts n m (fun ts n σ => climbF ts n (k + 1) lv x σ) (fun ts n σ => climbF ts n k lv x σ)
 p : ∀ m, 4 * m + 3 ≤ k → EqB ts n m (fun ts n σ => primF ts n (k + 1) σ) (fun ts n σ => primF ts n k σ)
 i : ∀ m, 1 ≤ m → 4 * m + 2 ≤ k → EqB ts n m (fun ts n σ => ifF ts n (k + 1) σ) (fun ts n σ => ifF ts n k σ)
 l : ∀ m, 1 ≤ m → 4 * m + 2 ≤ k → EqB ts n m (fun ts n σ => letF ts n (k + 1) σ) (fun ts n σ => letF ts n k σ)
 d : ∀ m, 4 * m + 2 ≤ k → EqB ts n m (fun ts n σ => namedF ts n (k + 1) σ) (fun ts n σ => namedF ts n k σ)
 a1 : ∀ m, 4 * m + 5 ≤ k → EqB ts n m (fun ts n σ => args1F ts n (k + 1) σ) (fun ts n σ => args1F ts n k σ)
 a2 : ∀ m, 4 * m + 5 ≤ k → EqB ts n m (fun ts n σ => args2F ts n (k + 1) σ) (fun ts n σ => args2F ts n k σ)
 b : ∀ m, 4 * m + 5 ≤ k → EqB ts n m (fun ts n σ => braceF ts n (k + 1) σ) (fun ts n σ => braceF ts n k σ)
 m : ∀ m acc, 4 * m + 1 ≤ k → EqB ts n m (fun ts n σ => moreF ts n (k + 1) acc σ) (fun ts n σ => moreF ts n k acc σ)
theorem fuel_F (k : Nat) : FuelF ts n k := by
 induction k with
 | zero => refine ⟨?_, ?_, ?_, ?_, ?_, ?_, ?_, ?_, ?_, ?_⟩ <;> intros <;> omega
 | succ k ih =>
  have g1 := good_F (k + 1)
  have hE : ∀ m, EqB ts n m (expP [40]) (expP [40]) := fun m => EqB.refl _
  refine ⟨fun m lv h => ?_, fun m lv x h => ?_, fun m h => ?_, fun m h1 h => ?_, fun m h1 h => ?_, fun m h => ?_, fun m h => ?_, fun m h => ?_, fun m h => ?_, fun m acc h => ?_⟩
  · refine EqB.congr (exprF_at (k + 1) lv) (exprF_at k lv) ?_
    obtain ⟨k, rfl⟩ : ∃ j, k = j + 1 := ⟨k - 1, by omega⟩
    exact EqB.bindL (ih.p m (by omega)) g1.p (lt_prim k) (fun x => ih.c (m - 1) lv x (by omega))
  · refine EqB.congr (climbF_at (k + 1) lv x) (climbF_at k lv x) ?_
    refine EqB.rd (by rw [bin_nil0]) (fun h1 _ t => ?_) (fun _ _ => EqB.refl _)
    cases binOf t with
    | none => exact EqB.refl _
    | some op => exact EqB.bind (ih.e (m - 1) _ (by omega)) (g1.e _) (fun y => ih.c (m - 1) lv _ (by omega))
  · refine EqB.congr (primF_at (k + 1)) (primF_at k) ?_
    exact EqB.rd (eqF_nil (by decide)) (fun _ _ _ => EqB.refl _) (fun _ _ =>
     EqB.rd (eqF_nil (by decide)) (fun h1 _ _ => EqB.bind (ih.a2 (m - 1) (by omega)) g1.a2 (fun _ => EqB.refl _)) (fun _ _ =>
     EqB.rd (eqF_nil (by decide)) (fun h1 _ _ => EqB.bind (ih.a1 (m - 1) (by omega)) g1.a1 (fun _ => EqB.refl _)) (fun _ _ =>
     EqB.rd (eqF_nil (by decide)) (fun h1 _ _ => EqB.bind (ih.a1 (m - 1) (by omega)) g1.a1 (fun _ => EqB.refl _)) (fun _ _ =>
     EqB.rd (eqF_nil (by decide)) (fun h1 _ _ => EqB.bind (ih.p (m - 1) (by omega)) g1.p (fun _ => EqB.refl _)) (fun _ _ =>
     EqB.te (eqF_nil (by decide)) (fun h1 => ih.i m h1 (by omega)) (EqB.te (eqF_nil (by decide)) (fun h1 => ih.l m h1 (by omega))
      (EqB.rd (eqF_nil (by decide)) (fun h1 _ _ => EqB.bind (ih.e (m - 1) 1 (by omega)) (g1.e 1) (fun _ => EqB.refl _)) (fun _ _ => EqB.fnumZ (ih.d m (by omega))))))))))
  · refine EqB.congr (ifF_at (k + 1)) (ifF_at k) ?_
    exact EqB.bindL (EqB.refl _) (good_exp (by decide)) lt_exp (fun _ => EqB.bind (ih.e (m - 1) 1 (by omega)) (g1.e 1) (fun _ => EqB.bind (ih.b (m - 1) (by omega)) g1.b (fun _ => EqB.bind (EqB.refl _) (good_exp (by decide)) (fun _ => EqB.bind (ih.b (m - 1) (by omega)) g1.b (fun _ => EqB.refl _)))))
  · refine EqB.congr (letF_at (k + 1)) (letF_at k) ?_
    exact EqB.bindL (EqB.refl _) (good_exp (by decide)) lt_exp (fun _ => EqB.bind (EqB.refl _) good_name (fun _ => EqB.bind (EqB.refl _) (good_exp (by decide)) (fun _ => EqB.bind (ih.e (m - 1) 1 (by omega)) (g1.e 1) (fun _ => EqB.bind (ih.b (m - 1) (by omega)) g1.b (fun _ => EqB.refl _)))))
  · refine EqB.congr (namedF_at (k + 1)) (namedF_at k) ?_
    exact EqB.bindL (EqB.refl _) good_name lt_name (fun _ => EqB.rd (eqF_nil (by decide)) (fun h1 _ _ => EqB.rd (eqF_nil (by decide)) (fun _ _ _ => EqB.refl _) (fun _ _ => EqB.bind (ih.e (m - 1 - 1) 1 (by omega)) (g1.e 1) (fun _ => EqB.bind (ih.m (m - 1 - 1) _ (by omega)) (g1.m _) (fun _ => EqB.refl _)))) (fun _ _ => EqB.refl _))
  · refine EqB.congr (args1F_at (k + 1)) (args1F_at k) ?_
    exact EqB.bindL (EqB.refl _) (good_exp (by decide)) lt_exp (fun _ => EqB.bind (ih.e (m - 1) 1 (by omega)) (g1.e 1) (fun _ => EqB.refl _))
  · refine EqB.congr (args2F_at (k + 1)) (args2F_at k) ?_
    exact EqB.bindL (EqB.refl _) (good_exp (by decide)) lt_exp (fun _ => EqB.bind (ih.e (m - 1) 1 (by omega)) (g1.e 1) (fun _ => EqB.bind (EqB.refl _) (good_exp (by decide)) (fun _ => EqB.bind (ih.e (m - 1) 1 (by omega)) (g1.e 1) (fun _ => EqB.refl _))))
  · refine EqB.congr (braceF_at (k + 1)) (braceF_at k) ?_
    exact EqB.bindL (EqB.refl _) (good_exp (by decide)) lt_exp (fun _ => EqB.bind (ih.e (m - 1) 1 (by omega)) (g1.e 1) (fun _ => EqB.refl _))
  · refine EqB.congr (moreF_at (k + 1) acc) (moreF_at k acc) ?_
    exact EqB.rd (eqF_nil (by decide)) (fun h1 _ _ => EqB.bind (ih.e (m - 1) 1 (by omega)) (g1.e 1) (fun _ => ih.m (m - 1) _ (by omega))) (fun _ _ => EqB.refl _)
theorem exprF_same {k k' : Nat} (hkk : k ≤ k') (lv : Int) (σ : PS) (h : σ.at_ ≤ ts.length) (hk : 4 * mS ts σ + 4 ≤ k) : exprF ts n k' lv σ = exprF ts n k lv σ := by
 induction k' with
 | zero => omega
 | succ k' ih =>
  by_cases hlt : k ≤ k'
  · rw [← ih hlt]
    exact (fuel_F (ts := ts) (n := n) k').e (mS ts σ) lv (by omega) σ h (Nat.le_refl _)
  · obtain rfl : k = k' + 1 := by omega
    rfl
end
end Bk
namespace Bk
open Go Go.RowKit Go.Proofs
attribute [local irreducible] Go.Calls
def ListF (c : PCF) (w : World) (r : List Nd × PS) : Ending → World → Prop := fun e w' => ∃ a k, e = .returned (.slice a r.1.length k) ∧ rowSits (fun b => w.heap.size ≤ b ∧ b < w'.heap.size) w' r.1 a ∧ PPF c r.2 w' ∧ Fr (· = c.pb) w w'
theorem ListF.ret {c : PCF} {w : World} {r : List Nd × PS} {e : Ending} {w' : World} (h : ListF c w r e w') : ∃ v, e = .returned v := by
 obtain ⟨_, _, h, -⟩ := h
 exact ⟨_, h⟩
def ExprFC (c : PCF) (k : Nat) : Prop := ∀ (lv : Int) (σ : PS) (w : World), PPF c σ w → 4 * mS c.ts σ + 4 ≤ k → 1 ≤ lv → lv ≤ 9 →
 Calls Tryz.prog 90 #[.pointer (some ⟨c.pb, 0, none⟩), .int .i64 lv] w (TreeF c w (exprF c.ts c.n k lv σ))
def PrimFC (c : PCF) (k : Nat) : Prop := ∀ (σ : PS) (w : World), PPF c σ w → 4 * mS c.ts σ + 3 ≤ k →
 Calls Tryz.prog 106 #[.pointer (some ⟨c.pb, 0, none⟩)] w (TreeF c w (primF c.ts c.n k σ))
def IfFC (c : PCF) (k : Nat) : Prop := ∀ (σ : PS) (w : World), PPF c σ w → 1 ≤ mS c.ts σ → 4 * mS c.ts σ + 2 ≤ k →
 Calls Tryz.prog 118 #[.pointer (some ⟨c.pb, 0, none⟩)] w (TreeF c w (ifF c.ts c.n k σ))
def LetFC (c : PCF) (k : Nat) : Prop := ∀ (σ : PS) (w : World), PPF c σ w → 1 ≤ mS c.ts σ → 4 * mS c.ts σ + 2 ≤ k →
 Calls Tryz.prog 119 #[.pointer (some ⟨c.pb, 0, none⟩)] w (TreeF c w (letF c.ts c.n k σ))
def NamedFC (c : PCF) (k : Nat) : Prop := ∀ (σ : PS) (w : World), PPF c σ w → 4 * mS c.ts σ + 2 ≤ k →
 Calls Tryz.prog 121 #[.pointer (some ⟨c.pb, 0, none⟩)] w (TreeF c w (namedF c.ts c.n k σ))
def Args1FC (c : PCF) (k : Nat) : Prop := ∀ (σ : PS) (w : World), PPF c σ w → 4 * mS c.ts σ + 5 ≤ k →
 Calls Tryz.prog 117 #[.pointer (some ⟨c.pb, 0, none⟩), .int .i64 1] w (ListF c w (args1F c.ts c.n k σ))
def Args2FC (c : PCF) (k : Nat) : Prop := ∀ (σ : PS) (w : World), PPF c σ w → 4 * mS c.ts σ + 5 ≤ k →
 Calls Tryz.prog 117 #[.pointer (some ⟨c.pb, 0, none⟩), .int .i64 2] w (ListF c w (args2F c.ts c.n k σ))
def BraceFC (c : PCF) (k : Nat) : Prop := ∀ (σ : PS) (w : World), PPF c σ w → 4 * mS c.ts σ + 5 ≤ k →
 Calls Tryz.prog 59 #[.pointer (some ⟨c.pb, 0, none⟩)] w (TreeF c w (braceF c.ts c.n k σ))
structure ExprsFC (c : PCF) (k : Nat) : Prop where
 e : ExprFC c k
 p : PrimFC c k
 i : IfFC c k
 l : LetFC c k
 d : NamedFC c k
 a1 : Args1FC c k
 a2 : Args2FC c k
 b : BraceFC c k
theorem mS_exp {ts : List Tok} {n : Int} {σ : PS} {t : List UInt8} (h : σ.at_ ≤ ts.length) (ht : t ≠ []) : mS ts (expectP ts n σ t) + 1 ≤ mS ts σ ∨ mS ts (expectP ts n σ t) = 0 := mS_lt (expect_le h ht) expect_lt
theorem mS_nam {ts : List Tok} {n : Int} {σ : PS} (h : σ.at_ ≤ ts.length) : mS ts (nameP ts n σ).2 + 1 ≤ mS ts σ ∨ mS ts (nameP ts n σ).2 = 0 := mS_lt (name_le h) name_lt
theorem exprF_le' {ts : List Tok} {n : Int} {k : Nat} {lv : Int} {σ : PS} (h : σ.at_ ≤ ts.length) : Le ts σ (exprF ts n k lv σ).2 := ((good_F k).e lv).le ts n σ h
theorem braceF_le {ts : List Tok} {n : Int} {k : Nat} {σ : PS} (h : σ.at_ ≤ ts.length) : Le ts σ (braceF ts n k σ).2 := (good_F k).b.le ts n σ h
set_option maxRecDepth 100000 in
set_option maxHeartbeats 1000000 in
theorem block_fw (c : PCF) (k : Nat) (IH : ∀ j, j ≤ k → ExprsFC c j) : BraceFC c (k + 1) := by
 intro σ w hP hk; have X := Fr.refl (· = c.pb) w; have hpb := hP.pbB; have hB := hP.B; have m1 := mS_exp (n := c.n) (t := [123]) hP.at_ (by decide); rw [show braceF c.ts c.n (k + 1) σ = ((exprF c.ts c.n k 1 (expectP c.ts c.n σ [123])).1, expectP c.ts c.n (exprF c.ts c.n k 1 (expectP c.ts c.n σ [123])).2 [125]) from by rw [braceF]]; refine calls_in Tryz.func59 Tryz.ntmps59 rfl rfl ?_
 focus
  refine cS ?_; (refine lw_alloc' [_, _, _, _] zOk rfl rfl ?_; intro b1 w2 n3); have h5 := n3.blk; have x6 := n3.ext; have p7 := n3.pos; have z8 := n3.size; clear n3; replace hP := hP.ext x6; replace X := X.ext x6; clear x6; refine cN (C1 Mv ?_); refine cC rfl (fexpect_c _ _ _ _ (by assumption) (by decide)) ?_; rintro _ w11 ⟨⟨⟩, ⟨h9, f10⟩⟩; have z12 := f10.size; replace h5 := h5.fr f10 (by omega); clear hP; replace X := X.fr f10 (by omega); clear f10; refine cN (C1 Mv ?_); refine cR (by kernel_rfl) rfl ((IH k (Nat.le_refl _)).e _ _ _ (by assumption) (by omega) (by decide) (by decide)) (fun _ _ h => h.ret) rfl ?_; rintro _ w18 ⟨a13, ⟨k14, ⟨⟨⟩, ⟨h15, ⟨h16, f17⟩⟩⟩⟩⟩; have z19 := f17.size; clear h9; replace h5 := h5.fr f17 (by omega); replace X := X.fr f17 (by omega); clear f17; (refine lw_alloc' [_, _, _, _] zOk rfl rfl ?_; intro b20 w21 n22); (refine lw_init' [_, _, _, _] tabOk rfl rfl rfl rfl rfl rfl n22 rfl ?_; clear n22; clear w21; intro w23 n22); have h24 := n22.blk; have x25 := n22.ext; have p26 := n22.pos; have z27 := n22.size; clear n22; replace h15 := Nd.sits.ext h15 x25; replace h16 := h16.ext x25; replace h5 := h5.ext x25; replace X := X.ext x25; clear x25; refine cN (C1 Mv ?_); refine cC rfl (fexpect_c _ _ _ _ (by assumption) (by decide)) ?_; rintro _ w30 ⟨⟨⟩, ⟨h28, f29⟩⟩; have z31 := f29.size; replace h24 := h24.fr f29 (by omega); replace h15 := Nd.sits.fr h15 f29 (by omega); clear h16; replace h5 := h5.fr f29 (by omega); replace X := X.fr f29 (by omega); clear f29; refine cN (lw_loads_b' [_, _, _, _] tabOk rfl rfl rfl h24 rfl rfl rfl ?_)
  (refine lw_store' [_, _, _, _] [_, _, _, _] tabOk rfl rfl rfl rfl rfl rfl h5 rfl rfl ?_; intro w32 n33); have h36 := n33.blk; have f34 := n33.fr; have z35 := n33.size; clear n33 h5; replace h28 := h28.fr f34 (by omega); replace h24 := h24.fr f34 (by omega); replace h15 := Nd.sits.fr h15 f34 (by omega); replace X := X.fr f34 (by omega); clear f34; refine cT (cw_ret (qw_retc rfl tabOk rfl rfl rfl h36 rfl ?_)); rotate_left 1
 exact treeF_ret (Nd.sits.wide (by assumption) (fun b h => by omega)) (by assumption) X
set_option maxRecDepth 100000 in
set_option maxHeartbeats 1000000 in
theorem choice_fw (c : PCF) (k : Nat) (IH : ∀ j, j ≤ k → ExprsFC c j) : IfFC c (k + 1) := by
 intro σ w hP h1 hk; have X := Fr.refl (· = c.pb) w; have hpb := hP.pbB; have hB := hP.B; have m1 := mS_exp (n := c.n) (t := [105, 102]) hP.at_ (by decide); have l1 := expect_le (n := c.n) (t := [105, 102]) hP.at_ (by decide); rw [show ifF c.ts c.n (k + 1) σ = (.mk 83 0 [] [(exprF c.ts c.n k 1 (expectP c.ts c.n σ [105, 102])).1, (braceF c.ts c.n k (exprF c.ts c.n k 1 (expectP c.ts c.n σ [105, 102])).2).1, (braceF c.ts c.n k (expectP c.ts c.n (braceF c.ts c.n k (exprF c.ts c.n k 1 (expectP c.ts c.n σ [105, 102])).2).2 [101, 108, 115, 101])).1], (braceF c.ts c.n k (expectP c.ts c.n (braceF c.ts c.n k (exprF c.ts c.n k 1 (expectP c.ts c.n σ [105, 102])).2).2 [101, 108, 115, 101])).2) from by rw [ifF]]; have l2 := exprF_le' (n := c.n) (k := k) (lv := 1) l1.wf; have m2 := mS_le l2; have l3 := braceF_le (n := c.n) (k := k) l2.wf; have m3 := mS_le l3; have l4 := expect_le (n := c.n) (t := [101, 108, 115, 101]) l3.wf (by decide); have m4 := mS_le l4; refine calls_in Tryz.func118 Tryz.ntmps118 rfl rfl ?_
 focus
  refine cS ?_; (refine lw_alloc' [_, _, _, _] zOk rfl rfl ?_; intro b1 w2 n3); have h5 := n3.blk; have x6 := n3.ext; have p7 := n3.pos; have z8 := n3.size; clear n3; replace hP := hP.ext x6; replace X := X.ext x6; clear x6; refine cN (C1 Mv ?_); refine cC rfl (fexpect_c _ _ _ _ (by assumption) (by decide)) ?_; rintro _ w11 ⟨⟨⟩, ⟨h9, f10⟩⟩; have z12 := f10.size; replace h5 := h5.fr f10 (by omega); clear hP; replace X := X.fr f10 (by omega); clear f10; refine cN (C1 Mv ?_); refine cR (by kernel_rfl) rfl ((IH k (Nat.le_refl _)).e _ _ _ (by assumption) (by omega) (by decide) (by decide)) (fun _ _ h => h.ret) rfl ?_; rintro _ w18 ⟨a13, ⟨k14, ⟨⟨⟩, ⟨h15, ⟨h16, f17⟩⟩⟩⟩⟩; have z19 := f17.size; clear h9; replace h5 := h5.fr f17 (by omega); replace X := X.fr f17 (by omega); clear f17; (refine lw_alloc' [_, _, _, _] zOk rfl rfl ?_; intro b20 w21 n22); (refine lw_init' [_, _, _, _] tabOk rfl rfl rfl rfl rfl rfl n22 rfl ?_; clear n22; clear w21; intro w23 n22); have h24 := n22.blk; have x25 := n22.ext; have p26 := n22.pos; have z27 := n22.size; clear n22; replace h15 := Nd.sits.ext h15 x25; replace h16 := h16.ext x25; replace h5 := h5.ext x25; replace X := X.ext x25; clear x25; refine cN (C1 Mv ?_); refine cR (by kernel_rfl) rfl ((IH k (Nat.le_refl _)).b _ _ (by assumption) (by omega)) (fun _ _ h => h.ret) rfl ?_; rintro _ w33 ⟨a28, ⟨k29, ⟨⟨⟩, ⟨h30, ⟨h31, f32⟩⟩⟩⟩⟩; have z34 := f32.size; replace h24 := h24.fr f32 (by omega); replace h15 := Nd.sits.fr h15 f32 (by omega); clear h16; replace h5 := h5.fr f32 (by omega)
  replace X := X.fr f32 (by omega); clear f32; (refine lw_alloc' [_, _, _, _] zOk rfl rfl ?_; intro b35 w36 n37); (refine lw_init' [_, _, _, _] tabOk rfl rfl rfl rfl rfl rfl n37 rfl ?_; clear n37; clear w36; intro w38 n37); have h39 := n37.blk; have x40 := n37.ext; have p41 := n37.pos; have z42 := n37.size; clear n37; replace h30 := Nd.sits.ext h30 x40; replace h31 := h31.ext x40; replace h24 := h24.ext x40; replace h15 := Nd.sits.ext h15 x40; replace h5 := h5.ext x40; replace X := X.ext x40; clear x40; refine cN (C1 Mv ?_); refine cC rfl (fexpect_c _ _ _ _ (by assumption) (by decide)) ?_; rintro _ w45 ⟨⟨⟩, ⟨h43, f44⟩⟩; have z46 := f44.size; replace h39 := h39.fr f44 (by omega); replace h30 := Nd.sits.fr h30 f44 (by omega); clear h31; replace h24 := h24.fr f44 (by omega); replace h15 := Nd.sits.fr h15 f44 (by omega); replace h5 := h5.fr f44 (by omega); replace X := X.fr f44 (by omega); clear f44; refine cN (C1 Mv ?_); refine cR (by kernel_rfl) rfl ((IH k (Nat.le_refl _)).b _ _ (by assumption) (by omega)) (fun _ _ h => h.ret) rfl ?_; rintro _ w52 ⟨a47, ⟨k48, ⟨⟨⟩, ⟨h49, ⟨h50, f51⟩⟩⟩⟩⟩; have z53 := f51.size; clear h43; replace h39 := h39.fr f51 (by omega); replace h30 := Nd.sits.fr h30 f51 (by omega); replace h24 := h24.fr f51 (by omega); replace h15 := Nd.sits.fr h15 f51 (by omega); replace h5 := h5.fr f51 (by omega); replace X := X.fr f51 (by omega); clear f51; (refine lw_alloc' [_, _, _, _] zOk rfl rfl ?_; intro b54 w55 n56); (refine lw_init' [_, _, _, _] tabOk rfl rfl rfl rfl rfl rfl n56 rfl ?_; clear n56; clear w55; intro w57 n56)
  have h58 := n56.blk; have x59 := n56.ext; have p60 := n56.pos; have z61 := n56.size; clear n56; replace h49 := Nd.sits.ext h49 x59; replace h50 := h50.ext x59; replace h39 := h39.ext x59; replace h30 := Nd.sits.ext h30 x59; replace h24 := h24.ext x59; replace h15 := Nd.sits.ext h15 x59; replace h5 := h5.ext x59; replace X := X.ext x59; clear x59; refine cN (lw_loads_b' [_, _, _, _] tabOk rfl rfl rfl h24 rfl rfl rfl (lw_loads_b' [_, _, _, _] tabOk rfl rfl rfl h39 rfl rfl rfl (lw_loads_b' [_, _, _, _] tabOk rfl rfl rfl h58 rfl rfl rfl ?_))); (refine lw_does (does_slice' [_, _, _, _, _, _, _, _, _, _, _, _] tabOk zOk rfl rfl rfl rfl rfl rfl rfl rfl rfl) rfl ?_ (fun _ h => h); rintro _ w63 ⟨b62, rfl, n64, t65⟩); clear t65; have h66 := n64.blk; have x67 := n64.ext; have p68 := n64.pos; have z69 := n64.size; clear n64; replace h58 := h58.ext x67; replace h49 := Nd.sits.ext h49 x67; replace h50 := h50.ext x67; replace h39 := h39.ext x67; replace h30 := Nd.sits.ext h30 x67; replace h24 := h24.ext x67; replace h15 := Nd.sits.ext h15 x67; replace h5 := h5.ext x67; replace X := X.ext x67; clear x67; refine C1 (pur_build' [_, _, _, _] tabOk zOk rfl rfl rfl rfl) ?_; (refine lw_store' [_, _, _, _] [_, _, _, _] tabOk rfl rfl rfl rfl rfl rfl h5 rfl rfl ?_; intro w70 n71); have h74 := n71.blk; have f72 := n71.fr; have z73 := n71.size; clear n71 h5; replace h66 := h66.fr f72 (by omega); replace h58 := h58.fr f72 (by omega); replace h49 := Nd.sits.fr h49 f72 (by omega); replace h50 := h50.fr f72 (by omega)
  replace h39 := h39.fr f72 (by omega); replace h30 := Nd.sits.fr h30 f72 (by omega); replace h24 := h24.fr f72 (by omega); replace h15 := Nd.sits.fr h15 f72 (by omega); replace X := X.fr f72 (by omega); clear f72; refine cT (cw_ret (qw_retc rfl tabOk rfl rfl rfl h74 rfl ?_)); rotate_left 1
 exact treeF_ret (sits_3 (by assumption) (by omega) (by assumption) (fun b h => by omega) (by assumption) (fun b h => by omega) (by assumption) (fun b h => by omega)) (by assumption) X
set_option maxRecDepth 100000 in
set_option maxHeartbeats 1000000 in
theorem binding_fw (c : PCF) (k : Nat) (IH : ∀ j, j ≤ k → ExprsFC c j) : LetFC c (k + 1) := by
 intro σ w hP h1 hk; have X := Fr.refl (· = c.pb) w; have hpb := hP.pbB; have hB := hP.B; have m1 := mS_exp (n := c.n) (t := [108, 111, 99, 97, 108]) hP.at_ (by decide); have l1 := expect_le (n := c.n) (t := [108, 111, 99, 97, 108]) hP.at_ (by decide); have l2 := name_le (n := c.n) l1.wf; have m2 := mS_le l2; have l3 := expect_le (n := c.n) (t := [61]) l2.wf (by decide); have m3 := mS_le l3; have l4 := exprF_le' (n := c.n) (k := k) (lv := 1) l3.wf; have m4 := mS_le l4; rw [show letF c.ts c.n (k + 1) σ = (.mk 84 0 (nameP c.ts c.n (expectP c.ts c.n σ [108, 111, 99, 97, 108])).1 [(exprF c.ts c.n k 1 (expectP c.ts c.n (nameP c.ts c.n (expectP c.ts c.n σ [108, 111, 99, 97, 108])).2 [61])).1, (braceF c.ts c.n k (exprF c.ts c.n k 1 (expectP c.ts c.n (nameP c.ts c.n (expectP c.ts c.n σ [108, 111, 99, 97, 108])).2 [61])).2).1], (braceF c.ts c.n k (exprF c.ts c.n k 1 (expectP c.ts c.n (nameP c.ts c.n (expectP c.ts c.n σ [108, 111, 99, 97, 108])).2 [61])).2).2) from by rw [letF]]; refine calls_in Tryz.func119 Tryz.ntmps119 rfl rfl ?_
 focus
  refine cS ?_; (refine lw_alloc' [_, _, _, _] zOk rfl rfl ?_; intro b1 w2 n3); have h5 := n3.blk; have x6 := n3.ext; have p7 := n3.pos; have z8 := n3.size; clear n3; replace hP := hP.ext x6; replace X := X.ext x6; clear x6; refine cN (C1 Mv ?_); refine cC rfl (fexpect_c _ _ _ _ (by assumption) (by decide)) ?_; rintro _ w11 ⟨⟨⟩, ⟨h9, f10⟩⟩; have z12 := f10.size; replace h5 := h5.fr f10 (by omega); clear hP; replace X := X.fr f10 (by omega); clear f10; refine cN (C1 Mv ?_); refine cC rfl (fname_c _ _ _ (by assumption)) ?_; rintro _ w15 ⟨⟨⟩, ⟨h13, f14⟩⟩; have z16 := f14.size; clear h9; replace h5 := h5.fr f14 (by omega); replace X := X.fr f14 (by omega); clear f14; refine C1 Pa (cN (C1 Mv ?_)); refine cC rfl (fexpect_c _ _ _ _ (by assumption) (by decide)) ?_; rintro _ w19 ⟨⟨⟩, ⟨h17, f18⟩⟩; have z20 := f18.size; clear h13; replace h5 := h5.fr f18 (by omega); replace X := X.fr f18 (by omega); clear f18; refine cN (C1 Mv ?_); refine cR (by kernel_rfl) rfl ((IH k (Nat.le_refl _)).e _ _ _ (by assumption) (by omega) (by decide) (by decide)) (fun _ _ h => h.ret) rfl ?_; rintro _ w26 ⟨a21, ⟨k22, ⟨⟨⟩, ⟨h23, ⟨h24, f25⟩⟩⟩⟩⟩; have z27 := f25.size; clear h17; replace h5 := h5.fr f25 (by omega); replace X := X.fr f25 (by omega); clear f25; (refine lw_alloc' [_, _, _, _] zOk rfl rfl ?_; intro b28 w29 n30); (refine lw_init' [_, _, _, _] tabOk rfl rfl rfl rfl rfl rfl n30 rfl ?_; clear n30; clear w29; intro w31 n30); have h32 := n30.blk; have x33 := n30.ext; have p34 := n30.pos; have z35 := n30.size
  clear n30; replace h23 := Nd.sits.ext h23 x33; replace h24 := h24.ext x33; replace h5 := h5.ext x33; replace X := X.ext x33; clear x33; refine cN (C1 Mv ?_); refine cR (by kernel_rfl) rfl ((IH k (Nat.le_refl _)).b _ _ (by assumption) (by omega)) (fun _ _ h => h.ret) rfl ?_; rintro _ w41 ⟨a36, ⟨k37, ⟨⟨⟩, ⟨h38, ⟨h39, f40⟩⟩⟩⟩⟩; have z42 := f40.size; replace h32 := h32.fr f40 (by omega); replace h23 := Nd.sits.fr h23 f40 (by omega); clear h24; replace h5 := h5.fr f40 (by omega); replace X := X.fr f40 (by omega); clear f40; (refine lw_alloc' [_, _, _, _] zOk rfl rfl ?_; intro b43 w44 n45); (refine lw_init' [_, _, _, _] tabOk rfl rfl rfl rfl rfl rfl n45 rfl ?_; clear n45; clear w44; intro w46 n45); have h47 := n45.blk; have x48 := n45.ext; have p49 := n45.pos; have z50 := n45.size; clear n45; replace h38 := Nd.sits.ext h38 x48; replace h39 := h39.ext x48; replace h32 := h32.ext x48; replace h23 := Nd.sits.ext h23 x48; replace h5 := h5.ext x48; replace X := X.ext x48; clear x48; refine cN (C1 Mv (lw_loads_b' [_, _, _, _] tabOk rfl rfl rfl h32 rfl rfl rfl (lw_loads_b' [_, _, _, _] tabOk rfl rfl rfl h47 rfl rfl rfl ?_))); (refine lw_does (does_slice' [_, _, _, _, _, _, _, _] tabOk zOk rfl rfl rfl rfl rfl rfl rfl rfl rfl) rfl ?_ (fun _ h => h); rintro _ w52 ⟨b51, rfl, n53, t54⟩); clear t54; have h55 := n53.blk; have x56 := n53.ext; have p57 := n53.pos; have z58 := n53.size; clear n53; replace h47 := h47.ext x56; replace h38 := Nd.sits.ext h38 x56; replace h39 := h39.ext x56; replace h32 := h32.ext x56
  replace h23 := Nd.sits.ext h23 x56; replace h5 := h5.ext x56; replace X := X.ext x56; clear x56; refine C1 (pur_build' [_, _, _, _] tabOk zOk rfl rfl rfl rfl) ?_; (refine lw_store' [_, _, _, _] [_, _, _, _] tabOk rfl rfl rfl rfl rfl rfl h5 rfl rfl ?_; intro w59 n60); have h63 := n60.blk; have f61 := n60.fr; have z62 := n60.size; clear n60 h5; replace h55 := h55.fr f61 (by omega); replace h47 := h47.fr f61 (by omega); replace h38 := Nd.sits.fr h38 f61 (by omega); replace h39 := h39.fr f61 (by omega); replace h32 := h32.fr f61 (by omega); replace h23 := Nd.sits.fr h23 f61 (by omega); replace X := X.fr f61 (by omega); clear f61; refine cT (cw_ret (qw_retc rfl tabOk rfl rfl rfl h63 rfl ?_)); rotate_left 1
 exact treeF_ret (sits_2 (by assumption) (by omega) (by assumption) (fun b h => by omega) (by assumption) (fun b h => by omega)) (by assumption) X
end Bk
namespace Bk
open Go Go.RowKit Go.Proofs
attribute [local irreducible] Go.Calls
theorem kidsSitsF {S : Nat → Prop} {w : World} {k n : Int} {s : List UInt8} {l : List Nd} {a : Option Addr} (h : (Nd.mk k n s l).sits S w a) : rowSits S w l a := h
theorem listF_ret {c : PCF} {w w' : World} {r : List Nd × PS} {a : Option Addr} {m k : Nat} (hm : r.1.length = m) (hs : rowSits (w.heap.size ≤ ·) w' r.1 a) (hP : PPF c r.2 w') (X : Fr (· = c.pb) w w') : ListF c w r (.returned (.slice a m k)) w' := by
 subst hm; refine ⟨a, k, rfl, ?_, hP, X⟩; have := sits_lt2 (.mk 0 0 [] r.1) a (S := (w.heap.size ≤ ·)) hs
 exact this
set_option maxRecDepth 100000 in
set_option maxHeartbeats 1000000 in
theorem args1_fw (c : PCF) (k : Nat) (IH : ∀ j, j ≤ k → ExprsFC c j) : Args1FC c (k + 1) := by
 intro σ w hP hk; have X := Fr.refl (· = c.pb) w; have hpb := hP.pbB; have hB := hP.B; have m1 := mS_exp (n := c.n) (t := [40]) hP.at_ (by decide); rw [show args1F c.ts c.n (k + 1) σ = ([(exprF c.ts c.n k 1 (expectP c.ts c.n σ [40])).1], expectP c.ts c.n (exprF c.ts c.n k 1 (expectP c.ts c.n σ [40])).2 [41]) from by rw [args1F]]; refine calls_in Tryz.func117 Tryz.ntmps117 rfl rfl ?_
 focus
  refine cS (C1 Pa (cN (C1 Mv ?_))); refine cC rfl (fexpect_c _ _ _ _ (by assumption) (by decide)) ?_; rintro _ w3 ⟨⟨⟩, ⟨h1, f2⟩⟩; have z4 := f2.size; clear hP; replace X := X.fr f2 (by omega); clear f2; refine cN (C1 Mv ?_); refine cR (by kernel_rfl) rfl ((IH k (Nat.le_refl _)).e _ _ _ (by assumption) (by omega) (by decide) (by decide)) (fun _ _ h => h.ret) rfl ?_; rintro _ w10 ⟨a5, ⟨k6, ⟨⟨⟩, ⟨h7, ⟨h8, f9⟩⟩⟩⟩⟩; have z11 := f9.size; clear h1; replace X := X.fr f9 (by omega); clear f9; (refine lw_does (does_slice' [_, _, _, _] tabOk zOk rfl rfl rfl rfl rfl rfl rfl rfl rfl) rfl ?_ (fun _ h => h); rintro _ w13 ⟨b12, rfl, n14, t15⟩); clear t15; have h16 := n14.blk; have x17 := n14.ext; have p18 := n14.pos; have z19 := n14.size; clear n14; replace h7 := Nd.sits.ext h7 x17; replace h8 := h8.ext x17; replace X := X.ext x17; clear x17; refine C1 Pa (cT (cw_seq (cw_block ?_))); rotate_left 1
 refine cw_loop (ι := Unit) (fun _ => [(0, .pointer (some ⟨c.pb, 0, none⟩)), (1, .int .i64 1), (5, .slice (some ⟨b12, 0, none⟩) 1 1)]) (fun _ w' => w' = w13) (fun _ => 0) () (by (refine sub_cons rfl ?_; refine sub_cons rfl ?_; refine sub_cons rfl ?_; exact sub_nil)) rfl ?_; rintro _ w14 rfl
 focus
  refine cw_seq (cS (C1 Mv (C1 Pz (C1 Mv (C1 V3 (cT (Wnd (cw_exit (qw_then_exit (qw_then_exit (qw_block_exit ?_))))))))))); refine qw_then (cS (C1 Mv ?_)); refine cC rfl (fexpect_c _ _ _ _ (by assumption) (by decide)) ?_; rintro _ wa3 ⟨⟨⟩, ⟨ha1, fa2⟩⟩; have za4 := fa2.size; replace h16 := h16.fr fa2 (by omega); replace h7 := Nd.sits.fr h7 fa2 (by omega); clear h8; replace X := X.fr fa2 (by omega); clear fa2; refine cN (C1 Mv (C1 Pa (cT (cw_ret (qw_ret1 rfl rfl ?_))))); rotate_left 1
 exact listF_ret rfl (rowSits_of (by omega) [_] 0 (fun i x hi => by
  match i, hi with
  | 0, hi =>
   simp only [List.getElem?_cons_zero, Option.some.injEq] at hi; subst hi
   exact ⟨_, _, by simpa using Blk.row (by assumption), Nd.sits.wide (by assumption) (fun b h => by omega)⟩)) (by assumption) X
set_option maxRecDepth 100000 in
set_option maxHeartbeats 1000000 in
theorem args2_fw (c : PCF) (k : Nat) (IH : ∀ j, j ≤ k → ExprsFC c j) : Args2FC c (k + 1) := by
 intro σ w hP hk; have X := Fr.refl (· = c.pb) w; have hpb := hP.pbB; have hB := hP.B; have m1 := mS_exp (n := c.n) (t := [40]) hP.at_ (by decide); have l1 := expect_le (n := c.n) (t := [40]) hP.at_ (by decide); have l2 := exprF_le' (n := c.n) (k := k) (lv := 1) l1.wf; have m2 := mS_le l2; have l3 := expect_le (n := c.n) (t := [44]) l2.wf (by decide); have m3 := mS_le l3; rw [show args2F c.ts c.n (k + 1) σ = ([(exprF c.ts c.n k 1 (expectP c.ts c.n σ [40])).1, (exprF c.ts c.n k 1 (expectP c.ts c.n (exprF c.ts c.n k 1 (expectP c.ts c.n σ [40])).2 [44])).1], expectP c.ts c.n (exprF c.ts c.n k 1 (expectP c.ts c.n (exprF c.ts c.n k 1 (expectP c.ts c.n σ [40])).2 [44])).2 [41]) from by rw [args2F]]; clear l1 l2 l3; refine calls_in Tryz.func117 Tryz.ntmps117 rfl rfl ?_
 focus
  refine cS (C1 Pa (cN (C1 Mv ?_))); refine cC rfl (fexpect_c _ _ _ _ (by assumption) (by decide)) ?_; rintro _ w3 ⟨⟨⟩, ⟨h1, f2⟩⟩; have z4 := f2.size; clear hP; replace X := X.fr f2 (by omega); clear f2; refine cN (C1 Mv ?_); refine cR (by kernel_rfl) rfl ((IH k (Nat.le_refl _)).e _ _ _ (by assumption) (by omega) (by decide) (by decide)) (fun _ _ h => h.ret) rfl ?_; rintro _ w10 ⟨a5, ⟨k6, ⟨⟨⟩, ⟨h7, ⟨h8, f9⟩⟩⟩⟩⟩; have z11 := f9.size; clear h1; replace X := X.fr f9 (by omega); clear f9; (refine lw_does (does_slice' [_, _, _, _] tabOk zOk rfl rfl rfl rfl rfl rfl rfl rfl rfl) rfl ?_ (fun _ h => h); rintro _ w13 ⟨b12, rfl, n14, t15⟩); have t16 : TB _ _ _ _ := t15; clear t15; have x17 := n14.ext; have p18 := n14.pos; have z19 := n14.size; clear n14; replace h7 := Nd.sits.ext h7 x17; replace h8 := h8.ext x17; replace X := X.ext x17; clear x17; refine C1 Pa (cT (cw_seq (cw_block ?_))); rotate_left 1
 refine cw_loop (ι := Bool × Option Addr × Nat) (fun x => [(0, .pointer (some ⟨c.pb, 0, none⟩)), (1, .int .i64 2), (5, .slice x.2.1 (match x.1 with | true => 2 | false => 1) x.2.2)])
  (fun x w' => match x.1 with | false => w' = w13 ∧ x.2 = (some ⟨b12, 0, none⟩, 1) | true => rowSits (w.heap.size ≤ ·) w' [(exprF c.ts c.n k 1 (expectP c.ts c.n σ [40])).1, (exprF c.ts c.n k 1 (expectP c.ts c.n (exprF c.ts c.n k 1 (expectP c.ts c.n σ [40])).2 [44])).1] x.2.1 ∧ PPF c (exprF c.ts c.n k 1 (expectP c.ts c.n (exprF c.ts c.n k 1 (expectP c.ts c.n σ [40])).2 [44])).2 w' ∧ Fr (· = c.pb) w w' ∧ w.heap.size ≤ w'.heap.size)
  (fun x => match x.1 with | false => 1 | true => 0) (false, some ⟨b12, 0, none⟩, 1) (by (refine sub_cons rfl ?_; refine sub_cons rfl ?_; refine sub_cons rfl ?_; exact sub_nil)) ⟨rfl, rfl⟩ ?_
 rintro ⟨q, qa, qk⟩ w14 hI
 cases q with
 | false =>
  obtain ⟨rfl, hq⟩ := hI; simp only [Prod.mk.injEq] at hq; obtain ⟨rfl, rfl⟩ := hq; have hown : OwnQ ndShape w14 (w.heap.size ≤ ·) w.heap.size 40 (.slice (some ⟨b12, 0, none⟩) 1 1) [(exprF c.ts c.n k 1 (expectP c.ts c.n σ [40])).1] := OwnQ.lit t16 (by omega) ⟨_, _, rfl, Nd.sits.wide h7 (fun b h => ⟨by omega, by omega⟩)⟩; clear t16 h7; refine CW.sub (m := [(0, .pointer (some ⟨c.pb, 0, none⟩)), (1, .int .i64 2), (5, .slice (some ⟨b12, 0, none⟩) 1 1)]) ?_ (by (refine sub_cons rfl ?_; refine sub_cons rfl ?_; refine sub_cons rfl ?_; exact sub_nil))
  focus
   refine cw_seq (cS (C1 Mv (C1 Pz (C1 Mv (C1 V3 (cT (Wyd (cw_skip (qw_then (cw_block (cS ?_))))))))))); refine C1 Mv ?_; refine cC rfl (fexpect_c _ _ _ _ (by assumption) (by decide)) ?_; rintro _ wa3 ⟨⟨⟩, ⟨ha1, fa2⟩⟩; have za4 := fa2.size; clear h8; replace X := X.fr fa2 (by omega); replace hown := OwnQ.fr hown fa2 (fun k hk => ⟨fun h => by (try dsimp only at hk h); omega, fun e => by have := OwnQ.ge (by assumption) e; (try dsimp only at hk); omega⟩); clear fa2; refine cT (cw_region (C1 Mv (C1 Mv ?_))); refine cR (by kernel_rfl) rfl ((IH k (Nat.le_refl _)).e _ _ _ (by assumption) (by omega) (by decide) (by decide)) (fun _ _ h => h.ret) rfl ?_; rintro _ wa10 ⟨aa5, ⟨ka6, ⟨⟨⟩, ⟨ha7, ⟨ha8, fa9⟩⟩⟩⟩⟩; have za11 := fa9.size; clear ha1; replace X := X.fr fa9 (by omega); replace hown := OwnQ.fr hown fa9 (fun k hk => ⟨fun h => by (try dsimp only at hk h); omega, fun e => by have := OwnQ.ge (by assumption) e; (try dsimp only at hk); omega⟩); clear fa9; (refine lw_does (does_slice' [_, _, _, _] tabOk zOk rfl rfl rfl rfl rfl rfl rfl rfl rfl) rfl ?_ (fun _ h => h); rintro _ wa13 ⟨ba12, rfl, na14, ta15⟩); clear ta15; have ha16 := na14.blk; have xa17 := na14.ext; have pa18 := na14.pos; have za19 := na14.size; clear na14; replace ha7 := Nd.sits.ext ha7 xa17; replace ha8 := ha8.ext xa17; replace X := X.ext xa17; replace hown := hown.ext xa17; clear xa17; refine lw_does (does_appendQ (R := fun b => w.heap.size ≤ b) (sh := ndShape) (z := (exprF c.ts c.n k 1 (expectP c.ts c.n (exprF c.ts c.n k 1 (expectP c.ts c.n σ [40])).2 [44])).1) tabOk zOk rfl rfl rfl rfl (by kernel_rfl) rfl rfl rfl (by assumption) (fun _ h => by exact h) (Blk.row (by assumption)) ⟨_, _, rfl, Nd.sits.wide (by assumption) (fun b h => ⟨by omega, fun e => by simp only [Value.ownBlock, Option.some.injEq] at e; omega⟩)⟩ (by simp) (by omega)) rfl ?_ (fun _ h => h)
   rintro _ wa26 ⟨ga20, ⟨capa21, ⟨rfl, ⟨ha22, ⟨ha23, ⟨ha24, fa25⟩⟩⟩⟩⟩⟩; have za27 := fa25.size; clear ha16; replace ha7 := Nd.sits.fr ha7 fa25 (fun b hb hT => by simp only [Go.Value.ownBlock, Option.some.injEq] at hT; (try dsimp only at hb); omega); replace ha8 := PPF.fr ha8 fa25 (fun k hk => by simp only [Go.Value.ownBlock, Option.some.injEq] at hk; omega); replace X := Fr.fr X fa25 (fun k hk => by simp only [Go.Value.ownBlock, Option.some.injEq] at hk; omega); clear hown fa25; refine C1 Pa (lw_nil (qw_block_norm ?_)); rotate_left 1
  exact qw_round (ι := Bool × Option Addr × Nat) (x := (false, some ⟨b12, 0, none⟩, 1)) (true, some ⟨_, 0, none⟩, _) (by (refine sub_cons rfl ?_; refine sub_cons rfl ?_; refine sub_cons rfl ?_; exact sub_nil)) ⟨OwnQ.rowsits (by assumption) (fun b h => h) (fun b h => h), by assumption, X, by omega⟩ (by simp only; omega)
 | true =>
  obtain ⟨hs, hP2, X2, hz⟩ := hI; clear X h8 t16 h7; refine CW.sub (m := [(0, .pointer (some ⟨c.pb, 0, none⟩)), (1, .int .i64 2), (5, .slice qa 2 qk)]) ?_ (by (refine sub_cons rfl ?_; refine sub_cons rfl ?_; refine sub_cons rfl ?_; exact sub_nil)); have hs2 : (Nd.mk 0 0 [] [(exprF c.ts c.n k 1 (expectP c.ts c.n σ [40])).1, (exprF c.ts c.n k 1 (expectP c.ts c.n (exprF c.ts c.n k 1 (expectP c.ts c.n σ [40])).2 [44])).1]).sits (w.heap.size ≤ ·) w14 qa := sits_mk hs; clear hs
  focus
   refine cw_seq (cS (C1 Mv (C1 Pz (C1 Mv (C1 V3 (cT (Wnd (cw_exit (qw_then_exit (qw_then_exit (qw_block_exit ?_))))))))))); refine qw_then (cS (C1 Mv ?_)); refine cC rfl (fexpect_c _ _ _ _ (by assumption) (by decide)) ?_; rintro _ wb3 ⟨⟨⟩, ⟨hb1, fb2⟩⟩; have zb4 := fb2.size; clear hP2; replace X2 := X2.fr fb2 (by omega); replace hs2 := Nd.sits.fr hs2 fb2 (by omega); clear fb2; refine cN (C1 Mv (C1 Pa (cT (cw_ret (qw_ret1 rfl rfl ?_))))); rotate_left 1
  exact listF_ret rfl (kidsSitsF (by assumption)) (by assumption) X2
end Bk
namespace Bk
open Go Go.RowKit Go.Proofs
attribute [local irreducible] Go.Calls
theorem mS_len {ts : List Tok} {σ : PS} : mS ts σ ≤ ts.length := by unfold mS; split <;> omega
set_option maxRecDepth 100000 in
set_option maxHeartbeats 2000000 in
theorem named_fw (c : PCF) (k : Nat) (IH : ∀ j, j ≤ k → ExprsFC c j) : NamedFC c (k + 1) := by
 intro σ w hP hk; have X := Fr.refl (· = c.pb) w; have hpb := hP.pbB; have hB := hP.B; have hlen := hP.len; have l1 := name_le (n := c.n) hP.at_; have m1 := mS_nam (n := c.n) hP.at_
 cases h1 : hasP c.ts (nameP c.ts c.n σ).2 [40]
 case false =>
  rw [show namedF c.ts c.n (k + 1) σ = (.mk 81 0 (nameP c.ts c.n σ).1 [], (nameP c.ts c.n σ).2) from by rw [namedF]; simp [h1]]; refine calls_in Tryz.func121 Tryz.ntmps121 rfl rfl ?_
  focus
   refine cS ?_; (refine lw_alloc' [_, _, _, _] zOk rfl rfl ?_; intro b1 w2 n3); have h5 := n3.blk; have x6 := n3.ext; have p7 := n3.pos; have z8 := n3.size; clear n3; replace hP := hP.ext x6; replace X := X.ext x6; clear x6; refine cN (C1 Mv ?_); refine cC rfl (fname_c _ _ _ (by assumption)) ?_; rintro _ w11 ⟨⟨⟩, ⟨h9, f10⟩⟩; have z12 := f10.size; replace h5 := h5.fr f10 (by omega); clear hP; replace X := X.fr f10 (by omega); clear f10; refine C1 Pa (cT (cw_seq (cS (C1 Mv ?_)))); refine cC rfl (faccept_f _ _ _ _ (by assumption) (by decide) (by assumption)) ?_; rintro _ w15 ⟨⟨⟩, ⟨h13, f14⟩⟩; have z16 := f14.size; clear h9; replace h5 := h5.fr f14 (by omega); replace X := X.fr f14 (by omega); clear f14; refine C1 Pt (cT (cw_cond_t rfl (cS (C1 Mv (C1 (pur_build' [_, _, _, _] tabOk zOk rfl rfl rfl rfl) ?_))))); (refine lw_store' [_, _, _, _] [_, _, _, _] tabOk rfl rfl rfl rfl rfl rfl h5 rfl rfl ?_; intro w17 n18); have h21 := n18.blk; have f19 := n18.fr; have z20 := n18.size; clear n18 h5; replace h13 := h13.fr f19 (by omega); replace X := X.fr f19 (by omega); clear f19; refine cT (cw_ret (qw_then_ret (qw_retc rfl tabOk rfl rfl rfl h21 rfl ?_))); rotate_left 1
  exact treeF_ret sits_nil (by assumption) X
 have i1 := has_in l1.wf h1 (by decide); have l2 := next_le i1; have m2 := mS_next i1
 cases h2 : hasP c.ts (nextP (nameP c.ts c.n σ).2) [41]
 case true =>
  rw [show namedF c.ts c.n (k + 1) σ = (.mk 85 0 (nameP c.ts c.n σ).1 [], nextP (nextP (nameP c.ts c.n σ).2)) from by rw [namedF]; simp [h1, h2]]; refine calls_in Tryz.func121 Tryz.ntmps121 rfl rfl ?_
  focus
   refine cS ?_; (refine lw_alloc' [_, _, _, _] zOk rfl rfl ?_; intro ba1 wa2 na3); have ha5 := na3.blk; have xa6 := na3.ext; have pa7 := na3.pos; have za8 := na3.size; clear na3; replace hP := hP.ext xa6; replace X := X.ext xa6; clear xa6; refine cN (C1 Mv ?_); refine cC rfl (fname_c _ _ _ (by assumption)) ?_; rintro _ wa11 ⟨⟨⟩, ⟨ha9, fa10⟩⟩; have za12 := fa10.size; replace ha5 := ha5.fr fa10 (by omega); clear hP; replace X := X.fr fa10 (by omega); clear fa10; refine C1 Pa (cT (cw_seq (cS (C1 Mv ?_)))); refine cC rfl (faccept_t _ _ _ _ (by assumption) (by decide) (by assumption)) ?_; rintro _ wa15 ⟨⟨⟩, ⟨ha13, fa14⟩⟩; have za16 := fa14.size; clear ha9; replace ha5 := ha5.fr fa14 (by omega); replace X := X.fr fa14 (by omega); clear fa14; refine C1 Pt (cT (cw_cond_f rfl (cw_skip (qw_then (cS (C1 Mv (C1 (pur_build' [_, _, _, _] tabOk zOk rfl rfl rfl rfl) ?_))))))); (refine lw_alloc' [_, _, _, _] zOk rfl rfl ?_; intro ba17 wa18 na19); (refine lw_init' [_, _, _, _] tabOk rfl rfl rfl rfl rfl rfl na19 rfl ?_; clear na19; clear wa18; intro wa20 na19); have ha21 := na19.blk; have xa22 := na19.ext; have pa23 := na19.pos; have za24 := na19.size; clear na19; replace ha13 := ha13.ext xa22; replace ha5 := ha5.ext xa22; replace X := X.ext xa22; clear xa22; refine cT (cw_seq (cS (C1 Mv ?_))); refine cC rfl (faccept_t _ _ _ _ (by assumption) (by decide) (by assumption)) ?_; rintro _ wa27 ⟨⟨⟩, ⟨ha25, fa26⟩⟩; have za28 := fa26.size; replace ha21 := ha21.fr fa26 (by omega); clear ha13; replace ha5 := ha5.fr fa26 (by omega)
   replace X := X.fr fa26 (by omega); clear fa26; refine cT (cw_cond_t rfl (cS (lw_loads_b' [_, _, _, _] tabOk rfl rfl rfl ha21 rfl rfl rfl ?_))); (refine lw_store' [_, _, _, _] [_, _, _, _] tabOk rfl rfl rfl rfl rfl rfl ha5 rfl rfl ?_; intro wa29 na30); have ha33 := na30.blk; have fa31 := na30.fr; have za32 := na30.size; clear na30 ha5; replace ha25 := ha25.fr fa31 (by omega); replace ha21 := ha21.fr fa31 (by omega); replace X := X.fr fa31 (by omega); clear fa31; refine cT (cw_ret (qw_then_ret (qw_retc rfl tabOk rfl rfl rfl ha33 rfl ?_))); rotate_left 1
  exact treeF_ret sits_nil (by assumption) X
 rw [show namedF c.ts c.n (k + 1) σ = (.mk 85 0 (nameP c.ts c.n σ).1 (moreF c.ts c.n k [(exprF c.ts c.n k 1 (nextP (nameP c.ts c.n σ).2)).1] (exprF c.ts c.n k 1 (nextP (nameP c.ts c.n σ).2)).2).1, expectP c.ts c.n (moreF c.ts c.n k [(exprF c.ts c.n k 1 (nextP (nameP c.ts c.n σ).2)).1] (exprF c.ts c.n k 1 (nextP (nameP c.ts c.n σ).2)).2).2 [41]) from by rw [namedF]; simp [h1, h2]]; have l3 := exprF_le' (n := c.n) (k := k) (lv := 1) l2.wf; have m3 := mS_le l3; have m4 := mS_len (ts := c.ts) (σ := σ); clear l1 l2 l3 i1; refine calls_in Tryz.func121 Tryz.ntmps121 rfl rfl ?_
 focus
  refine cS ?_; (refine lw_alloc' [_, _, _, _] zOk rfl rfl ?_; intro bb1 wb2 nb3); have hb5 := nb3.blk; have xb6 := nb3.ext; have pb7 := nb3.pos; have zb8 := nb3.size; clear nb3; replace hP := hP.ext xb6; replace X := X.ext xb6; clear xb6; refine cN (C1 Mv ?_); refine cC rfl (fname_c _ _ _ (by assumption)) ?_; rintro _ wb11 ⟨⟨⟩, ⟨hb9, fb10⟩⟩; have zb12 := fb10.size; replace hb5 := hb5.fr fb10 (by omega); clear hP; replace X := X.fr fb10 (by omega); clear fb10; refine C1 Pa (cT (cw_seq (cS (C1 Mv ?_)))); refine cC rfl (faccept_t _ _ _ _ (by assumption) (by decide) (by assumption)) ?_; rintro _ wb15 ⟨⟨⟩, ⟨hb13, fb14⟩⟩; have zb16 := fb14.size; clear hb9; replace hb5 := hb5.fr fb14 (by omega); replace X := X.fr fb14 (by omega); clear fb14; refine C1 Pt (cT (cw_cond_f rfl (cw_skip (qw_then (cS (C1 Mv (C1 (pur_build' [_, _, _, _] tabOk zOk rfl rfl rfl rfl) ?_))))))); (refine lw_alloc' [_, _, _, _] zOk rfl rfl ?_; intro bb17 wb18 nb19); (refine lw_init' [_, _, _, _] tabOk rfl rfl rfl rfl rfl rfl nb19 rfl ?_; clear nb19; clear wb18; intro wb20 nb19); have hb21 := nb19.blk; have xb22 := nb19.ext; have pb23 := nb19.pos; have zb24 := nb19.size; clear nb19; replace hb13 := hb13.ext xb22; replace hb5 := hb5.ext xb22; replace X := X.ext xb22; clear xb22; refine cT (cw_seq (cS (C1 Mv ?_))); refine cC rfl (faccept_f _ _ _ _ (by assumption) (by decide) (by assumption)) ?_; rintro _ wb27 ⟨⟨⟩, ⟨hb25, fb26⟩⟩; have zb28 := fb26.size; replace hb21 := hb21.fr fb26 (by omega); clear hb13; replace hb5 := hb5.fr fb26 (by omega)
  replace X := X.fr fb26 (by omega); clear fb26; refine cT (cw_cond_f rfl (cw_skip (qw_then ?_))); rotate_left 1
 have hown : OwnQ ndShape wb27 (bb17 < ·) (bb17 + 1) 40 (.slice none 0 0) [] := OwnQ.nil
 focus
  refine cw_seq ?_; (refine cw_tdraw (fun wz => Fr (· = c.pb) wb27 wz) 5 (.pure 0 (.pure 1 (.pure 2 (.fork 3 (.fork 4 .tail .none) .none)))) mixed (by kernel_rfl) (panicOk_then panicOk_body) ?_; intro wc1 xc2 _); have qsc3 : (fun wz => Fr (· = c.pb) wb27 wz) wc1 := Fr.of_ext xc2; simp only at qsc3; have d_hb25 := hb25; have d_hb21 := hb21; have d_hb5 := hb5; have d_hown := hown; have zc4 := xc2.size; replace hb25 := hb25.ext xc2; replace hb21 := hb21.ext xc2; replace hb5 := hb5.ext xc2; replace X := X.ext xc2; replace hown := hown.ext xc2; clear xc2; refine ⟨qsc3, ?_⟩; refine Tq rfl Pf ?_; refine Tq rfl (pur_load tabOk rfl rfl rfl (fun wz hz => Blk.cell (Blk.fr d_hb21 hz (by first | omega | (dsimp only; omega))) rfl)) ?_; refine Tq rfl Mv ?_; refine tw_does rfl (does_call (by kernel_rfl) rfl ((IH k (Nat.le_refl _)).e _ _ _ (by assumption) (by omega) (by decide) (by decide)) (fun _ _ h => h.ret)) rfl ?_ (fun _ h => h) tw_none; rintro _ wc11 ⟨ac6, ⟨kc7, ⟨⟨⟩, ⟨hc8, ⟨hc9, fc10⟩⟩⟩⟩⟩; have zc12 := fc10.size; replace qsc3 := qsc3.fr fc10 (by omega); clear hb25; replace hb21 := hb21.fr fc10 (by omega); replace hb5 := hb5.fr fc10 (by omega); replace X := X.fr fc10 (by omega); replace hown := OwnQ.fr hown fc10 (fun k hk => ⟨fun h => by (try dsimp only at hk h); omega, fun e => by have := OwnQ.ge (by assumption) e; (try dsimp only at hk); omega⟩); clear fc10; refine ⟨qsc3, ?_⟩; (refine tw_does rfl (does_slice' [_, _, _, _] tabOk zOk rfl rfl rfl rfl rfl rfl rfl rfl rfl) rfl ?_ (fun _ h => h) tw_none; rintro _ wc15 ⟨bc14, rfl, nc16, tc17⟩)
  clear tc17; have hc18 := nc16.blk; have xc19 := nc16.ext; have pc20 := nc16.pos; have zc21 := nc16.size; clear nc16; replace hc8 := Nd.sits.ext hc8 xc19; replace hc9 := hc9.ext xc19; replace qsc3 := qsc3.ext xc19; replace hb21 := hb21.ext xc19; replace hb5 := hb5.ext xc19; replace X := X.ext xc19; replace hown := hown.ext xc19; clear xc19; refine ⟨qsc3, ?_⟩; clear d_hb25 d_hb21 d_hb5 d_hown qsc3; refine tw_tail rfl ?_; refine lw_does (does_appendQ (R := (bb17 < ·)) (sh := ndShape) tabOk zOk rfl rfl rfl rfl (by kernel_rfl) rfl rfl rfl (by assumption) (fun _ h => by exact h) (Blk.row (by assumption)) ⟨_, _, rfl, Nd.sits.wide (by assumption) (fun b h => ⟨by omega, fun e => by simp [Value.ownBlock] at e⟩)⟩ (by simp) (by omega)) rfl ?_ (fun _ h => h); rintro _ wc28 ⟨gc22, ⟨capc23, ⟨rfl, ⟨hc24, ⟨hc25, ⟨hc26, fc27⟩⟩⟩⟩⟩⟩; have zc29 := fc27.size; replace hc18 := Blk.fr hc18 fc27 (fun e => (Option.some_ne_none _ e.symm).elim); replace hc8 := Nd.sits.fr hc8 fc27 (fun b hb hT => (Option.some_ne_none _ hT.symm).elim); replace hc9 := PPF.fr hc9 fc27 (fun k hk => (Option.some_ne_none _ hk.symm).elim); replace hb21 := Blk.fr hb21 fc27 (fun e => (Option.some_ne_none _ e.symm).elim); replace hb5 := Blk.fr hb5 fc27 (fun e => (Option.some_ne_none _ e.symm).elim); replace X := Fr.fr X fc27 (fun k hk => (Option.some_ne_none _ hk.symm).elim); replace hown := OwnQ.fr hown fc27 (fun k hk => (Option.some_ne_none _ hk.symm).elim); clear fc27; refine C1 Pf ?_; (refine lw_store' [_] [_, _, _, _] tabOk rfl rfl rfl rfl rfl rfl hb21 rfl rfl ?_; intro wc30 nc31)
  have hc34 := nc31.blk; have fc32 := nc31.fr; have zc33 := nc31.size; clear nc31 hb21; replace hc24 := OwnQ.fr hc24 fc32 (fun k hk => ⟨fun h => by (try dsimp only at hk h); omega, fun e => by have := OwnQ.ge (by assumption) e; (try dsimp only at hk); omega⟩); replace hc18 := hc18.fr fc32 (by omega); replace hc8 := Nd.sits.fr hc8 fc32 (by omega); replace hc9 := hc9.fr fc32 (by omega); replace hb5 := hb5.fr fc32 (by omega); replace X := X.fr fc32 (by omega); replace hown := OwnQ.fr hown fc32 (fun k hk => ⟨fun h => by (try dsimp only at hk h); omega, fun e => by have := OwnQ.ge (by assumption) e; (try dsimp only at hk); omega⟩); clear fc32; refine cT (cw_seq (cw_block ?_)); rotate_left 1
 clear hown hc25 hc18 hc8 h1 h2
 generalize hE0 : exprF c.ts c.n k 1 (nextP (nameP c.ts c.n σ).2) = r0 at *
 generalize (nameP c.ts c.n σ).1 = nm at *
 have hf0 : 4 * mS c.ts r0.2 + 1 ≤ k := by omega
 have ha0 : 1 + mS c.ts r0.2 ≤ 1000001 := by omega
 refine cw_loop (ι := Nat × List Nd × Option Addr × Nat × PS) (fun x => [(0, .pointer (some ⟨c.pb, 0, none⟩)), (2, .pointer (some ⟨bb1, 0, none⟩)), (4, .pointer (some ⟨bb17, 0, none⟩))])
  (fun x w' => PPF c x.2.2.2.2 w' ∧ Blk w' bb17 [.int .u8 85, .int .i64 0, str nm, .slice x.2.2.1 x.2.1.length x.2.2.2.1] ∧ OwnQ ndShape w' (bb17 < ·) (bb17 + 1) 40 (.slice x.2.2.1 x.2.1.length x.2.2.2.1) x.2.1 ∧ Blk w' bb1 [.int .u8 0, .int .i64 0, .string ⟨#[]⟩, .slice none 0 0] ∧ Fr (· = c.pb) w w' ∧ wc30.heap.size ≤ w'.heap.size ∧
   moreF c.ts c.n k [r0.1] r0.2 = moreF c.ts c.n x.1 x.2.1 x.2.2.2.2 ∧ 4 * mS c.ts x.2.2.2.2 + 1 ≤ x.1 ∧ x.1 ≤ k ∧ x.2.1.length + mS c.ts x.2.2.2.2 ≤ 1000001) (fun x => x.1) (k, [r0.1], some ⟨gc22, 0, none⟩, capc23, r0.2) (by (refine sub_cons rfl ?_; refine sub_cons rfl ?_; refine sub_cons rfl ?_; exact sub_nil))
  ⟨hc9, hc34, hc24, hb5, X, Nat.le_refl _, rfl, hf0, Nat.le_refl _, by simpa using ha0⟩ ?_
 clear hc9 hc34 hc24 hb5 X; rintro ⟨j, acc, a, cap, σ'⟩ w1 ⟨hP, hbn, hown, hbr, X, hz, he, hfj, hjk, hacc⟩; simp only at hP hbn hown he hfj hjk hacc; rw [he]; clear he hf0 ha0; obtain ⟨j, rfl⟩ : ∃ i, j = i + 1 := ⟨j - 1, by omega⟩
 have hob : ∀ g, (Value.slice a acc.length cap).ownBlock = some g → bb17 + 1 ≤ g ∧ g < w1.heap.size := fun g h => ⟨hown.ge h, hown.lt h⟩
 cases hh : hasP c.ts σ' [44]
 · rw [show moreF c.ts c.n (j + 1) acc σ' = (acc, σ') from by rw [moreF]; simp [hh]]
   have hst : rowSits (w.heap.size ≤ ·) w1 acc a := hown.rowsits (fun b h => by omega) (fun b h => by omega); have hs2 : (Nd.mk 85 0 nm acc).sits (fun b => w.heap.size ≤ b ∧ b ≠ bb1) w1 a := sits_mk (hown.rowsits (fun b h => ⟨by omega, by omega⟩) (fun b h => ⟨by omega, by omega⟩)); clear hown hst
   focus
    refine cw_seq (cS (C1 Mv ?_)); refine cC rfl (faccept_f _ _ _ _ (by assumption) (by decide) (by assumption)) ?_; rintro _ wd3 ⟨⟨⟩, ⟨hd1, fd2⟩⟩; have zd4 := fd2.size; clear hP; replace hbn := hbn.fr fd2 (by omega); replace hbr := hbr.fr fd2 (by omega); replace X := X.fr fd2 (by omega); replace hs2 := Nd.sits.fr hs2 fd2 (by omega); clear fd2; refine cT (cw_cond_f rfl (cw_exit (qw_then_exit (qw_then_exit (qw_block_exit (qw_then (cS (C1 Mv ?_)))))))); refine cC rfl (fexpect_c _ _ _ _ (by assumption) (by decide)) ?_; rintro _ wd7 ⟨⟨⟩, ⟨hd5, fd6⟩⟩; have zd8 := fd6.size; clear hd1; replace hbn := hbn.fr fd6 (by omega); replace hbr := hbr.fr fd6 (by omega); replace X := X.fr fd6 (by omega); replace hs2 := Nd.sits.fr hs2 fd6 (by omega); clear fd6; refine cN (lw_loads_b' [_, _, _, _] tabOk rfl rfl rfl hbn rfl rfl rfl ?_); (refine lw_store' [_, _, _, _] [_, _, _, _] tabOk rfl rfl rfl rfl rfl rfl hbr rfl rfl ?_; intro wd9 nd10); have hd13 := nd10.blk; have fd11 := nd10.fr; have zd12 := nd10.size; clear nd10 hbr; replace hd5 := hd5.fr fd11 (by omega); replace hbn := hbn.fr fd11 (by omega); replace X := X.fr fd11 (by omega); replace hs2 := Nd.sits.fr hs2 fd11 (by omega); clear fd11; refine cT (cw_ret (qw_retc rfl tabOk rfl rfl rfl hd13 rfl ?_)); rotate_left 1
   exact treeF_ret (r := (Nd.mk 85 0 nm acc, _)) (Nd.sits.wide hs2 (fun b h => h.1)) (by assumption) X
 · rw [show moreF c.ts c.n (j + 1) acc σ' = moreF c.ts c.n j (acc ++ [(exprF c.ts c.n j 1 (nextP σ')).1]) (exprF c.ts c.n j 1 (nextP σ')).2 from by rw [moreF]; simp [hh]]
   have i1 := has_in hP.at_ hh (by decide); have l1 := next_le i1; have m1 := mS_next i1; have l2 := exprF_le' (n := c.n) (k := j) (lv := 1) l1.wf; have m2 := mS_le l2; clear i1 l1 l2
   focus
    refine cw_seq (cS (C1 Mv ?_)); refine cC rfl (faccept_t _ _ _ _ (by assumption) (by decide) (by assumption)) ?_; rintro _ we3 ⟨⟨⟩, ⟨he1, fe2⟩⟩; have ze4 := fe2.size; clear hP; replace hbn := hbn.fr fe2 (by omega); replace hown := OwnQ.fr hown fe2 (fun k hk => ⟨fun h => by (try dsimp only at hk h); omega, fun e => by have := OwnQ.ge (by assumption) e; (try dsimp only at hk); omega⟩); replace hbr := hbr.fr fe2 (by omega); replace X := X.fr fe2 (by omega); clear fe2; refine cT (cw_cond_t rfl (cw_skip (qw_then (cw_block ?_)))); (refine cw_tdraw (fun wz => Fr (· = c.pb) we3 wz) 5 (.pure 0 (.pure 1 (.pure 2 (.fork 3 (.fork 4 .tail .none) .none)))) mixed (by kernel_rfl) (panicOk_block (panicOk_then (panicOk_block (panicOk_then panicOk_body)))) ?_; intro we5 xe6 _); have qse7 : (fun wz => Fr (· = c.pb) we3 wz) we5 := Fr.of_ext xe6; simp only at qse7; have d_he1 := he1; have d_hbn := hbn; have d_hown := hown; have d_hbr := hbr; have ze8 := xe6.size; replace he1 := he1.ext xe6; replace hbn := hbn.ext xe6; replace hown := hown.ext xe6; replace hbr := hbr.ext xe6; replace X := X.ext xe6; clear xe6; refine ⟨qse7, ?_⟩; refine Tq rfl Pf ?_; refine Tq rfl (pur_load tabOk rfl rfl rfl (fun wz hz => Blk.cell (Blk.fr d_hbn hz (by first | omega | (dsimp only; omega))) rfl)) ?_; refine Tq rfl Mv ?_; refine tw_does rfl (does_call (by kernel_rfl) rfl ((IH j (by omega)).e _ _ _ (by assumption) (by omega) (by decide) (by decide)) (fun _ _ h => h.ret)) rfl ?_ (fun _ h => h) tw_none; rintro _ we15 ⟨ae10, ⟨ke11, ⟨⟨⟩, ⟨he12, ⟨he13, fe14⟩⟩⟩⟩⟩
    have ze16 := fe14.size; replace qse7 := qse7.fr fe14 (by omega); clear he1; replace hbn := hbn.fr fe14 (by omega); replace hown := OwnQ.fr hown fe14 (fun k hk => ⟨fun h => by (try dsimp only at hk h); omega, fun e => by have := OwnQ.ge (by assumption) e; (try dsimp only at hk); omega⟩); replace hbr := hbr.fr fe14 (by omega); replace X := X.fr fe14 (by omega); clear fe14; refine ⟨qse7, ?_⟩; (refine tw_does rfl (does_slice' [_, _, _, _] tabOk zOk rfl rfl rfl rfl rfl rfl rfl rfl rfl) rfl ?_ (fun _ h => h) tw_none; rintro _ we19 ⟨be18, rfl, ne20, te21⟩); clear te21; have he22 := ne20.blk; have xe23 := ne20.ext; have pe24 := ne20.pos; have ze25 := ne20.size; clear ne20; replace he12 := Nd.sits.ext he12 xe23; replace he13 := he13.ext xe23; replace qse7 := qse7.ext xe23; replace hbn := hbn.ext xe23; replace hown := hown.ext xe23; replace hbr := hbr.ext xe23; replace X := X.ext xe23; clear xe23; refine ⟨qse7, ?_⟩; clear d_he1 d_hbn d_hown d_hbr qse7; refine tw_tail rfl ?_; refine lw_does (does_appendQ (R := (bb17 < ·)) (sh := ndShape) tabOk zOk rfl rfl rfl rfl (by kernel_rfl) rfl rfl rfl (by assumption) (fun _ h => by exact h) (Blk.row (by assumption)) ⟨_, _, rfl, Nd.sits.wide (by assumption) (fun b h => ⟨by omega, fun e => by have := hob _ e; omega⟩)⟩ (by omega) (by omega)) rfl ?_ (fun _ h => h); rintro _ we32 ⟨ge26, ⟨cape27, ⟨rfl, ⟨he28, ⟨he29, ⟨he30, fe31⟩⟩⟩⟩⟩⟩; have ze33 := fe31.size; replace he22 := Blk.fr he22 fe31 (fun e => by have := hob _ e; omega); clear he12; replace he13 := PPF.fr he13 fe31 (fun k hk => by have := hob _ hk; omega)
    replace hbn := Blk.fr hbn fe31 (fun e => by have := hob _ e; omega); clear hown; replace hbr := Blk.fr hbr fe31 (fun e => by have := hob _ e; omega); replace X := Fr.fr X fe31 (fun k hk => by have := hob _ hk; omega); clear fe31; refine C1 Pf ?_; (refine lw_store' [_] [_, _, _, _] tabOk rfl rfl rfl rfl rfl rfl hbn rfl rfl ?_; intro we34 ne35); have he38 := ne35.blk; have fe36 := ne35.fr; have ze37 := ne35.size; clear ne35 hbn; replace he28 := OwnQ.fr he28 fe36 (fun k hk => ⟨fun h => by (try dsimp only at hk h); omega, fun e => by have := OwnQ.ge (by assumption) e; (try dsimp only at hk); omega⟩); replace he22 := he22.fr fe36 (by omega); replace he13 := he13.fr fe36 (by omega); replace hbr := hbr.fr fe36 (by omega); replace X := X.fr fe36 (by omega); clear fe36; refine lw_nil (qw_block_norm ?_); rotate_left 1
   exact qw_round (j, acc ++ [(exprF c.ts c.n j 1 (nextP σ')).1], some ⟨_, 0, none⟩, _, (exprF c.ts c.n j 1 (nextP σ')).2) (by (refine sub_cons rfl ?_; refine sub_cons rfl ?_; refine sub_cons rfl ?_; exact sub_nil)) ⟨by assumption, by assumption, by assumption, by assumption, X, by omega, rfl, by simp only; omega, by simp only; omega, by simp only [List.length_append, List.length_cons, List.length_nil]; omega⟩ (by simp)
end Bk
