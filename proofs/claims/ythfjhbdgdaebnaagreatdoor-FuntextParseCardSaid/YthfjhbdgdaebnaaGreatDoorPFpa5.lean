/- Texts that the proofs of FuntextParse need. No condition. (Part 5 of 8.) -/
import Derived.Test.YthfjhbdgdaebnaaGreatDoorPFpa4
set_option linter.unusedSimpArgs false
set_option linter.unusedVariables false
namespace Bk
open Go Go.RowKit Go.Proofs
attribute [local irreducible] Go.Calls
def visM (l : List FP) : List (List UInt8 × Value) := l.foldl (fun m p => setS m p.name (.bool p.list)) []
theorem visM_snoc (l : List FP) (p : FP) : visM (l ++ [p]) = setS (visM l) p.name (.bool p.list) := by simp [visM]
theorem visM_take {l : List FP} {j : Nat} (hj : j < l.length) : setS (visM (l.take j)) l[j].name (.bool l[j].list) = visM (l.take (j + 1)) := by
 rw [List.take_succ_eq_append_getElem hj, visM_snoc]
def visL (l : List FP) : Vis := l.map fun p => (p.name, p.list)
theorem seen_append (a b : Vis) (s : List UInt8) : seen (a ++ b) s = (seen a s).or (seen b s) := by
 unfold seen
 rw [List.find?_append]
 cases a.find? (fun p => decide (p.1 = s)) <;> simp
theorem seen_none {l : List FP} {s : List UInt8} (h : s ∉ l.map FP.name) : seen (visL l) s = none := by
 unfold seen visL
 rw [Option.map_eq_none_iff, List.find?_eq_none]; intro x hx; obtain ⟨p, hp, rfl⟩ := List.mem_map.1 hx
 have : p.name ≠ s := fun e => h (List.mem_map.2 ⟨p, hp, e⟩)
 simpa using this
theorem visM_ok : ∀ l : List FP, (l.map FP.name).Nodup → VisOk (visM l) (visL l) := by
 have key : ∀ r l : List FP, VisOk (visM l) (visL l) → ((l ++ r).map FP.name).Nodup → VisOk (visM (l ++ r)) (visL (l ++ r)) := by
  intro r
  induction r with
  | nil => intro l h _; simpa using h
  | cons p r ih =>
   intro l h hn
   have e : l ++ p :: r = (l ++ [p]) ++ r := by simp
   rw [e] at hn ⊢; refine ih _ (fun s => ?_) hn; rw [visM_snoc, getS_set]
   have hv : visL (l ++ [p]) = visL l ++ [(p.name, p.list)] := by simp [visL]
   rw [hv, seen_append]
   by_cases hs : s = p.name
   · subst hs
     rw [if_pos rfl]
     have : p.name ∉ l.map FP.name := by
      rw [List.map_append, List.nodup_append] at hn; have h1 := hn.1; rw [List.map_append, List.nodup_append] at h1; intro hm
      exact h1.2.2 _ hm p.name (by simp) rfl
     rw [seen_none this]
     simp [seen]
   · rw [if_neg hs, h s]
     have : seen [(p.name, p.list)] s = none := by
      have hd : p.name ≠ s := fun e => hs e.symm
      simp [seen, hd]
     rw [this]
     cases seen (visL l) s <;> rfl
 intro l h; have := key l [] (by intro s; simp [visM, visL, seen, getS]) (by simpa using h)
 simpa using this
set_option maxRecDepth 100000 in
set_option maxHeartbeats 8000000 in
theorem check_c (lib : List FD) (ps : List FP) (t : Nd) (la pa a : Option Addr) (lc pc c : Nat) (w : World) (hL : lib.length ≤ 1000000) (hps : ∀ f ∈ lib, f.params.length ≤ 1000000) (hpl : ps.length ≤ 1000000) (hnd : (ps.map FP.name).Nodup) (ht : t.size ≤ 1000000) (hwf : t.wf) (hf : t.formed = true) (S S' S'' : Nat → Prop) (hd : FDs S w lib la) (hp : FPs S' w ps pa) (hs : t.sits S'' w a) :
 Calls Tryz.prog 71 #[.slice la lib.length lc, .slice pa ps.length pc, t.val a c] w (ResultR w (t.chk lib (visL ps))) := by
 have X := Ext.refl w; replace hd := hd.ltA; replace hp := hp.ltA
 replace hs : t.sits (· < w.heap.size) w a := Nd.sits.wide (sits_lt2 _ _ hs) fun _ h => h.2
 have hV := visM_ok ps hnd; have HK := Lib.hid (fun (bl bv bf r : Nat) (h : w.heap.size ≤ bl ∧ bl < r ∧ r < bv ∧ bv < bf) => visit_c lib la lc bl bv bf r w.heap.size h hL hps (t.size + 1) t (visM ps) (visL ps) a c); have HK2 := Lib.hid (fun (bl bv bf r : Nat) (h : w.heap.size ≤ bl ∧ bl < r ∧ r < bv ∧ bv < bf) (w' : World) h1 h2 h3 h4 h5 h6 h7 => Calls.mono (HK.out bl bv bf r h w' (by omega) ht hwf hf h1 h2 hV h3 h4 h5 h6 h7) (fun e w'' h => (⟨h.1, h.2.1⟩ : e = .returned (.tuple #[.bool (t.chk lib (visL ps)).1, .int .i64 (t.chk lib (visL ps)).2]) ∧ Fr (· = r) w' w''))); clear HK hV hwf hf hnd hps
 generalize t.chk lib (visL ps) = q at *
 refine calls_in Tryz.func71 Tryz.ntmps71 rfl rfl ?_
 focus
  refine cS ?_; (refine lw_box' [_] rfl rfl rfl ?_; intro b1 w2 n3); have h4 := n3.blk; have x5 := n3.ext; have p6 := n3.pos; have z7 := n3.size; clear n3; replace X := X.ext x5; replace hd := hd.ext x5; replace hp := hp.ext x5; replace hs := Nd.sits.ext hs x5; clear x5; (refine lw_box' [_, _, _, _] rfl rfl rfl ?_; intro b8 w9 n10); have h11 := n10.blk; have x12 := n10.ext; have p13 := n10.pos; have z14 := n10.size; clear n10; replace h4 := h4.ext x12; replace X := X.ext x12; replace hd := hd.ext x12; replace hp := hp.ext x12; replace hs := Nd.sits.ext hs x12; clear x12; refine C1 Pa (C1 Pa (cN (lw_makeMap rfl ?_))); rintro r15 w16 rfl h17 x18 h19; have z20 := x18.size; replace h11 := h11.ext x18; replace h4 := h4.ext x18; replace X := X.ext x18; replace hd := hd.ext x18; replace hp := hp.ext x18; replace hs := Nd.sits.ext hs x18; clear x18; (refine lw_alloc' [_] zOk rfl rfl ?_; intro b21 w22 n23); (refine lw_init' [_] tabOk rfl rfl rfl rfl rfl rfl n23 rfl ?_; clear n23; clear w22; intro w24 n23); have h25 := n23.blk; have x26 := n23.ext; have p27 := n23.pos; have z28 := n23.size; clear n23; replace h17 := h17.ext x26; replace h11 := h11.ext x26; replace h4 := h4.ext x26; replace X := X.ext x26; replace hd := hd.ext x26; replace hp := hp.ext x26; replace hs := Nd.sits.ext hs x26; clear x26; refine cT (cw_seq (cS (C1 Mv (C1 Pz (C1 Mv (cT (cw_block ?_))))))); rotate_left 1
 generalize hr : w9.heap.size = r at *
 refine cw_loop (ι := Nat) (fun j => [(3, .pointer (some ⟨b1, 0, none⟩)), (5, .pointer (some ⟨b8, 0, none⟩)), (8, .pointer (some ⟨b21, 0, none⟩)), (13, .slice pa ps.length pc), (14, .int .i64 ps.length), (15, .int .i64 j)])
  (fun j w' => FPs (· < w.heap.size) w' ps pa ∧ FDs (· < w.heap.size) w' lib la ∧ t.sits (· < w.heap.size) w' a ∧ MapIs w' r (visM (ps.take j)) ∧ Blk w' b21 [.map (some r)] ∧ Blk w' b8 [.int .u8 t.kind, .int .i64 t.num, str t.name, .slice a t.kids.length c] ∧ Blk w' b1 [.slice la lib.length lc] ∧ Ext w w' ∧ b21 < w'.heap.size ∧ j ≤ ps.length) (fun j => ps.length - j) 0 (by (refine sub_cons rfl ?_; refine sub_cons rfl ?_; refine sub_cons rfl ?_; refine sub_cons rfl ?_; refine sub_cons rfl ?_; refine sub_cons rfl ?_; exact sub_nil)) ⟨hp, hd, hs, h17, by assumption, by assumption, by assumption, X, by omega, Nat.zero_le _⟩ ?_
 clear hp hd hs h17 h25 h11 h4 X; rintro j w1 ⟨hp, hd, hs, hM, hbv, hbn, hbl, X, hz, hj⟩
 by_cases hlt : j < ps.length
 · obtain ⟨kb, ko, ⟨⟩, -, hk⟩ := Arr.get hp (by omega)
   have hrx := hk j ps[j] (List.getElem?_eq_getElem hlt); simp only [FPAt] at hrx; have hst := visM_take hlt; clear hk
   generalize ps[j] = x at *
   focus
    refine cS (C1 V3 (cT (cw_seq (Wyo (cw_skip (qw_then (cw_seq (cw_block (cS (C1 Pi (C1 (Pws hrx) ?_))))))))))); (refine lw_alloc' [_, _] zOk rfl rfl ?_; intro ba1 wa2 na3); (refine lw_init' [_, _] tabOk rfl rfl rfl rfl rfl rfl na3 rfl ?_; clear na3; clear wa2; intro wa4 na3); have ha5 := na3.blk; have xa6 := na3.ext; have pa7 := na3.pos; have za8 := na3.size; clear na3; replace hd := hd.ext xa6; replace hs := Nd.sits.ext hs xa6; replace hM := hM.ext xa6; replace hbv := hbv.ext xa6; replace hbn := hbn.ext xa6; replace hbl := hbl.ext xa6; replace X := X.ext xa6; replace hp := hp.ext xa6; replace hrx := hrx.ext xa6; clear xa6; refine cT (cw_region (C1 (Pl hbv) (C1 Pg (C1 (Pl ha5) (C1 Pf (C1 (Pl ha5) (lw_mapput tabOk rfl rfl rfl rfl rfl hM ?_))))))); rintro wa9 ha10 fa11; have za12 := fa11.size; replace ha5 := ha5.fr fa11 (by omega); replace hd := hd.fr fa11 (by omega); replace hs := Nd.sits.fr hs fa11 (by omega); clear hM; replace hbv := hbv.fr fa11 (by omega); replace hbn := hbn.fr fa11 (by omega); replace hbl := hbl.fr fa11 (by omega); replace X := X.fr fa11 (by omega); replace hp := hp.fr fa11 (by omega); clear hrx fa11; refine lw_nil (qw_block_norm (qw_then (cw_region (C1 V7 (C1 Mv (lw_nil ?_)))))); rotate_left 1
   exact qw_round (j + 1) (by (refine sub_cons rfl ?_; refine sub_cons rfl ?_; refine sub_cons rfl ?_; refine sub_cons rfl ?_; refine sub_cons rfl ?_; refine sub_cons rfl ?_; exact sub_nil)) ⟨hp, hd, hs, by rw [← hst]; assumption, hbv, hbn, hbl, X, by omega, by omega⟩ (by omega)
 · have hje : j = ps.length := by omega
   subst hje; rw [List.take_length] at hM
   focus
    refine cS (C1 V3 (cT (cw_seq (Wno (cw_exit (qw_then_exit (qw_then_exit (qw_block_exit (qw_then (cS ?_)))))))))); (refine lw_alloc' [_] zOk rfl rfl ?_; intro bb1 wb2 nb3); have hb5 := nb3.blk; have xb6 := nb3.ext; have pb7 := nb3.pos; have zb8 := nb3.size; clear nb3; replace hp := hp.ext xb6; replace hd := hd.ext xb6; replace hs := Nd.sits.ext hs xb6; replace hbv := hbv.ext xb6; replace hbn := hbn.ext xb6; replace hbl := hbl.ext xb6; replace X := X.ext xb6; replace hM := hM.ext xb6; clear xb6; refine cN (C1 (pur_funcC rfl) ?_); (refine lw_store' [_] [_] tabOk rfl rfl rfl rfl rfl rfl hb5 rfl rfl ?_; intro wb9 nb10); have hb13 := nb10.blk; have fb11 := nb10.fr; have zb12 := nb10.size; clear nb10 hb5; replace hp := hp.fr fb11 (by omega); replace hd := hd.fr fb11 (by omega); replace hs := Nd.sits.fr hs fb11 (by omega); replace hbv := hbv.fr fb11 (by omega); replace hbn := hbn.fr fb11 (by omega); replace hbl := hbl.fr fb11 (by omega); replace X := X.fr fb11 (by omega); replace hM := hM.fr fb11 (by omega); clear fb11; refine cN (C1 (Pl hb13) (lw_loads_b' [_, _, _, _] tabOk rfl rfl rfl hbn rfl rfl rfl ?_)); refine lw_does (does_callv (fi := []) (ca := [.pointer (some ⟨b1, 0, none⟩), .pointer (some ⟨b21, 0, none⟩), .pointer (some ⟨bb1, 0, none⟩)]) (by kernel_rfl) rfl rfl (HK2.out b1 b21 bb1 r (by omega) _ (by assumption) (by assumption) (by assumption) (by assumption) (by assumption) (by assumption) (by omega)) (fun _ _ h => ⟨_, h.1⟩)) rfl ?_ (fun _ h => h); rintro _ wb15 ⟨⟨⟩, fb14⟩
    have zb16 := fb14.size; replace hb13 := hb13.fr fb14 (by omega); replace hp := hp.fr fb14 (by omega); replace hd := hd.fr fb14 (by omega); replace hs := Nd.sits.fr hs fb14 (by omega); replace hbv := hbv.fr fb14 (by omega); replace hbn := hbn.fr fb14 (by omega); replace hbl := hbl.fr fb14 (by omega); replace X := X.fr fb14 (by omega); clear hM fb14; refine C1 Px (C1 Px (C1 Pa (C1 Pa (cT (cw_ret (qw_ret2 rfl rfl rfl ?_)))))); rotate_left 1
   exact ⟨rfl, X⟩
end Bk
namespace Bk
open Go Go.RowKit Go.Proofs
attribute [local irreducible] Go.Calls
structure LibFew (lib : List FD) : Prop where
 len : lib.length ≤ 1000000
 all : ∀ f ∈ lib, f.name.length ≤ 9223372036854775807 ∧ f.params.length ≤ 1000000 ∧ (∀ p ∈ f.params, p.name.length ≤ 9223372036854775807) ∧ f.body.size ≤ 1000000 ∧ f.body.wf
theorem findF_mem {lib : List FD} {i : Nat} (h : i < lib.length) : ∃ q, findF lib lib[i].name = some q ∧ q ≤ i := by
 cases hf : findF lib lib[i].name with
 | none =>
  unfold findF at hf
  rw [List.findIdx?_eq_none_iff] at hf; have := hf lib[i] (List.getElem_mem h)
  simp at this
 | some q =>
  refine ⟨q, rfl, ?_⟩; obtain ⟨h1, h2, h3⟩ := List.findIdx?_eq_some_iff_getElem.1 hf
  rcases Nat.lt_or_ge i q with h4 | h4
  · have := h3 i h4
    simp at this
  · exact h4
theorem paramErr_nodup {l : List FP} (h : paramErr l = 0) : (l.map FP.name).Nodup := by
 unfold paramErr at h
 split at h
 · cases h
 · split at h
   · split at h
     · assumption
     · cases h
   · cases h
theorem params_v {l : List FP} {q : Int} (h : paramErr l = q) (S : Nat → Prop) (a : Option Addr) (c : Nat) (w : World) (hL : l.length ≤ 1000000) (hN : ∀ p ∈ l, p.name.length ≤ 9223372036854775807) (hs : FPs S w l a) :
 Calls Tryz.prog 68 #[.slice a l.length c] w fun e w' => e = .returned (.int .i64 q) ∧ Ext w w' := by
 have := parameters_c l S a c w hL hN hs
 rw [h] at this; exact this
theorem formed_v {t : Nd} {q : Bool} (h : t.formed = q) (ht : t.size ≤ 1000000) (hw : t.wf) (S : Nat → Prop) (a : Option Addr) (c : Nat) (w : World) (hs : t.sits S w a) :
 Calls Tryz.prog 69 #[t.val a c] w fun e w' => e = .returned (.bool q) ∧ Ext w w' := by
 have := formed_c (t.size + 1) t S a c w (by omega) (by omega) hw hs
 rw [h] at this; exact this
def IntR (w : World) (q : Int) (e : Ending) (w' : World) : Prop := e = .returned (.int .i64 q) ∧ Ext w w'
theorem intR {w w' : World} {q q' : Int} (h : q = q') (x : Ext w w') : IntR w q (.returned (.int .i64 q')) w' := ⟨by rw [h], x⟩
set_option maxRecDepth 100000 in
set_option maxHeartbeats 8000000 in
theorem fun_c (lib : List FD) (i : Nat) (S : Nat → Prop) (a : Option Addr) (c : Nat) (w : World) (hl : LibFew lib) (hi : i < lib.length) (hs : FDs S w lib a) :
 Calls Tryz.prog 36 #[.slice a lib.length c, .int .i64 i] w (IntR w (fnErr lib i lib[i])) := by
 have X := Ext.refl w; replace hs := hs.ltA; have hL := hl.len; obtain ⟨m1, m2, m3, m4, m5⟩ := hl.all _ (List.getElem_mem hi); obtain ⟨fq, hfq, hqi⟩ := findF_mem hi; have hps := Lib.hid (fun f hf => (hl.all f hf).2.1); clear hl; have hs2 := hs; obtain ⟨kb, ko, ⟨⟩, hkS, hk⟩ := Arr.get hs2 (by omega); obtain ⟨pa, pc, ba, bc, hr, h1, h2⟩ := hk i lib[i] (List.getElem?_eq_getElem hi); clear hk hs2
 generalize lib[i] = f at *
 simp only [FD.cells] at hr
 have hdef : fnErr lib i f = if 30 ≤ i then 5 else if !funName f.name then 3 else if fq < i then 22
  else if paramErr f.params ≠ 0 then paramErr f.params
  else if !f.body.formed then 3 else if 80 < f.body.depth then 19 else if 2000 < f.body.size then 5
  else if (f.body.chk lib (visL f.params)).2 ≠ 0 then (f.body.chk lib (visL f.params)).2
  else if (f.body.chk lib (visL f.params)).1 ≠ f.list then 7 else 0 := by
  rw [fnErr, hfq]; rfl
 rw [hdef]; clear hdef; have HF := Lib.hid (Find_v (findI_some hfq)); clear hfq
 by_cases c1 : 30 ≤ i
 · rw [if_pos c1]
   refine calls_in Tryz.func36 Tryz.ntmps36 rfl rfl ?_
   focus
    refine cS (C1 Pa (cN (C1 Mv (C1 Mv (C1 Pi (C1 (Pws hr) ?_)))))); (refine lw_alloc' [_, _, _, _, _, _, _] zOk rfl rfl ?_; intro b1 w2 n3); (refine lw_init' [_, _, _, _, _, _, _] tabOk rfl rfl rfl rfl rfl rfl n3 rfl ?_; clear n3; clear w2; intro w4 n3); have h5 := n3.blk; have x6 := n3.ext; have p7 := n3.pos; have z8 := n3.size; clear n3; replace X := X.ext x6; replace hs := hs.ext x6; replace hr := hr.ext x6; replace h1 := h1.ext x6; replace h2 := Nd.sits.ext h2 x6; clear x6; refine cT (cw_seq (cS (C1 Mv (C1 V6 (cT (Wyo (cS (C1 Pa (cT (cw_ret (qw_then_ret ?_))))))))))); refine qw_ret1 rfl rfl ?_; rotate_left 1
   exact intR rfl X
 rw [if_neg c1]
 cases hn : funName f.name
 · have HN := Lib.hid (funIsName_v hn)
   clear hn; simp only [Bool.not_false, if_true]; refine calls_in Tryz.func36 Tryz.ntmps36 rfl rfl ?_
   focus
    refine cS (C1 Pa (cN (C1 Mv (C1 Mv (C1 Pi (C1 (Pws hr) ?_)))))); (refine lw_alloc' [_, _, _, _, _, _, _] zOk rfl rfl ?_; intro ba1 wa2 na3); (refine lw_init' [_, _, _, _, _, _, _] tabOk rfl rfl rfl rfl rfl rfl na3 rfl ?_; clear na3; clear wa2; intro wa4 na3); have ha5 := na3.blk; have xa6 := na3.ext; have pa7 := na3.pos; have za8 := na3.size; clear na3; replace X := X.ext xa6; replace hs := hs.ext xa6; replace hr := hr.ext xa6; replace h1 := h1.ext xa6; replace h2 := Nd.sits.ext h2 xa6; clear xa6; refine cT (cw_seq (cS (C1 Mv (C1 V6 (cT (Wno (cw_skip (qw_then (cw_seq (cS (C1 Pg ?_))))))))))); refine C1 (Pl ha5) ?_; refine cC rfl (HN.out _ (by omega)) ?_; rintro _ wa10 ⟨⟨⟩, xa9⟩; have za11 := xa9.size; replace ha5 := ha5.ext xa9; replace X := X.ext xa9; replace hs := hs.ext xa9; replace hr := hr.ext xa9; replace h1 := h1.ext xa9; replace h2 := Nd.sits.ext h2 xa9; clear xa9; refine C1 Pt (cT (cw_cond_t rfl (cS (C1 Pa (cT (cw_ret (qw_then_ret (qw_ret1 rfl rfl ?_)))))))); rotate_left 1
   exact intR rfl X
 have HN := Lib.hid (funIsName_v hn); clear hn; simp only [Bool.not_true, Bool.false_eq_true, if_false]
 by_cases c3 : fq < i
 · rw [if_pos c3]
   refine calls_in Tryz.func36 Tryz.ntmps36 rfl rfl ?_
   focus
    refine cS (C1 Pa (cN (C1 Mv (C1 Mv (C1 Pi (C1 (Pws hr) ?_)))))); (refine lw_alloc' [_, _, _, _, _, _, _] zOk rfl rfl ?_; intro bb1 wb2 nb3); (refine lw_init' [_, _, _, _, _, _, _] tabOk rfl rfl rfl rfl rfl rfl nb3 rfl ?_; clear nb3; clear wb2; intro wb4 nb3); have hb5 := nb3.blk; have xb6 := nb3.ext; have pb7 := nb3.pos; have zb8 := nb3.size; clear nb3; replace X := X.ext xb6; replace hs := hs.ext xb6; replace hr := hr.ext xb6; replace h1 := h1.ext xb6; replace h2 := Nd.sits.ext h2 xb6; clear xb6; refine cT (cw_seq (cS (C1 Mv (C1 V6 (cT (Wno (cw_skip (qw_then (cw_seq (cS (C1 Pg ?_))))))))))); refine C1 (Pl hb5) ?_; refine cC rfl (HN.out _ (by omega)) ?_; rintro _ wb10 ⟨⟨⟩, xb9⟩; have zb11 := xb9.size; replace hb5 := hb5.ext xb9; replace X := X.ext xb9; replace hs := hs.ext xb9; replace hr := hr.ext xb9; replace h1 := h1.ext xb9; replace h2 := Nd.sits.ext h2 xb9; clear xb9; refine C1 Pt (cT (cw_cond_f rfl (cw_skip (qw_then (cw_seq (cS (C1 Mv (C1 Pg (C1 (Pl hb5) ?_))))))))); refine cC rfl (HF.out _ _ _ _ (by omega) (by assumption)) ?_; rintro _ wb13 ⟨⟨⟩, xb12⟩; have zb14 := xb12.size; replace hb5 := hb5.ext xb12; replace X := X.ext xb12; replace hs := hs.ext xb12; replace hr := hr.ext xb12; replace h1 := h1.ext xb12; replace h2 := Nd.sits.ext h2 xb12; clear xb12; refine C1 Mv (C1 V3 (cT (Wyo (cS (C1 Pa (cT (cw_ret (qw_then_ret (qw_ret1 rfl rfl ?_))))))))); rotate_left 1
   exact intR rfl X
 rw [if_neg c3]; have HP := Lib.hid (fun (q : Int) (h : paramErr f.params = q) => params_v h)
 by_cases c4 : paramErr f.params = 0
 case neg =>
  rw [if_pos c4]; have HP := Lib.hid (HP.out _ rfl); have HM := Lib.hid m3
  generalize paramErr f.params = q at *
  refine calls_in Tryz.func36 Tryz.ntmps36 rfl rfl ?_
  focus
   refine cS (C1 Pa (cN (C1 Mv (C1 Mv (C1 Pi (C1 (Pws hr) ?_)))))); (refine lw_alloc' [_, _, _, _, _, _, _] zOk rfl rfl ?_; intro bc1 wc2 nc3); (refine lw_init' [_, _, _, _, _, _, _] tabOk rfl rfl rfl rfl rfl rfl nc3 rfl ?_; clear nc3; clear wc2; intro wc4 nc3); have hc5 := nc3.blk; have xc6 := nc3.ext; have pc7 := nc3.pos; have zc8 := nc3.size; clear nc3; replace X := X.ext xc6; replace hs := hs.ext xc6; replace hr := hr.ext xc6; replace h1 := h1.ext xc6; replace h2 := Nd.sits.ext h2 xc6; clear xc6; refine cT (cw_seq (cS (C1 Mv (C1 V6 (cT (Wno (cw_skip (qw_then (cw_seq (cS (C1 Pg ?_))))))))))); refine C1 (Pl hc5) ?_; refine cC rfl (HN.out _ (by omega)) ?_; rintro _ wc10 ⟨⟨⟩, xc9⟩; have zc11 := xc9.size; replace hc5 := hc5.ext xc9; replace X := X.ext xc9; replace hs := hs.ext xc9; replace hr := hr.ext xc9; replace h1 := h1.ext xc9; replace h2 := Nd.sits.ext h2 xc9; clear xc9; refine C1 Pt (cT (cw_cond_f rfl (cw_skip (qw_then (cw_seq (cS (C1 Mv (C1 Pg (C1 (Pl hc5) ?_))))))))); refine cC rfl (HF.out _ _ _ _ (by omega) (by assumption)) ?_; rintro _ wc13 ⟨⟨⟩, xc12⟩; have zc14 := xc12.size; replace hc5 := hc5.ext xc12; replace X := X.ext xc12; replace hs := hs.ext xc12; replace hr := hr.ext xc12; replace h1 := h1.ext xc12; replace h2 := Nd.sits.ext h2 xc12; clear xc12; refine C1 Mv (C1 V3 (cT (Wno (cw_skip (qw_then (cw_seq (cS (C1 Pf (C1 (Pl hc5) ?_))))))))); refine cC rfl (HP.out _ _ _ _ (by omega) HM.out (by assumption)) ?_; rintro _ wc16 ⟨⟨⟩, xc15⟩; have zc17 := xc15.size; replace hc5 := hc5.ext xc15
   replace X := X.ext xc15; replace hs := hs.ext xc15; replace hr := hr.ext xc15; replace h1 := h1.ext xc15; replace h2 := Nd.sits.ext h2 xc15; clear xc15; refine C1 Pa (cN (C1 Mv (C1 V2 (cT (Wya (cS (C1 Mv (C1 Pa (cT (cw_ret (qw_then_ret ?_))))))))))); refine qw_ret1 rfl rfl ?_; rotate_left 1
  exact intR rfl X
 rw [if_neg (by omega)]; have HP := Lib.hid (HP.out _ c4); have hnd := Lib.hid (paramErr_nodup c4); have HM := Lib.hid m3; have HW := Lib.hid m5; clear c4 m3 m5
 cases hf : f.body.formed
 · have HG := Lib.hid (formed_v hf)
   clear hf; simp only [Bool.not_false, if_true]; refine calls_in Tryz.func36 Tryz.ntmps36 rfl rfl ?_
   focus
    refine cS (C1 Pa (cN (C1 Mv (C1 Mv (C1 Pi (C1 (Pws hr) ?_)))))); (refine lw_alloc' [_, _, _, _, _, _, _] zOk rfl rfl ?_; intro bd1 wd2 nd3); (refine lw_init' [_, _, _, _, _, _, _] tabOk rfl rfl rfl rfl rfl rfl nd3 rfl ?_; clear nd3; clear wd2; intro wd4 nd3); have hd5 := nd3.blk; have xd6 := nd3.ext; have pd7 := nd3.pos; have zd8 := nd3.size; clear nd3; replace X := X.ext xd6; replace hs := hs.ext xd6; replace hr := hr.ext xd6; replace h1 := h1.ext xd6; replace h2 := Nd.sits.ext h2 xd6; clear xd6; refine cT (cw_seq (cS (C1 Mv (C1 V6 (cT (Wno (cw_skip (qw_then (cw_seq (cS (C1 Pg ?_))))))))))); refine C1 (Pl hd5) ?_; refine cC rfl (HN.out _ (by omega)) ?_; rintro _ wd10 ⟨⟨⟩, xd9⟩; have zd11 := xd9.size; replace hd5 := hd5.ext xd9; replace X := X.ext xd9; replace hs := hs.ext xd9; replace hr := hr.ext xd9; replace h1 := h1.ext xd9; replace h2 := Nd.sits.ext h2 xd9; clear xd9; refine C1 Pt (cT (cw_cond_f rfl (cw_skip (qw_then (cw_seq (cS (C1 Mv (C1 Pg (C1 (Pl hd5) ?_))))))))); refine cC rfl (HF.out _ _ _ _ (by omega) (by assumption)) ?_; rintro _ wd13 ⟨⟨⟩, xd12⟩; have zd14 := xd12.size; replace hd5 := hd5.ext xd12; replace X := X.ext xd12; replace hs := hs.ext xd12; replace hr := hr.ext xd12; replace h1 := h1.ext xd12; replace h2 := Nd.sits.ext h2 xd12; clear xd12; refine C1 Mv (C1 V3 (cT (Wno (cw_skip (qw_then (cw_seq (cS (C1 Pf (C1 (Pl hd5) ?_))))))))); refine cC rfl (HP.out _ _ _ _ (by omega) HM.out (by assumption)) ?_; rintro _ wd16 ⟨⟨⟩, xd15⟩; have zd17 := xd15.size; replace hd5 := hd5.ext xd15
    replace X := X.ext xd15; replace hs := hs.ext xd15; replace hr := hr.ext xd15; replace h1 := h1.ext xd15; replace h2 := Nd.sits.ext h2 xd15; clear xd15; refine C1 Pa (cN (C1 Mv (C1 V2 (cT (Wnd (cw_skip (qw_then (cw_seq (cS (C1 Pf (lw_loads_b' [_, _, _, _] tabOk rfl rfl rfl hd5 rfl rfl rfl ?_))))))))))); refine cC rfl (HG.out (by omega) HW.out _ _ _ _ (by assumption)) ?_; rintro _ wd19 ⟨⟨⟩, xd18⟩; have zd20 := xd18.size; replace hd5 := hd5.ext xd18; replace X := X.ext xd18; replace hs := hs.ext xd18; replace hr := hr.ext xd18; replace h1 := h1.ext xd18; replace h2 := Nd.sits.ext h2 xd18; clear xd18; refine C1 Pt (cT (cw_cond_t rfl (cS (C1 Pa (cT (cw_ret (qw_then_ret (qw_ret1 rfl rfl ?_)))))))); rotate_left 1
   exact intR rfl X
 have HG := Lib.hid (formed_v hf); have HFo := Lib.hid hf; clear hf; simp only [Bool.not_true, Bool.false_eq_true, if_false]; have HS := Lib.hid (fun (S : Nat → Prop) (a : Option Addr) (c : Nat) (w : World) (hs : f.body.sits S w a) => measure_c (f.body.size + 1) f.body S a c w (by omega) (by omega) hs); have HC := Lib.hid (fun la pa a lc pc c w S S' S'' => check_c lib f.params f.body la pa a lc pc c w hL hps.out m2 hnd.out m4 HW.out HFo.out S S' S'')
 generalize f.body.chk lib (visL f.params) = q at *
 obtain ⟨qb, qe⟩ := q; refine calls_in Tryz.func36 Tryz.ntmps36 rfl rfl ?_
 focus
  refine cS (C1 Pa (cN (C1 Mv (C1 Mv (C1 Pi (C1 (Pws hr) ?_)))))); (refine lw_alloc' [_, _, _, _, _, _, _] zOk rfl rfl ?_; intro be1 we2 ne3); (refine lw_init' [_, _, _, _, _, _, _] tabOk rfl rfl rfl rfl rfl rfl ne3 rfl ?_; clear ne3; clear we2; intro we4 ne3); have he5 := ne3.blk; have xe6 := ne3.ext; have pe7 := ne3.pos; have ze8 := ne3.size; clear ne3; replace X := X.ext xe6; replace hs := hs.ext xe6; replace hr := hr.ext xe6; replace h1 := h1.ext xe6; replace h2 := Nd.sits.ext h2 xe6; clear xe6; refine cT (cw_seq (cS (C1 Mv (C1 V6 (cT (Wno (cw_skip (qw_then (cw_seq (cS (C1 Pg ?_))))))))))); refine C1 (Pl he5) ?_; refine cC rfl (HN.out _ (by omega)) ?_; rintro _ we10 ⟨⟨⟩, xe9⟩; have ze11 := xe9.size; replace he5 := he5.ext xe9; replace X := X.ext xe9; replace hs := hs.ext xe9; replace hr := hr.ext xe9; replace h1 := h1.ext xe9; replace h2 := Nd.sits.ext h2 xe9; clear xe9; refine C1 Pt (cT (cw_cond_f rfl (cw_skip (qw_then (cw_seq (cS (C1 Mv (C1 Pg (C1 (Pl he5) ?_))))))))); refine cC rfl (HF.out _ _ _ _ (by omega) (by assumption)) ?_; rintro _ we13 ⟨⟨⟩, xe12⟩; have ze14 := xe12.size; replace he5 := he5.ext xe12; replace X := X.ext xe12; replace hs := hs.ext xe12; replace hr := hr.ext xe12; replace h1 := h1.ext xe12; replace h2 := Nd.sits.ext h2 xe12; clear xe12; refine C1 Mv (C1 V3 (cT (Wno (cw_skip (qw_then (cw_seq (cS (C1 Pf (C1 (Pl he5) ?_))))))))); refine cC rfl (HP.out _ _ _ _ (by omega) HM.out (by assumption)) ?_; rintro _ we16 ⟨⟨⟩, xe15⟩; have ze17 := xe15.size; replace he5 := he5.ext xe15
  replace X := X.ext xe15; replace hs := hs.ext xe15; replace hr := hr.ext xe15; replace h1 := h1.ext xe15; replace h2 := Nd.sits.ext h2 xe15; clear xe15; refine C1 Pa (cN (C1 Mv (C1 V2 (cT (Wnd (cw_skip (qw_then (cw_seq (cS (C1 Pf (lw_loads_b' [_, _, _, _] tabOk rfl rfl rfl he5 rfl rfl rfl ?_))))))))))); refine cC rfl (HG.out (by omega) HW.out _ _ _ _ (by assumption)) ?_; rintro _ we19 ⟨⟨⟩, xe18⟩; have ze20 := xe18.size; replace he5 := he5.ext xe18; replace X := X.ext xe18; replace hs := hs.ext xe18; replace hr := hr.ext xe18; replace h1 := h1.ext xe18; replace h2 := Nd.sits.ext h2 xe18; clear xe18; refine C1 Pt (cT (cw_cond_f rfl (cw_skip (qw_then (cS (C1 Pf (lw_loads_b' [_, _, _, _] tabOk rfl rfl rfl he5 rfl rfl rfl ?_))))))); refine cC rfl (HS.out _ _ _ _ (by assumption)) ?_; rintro _ we22 ⟨⟨⟩, xe21⟩; have ze23 := xe21.size; replace he5 := he5.ext xe21; replace X := X.ext xe21; replace hs := hs.ext xe21; replace hr := hr.ext xe21; replace h1 := h1.ext xe21; replace h2 := Nd.sits.ext h2 xe21; clear xe21; refine C1 Mv (C1 Px (C1 Px (C1 Pa (C1 Pa (cT (cw_seq (cS (C1 Mv (C1 V5 (cT ?_)))))))))); refine cw_dec rfl (fun ce24 => ?_) (fun ce24 => ?_); refine cS (C1 Pa (cT (cw_ret (qw_then_ret (qw_ret1 rfl rfl ?_))))); rotate_left 1; refine cw_skip (qw_then (cw_seq (cS (C1 Mv (C1 V5 (cT ?_)))))); refine cw_dec rfl (fun ce25 => ?_) (fun ce25 => ?_); refine cS (C1 Pa (cT (cw_ret (qw_then_ret (qw_ret1 rfl rfl ?_))))); rotate_left 1; refine cw_skip (qw_then (cS (C1 Mv (C1 Pf (C1 (Pl he5) (C1 Pf (lw_loads_b' [_, _, _, _] tabOk rfl rfl rfl he5 rfl rfl rfl ?_)))))))
  refine cC rfl (HC.out _ _ _ _ _ _ _ _ _ _ (by assumption) (by assumption) (by assumption)) ?_; rintro _ we27 ⟨⟨⟩, xe26⟩; have ze28 := xe26.size; replace he5 := he5.ext xe26; replace X := X.ext xe26; replace hs := hs.ext xe26; replace hr := hr.ext xe26; replace h1 := h1.ext xe26; replace h2 := Nd.sits.ext h2 xe26; clear xe26; refine C1 Mv (C1 Px (C1 Px (C1 Pa (C1 Pa (cT (cw_seq (cS (C1 Mv (C1 V2 (cT ?_)))))))))); refine cw_decn rfl (fun ce29 => ?_) (fun ce29 => ?_); refine cS (C1 Mv (C1 Pa (cT (cw_ret (qw_then_ret (qw_ret1 rfl rfl ?_)))))); rotate_left 1; refine cw_skip (qw_then (cw_seq (cS (C1 Mv (C1 Pf (C1 (Pl he5) (C1 (pur_bneqF tabOk rfl rfl rfl) (cT ?_)))))))); refine cw_decn rfl (fun ce30 => ?_) (fun ce30 => ?_); refine cS (C1 Pa (cT (cw_ret (qw_then_ret (qw_ret1 rfl rfl ?_))))); rotate_left 1; refine cw_skip (qw_then (cS (C1 Pa (cT (cw_ret (qw_ret1 rfl rfl ?_)))))); rotate_left 1
 all_goals
  refine intR ?_ X; (try simp only [decide_eq_false_iff_not, decide_eq_true_eq] at *)
  first
  | (have hsz := (show ¬ 2000 < f.body.size from by omega); simp [*]; done)
  | (have hsz := (show 2000 < f.body.size from by omega); simp [*]; done)
  | (simp [*]; done)
def validI (lib : List FD) : Int × Int := match libErr lib with
 | none => (-1, 0)
 | some (i, e) => (i, e)
def PairR (w : World) (q : Int × Int) (e : Ending) (w' : World) : Prop := e = .returned (.tuple #[.int .i64 q.1, .int .i64 q.2]) ∧ Ext w w'
theorem pairR {w w' : World} {q : Int × Int} {a b : Int} (h : q = (a, b)) (x : Ext w w') : PairR w q (.returned (.tuple #[.int .i64 a, .int .i64 b])) w' := ⟨by rw [h], x⟩
theorem fun_v {lib : List FD} {i : Nat} (hi : i < lib.length) {q : Int} (h : fnErr lib i lib[i] = q) (S : Nat → Prop) (a : Option Addr) (c : Nat) (w : World) (hl : LibFew lib) (hs : FDs S w lib a) :
 Calls Tryz.prog 36 #[.slice a lib.length c, .int .i64 i] w fun e w' => e = .returned (.int .i64 q) ∧ Ext w w' := by
 have := fun_c lib i S a c w hl hi hs
 rw [h] at this; exact this
set_option maxRecDepth 100000 in
set_option maxHeartbeats 4000000 in
theorem Valid_c (lib : List FD) (S : Nat → Prop) (a : Option Addr) (c : Nat) (w : World) (hl : LibFew lib) (hs : FDs S w lib a) :
 Calls Tryz.prog 14 #[.slice a lib.length c] w (PairR w (validI lib)) := by
 have X := Ext.refl w; replace hs := hs.ltA; have hL := hl.len; have HL := Lib.hid hl; clear hl; refine calls_in Tryz.func14 Tryz.ntmps14 rfl rfl ?_
 focus
  refine cS (C1 Pa (C1 Pa (cT (cw_seq (cS (C1 Mv (C1 Pz (C1 Mv (cT (cw_block ?_)))))))))); rotate_left 1
 refine cw_loop (ι := Nat) (fun j => [(0, .slice a lib.length c), (7, .int .i64 lib.length), (8, .int .i64 j)]) (fun j w' => FDs (· < w.heap.size) w' lib a ∧ Ext w w' ∧ j ≤ lib.length ∧ libErr lib = libErrFrom lib j (lib.drop j)) (fun j => lib.length - j) 0 (by (refine sub_cons rfl ?_; refine sub_cons rfl ?_; refine sub_cons rfl ?_; exact sub_nil)) ⟨hs, X, Nat.zero_le _, rfl⟩ ?_; clear hs X; rintro j w1 ⟨hs, X, hj, hn⟩
 by_cases hlt : j < lib.length
 · rw [List.drop_eq_getElem_cons hlt, libErrFrom] at hn
   have HF := Lib.hid (fun (q : Int) => fun_v hlt (q := q))
   by_cases hq : fnErr lib j lib[j] = 0
   · rw [if_neg (by omega)] at hn
     have HE := Lib.hid hn; have HF := Lib.hid (HF.out _ hq); clear hn hq
     focus
      refine cS (C1 V3 (cT (cw_seq (Wyo (cw_skip (qw_then (cw_seq (cw_block (cS (C1 Mv (C1 Pa ?_))))))))))); refine cN (C1 Mv (C1 Mv ?_)); refine cC rfl (HF.out _ _ _ _ HL.out (by assumption)) ?_; rintro _ wa2 ⟨⟨⟩, xa1⟩; have za3 := xa1.size; replace hs := hs.ext xa1; replace X := X.ext xa1; clear xa1; refine C1 Pa (cN (C1 Mv (C1 V2 (cT (Wnd (cw_skip (qw_block_norm (qw_then (cw_region (C1 V7 (C1 Mv ?_))))))))))); refine lw_nil ?_; rotate_left 1
     exact qw_round (j + 1) (by (refine sub_cons rfl ?_; refine sub_cons rfl ?_; refine sub_cons rfl ?_; exact sub_nil)) ⟨hs, X, by omega, HE.out⟩ (by omega)
   · rw [if_pos hq] at hn
     have HE := Lib.hid hn; have HF := Lib.hid (HF.out _ rfl); clear hn
     generalize fnErr lib j lib[j] = q at *
     focus
      refine cS (C1 V3 (cT (cw_seq (Wyo (cw_skip (qw_then (cw_seq (cw_block (cS (C1 Mv (C1 Pa ?_))))))))))); refine cN (C1 Mv (C1 Mv ?_)); refine cC rfl (HF.out _ _ _ _ HL.out (by assumption)) ?_; rintro _ wb2 ⟨⟨⟩, xb1⟩; have zb3 := xb1.size; replace hs := hs.ext xb1; replace X := X.ext xb1; clear xb1; refine C1 Pa (cN (C1 Mv (C1 V2 (cT (Wya (cS (C1 Mv (C1 Mv (C1 Pa (C1 Pa (cT ?_))))))))))); refine cw_ret (qw_block_ret (qw_then_ret (qw_then_ret (qw_block_ret (qw_then_ret (qw_ret2 rfl rfl rfl ?_)))))); rotate_left 1
     exact pairR (by rw [validI, HE.out]) X
 · have hje : j = lib.length := by omega
   subst hje; rw [List.drop_length, libErrFrom] at hn; have HE := Lib.hid hn; clear hn
   focus
    refine cS (C1 V3 (cT (cw_seq (Wno (cw_exit (qw_then_exit (qw_then_exit (qw_block_exit (qw_then (cS (C1 Pa ?_))))))))))); refine C1 Pa (cT (cw_ret (qw_ret2 rfl rfl rfl ?_))); rotate_left 1
   exact pairR (by rw [validI, HE.out]) X
end Bk
namespace Bk
open Go
def Po {α : Type} (ts : List Tok) (n : Int) (m : Nat) (p : Pr α) (R : Nat → Nat → α → Prop) : Prop := ∀ σ, σ.at_ ≤ ts.length → mS ts σ ≤ m → (p ts n σ).2.err = 0 → R σ.at_ (p ts n σ).2.at_ (p ts n σ).1
theorem peek_memF {ts : List Tok} {σ : PS} (h : σ.err = 0 ∧ σ.at_ < ts.length) : peekP ts σ ∈ ts := by
 unfold peekP
 rw [if_neg (by rintro (h1 | h1); exact h1 h.1; omega)]; simp only [List.getD_eq_getElem?_getD, List.getElem?_eq_getElem h.2, Option.getD_some]
 exact List.getElem_mem h.2
section
variable {ts : List Tok} {n : Int} {m : Nat} {α β : Type}
theorem Po.mono {p : Pr α} {R : Nat → Nat → α → Prop} {m' : Nat} (h : Po ts n m p R) (hm : m' ≤ m) : Po ts n m' p R := fun σ hw hs he => h σ hw (by omega) he
theorem Po.weaken {p : Pr α} {R R' : Nat → Nat → α → Prop} (h : Po ts n m p R) (g : Good p) (k : ∀ a b x, a ≤ b → b ≤ ts.length → R a b x → R' a b x) : Po ts n m p R' := fun σ hw hs he => k _ _ _ (g.le ts n σ hw).le (g.le ts n σ hw).wf (h σ hw hs he)
theorem Po.congr {p q : Pr α} {R : Nat → Nat → α → Prop} (h : ∀ ts n σ, p ts n σ = q ts n σ) (k : Po ts n m q R) : Po ts n m p R := fun σ hw hs he => by
 rw [h] at he ⊢; exact k σ hw hs he
theorem Po.ret {x : α} {R : Nat → Nat → α → Prop} (h : ∀ a, a ≤ ts.length → R a a x) : Po ts n m (retP x) R := fun σ hw _ _ => h _ hw
theorem Po.bind {p : Pr α} {f : α → Pr β} {R : Nat → Nat → α → Prop} {R' : α → Nat → Nat → β → Prop} {T : Nat → Nat → β → Prop} (gp : Good p) (hp : Po ts n m p R) (gf : ∀ x, Good (f x)) (hf : ∀ x, Po ts n m (f x) (R' x)) (hT : ∀ a b c x y, a ≤ b → b ≤ c → c ≤ ts.length → R a b x → R' x b c y → T a c y) : Po ts n m (bindP p f) T := fun σ hw hs he => by
 have l1 := gp.le ts n σ hw; have l2 := (gf (p ts n σ).1).le ts n _ l1.wf
 exact hT _ _ _ _ _ l1.le l2.le l2.wf (hp σ hw hs (l2.ok he)) (hf _ _ l1.wf (Nat.le_trans (mS_le l1) hs) he)
theorem Po.bindL {p : Pr α} {f : α → Pr β} {R : Nat → Nat → α → Prop} {R' : α → Nat → Nat → β → Prop} {T : Nat → Nat → β → Prop} (gp : Good p) (lp : LtP p) (hp : Po ts n m p R) (gf : ∀ x, Good (f x)) (hf : ∀ x, Po ts n (m - 1) (f x) (R' x)) (hT : ∀ a b c x y, a ≤ b → b ≤ c → c ≤ ts.length → R a b x → R' x b c y → T a c y) : Po ts n m (bindP p f) T := fun σ hw hs he => by
 have l1 := gp.le ts n σ hw; have l2 := (gf (p ts n σ).1).le ts n _ l1.wf; have := mS_lt l1 (lp ts n σ hw)
 exact hT _ _ _ _ _ l1.le l2.le l2.wf (hp σ hw hs (l2.ok he)) (hf _ _ l1.wf (by omega) he)
theorem Po.rd {c : Int → List UInt8 → Bool} {y z : Int → List UInt8 → Pr α} {T : Nat → Nat → α → Prop} (h0 : c 0 [] = false) (hy : 1 ≤ m → ∀ k t, c k t = true → Po ts n (m - 1) (y k t) (fun a b x => ∀ a0, a = a0 + 1 → T a0 b x)) (hz : ∀ k t, Po ts n m (z k t) T) : Po ts n m (rdP c y z) T := fun σ hw hs he => by
 unfold rdP at he ⊢
 by_cases hc : c (peekP ts σ).kind (peekP ts σ).text = true
 · rw [if_pos hc] at he ⊢
   have hin := rd_in h0 hw hc; have := mS_next hin
   exact hy (by omega) _ _ hc (nextP σ) hin.2 (by omega) he _ rfl
 · rw [if_neg hc] at he ⊢
   exact hz _ _ σ hw hs he
theorem Po.te {c : Int → List UInt8 → Bool} {y z : Pr α} {T : Nat → Nat → α → Prop} (h0 : c 0 [] = false) (hy : 1 ≤ m → Po ts n m y T) (hz : Po ts n m z T) : Po ts n m (teP c y z) T := fun σ hw hs he => by
 unfold teP at he ⊢
 by_cases hc : c (peekP ts σ).kind (peekP ts σ).text = true
 · rw [if_pos hc] at he ⊢
   have := mS_pos (rd_in h0 hw hc)
   exact hy (by omega) σ hw hs he
 · rw [if_neg hc] at he ⊢
   exact hz σ hw hs he
theorem po_exp {t : List UInt8} : Po ts n m (expP t) (fun a b _ => a + 1 ≤ b) := fun σ hw hs he => by
 rw [← exp_at] at he ⊢
 exact expect_lt he
theorem po_name (hT : ∀ t ∈ ts, t.text.length ≤ 1000000) : Po ts n m (fun ts n σ => nameP ts n σ) (fun a b m => a + 1 ≤ b ∧ m.length ≤ 1000000) := fun σ hw hs he => by
 refine ⟨name_lt he, ?_⟩
 show (nameP ts n σ).1.length ≤ 1000000
 unfold nameP
 split
 · rename_i hh
   exact hT _ (peek_memF (peek_in hw (Or.inl (isName_ne hh))))
 · simp
def RT (a b : Nat) (t : Nd) : Prop := t.size + a ≤ b ∧ t.wf
def RL (a b : Nat) (l : List Nd) : Prop := rowSize l + a + 2 ≤ b ∧ rowWf l
theorem rowWf_app {l q : List Nd} : rowWf (l ++ q) ↔ rowWf l ∧ rowWf q := by
 induction l with
 | nil => simp [rowWf]
 | cons x r ih => simp only [List.cons_append, rowWf, ih, and_assoc]
theorem mkNd {k v : Int} {s : List UInt8} {l : List Nd} {a b : Nat} (hb : b ≤ 1000000) (h1 : 0 ≤ k ∧ k ≤ 255) (h2 : 0 ≤ v ∧ v ≤ 9223372036854775807) (h3 : s.length ≤ 1000000) (h4 : rowSize l + 1 + a ≤ b) (h5 : rowWf l) : RT a b (.mk k v s l) := by
 have := length_rowSize l; refine ⟨?_, ?_⟩
 · simp only [Nd.size]; omega
 · simp only [Nd.wf]
   exact ⟨h1.1, h1.2, by omega, h2.2, by omega, by omega, h5⟩
theorem po_fnum {z : Pr Nd} (hL : ts.length ≤ 1000000) (hz : Po ts n m z RT) : Po ts n m (fnumZ z) RT := fun σ hw hs he => by
 unfold fnumZ at he ⊢
 split at he
 · rename_i hk
   rw [if_pos hk]; have hin := peek_in hw (Or.inr (by rw [hk]; decide))
   unfold fnumP at he ⊢
   split at he
   · rename_i hv
     rw [if_pos hv]; refine mkNd (by simp only [nextP]; omega) (by decide) ⟨by omega, hv⟩ (by simp) ?_ trivial
     simp only [rowSize, nextP]; omega
   · exact absurd he (fail_err (by decide))
 · rename_i hk
   rw [if_neg hk]
   exact hz σ hw hs he
structure PoF (ts : List Tok) (n : Int) (k : Nat) : Prop where
 e : ∀ m lv, 4 * m + 4 ≤ k → Po ts n m (fun ts n σ => exprF ts n k lv σ) RT
 c : ∀ m lv x, 4 * m + 1 ≤ k → Po ts n m (fun ts n σ => climbF ts n k lv x σ) (fun a b y => x.wf → y.size + a ≤ b + x.size ∧ y.wf)
 p : ∀ m, 4 * m + 3 ≤ k → Po ts n m (fun ts n σ => primF ts n k σ) RT
 i : ∀ m, 1 ≤ m → 4 * m + 2 ≤ k → Po ts n m (fun ts n σ => ifF ts n k σ) RT
 l : ∀ m, 1 ≤ m → 4 * m + 2 ≤ k → Po ts n m (fun ts n σ => letF ts n k σ) RT
 d : ∀ m, 4 * m + 2 ≤ k → Po ts n m (fun ts n σ => namedF ts n k σ) RT
 a1 : ∀ m, 4 * m + 5 ≤ k → Po ts n m (fun ts n σ => args1F ts n k σ) RL
 a2 : ∀ m, 4 * m + 5 ≤ k → Po ts n m (fun ts n σ => args2F ts n k σ) RL
 b : ∀ m, 4 * m + 5 ≤ k → Po ts n m (fun ts n σ => braceF ts n k σ) RT
 m : ∀ m acc, 4 * m + 1 ≤ k → Po ts n m (fun ts n σ => moreF ts n k acc σ) (fun a b l => rowWf acc → rowSize l + a ≤ b + rowSize acc ∧ rowWf l)
theorem po_F (hL : ts.length ≤ 1000000) (hT : ∀ t ∈ ts, t.text.length ≤ 1000000) (k : Nat) : PoF ts n k := by
 induction k with
 | zero => refine ⟨?_, ?_, ?_, ?_, ?_, ?_, ?_, ?_, ?_, ?_⟩ <;> intros <;> omega
 | succ k ih =>
  have g := good_F k; refine ⟨fun m lv h => ?_, fun m lv x h => ?_, fun m h => ?_, fun m h1 h => ?_, fun m h1 h => ?_, fun m h => ?_, fun m h => ?_, fun m h => ?_, fun m h => ?_, fun m acc h => ?_⟩
  · obtain ⟨k, rfl⟩ : ∃ j, k = j + 2 := ⟨k - 2, by omega⟩
    refine Po.congr (exprF_at (k + 2) lv) (Po.bindL g.p (lt_prim k) (ih.p m (by omega)) (fun x => g.c lv x) (fun x => ih.c (m - 1) lv x (by omega)) ?_); rintro a b c x y h1 h2 h3 ⟨r1, r2⟩ r3; obtain ⟨r4, r5⟩ := r3 r2
    exact ⟨by omega, r5⟩
  · refine Po.congr (climbF_at k lv x) (Po.rd (by rw [bin_nil0]) (fun h1 _ t hc => ?_) (fun _ _ => Po.ret (fun a _ hx => ⟨by omega, hx⟩)))
    cases ho : binOf t with
    | none => rw [ho] at hc; cases hc
    | some op =>
     refine Po.bind (g.e _) (ih.e (m - 1) _ (by omega)) (fun y => g.c _ _) (fun y => ih.c (m - 1) lv _ (by omega)) ?_; rintro a b c y z h1 h2 h3 ⟨r1, r2⟩ r3 a0 rfl hx; have hop := binOf_ne ho; have hxs := Nd.size_pos x; obtain ⟨r4, r5⟩ := r3 (by simp only [Nd.wf, rowWf]; exact ⟨by omega, by omega, by omega, by omega, by simp, by simp, hx, r2, trivial⟩); simp only [Nd.size, rowSize] at r4
     exact ⟨by omega, r5⟩
  · refine Po.congr (primF_at k) ?_
    refine Po.rd (eqF_nil (by decide)) (fun _ _ _ _ => ?_) (fun _ _ => Po.rd (eqF_nil (by decide)) (fun h1 _ _ _ => ?_) (fun _ _ => Po.rd (eqF_nil (by decide)) (fun h1 _ _ _ => ?_) (fun _ _ => Po.rd (eqF_nil (by decide)) (fun h1 _ _ _ => ?_) (fun _ _ =>
     Po.rd (eqF_nil (by decide)) (fun h1 _ _ _ => ?_) (fun _ _ => Po.te (eqF_nil (by decide)) (fun h1 => ih.i m h1 (by omega)) (Po.te (eqF_nil (by decide)) (fun h1 => ih.l m h1 (by omega)) (Po.rd (eqF_nil (by decide)) (fun h1 _ _ _ => ?_) (fun _ _ => po_fnum hL (ih.d m (by omega))))))))))
    · refine Po.bind (good_exp (by decide)) po_exp (fun _ => Good.ret _) (fun _ => Po.ret (R := fun a b y => y = Nd.mk 86 0 [] [] ∧ a = b) (fun _ _ => ⟨rfl, rfl⟩)) ?_
      rintro a b c _ y h1 h2 h3 r1 ⟨rfl, rfl⟩ a0 rfl
      exact mkNd (by omega) (by decide) (by decide) (by simp) (by simp only [rowSize]; omega) trivial
    · refine Po.bind g.a2 (ih.a2 (m - 1) (by omega)) (fun _ => Good.ret _) (fun x => Po.ret (R := fun a b y => y = Nd.mk 87 0 [] x ∧ a = b) (fun _ _ => ⟨rfl, rfl⟩)) ?_
      rintro a b c x y h1 h2 h3 ⟨r1, r2⟩ ⟨rfl, rfl⟩ a0 rfl
      exact mkNd (by omega) (by decide) (by decide) (by simp) (by omega) r2
    · refine Po.bind g.a1 (ih.a1 (m - 1) (by omega)) (fun _ => Good.ret _) (fun x => Po.ret (R := fun a b y => y = Nd.mk 89 0 [] x ∧ a = b) (fun _ _ => ⟨rfl, rfl⟩)) ?_
      rintro a b c x y h1 h2 h3 ⟨r1, r2⟩ ⟨rfl, rfl⟩ a0 rfl
      exact mkNd (by omega) (by decide) (by decide) (by simp) (by omega) r2
    · refine Po.bind g.a1 (ih.a1 (m - 1) (by omega)) (fun _ => Good.ret _) (fun x => Po.ret (R := fun a b y => y = Nd.mk 88 0 [] x ∧ a = b) (fun _ _ => ⟨rfl, rfl⟩)) ?_
      rintro a b c x y h1 h2 h3 ⟨r1, r2⟩ ⟨rfl, rfl⟩ a0 rfl
      exact mkNd (by omega) (by decide) (by decide) (by simp) (by omega) r2
    · refine Po.bind g.p (ih.p (m - 1) (by omega)) (fun _ => Good.ret _) (fun x => Po.ret (R := fun a b y => y = Nd.mk 90 0 [] [x] ∧ a = b) (fun _ _ => ⟨rfl, rfl⟩)) ?_
      rintro a b c x y h1 h2 h3 ⟨r1, r2⟩ ⟨rfl, rfl⟩ a0 rfl
      exact mkNd (by omega) (by decide) (by decide) (by simp) (by simp only [rowSize]; omega) ⟨r2, trivial⟩
    · refine Po.bind (g.e 1) (ih.e (m - 1) 1 (by omega)) (fun _ => Good.bind (good_exp (by decide)) (fun _ => Good.ret _)) (fun x => Po.bind (good_exp (by decide)) po_exp (fun _ => Good.ret _) (fun _ => Po.ret (R := fun a b y => y = x ∧ a = b) (fun _ _ => ⟨rfl, rfl⟩)) (T := fun a b y => y = x ∧ a ≤ b) ?_) ?_
      · rintro a b c _ y h1 h2 h3 r1 ⟨rfl, rfl⟩
        exact ⟨rfl, h1⟩
      · rintro a b c x y h1 h2 h3 ⟨r1, r2⟩ ⟨rfl, r3⟩ a0 rfl
        exact ⟨by omega, r2⟩
  · refine Po.congr (ifF_at k) ?_
    have gb : ∀ c x : Nd, Good (bindP (fun ts n σ => braceF ts n k σ) (fun y => retP (Nd.mk 83 0 [] [c, x, y]))) := fun c x => Good.bind g.b (fun _ => Good.ret _)
    refine Po.bindL (good_exp (by decide)) lt_exp po_exp (fun _ => Good.bind (g.e 1) (fun c => Good.bind g.b (fun x => Good.bind (good_exp (by decide)) (fun _ => gb c x)))) (R' := fun _ a b t => ∀ a0, a0 + 1 ≤ a → RT a0 b t) (fun _ => ?_) (fun a b c _ y h1 h2 h3 r1 r2 => r2 a r1); refine Po.bind (g.e 1) (ih.e (m - 1) 1 (by omega)) (fun c => Good.bind g.b (fun x => Good.bind (good_exp (by decide)) (fun _ => gb c x))) (R' := fun c a b t => c.wf → ∀ a0, c.size + a0 + 1 ≤ a → RT a0 b t) (fun c => ?_) (fun a b d c y h1 h2 h3 r1 r2 a0 h => r2 r1.2 a0 (by have := r1.1; omega)); refine Po.bind g.b (ih.b (m - 1) (by omega)) (fun x => Good.bind (good_exp (by decide)) (fun _ => gb c x)) (R' := fun x a b t => c.wf → x.wf → ∀ a0, c.size + x.size + a0 + 1 ≤ a → RT a0 b t) (fun x => ?_) (fun a b d x y h1 h2 h3 r1 r2 hc a0 h => r2 hc r1.2 a0 (by have := r1.1; omega)); refine Po.bind (good_exp (by decide)) po_exp (fun _ => gb c x) (R' := fun _ a b t => c.wf → x.wf → ∀ a0, c.size + x.size + a0 + 1 ≤ a → RT a0 b t) (fun _ => ?_) (fun a b d _ y h1 h2 h3 r1 r2 hc hx a0 h => r2 hc hx a0 (by omega)); refine Po.bind g.b (ih.b (m - 1) (by omega)) (fun _ => Good.ret _) (fun y => Po.ret (R := fun a b t => t = Nd.mk 83 0 [] [c, x, y] ∧ a = b) (fun _ _ => ⟨rfl, rfl⟩)) ?_; rintro a b d y t h1 h2 h3 ⟨r1, r2⟩ ⟨rfl, rfl⟩ hc hx a0 h
    exact mkNd (by omega) (by decide) (by decide) (by simp) (by simp only [rowSize]; omega) ⟨hc, hx, r2, trivial⟩
  · refine Po.congr (letF_at k) ?_
    have gb : ∀ (mm : List UInt8) (v : Nd), Good (bindP (fun ts n σ => braceF ts n k σ) (fun y => retP (Nd.mk 84 0 mm [v, y]))) := fun mm v => Good.bind g.b (fun _ => Good.ret _)
    refine Po.bindL (good_exp (by decide)) lt_exp po_exp (fun _ => Good.bind good_name (fun mm => Good.bind (good_exp (by decide)) (fun _ => Good.bind (g.e 1) (fun v => gb mm v)))) (R' := fun _ a b t => ∀ a0, a0 + 1 ≤ a → RT a0 b t) (fun _ => ?_) (fun a b c _ y h1 h2 h3 r1 r2 => r2 a r1); refine Po.bind good_name (po_name hT) (fun mm => Good.bind (good_exp (by decide)) (fun _ => Good.bind (g.e 1) (fun v => gb mm v))) (R' := fun mm a b t => mm.length ≤ 1000000 → ∀ a0, a0 + 1 ≤ a → RT a0 b t) (fun mm => ?_) (fun a b c _ y h1 h2 h3 r1 r2 a0 h => r2 r1.2 a0 (by omega)); refine Po.bind (good_exp (by decide)) po_exp (fun _ => Good.bind (g.e 1) (fun v => gb mm v)) (R' := fun _ a b t => mm.length ≤ 1000000 → ∀ a0, a0 + 1 ≤ a → RT a0 b t) (fun _ => ?_) (fun a b c _ y h1 h2 h3 r1 r2 hm a0 h => r2 hm a0 (by omega)); refine Po.bind (g.e 1) (ih.e (m - 1) 1 (by omega)) (fun v => gb mm v) (R' := fun v a b t => v.wf → mm.length ≤ 1000000 → ∀ a0, v.size + a0 + 1 ≤ a → RT a0 b t) (fun v => ?_) (fun a b c v y h1 h2 h3 r1 r2 hm a0 h => r2 r1.2 hm a0 (by have := r1.1; omega)); refine Po.bind g.b (ih.b (m - 1) (by omega)) (fun _ => Good.ret _) (fun y => Po.ret (R := fun a b t => t = Nd.mk 84 0 mm [v, y] ∧ a = b) (fun _ _ => ⟨rfl, rfl⟩)) ?_; rintro a b d y t h1 h2 h3 ⟨r1, r2⟩ ⟨rfl, rfl⟩ hv hm a0 h
    exact mkNd (by omega) (by decide) (by decide) hm (by simp only [rowSize]; omega) ⟨hv, r2, trivial⟩
  · refine Po.congr (namedF_at k) ?_
    refine Po.bindL good_name lt_name (po_name hT) (fun mm => Good.rd (eqF_nil (by decide)) (fun _ _ => Good.rd (eqF_nil (by decide)) (fun _ _ => Good.ret _) (fun _ _ => Good.bind (g.e 1) (fun _ => Good.bind (g.m _) (fun _ => Good.bind (good_exp (by decide)) (fun _ => Good.ret _))))) (fun _ _ => Good.ret _)) (R' := fun mm a b t => mm.length ≤ 1000000 → ∀ a0, a0 + 1 ≤ a → RT a0 b t) (fun mm => ?_) (fun a b c _ y h1 h2 h3 r1 r2 => r2 r1.2 a r1.1); refine Po.rd (eqF_nil (by decide)) (fun h1 _ _ _ => Po.rd (eqF_nil (by decide)) (fun h2 _ _ _ => Po.ret ?_) (fun _ _ => ?_)) (fun _ _ => Po.ret ?_)
    · rintro a hl a1 rfl a2 rfl hm a0 h
      exact mkNd (by omega) (by decide) (by decide) hm (by simp only [rowSize]; omega) trivial
    · refine Po.bind (g.e 1) (ih.e (m - 1 - 1) 1 (by omega)) (fun _ => Good.bind (g.m _) (fun _ => Good.bind (good_exp (by decide)) (fun _ => Good.ret _))) (R' := fun x a b t => x.wf → mm.length ≤ 1000000 → ∀ a0, x.size + a0 + 1 ≤ a → RT a0 b t) (fun x => ?_) (fun a b c x y h1 h2 h3 r1 r2 a1 ha hm a0 h => r2 r1.2 hm a0 (by have := r1.1; omega))
      refine Po.bind (g.m _) (ih.m (m - 1 - 1) _ (by omega)) (fun _ => Good.bind (good_exp (by decide)) (fun _ => Good.ret _)) (R' := fun l a b t => rowWf l → mm.length ≤ 1000000 → ∀ a0, rowSize l + a0 + 1 ≤ a → RT a0 b t) (fun l => ?_) (fun a b c l y h1 h2 h3 r1 r2 hx hm a0 h => by
       obtain ⟨r3, r4⟩ := r1 ⟨hx, trivial⟩; simp only [rowSize] at r3
       exact r2 r4 hm a0 (by omega))
      refine Po.bind (good_exp (by decide)) po_exp (fun _ => Good.ret _) (fun _ => Po.ret (R := fun a b t => t = Nd.mk 85 0 mm l ∧ a = b) (fun _ _ => ⟨rfl, rfl⟩)) ?_; rintro a b c _ t h1 h2 h3 r1 ⟨rfl, rfl⟩ hl hm a0 h
      exact mkNd (by omega) (by decide) (by decide) hm (by omega) hl
    · rintro a hl hm a0 h
      exact mkNd (by omega) (by decide) (by decide) hm (by simp only [rowSize]; omega) trivial
  · refine Po.congr (args1F_at k) ?_
    refine Po.bindL (good_exp (by decide)) lt_exp po_exp (fun _ => Good.bind (g.e 1) (fun _ => Good.bind (good_exp (by decide)) (fun _ => Good.ret _))) (R' := fun _ a b l => ∀ a0, a0 + 1 ≤ a → RL a0 b l) (fun _ => ?_) (fun a b c _ y h1 h2 h3 r1 r2 => r2 a r1); refine Po.bind (g.e 1) (ih.e (m - 1) 1 (by omega)) (fun _ => Good.bind (good_exp (by decide)) (fun _ => Good.ret _)) (R' := fun x a b l => x.wf → ∀ a0, x.size + a0 + 1 ≤ a → RL a0 b l) (fun x => ?_) (fun a b c x y h1 h2 h3 r1 r2 a0 h => r2 r1.2 a0 (by have := r1.1; omega)); refine Po.bind (good_exp (by decide)) po_exp (fun _ => Good.ret _) (fun _ => Po.ret (R := fun a b t => t = [x] ∧ a = b) (fun _ _ => ⟨rfl, rfl⟩)) ?_; rintro a b c _ t h1 h2 h3 r1 ⟨rfl, rfl⟩ hx a0 h
    exact ⟨by simp only [rowSize]; omega, hx, trivial⟩
  · refine Po.congr (args2F_at k) ?_
    refine Po.bindL (good_exp (by decide)) lt_exp po_exp (fun _ => Good.bind (g.e 1) (fun _ => Good.bind (good_exp (by decide)) (fun _ => Good.bind (g.e 1) (fun _ => Good.bind (good_exp (by decide)) (fun _ => Good.ret _))))) (R' := fun _ a b l => ∀ a0, a0 + 1 ≤ a → RL a0 b l) (fun _ => ?_) (fun a b c _ y h1 h2 h3 r1 r2 => r2 a r1); refine Po.bind (g.e 1) (ih.e (m - 1) 1 (by omega)) (fun _ => Good.bind (good_exp (by decide)) (fun _ => Good.bind (g.e 1) (fun _ => Good.bind (good_exp (by decide)) (fun _ => Good.ret _)))) (R' := fun x a b l => x.wf → ∀ a0, x.size + a0 + 1 ≤ a → RL a0 b l) (fun x => ?_) (fun a b c x y h1 h2 h3 r1 r2 a0 h => r2 r1.2 a0 (by have := r1.1; omega)); refine Po.bind (good_exp (by decide)) po_exp (fun _ => Good.bind (g.e 1) (fun _ => Good.bind (good_exp (by decide)) (fun _ => Good.ret _))) (R' := fun _ a b l => x.wf → ∀ a0, x.size + a0 + 1 ≤ a → RL a0 b l) (fun _ => ?_) (fun a b c _ y h1 h2 h3 r1 r2 hx a0 h => r2 hx a0 (by omega)); refine Po.bind (g.e 1) (ih.e (m - 1) 1 (by omega)) (fun _ => Good.bind (good_exp (by decide)) (fun _ => Good.ret _)) (R' := fun v a b l => x.wf → v.wf → ∀ a0, x.size + v.size + a0 + 1 ≤ a → RL a0 b l) (fun v => ?_) (fun a b c v y h1 h2 h3 r1 r2 hx a0 h => r2 hx r1.2 a0 (by have := r1.1; omega)); refine Po.bind (good_exp (by decide)) po_exp (fun _ => Good.ret _) (fun _ => Po.ret (R := fun a b t => t = [x, v] ∧ a = b) (fun _ _ => ⟨rfl, rfl⟩)) ?_; rintro a b c _ t h1 h2 h3 r1 ⟨rfl, rfl⟩ hx hv a0 h
    exact ⟨by simp only [rowSize]; omega, hx, hv, trivial⟩
  · refine Po.congr (braceF_at k) ?_
    refine Po.bindL (good_exp (by decide)) lt_exp po_exp (fun _ => Good.bind (g.e 1) (fun _ => Good.bind (good_exp (by decide)) (fun _ => Good.ret _))) (R' := fun _ => RT) (fun _ => ?_) (fun a b c _ y h1 h2 h3 r1 r2 => ⟨by have := r2.1; omega, r2.2⟩); refine Po.bind (g.e 1) (ih.e (m - 1) 1 (by omega)) (fun _ => Good.bind (good_exp (by decide)) (fun _ => Good.ret _)) (R' := fun x a b y => y = x ∧ a ≤ b) (fun x => ?_) (fun a b c x y h1 h2 h3 r1 r2 => ⟨by have := r1.1; have := r2.2; rw [r2.1]; omega, by rw [r2.1]; exact r1.2⟩); refine Po.bind (good_exp (by decide)) po_exp (fun _ => Good.ret _) (fun _ => Po.ret (R := fun a b t => t = x ∧ a = b) (fun _ _ => ⟨rfl, rfl⟩)) ?_; rintro a b c _ t h1 h2 h3 r1 ⟨rfl, rfl⟩
    exact ⟨rfl, h1⟩
  · refine Po.congr (moreF_at k acc) ?_
    refine Po.rd (eqF_nil (by decide)) (fun h1 _ _ _ => ?_) (fun _ _ => Po.ret (fun a _ hw => ⟨by omega, hw⟩)); refine Po.bind (g.e 1) (ih.e (m - 1) 1 (by omega)) (fun x => g.m _) (fun x => ih.m (m - 1) (acc ++ [x]) (by omega)) ?_; rintro a b c x y h1 h2 h3 ⟨r1, r2⟩ r3 a0 rfl hw; obtain ⟨r4, r5⟩ := r3 (rowWf_app.2 ⟨hw, r2, trivial⟩); rw [rowSize_snoc] at r4
    exact ⟨by omega, r5⟩
end
end Bk
namespace Bk
open Go
def FewF (f : FD) : Prop := f.name.length ≤ 1000000 ∧ f.params.length ≤ 1000000 ∧ (∀ p ∈ f.params, p.name.length ≤ 1000000) ∧ f.body.size ≤ 1000000 ∧ f.body.wf
def FT (a b : Nat) (f : FD) : Prop := f.name.length ≤ 1000000 ∧ f.params.length + f.body.size + a + 1 ≤ b ∧ (∀ p ∈ f.params, p.name.length ≤ 1000000) ∧ f.body.wf
section
variable {ts : List Tok} {n : Int} {m : Nat}
theorem po_any {α : Type} (p : Pr α) : Po ts n m p (fun _ _ _ => True) := fun _ _ _ _ => trivial
theorem po_fparam (hT : ∀ t ∈ ts, t.text.length ≤ 1000000) : Po ts n m (fun ts n σ => fparamP ts n σ) (fun a b p => a + 1 ≤ b ∧ p.name.length ≤ 1000000) := by
 refine Po.congr (q := bindP (fun ts n σ => listP ts n σ) (fun l => bindP (fun ts n σ => nameP ts n σ) (fun m => retP (⟨m, l⟩ : FP)))) (fun ts n σ => rfl) ?_; refine Po.bind good_list (po_any _) (fun _ => Good.bind good_name (fun _ => Good.ret _)) (R' := fun _ a b p => a + 1 ≤ b ∧ p.name.length ≤ 1000000) (fun l => ?_) (fun a b c _ p h1 h2 h3 _ r => ⟨by omega, r.2⟩); refine Po.bind good_name (po_name hT) (fun _ => Good.ret _) (fun x => Po.ret (R := fun a b t => t = ⟨x, l⟩ ∧ a = b) (fun _ _ => ⟨rfl, rfl⟩)) ?_; rintro a b c x y h1 h2 h3 r1 ⟨rfl, rfl⟩
 exact r1
theorem po_fparams (hT : ∀ t ∈ ts, t.text.length ≤ 1000000) (k : Nat) : ∀ (m : Nat) (acc : List FP), m + 1 ≤ k → Po ts n m (fun ts n σ => fparamsP ts n k acc σ) (fun a b l => (∀ p ∈ acc, p.name.length ≤ 1000000) → l.length + a ≤ b + acc.length ∧ ∀ p ∈ l, p.name.length ≤ 1000000) := by
 induction k with
 | zero => intro m acc h; omega
 | succ k ih =>
  intro m acc h; refine Po.congr (fparams_at k acc) ?_
  have key : ∀ p : FP, (∀ p ∈ acc, p.name.length ≤ 1000000) → p.name.length ≤ 1000000 → ∀ q ∈ acc ++ [p], q.name.length ≤ 1000000 := by
   intro p h1 h2 q hq
   rcases List.mem_append.1 hq with h | h
   · exact h1 q h
   · obtain rfl := List.mem_singleton.1 h; exact h2
  refine Po.bindL good_fparam lt_fparam (po_fparam hT) (fun p => Good.rd (eqF_nil (by decide)) (fun _ _ => good_fparams _ _) (fun _ _ => Good.ret _)) (R' := fun p a b l => (∀ p ∈ acc, p.name.length ≤ 1000000) → p.name.length ≤ 1000000 → l.length + a ≤ b + acc.length + 1 ∧ ∀ p ∈ l, p.name.length ≤ 1000000) (fun p => ?_) (fun a b c p l h1 h2 h3 r1 r2 ha => by
   obtain ⟨r3, r4⟩ := r2 ha r1.2
   exact ⟨by omega, r4⟩)
  refine Po.rd (eqF_nil (by decide)) (fun h1 _ _ _ => ?_) (fun _ _ => Po.ret (fun a _ ha hp => ⟨by simp only [List.length_append, List.length_cons, List.length_nil]; omega, key p ha hp⟩)); refine (ih (m - 1 - 1) (acc ++ [p]) (by omega)).weaken (good_fparams _ _) (fun a b l h1 h2 r a0 ha0 ha hp => ?_); obtain ⟨r3, r4⟩ := r (key p ha hp); simp only [List.length_append, List.length_cons, List.length_nil] at r3
  exact ⟨by omega, r4⟩
theorem po_params (hT : ∀ t ∈ ts, t.text.length ≤ 1000000) (k m : Nat) (h : m + 1 ≤ k) : Po ts n m (paramsC k) (fun a b l => l.length + a ≤ b ∧ ∀ p ∈ l, p.name.length ≤ 1000000) := by
 refine Po.rd (eqF_nil (by decide)) (fun _ _ _ _ => Po.ret (fun a _ a0 h => ⟨by simp only [List.length_nil]; omega, by simp⟩)) (fun _ _ => ?_)
 refine Po.bind (good_fparams k []) (po_fparams hT k m [] h) (fun _ => Good.bind (good_exp (by decide)) (fun _ => Good.ret _)) (R' := fun r a b l => l = r ∧ a ≤ b) (fun r => ?_) (fun a b c r l h1 h2 h3 r1 r2 => by
  obtain ⟨r3, r4⟩ := r1 (by simp); simp only [List.length_nil] at r3; obtain ⟨rfl, r5⟩ := r2
  exact ⟨by omega, r4⟩)
 refine Po.bind (good_exp (by decide)) po_exp (fun _ => Good.ret _) (fun _ => Po.ret (R := fun a b t => t = r ∧ a = b) (fun _ _ => ⟨rfl, rfl⟩)) ?_; rintro a b c _ t h1 h2 h3 r1 ⟨rfl, rfl⟩
 exact ⟨rfl, h1⟩
theorem po_function (hL : ts.length ≤ 1000000) (hT : ∀ t ∈ ts, t.text.length ≤ 1000000) (k m : Nat) (h : 4 * m + 5 ≤ k) : Po ts n m (fun ts n σ => functionP ts n k σ) FT := by
 refine Po.congr (functionP_at k) ?_; have g := good_F k; have p := po_F (n := n) hL hT k
 have g5 : ∀ mm q l, Good (bindP (fun ts n σ => braceF ts n k σ) (fun x => retP (⟨mm, q, l, x⟩ : FD))) := fun _ _ _ => Good.bind g.b (fun _ => Good.ret _)
 have g4 : ∀ mm q, Good (bindP (fun ts n σ => listP ts n σ) (fun l => bindP (fun ts n σ => braceF ts n k σ) (fun x => retP (⟨mm, q, l, x⟩ : FD)))) := fun _ _ => Good.bind good_list (fun _ => g5 _ _ _)
 refine Po.bindL (good_exp (by decide)) lt_exp po_exp (fun _ => Good.bind good_name (fun _ => Good.bind (good_exp (by decide)) (fun _ => Good.bind (good_paramsC k) (fun _ => g4 _ _)))) (R' := fun _ => fun a b f => ∀ a0, a0 + 1 ≤ a → FT a0 b f) (fun _ => ?_) (fun a b c _ y h1 h2 h3 r1 r2 => r2 a r1); refine Po.bind good_name (po_name hT) (fun _ => Good.bind (good_exp (by decide)) (fun _ => Good.bind (good_paramsC k) (fun _ => g4 _ _))) (R' := fun mm a b f => mm.length ≤ 1000000 → ∀ a0, a0 + 1 ≤ a → FT a0 b f) (fun mm => ?_) (fun a b c _ y h1 h2 h3 r1 r2 a0 h => r2 r1.2 a0 (by omega)); refine Po.bind (good_exp (by decide)) po_exp (fun _ => Good.bind (good_paramsC k) (fun _ => g4 _ _)) (R' := fun _ a b f => mm.length ≤ 1000000 → ∀ a0, a0 + 1 ≤ a → FT a0 b f) (fun _ => ?_) (fun a b c _ y h1 h2 h3 r1 r2 hm a0 h => r2 hm a0 (by omega)); refine Po.bind (good_paramsC k) (po_params hT k (m - 1) (by omega)) (fun _ => g4 _ _) (R' := fun q a b f => (∀ p ∈ q, p.name.length ≤ 1000000) → mm.length ≤ 1000000 → ∀ a0, q.length + a0 + 1 ≤ a → FT a0 b f) (fun q => ?_) (fun a b c q y h1 h2 h3 r1 r2 hm a0 h => r2 r1.2 hm a0 (by have := r1.1; omega)); refine Po.bind good_list (po_any _) (fun _ => g5 _ _ _) (R' := fun _ a b f => (∀ p ∈ q, p.name.length ≤ 1000000) → mm.length ≤ 1000000 → ∀ a0, q.length + a0 + 1 ≤ a → FT a0 b f) (fun l => ?_) (fun a b c _ y h1 h2 h3 r1 r2 hq hm a0 h => r2 hq hm a0 (by omega)); refine Po.bind g.b (p.b (m - 1) (by omega)) (fun _ => Good.ret _) (fun x => Po.ret (R := fun a b f => f = (⟨mm, q, l, x⟩ : FD) ∧ a = b) (fun _ _ => ⟨rfl, rfl⟩)) ?_
 rintro a b c x f h1 h2 h3 ⟨r1, r2⟩ ⟨rfl, rfl⟩ hq hm a0 h
 exact ⟨hm, by dsimp only; omega, hq, r2⟩
theorem libP_few (hL : ts.length ≤ 1000000) (hT : ∀ t ∈ ts, t.text.length ≤ 1000000) (k : Nat) : ∀ (acc : List FD) (at_ : List Int) (σ : PS), σ.at_ ≤ ts.length → 4 * mS ts σ + 6 ≤ k → (∀ f ∈ acc, FewF f) → (libP ts n k acc at_ σ).2.err = 0 → (∀ f ∈ (libP ts n k acc at_ σ).1.1, FewF f) ∧ (libP ts n k acc at_ σ).1.1.length + σ.at_ ≤ acc.length + ts.length ∧ ((libP ts n k acc at_ σ).1.2.length + acc.length = at_.length + (libP ts n k acc at_ σ).1.1.length) := by
 induction k with
 | zero => intro acc at_ σ _ h; omega
 | succ k ih =>
  intro acc at_ σ hw hk ha he; rw [libP] at he ⊢
  by_cases hc : σ.err = 0 ∧ σ.at_ < ts.length
  · rw [if_pos hc] at he ⊢
    have l1 := (good_function k).le ts n σ hw; have l2 := libP_le (n := n) k (acc ++ [(functionP ts n k σ).1]) (at_ ++ [(ts.getD σ.at_ Tok.zero).pos]) _ l1.wf; have hm := mS_pos hc; obtain ⟨f1, f2, f3, f4⟩ := po_function (n := n) hL hT k (mS ts σ) (by omega) σ hw (Nat.le_refl _) (l2.ok he); have h2 := l1.wf; dsimp only at f1 f2 f3 f4 h2 l1; have h3 := mS_lt l1 (lt_function k ts n σ hw)
    obtain ⟨r1, r2, r3⟩ := ih (acc ++ [(functionP ts n k σ).1]) (at_ ++ [(ts.getD σ.at_ Tok.zero).pos]) _ l1.wf (by omega) (fun f hf => by
     rcases List.mem_append.1 hf with h | h
     · exact ha f h
     · obtain rfl := List.mem_singleton.1 h
       exact ⟨f1, by omega, f3, by omega, f4⟩) he
    simp only [List.length_append, List.length_cons, List.length_nil] at r2 r3
    exact ⟨r1, by omega, by omega⟩
  · rw [if_neg hc]
    dsimp only
    exact ⟨ha, by omega, by omega⟩
end
end Bk
namespace Bk
open Go Go.RowKit Go.Proofs
attribute [local irreducible] Go.Calls
theorem setS_binF (j : Nat) (h : j < 16) : setS (binMap.take j) (symbol (8 + (j : Int))) (.int .u8 (8 + (j : Int))) = binMap.take (j + 1) := by
 have : j = 0 ∨ j = 1 ∨ j = 2 ∨ j = 3 ∨ j = 4 ∨ j = 5 ∨ j = 6 ∨ j = 7 ∨ j = 8 ∨ j = 9 ∨ j = 10 ∨ j = 11 ∨ j = 12 ∨ j = 13 ∨ j = 14 ∨ j = 15 := by omega
 rcases this with rfl | rfl | rfl | rfl | rfl | rfl | rfl | rfl | rfl | rfl | rfl | rfl | rfl | rfl | rfl | rfl <;> rfl
theorem Syms.ltF {w : World} (h : Syms w) : 0 < w.heap.size := cell_lt (h.sym 0 (by omega))
theorem Errs.ltF {w : World} (h : Errs w) : 6 < w.heap.size := by
 obtain ⟨te, pe, h⟩ := h.ex
 exact cell_lt h
def LibR (w : World) (r : List FD × Int × Int) (e : Ending) (w' : World) : Prop := ∃ la lc, e = .returned (.tuple #[.slice la r.1.length lc, .int .i64 r.2.1, .int .i64 r.2.2]) ∧ FDs (w.heap.size ≤ ·) w' r.1 la ∧ Ext w w'
theorem LibR.ret {w : World} {r : List FD × Int × Int} {e : Ending} {w' : World} (h : LibR w r e w') : ∃ v, e = .returned v := by
 obtain ⟨_, _, h, -⟩ := h
 exact ⟨_, h⟩
theorem libR_mk {w w' : World} {r r' : List FD × Int × Int} {la : Option Addr} {lc : Nat} (h : r = r') (hs : FDs (w.heap.size ≤ ·) w' r'.1 la) (x : Ext w w') : LibR w r (.returned (.tuple #[.slice la r'.1.length lc, .int .i64 r'.2.1, .int .i64 r'.2.2])) w' := by
 subst h; exact ⟨_, _, rfl, hs, x⟩
theorem lexT_off {s : List UInt8} (h : (lexT s).2.2 = 0) : (lexT s).2.1 = 0 := by
 unfold lexT at h ⊢
 split at h
 · cases h
 · rename_i hc
   rw [if_neg hc]
   split at h
   · rfl
   · cases h
theorem libErrFrom_some {lib : List FD} {i : Nat} {e : Int} : ∀ (r : List FD) (j : Nat), libErrFrom lib j r = some (i, e) → i < j + r.length ∧ e ≠ 0 := by
 intro r
 induction r with
 | nil => intro j h; cases h
 | cons f r ih =>
  intro j h; rw [libErrFrom] at h
  split at h
  · rename_i hne
    simp only [Option.some.injEq, Prod.mk.injEq] at h; obtain ⟨rfl, rfl⟩ := h
    exact ⟨by simp only [List.length_cons]; omega, hne⟩
  · obtain ⟨h1, h2⟩ := ih _ h
    exact ⟨by simp only [List.length_cons]; omega, h2⟩
theorem libErr_some {lib : List FD} {i : Nat} {e : Int} (h : libErr lib = some (i, e)) : i < lib.length ∧ e ≠ 0 := by
 have := libErrFrom_some lib 0 h
 exact ⟨by omega, this.2⟩
theorem Valid_v {lib : List FD} {i e : Int} (h : validI lib = (i, e)) (S : Nat → Prop) (a : Option Addr) (c : Nat) (w : World) (hl : LibFew lib) (hs : FDs S w lib a) :
 Calls Tryz.prog 14 #[.slice a lib.length c] w fun r w' => r = .returned (.tuple #[.int .i64 i, .int .i64 e]) ∧ Ext w w' := by
 have := Valid_c lib S a c w hl hs
 rw [h] at this; exact this
def finLib (r : (List FD × List Int) × PS) : List FD × Int × Int :=
 if r.2.err ≠ 0 then ([], r.2.off, r.2.err) else match libErr r.1.1 with
 | some (i, e) => ([], r.1.2.getD i 0, e)
 | none => (r.1.1, 0, 0)
set_option maxRecDepth 100000 in
set_option maxHeartbeats 8000000 in
theorem funParse_c (s : List UInt8) (w : World) (hs : s.length ≤ 1000000) (hS : Syms w) (hE : Errs w) : Calls Tryz.prog 10 #[str s] w (LibR w (parseLib s)) := by
 have X := Ext.refl w; have hg1 := hS.ltF; have hg2 := hE.ltF; have hl1 := lexT_len s
 by_cases he : (lexT s).2.2 = 0
 case neg =>
  have hp : parseLib s = ([], (lexT s).2.1, (lexT s).2.2) := by unfold parseLib; rw [if_pos (show (startP s).2.err ≠ 0 from he)]; rfl
  rw [hp]; clear hp hl1; refine calls_in Tryz.func10 Tryz.ntmps10 rfl rfl ?_
  focus
   refine cS (C1 Pa (C1 Pa (C1 Pa (cN (C1 Mv ?_))))); refine cR (by kernel_rfl) rfl (Lex_c _ _ (by omega)) (fun _ _ h => h.ret) rfl ?_; rintro _ w5 ⟨a1, ⟨k2, ⟨⟨⟩, ⟨h3, x4⟩⟩⟩⟩; have z6 := x4.size; replace hS := hS.ext x4; replace hE := hE.ext x4; replace X := X.ext x4; clear x4; refine C1 Mv (C1 Px (C1 Px (C1 Px (C1 Pa (C1 Pa (C1 Pa (cT (cw_seq (cS (C1 Mv (C1 V2 ?_))))))))))); refine cT (Wya (cS (C1 Mv (C1 Mv (C1 Pa (C1 Pa (C1 Pa (cT (cw_ret (qw_then_ret (qw_ret3 rfl rfl rfl rfl ?_))))))))))); rotate_left 1
  exact libR_mk rfl (Or.inl rfl) X
 have hoff := lexT_off he
 have hst : startP s = (solidT (lexT s).1, ⟨0, 0, 0⟩) := by unfold startP; rw [he, hoff]
 have hp : parseLib s = finLib (libP (solidT (lexT s).1) s.length (fuelP s) [] [] ⟨0, 0, 0⟩) := by
  unfold parseLib
  rw [hst, if_neg (by simp)]
  rfl
 have hsl := start_len s; have hok := solid_ok s; rw [hst] at hsl hok; simp only at hsl hok
 have htx : ∀ t ∈ solidT (lexT s).1, t.text.length ≤ 1000000 := fun t ht => Nat.le_trans (hok t ht).len hs
 have hnm : ∀ t ∈ solidT (lexT s).1, t.kind = 2 → t.text ≠ [] ∧ ∀ x ∈ t.text, digit x = true := fun t ht => (hok t ht).num
 have hfew := libP_few (ts := solidT (lexT s).1) (n := s.length) (by omega) htx (fuelP s) [] [] ⟨0, 0, 0⟩ (Nat.zero_le _) (by have := mS_len (ts := solidT (lexT s).1) (σ := ⟨0, 0, 0⟩); unfold fuelP; omega) (by simp)
 have hfu : 4 * mS (solidT (lexT s).1) ⟨0, 0, 0⟩ + 6 ≤ fuelP s := by have := mS_len (ts := solidT (lexT s).1) (σ := ⟨0, 0, 0⟩); unfold fuelP; omega
 rw [hp]; have HT := Lib.hid htx; have HN := Lib.hid hnm; have HW := Lib.hid hfew; clear hp hst htx hnm hfew hok; refine calls_in Tryz.func10 Tryz.ntmps10 rfl rfl ?_
 focus
  refine cS (C1 Pa (C1 Pa (C1 Pa (cN (C1 Mv ?_))))); refine cR (by kernel_rfl) rfl (Lex_c _ _ (by omega)) (fun _ _ h => h.ret) rfl ?_; rintro _ wa5 ⟨aa1, ⟨ka2, ⟨⟨⟩, ⟨ha3, xa4⟩⟩⟩⟩; have za6 := xa4.size; replace hS := hS.ext xa4; replace hE := hE.ext xa4; replace X := X.ext xa4; clear xa4; refine C1 Mv (C1 Px (C1 Px (C1 Px (C1 Pa (C1 Pa (C1 Pa (cT (cw_seq (cS (C1 Mv (C1 V2 ?_))))))))))); refine cT (Wno (cw_skip (qw_then (cS (C1 Mv ?_))))); refine cR (by kernel_rfl) rfl (Solid_c _ _ _ _ _ (by omega) (by assumption) (by intro b h; exact h.2)) (fun _ _ h => h.ret) rfl ?_; rintro _ wa11 ⟨aa7, ⟨ka8, ⟨⟨⟩, ⟨ha9, xa10⟩⟩⟩⟩; have za12 := xa10.size; replace ha3 := ha3.ext xa10; replace hS := hS.ext xa10; replace hE := hE.ext xa10; replace X := X.ext xa10; clear xa10; refine C1 Mv (C1 Py (lw_makeMap rfl ?_)); rintro ra13 wa14 rfl ha15 xa16 ha17; have za18 := xa16.size; replace ha9 := ha9.ext xa16; replace ha3 := ha3.ext xa16; replace hS := hS.ext xa16; replace hE := hE.ext xa16; replace X := X.ext xa16; clear xa16; refine C1 (pur_build' [_, _, _, _, _, _] tabOk zOk rfl rfl rfl rfl) ?_; (refine lw_alloc' [_, _, _, _, _, _] zOk rfl rfl ?_; intro ba19 wa20 na21); (refine lw_init' [_, _, _, _, _, _] tabOk rfl rfl rfl rfl rfl rfl na21 rfl ?_; clear na21; clear wa20; intro wa22 na21); have ha23 := na21.blk; have xa24 := na21.ext; have pa25 := na21.pos; have za26 := na21.size; clear na21; replace ha15 := ha15.ext xa24; replace ha9 := ha9.ext xa24; replace ha3 := ha3.ext xa24; replace hS := hS.ext xa24
  replace hE := hE.ext xa24; replace X := X.ext xa24; clear xa24; refine cT (cw_seq (cS ?_)); refine cR (by kernel_rfl) rfl (Operators_c _) (fun _ _ h => h.ret) rfl ?_; rintro _ wa33 ⟨ba27, ⟨ka28, ⟨⟨⟩, ⟨ha29, ⟨ha30, ⟨ha31, xa32⟩⟩⟩⟩⟩⟩; have za34 := xa32.size; replace ha23 := ha23.ext xa32; replace ha15 := ha15.ext xa32; replace ha9 := ha9.ext xa32; replace ha3 := ha3.ext xa32; replace hS := hS.ext xa32; replace hE := hE.ext xa32; replace X := X.ext xa32; clear xa32; refine C1 Pz (C1 Mv (cT (cw_block ?_))); rotate_left 1
 generalize hr : wa11.heap.size = r at *
 generalize solidT (lexT s).1 = ts at *
 clear ha3 he hoff hl1; refine cw_loop (ι := Nat) (fun j => [(8, .pointer (some ⟨ba19, 0, none⟩)), (31, .slice (some ⟨ba27, 0, none⟩) 16 ka28), (32, .int .i64 16), (33, .int .i64 j)])
  (fun j w' => j ≤ 16 ∧ MapIs w' r (binMap.take j) ∧ Row w' ⟨ba27, 0, none⟩ ((ops8 16).map (.int .u8 ·)) ∧ Blk w' ba19 [.slice aa7 ts.length ka8, .int .i64 0, .int .i64 s.length, .map (some r), .int .i64 0, .int .i64 0] ∧
   Toks (fun b => wa5.heap.size ≤ b ∧ b < r) w' ts aa7 ∧ Syms w' ∧ Errs w' ∧ Ext w w' ∧ wa33.heap.size ≤ w'.heap.size) (fun j => 16 - j) 0 (by (refine sub_cons rfl ?_; refine sub_cons rfl ?_; refine sub_cons rfl ?_; refine sub_cons rfl ?_; exact sub_nil)) ⟨Nat.zero_le _, ha15, ha31, ha23, ha9, hS, hE, X, Nat.le_refl _⟩ ?_
 clear ha15 ha31 ha23 ha9 hS hE X; rintro j w1 ⟨hj, hM, hrow, hb, hT, hS, hE, X, hz⟩
 by_cases hlt : j < 16
 · have hr1 : Row w1 ⟨ba27, 0 + j * 1, none⟩ [.int .u8 (8 + (j : Int))] := by
    have h1 := hrow.sub j 1
    have e : (((ops8 16).map (.int .u8 ·)).drop j).take 1 = [Value.int .u8 (8 + (j : Int))] := by
     have : j = 0 ∨ j = 1 ∨ j = 2 ∨ j = 3 ∨ j = 4 ∨ j = 5 ∨ j = 6 ∨ j = 7 ∨ j = 8 ∨ j = 9 ∨ j = 10 ∨ j = 11 ∨ j = 12 ∨ j = 13 ∨ j = 14 ∨ j = 15 := by omega
     rcases this with rfl | rfl | rfl | rfl | rfl | rfl | rfl | rfl | rfl | rfl | rfl | rfl | rfl | rfl | rfl | rfl <;> rfl
    rw [e] at h1
    rw [Nat.mul_one]; exact h1
   have hset := setS_binF j hlt
   focus
    refine cS (C1 V3 (cT (cw_seq (Wyo (cw_skip (qw_then (cw_seq (cw_block (cS (C1 Pi (C1 (Pw0 hr1) ?_))))))))))); refine C1 Pa (cT ?_); (refine cw_tdraw (fun wz => Ext w1 wz) 5 (.pure 0 (.pure 1 (.pure 2 (.pure 4 (.fork 3 .tail .none))))) mixed (by kernel_rfl) (panicOk_block (panicOk_then (panicOk_then (panicOk_block (panicOk_then panicOk_body))))) ?_; intro wb1 xb2 _); have qsb3 : (fun wz => Ext w1 wz) wb1 := xb2; simp only at qsb3; have d_hM := hM; have d_hrow := hrow; have d_hb := hb; have d_hT := hT; have d_hS := hS; have d_hE := hE; have d_hr1 := hr1; have zb4 := xb2.size; replace hM := hM.ext xb2; replace hrow := hrow.ext xb2; replace hb := hb.ext xb2; replace hT := hT.ext xb2; replace hS := hS.ext xb2; replace hE := hE.ext xb2; replace X := X.ext xb2; replace hr1 := hr1.ext xb2; clear xb2; refine ⟨qsb3, ?_⟩; refine Tq rfl Pf (Tq rfl (Db d_hb) (Tq rfl Mv (Tq rfl Mv ?_))); refine tw_does rfl (does_call (by kernel_rfl) rfl (arith_Symbol_s _ _ (by omega) (by omega) (by assumption)) (fun _ _ h => ⟨_, h.1⟩)) rfl ?_ (fun _ h => h) tw_none; rintro _ wb6 ⟨⟨⟩, rfl⟩; refine ⟨qsb3, ?_⟩; clear qsb3 d_hM d_hrow d_hb d_hT d_hS d_hE d_hr1; refine tw_tail rfl (lw_mapput tabOk rfl rfl rfl rfl rfl hM ?_); rintro wb7 hb8 fb9; have zb10 := fb9.size; clear hM; replace hrow := Row.fr hrow fb9 (by simp only; omega); replace hb := hb.fr fb9 (by omega); replace hT := hT.fr fb9 (by omega); replace hS := hS.fr fb9 (by omega); replace hE := hE.fr fb9 (by omega); replace X := X.fr fb9 (by omega); replace hr1 := Row.fr hr1 fb9 (by simp only; omega)
    clear fb9; refine lw_nil (qw_block_norm (qw_then (cw_region (C1 V7 (C1 Mv (lw_nil ?_)))))); rotate_left 1
   refine qw_round (j + 1) (by (refine sub_cons rfl ?_; refine sub_cons rfl ?_; refine sub_cons rfl ?_; refine sub_cons rfl ?_; exact sub_nil)) ⟨by omega, by rw [← hset]; assumption, hrow, hb, hT, hS, hE, X, by omega⟩ (by omega)
 · have : j = 16 := by omega
   subst this
   have hPP : PPF ⟨ba19, w1.heap.size, ts, s.length, aa7, ka8, r⟩ ⟨0, 0, 0⟩ w1 := by
    refine ⟨hb, hT.wide (fun b h => ⟨by simp only; omega, by simp only; omega⟩), hM, by simp only; omega, by simp only; omega, by simp only; omega, Nat.le_refl _, Nat.zero_le _, by simp only; omega, HT.out, HN.out, hE, by simp only; omega⟩
   clear hb hT hM hrow hS hE HT HN; have hPP0 := hPP; clear hPP; obtain ⟨c, hc1, hc2, hc3, hc4, hPP⟩ : ∃ c : PCF, c.pb = ba19 ∧ c.B = w1.heap.size ∧ c.ts = ts ∧ c.n = s.length ∧ PPF c ⟨0, 0, 0⟩ w1 := ⟨_, rfl, rfl, rfl, rfl, hPP0⟩; clear hPP0; obtain rfl := hc1; obtain rfl := hc3; rw [← hc4] at HW ⊢
   generalize fuelP s = K at *
   have hcp := hPP.pbB
   focus
    refine cS (C1 V3 (cT (cw_seq (Wnd (cw_exit (qw_then_exit (qw_then_exit (qw_block_exit (qw_then (cS (C1 Pa ?_))))))))))); refine cN (C1 Pa (cT (cw_seq (cw_block ?_)))); rotate_left 1
   refine cw_loop (ι := Nat × List FD × List Int × (Option Addr × Nat) × (Option Addr × Nat) × PS) (fun y => [(8, .pointer (some ⟨c.pb, 0, none⟩)), (11, .slice y.2.2.2.1.1 y.2.1.length y.2.2.2.1.2), (12, .slice y.2.2.2.2.1.1 y.2.2.1.length y.2.2.2.2.1.2)])
    (fun y w' => PPF c y.2.2.2.2.2 w' ∧ OwnQ intShape w' (fun _ => False) c.B 3 (.slice y.2.2.2.2.1.1 y.2.2.1.length y.2.2.2.2.1.2) y.2.2.1 ∧ OwnQ fdShape w' (fun b => c.B ≤ b ∧ (Value.slice y.2.2.2.2.1.1 y.2.2.1.length y.2.2.2.2.1.2).ownBlock ≠ some b) c.B 42 (.slice y.2.2.2.1.1 y.2.1.length y.2.2.2.1.2) y.2.1 ∧
     (∀ g, (Value.slice y.2.2.2.1.1 y.2.1.length y.2.2.2.1.2).ownBlock = some g → (Value.slice y.2.2.2.2.1.1 y.2.2.1.length y.2.2.2.2.1.2).ownBlock ≠ some g) ∧ Ext w w' ∧ c.B ≤ w'.heap.size ∧ libP c.ts c.n K [] [] ⟨0, 0, 0⟩ = libP c.ts c.n y.1 y.2.1 y.2.2.1 y.2.2.2.2.2 ∧ 4 * mS c.ts y.2.2.2.2.2 + 6 ≤ y.1 ∧ y.2.1.length + mS c.ts y.2.2.2.2.2 ≤ 1000000 ∧ y.2.2.1.length = y.2.1.length) (fun y => y.1) (K, [], [], (none, 0), (none, 0), ⟨0, 0, 0⟩) (by (refine sub_cons rfl ?_; refine sub_cons rfl ?_; refine sub_cons rfl ?_; exact sub_nil))
    ⟨by assumption, OwnQ.nil, OwnQ.nil, (fun g h => nomatch h), X, by omega, rfl, hfu, by have := mS_len (ts := c.ts) (σ := ⟨0, 0, 0⟩); simp only [List.length_nil]; omega, rfl⟩ ?_
   clear hPP X hfu; rintro ⟨k, fs, at_, ⟨fa, fc⟩, ⟨sa, sc⟩, σ⟩ w2 ⟨hP, ho1, ho2, hdis, X, hB, heq, hk, hfl, hal⟩; simp only at hP ho1 ho2 hdis heq hk hfl hal; have HQ := Lib.hid heq; clear heq; refine CW.sub (m := [(8, .pointer (some ⟨c.pb, 0, none⟩)), (11, .slice fa fs.length fc), (12, .slice sa at_.length sc)]) ?_ (by (refine sub_cons rfl ?_; refine sub_cons rfl ?_; refine sub_cons rfl ?_; exact sub_nil))
   have hob1 : ∀ g, (Value.slice sa at_.length sc).ownBlock = some g → c.B ≤ g ∧ g < w2.heap.size := fun g h => ⟨ho1.ge h, ho1.lt h⟩
   have hob2 : ∀ g, (Value.slice fa fs.length fc).ownBlock = some g → c.B ≤ g ∧ g < w2.heap.size := fun g h => ⟨ho2.ge h, ho2.lt h⟩
   have hat := hP.at_
   by_cases hgo : σ.err = 0 ∧ σ.at_ < c.ts.length
   · obtain ⟨hg, hlt⟩ := hgo
     obtain ⟨k, rfl⟩ : ∃ j, k = j + 1 := ⟨k - 1, by omega⟩; have he := HQ.out; rw [libP, if_pos ⟨hg, hlt⟩] at he
     have hpos : (c.ts.getD σ.at_ Tok.zero).pos = c.ts[σ.at_].pos := by simp [List.getElem?_eq_getElem hlt]
     rw [hpos] at he; have HQ := Lib.hid he; obtain ⟨tb, tof, hta, htS, hrow⟩ := hP.toks.get (by omega); have hr : Row w2 ⟨tb, tof + σ.at_ * 3, none⟩ c.ts[σ.at_].cells := hrow σ.at_ _ (List.getElem?_eq_getElem hlt); clear hrow he hpos
     generalize c.ts[σ.at_] = tk at *
     replace ho2 := ho2.ltR
     focus
      refine cw_seq (cS (C1 Pf (lw_load_b tabOk rfl rfl rfl (PPF.blk hP) rfl rfl (C1 V1 (C1 Mv (Gya (C1 Pf (Gya (lw_load_b tabOk rfl rfl rfl (PPF.blk hP) rfl rfl (Gya (C1 Pg ?_))))))))))); refine Gya (lw_load_b tabOk rfl rfl rfl (PPF.blk hP) rfl rfl (Gya (C1 Pz (Gya (C1 V3 (C1 Qya (cT (Wyo (cw_skip (qw_then (cw_block ?_))))))))))); refine cS (C1 Mv (C1 Pg (lw_load_b tabOk rfl rfl rfl (PPF.blk hP) rfl rfl (C1 Pf (lw_load_b tabOk rfl rfl rfl (PPF.blk hP) rfl rfl ?_))))); refine C1 (pur_indexAddr_eq tabOk rfl rfl rfl (by assumption) rfl (by omega) (by omega)) ?_; refine C1 Pf (C1 (Pw hr) ?_); (refine lw_does (does_slice' [_] tabOk zOk rfl rfl rfl rfl rfl rfl rfl rfl rfl) rfl ?_ (fun _ h => h); rintro _ wd2 ⟨bd1, rfl, nd3, td4⟩); clear td4; have hd5 := nd3.blk; have xd6 := nd3.ext; have pd7 := nd3.pos; have zd8 := nd3.size; clear nd3; replace hP := hP.ext xd6; replace ho1 := ho1.ext xd6; replace X := X.ext xd6; replace hr := hr.ext xd6; replace ho2 := ho2.ext xd6; clear xd6; refine lw_appendQ (R := fun _ => False) (sh := intShape) (z := tk.pos) tabOk zOk rfl rfl rfl rfl (by kernel_rfl) rfl rfl rfl (by assumption) (fun _ h => by exact h) (Blk.row (by assumption)) rfl (by omega) (by omega) rfl ?_; rintro gd9 cap'd10 wd11 hd12 hd13 hd14 fd15; have zd16 := fd15.size; replace hd5 := Blk.fr hd5 fd15 (fun e => by have := hob1 _ e; omega); replace hP := PPF.fr hP fd15 (fun k hk => by have := hob1 _ hk; omega); clear ho1; replace X := Ext.fr X fd15 (fun k hk => by have := hob1 _ hk; omega)
      clear hr; replace ho2 := OwnQ.fr ho2 fd15 (fun k hk => ⟨fun h => h.1.2 hk, fun e => hdis k e hk⟩); clear fd15; refine C1 Pa (cT (cw_region (C1 Mv ?_))); rotate_left 1
     have hgB : c.B ≤ gd9 := hd12.ge rfl
     have hdis2 : ∀ g, (Value.slice fa fs.length fc).ownBlock = some g → g ≠ gd9 := by
      intro g hg e; subst e
      rcases hd13 with h | h
      · exact hdis g hg h
      · have := hob2 g hg; omega
     have ho3 : OwnQ fdShape wd11 (fun b => c.B ≤ b ∧ b ≠ gd9) c.B 42 (.slice fa fs.length fc) fs := ho2.wide (fun b h => ⟨h.1.1, fun e => by
      subst e
      rcases hd13 with h' | h'
      · exact h.1.2 h'
      · have := h.2; omega⟩)
     clear ho2 hd13
     focus
      refine cR (by kernel_rfl) rfl (function_fw c k σ _ (by assumption) (by omega)) (fun _ _ h => h.ret) rfl ?_; rintro _ we9 ⟨pae1, ⟨pce2, ⟨bae3, ⟨bce4, ⟨⟨⟩, ⟨he5, ⟨he6, ⟨he7, fe8⟩⟩⟩⟩⟩⟩⟩⟩; have ze10 := fe8.size; replace hd12 := OwnQ.fr hd12 fe8 (fun k hk => ⟨fun h => h.elim, fun e => by simp only [Value.ownBlock, Option.some.injEq] at e; (try dsimp only at hk); omega⟩); replace hd5 := hd5.fr fe8 (by omega); clear hP; replace X := X.fr fe8 (by omega); replace ho3 := OwnQ.fr ho3 fe8 (fun k hk => ⟨fun h => by (try dsimp only at hk h); omega, fun e => by have := hob2 _ e; (try dsimp only at hk); omega⟩); clear fe8; (refine lw_does (does_slice' [_, _, _, _, _, _, _] tabOk zOk rfl rfl rfl rfl rfl rfl rfl rfl rfl) rfl ?_ (fun _ h => h); rintro _ we12 ⟨be11, rfl, ne13, te14⟩); clear te14; have he15 := ne13.blk; have xe16 := ne13.ext; have pe17 := ne13.pos; have ze18 := ne13.size; clear ne13; replace he5 := he5.ext xe16; replace he6 := Nd.sits.ext he6 xe16; replace he7 := he7.ext xe16; replace hd12 := hd12.ext xe16; replace hd5 := hd5.ext xe16; replace X := X.ext xe16; replace ho3 := ho3.ext xe16; clear xe16; refine lw_appendQ (R := fun b => c.B ≤ b ∧ b ≠ gd9) (sh := fdShape) (z := (functionP c.ts c.n k σ).1) tabOk zOk rfl rfl rfl rfl (by kernel_rfl) rfl rfl rfl (by assumption) (fun _ h => by exact h) (Blk.row (by assumption)) ⟨_, _, _, _, rfl, FPs.wide (by assumption) (fun b h => ⟨⟨by (try dsimp only at h); omega, by (try dsimp only at h); omega⟩, fun e => by have := hob2 _ e; (try dsimp only at h); omega⟩), Nd.sits.wide (by assumption) (fun b h => ⟨⟨by (try dsimp only at h); omega, by (try dsimp only at h); omega⟩, fun e => by have := hob2 _ e; (try dsimp only at h); omega⟩)⟩ (by omega) (by omega) rfl ?_
      rintro ge19 cap'e20 we21 he22 he23 he24 fe25; have ze26 := fe25.size; replace he15 := Blk.fr he15 fe25 (fun e => by have := hob2 _ e; omega); clear he5 he6; replace he7 := PPF.fr he7 fe25 (fun k hk => by have := hob2 _ hk; omega); replace hd12 := OwnQ.fr hd12 fe25 (fun k hk => ⟨fun h => h.elim, fun e => by simp only [Value.ownBlock, Option.some.injEq] at e; exact hdis2 _ hk e.symm⟩); replace hd5 := Blk.fr hd5 fe25 (fun e => by have := hob2 _ e; omega); replace X := Ext.fr X fe25 (fun k hk => by have := hob2 _ hk; omega); clear ho3 fe25; refine C1 Pa (lw_nil (qw_block_norm ?_)); rotate_left 1
     have lf := (good_function k).le c.ts c.n σ hat; have mf := mS_lt lf (lt_function k c.ts c.n σ hat); have mp := mS_pos (ts := c.ts) (σ := σ) ⟨hg, hlt⟩; (try dsimp only at mf); refine qw_round (k, fs ++ [(functionP c.ts c.n k σ).1], at_ ++ [tk.pos], (some ⟨ge19, 0, none⟩, _), (some ⟨gd9, 0, none⟩, _), (functionP c.ts c.n k σ).2) (by (refine sub_cons rfl ?_; refine sub_cons rfl ?_; refine sub_cons rfl ?_; exact sub_nil)) ⟨by assumption, by assumption, OwnQ.wide he22 (fun b h => ⟨h.1, fun e => h.2 (by simpa [Value.ownBlock] using e.symm)⟩), ?_, X, by omega, HQ.out, by simp only; omega, by simp only [List.length_append, List.length_cons, List.length_nil]; omega, by simp only [List.length_append, List.length_cons, List.length_nil]; omega⟩ (by simp only; omega); intro g hg' e; simp only [Value.ownBlock, Option.some.injEq] at hg' e; subst hg'
     rcases he23 with h | h
     · exact hdis2 _ h e.symm
     · omega
   · have he := HQ.out
     have hend := libP_end (ts := c.ts) (n := c.n) (k := k) (acc := fs) (at_ := at_) (σ := σ) (by
      rcases Decidable.em (σ.err = 0) with h | h
      · exact Or.inr (fun h' => hgo ⟨h, h'⟩)
      · exact Or.inl h)
     rw [hend] at he; rw [he] at HW ⊢; have hw := HW.out; clear HQ he HW; simp only at hw; have hfd := ho2.fds (S := fun b => c.B ≤ b) (fun b h => h.1) (fun b h => h); have hel := ho1.els (S := fun b => c.B ≤ b ∧ b < w2.heap.size) (fun b h h' => ⟨h, h'⟩); clear ho1 ho2 hdis hob1 hob2
     by_cases hz : σ.err = 0
     · obtain ⟨hf1, hf2, hf3⟩ := hw hz
       have hf4 : LibFew fs := ⟨by simp only [List.length_nil] at hf2; omega, fun f hf => by
        obtain ⟨k1, k2, k3, k4, k5⟩ := hf1 f hf
        exact ⟨by omega, k2, fun p hp => by have := k3 p hp; omega, k4, k5⟩⟩
       have HL := Lib.hid hf4; have hlen := hf4.len; clear hf1 hf2 hf3 hw hf4
       cases hv : libErr fs with
       | none =>
        have hfin : finLib ((fs, at_), σ) = (fs, 0, 0) := by unfold finLib; rw [if_neg (by simp [hz])]; simp only [hv]
        have hval : validI fs = (-1, 0) := by unfold validI; rw [hv]
        have HV := Lib.hid (Valid_v hval); rw [hfin]; clear hfin hval hv
        focus
         refine cw_seq (cS (C1 Pf (lw_load_b tabOk rfl rfl rfl (PPF.blk hP) rfl rfl (C1 V1 (C1 Mv (Gya (C1 Pf (Gya (lw_load_b tabOk rfl rfl rfl (PPF.blk hP) rfl rfl (Gya (C1 Pg ?_))))))))))); refine Gya (lw_load_b tabOk rfl rfl rfl (PPF.blk hP) rfl rfl (Gya (C1 Pz (Gya (C1 V3 (C1 Qya (cT (Wno (cw_exit (qw_then_exit (qw_then_exit ?_))))))))))); refine qw_block_exit (qw_then (cw_seq (cS (C1 Pf (lw_load_b tabOk rfl rfl rfl (PPF.blk hP) rfl rfl (C1 V2 (cT (Wno (cw_skip (qw_then (cw_seq ?_))))))))))); refine cS (C1 Mv ?_); refine cC rfl (HV.out _ _ _ _ HL.out (by assumption)) ?_; rintro _ wf2 ⟨⟨⟩, xf1⟩; have zf3 := xf1.size; replace hP := hP.ext xf1; replace X := X.ext xf1; replace hfd := hfd.ext xf1; replace hel := hel.ext xf1; clear xf1; refine C1 Mv (C1 Px (C1 Px (C1 Pa (C1 Pa (cN (C1 Mv (C1 V2 (cT (Wnd (cw_skip (qw_then ?_))))))))))); refine cS (C1 Mv (C1 Pa (C1 Pa (C1 Pa (cT (cw_ret (qw_ret3 rfl rfl rfl rfl ?_))))))); rotate_left 1
        exact libR_mk (r' := (fs, 0, 0)) rfl (FDs.wide (by assumption) (fun b h => by omega)) X
       | some q =>
        obtain ⟨i, e⟩ := q; obtain ⟨hi, hne⟩ := libErr_some hv
        have hil : i < at_.length := by omega
        have hfin : finLib ((fs, at_), σ) = ([], at_[i], e) := by unfold finLib; rw [if_neg (by simp [hz])]; simp only [hv, List.getD_eq_getElem?_getD, List.getElem?_eq_getElem hil, Option.getD_some]
        have hval : validI fs = ((i : Int), e) := by unfold validI; rw [hv]
        have HV := Lib.hid (Valid_v hval); rw [hfin]; clear hfin hval hv; obtain ⟨gb, go, ⟨⟩, ⟨hg3, hg4⟩, hgk⟩ := Arr.get hel (by omega); have rg := hgk i _ (List.getElem?_eq_getElem hil); clear hel hgk
        generalize at_[i] = ai at *
        focus
         refine cw_seq (cS (C1 Pf (lw_load_b tabOk rfl rfl rfl (PPF.blk hP) rfl rfl (C1 V1 (C1 Mv (Gya (C1 Pf (Gya (lw_load_b tabOk rfl rfl rfl (PPF.blk hP) rfl rfl (Gya (C1 Pg ?_))))))))))); refine Gya (lw_load_b tabOk rfl rfl rfl (PPF.blk hP) rfl rfl (Gya (C1 Pz (Gya (C1 V3 (C1 Qya (cT (Wno (cw_exit (qw_then_exit (qw_then_exit ?_))))))))))); refine qw_block_exit (qw_then (cw_seq (cS (C1 Pf (lw_load_b tabOk rfl rfl rfl (PPF.blk hP) rfl rfl (C1 V2 (cT (Wno (cw_skip (qw_then (cw_seq ?_))))))))))); refine cS (C1 Mv ?_); refine cC rfl (HV.out _ _ _ _ HL.out (by assumption)) ?_; rintro _ wg2 ⟨⟨⟩, xg1⟩; have zg3 := xg1.size; replace hP := hP.ext xg1; replace X := X.ext xg1; replace hfd := hfd.ext xg1; replace rg := rg.ext xg1; clear xg1; refine C1 Mv (C1 Px (C1 Px (C1 Pa (C1 Pa (cN (C1 Mv (C1 V2 (cT (Wya (cw_seq ?_)))))))))); (refine cw_tdraw (fun wz => Ext wg2 wz) 7 (.pure 0 (.pure 1 (.pure 2 (.pure 3 (.pure 4 (.pure 5 (.pure 6 .tail))))))) mixed (by kernel_rfl) (panicOk_then (panicOk_then panicOk_body)) ?_; intro wg4 xg5 _); have qsg6 : (fun wz => Ext wg2 wz) wg4 := xg5; simp only at qsg6; have d_hP := hP; have d_hfd := hfd; have d_rg := rg; have zg7 := xg5.size; replace hP := hP.ext xg5; replace X := X.ext xg5; replace hfd := hfd.ext xg5; replace rg := rg.ext xg5; clear xg5; refine ⟨qsg6, ?_⟩; refine Tq rfl Mv (Tq rfl Mv (Tq rfl Pi (Tq rfl (pur_load tabOk rfl rfl rfl (fun wz hz => Row.at0 (Row.ext d_rg hz) rfl)) (Tq rfl Mv (Tq rfl Pa (Tq rfl Pa ?_)))))); clear qsg6 d_hP d_hfd d_rg
         refine tw_tail rfl (C1 Pa (cT (cw_ret (qw_then_ret (qw_ret3 rfl rfl rfl rfl ?_))))); rotate_left 1
        exact libR_mk (r' := ([], ai, e)) rfl (Or.inl rfl) X
     · have hfin : finLib ((fs, at_), σ) = ([], σ.off, σ.err) := by unfold finLib; rw [if_pos hz]
       rw [hfin]
       focus
        refine cw_seq (cS (C1 Pf (lw_load_b tabOk rfl rfl rfl (PPF.blk hP) rfl rfl (C1 V1 (C1 Mv (Ona (Ona (Ona (Ona (Ona (Ona ?_))))))))))); refine C1 Qna (cT (cw_cond_f rfl (cw_exit (qw_then_exit (qw_then_exit (qw_block_exit (qw_then (cw_seq (cS (C1 Pf (lw_load_b tabOk rfl rfl rfl (PPF.blk hP) rfl rfl ?_))))))))))); refine C1 V2 (cT (Wya (cw_seq ?_))); (refine cw_tdraw (fun wz => Ext w2 wz) 6 (.pure 0 (.pure 1 (.pure 2 (.pure 3 (.pure 4 (.pure 5 .tail)))))) mixed (by kernel_rfl) (panicOk_then (panicOk_then panicOk_body)) ?_; intro wh1 xh2 _); have qsh3 : (fun wz => Ext w2 wz) wh1 := xh2; simp only at qsh3; have d_hP := hP; have d_hfd := hfd; have d_hel := hel; have zh4 := xh2.size; replace hP := hP.ext xh2; replace X := X.ext xh2; replace hfd := hfd.ext xh2; replace hel := hel.ext xh2; clear xh2; refine ⟨qsh3, ?_⟩; refine Tq rfl Pf (Tq rfl (pur_load tabOk rfl rfl rfl (fun wz hz => Blk.cell (Blk.ext (PPF.blk d_hP) hz) rfl)) (Tq rfl Pf (Tq rfl (pur_load tabOk rfl rfl rfl (fun wz hz => Blk.cell (Blk.ext (PPF.blk d_hP) hz) rfl)) (Tq rfl Pa (Tq rfl Pa ?_))))); clear qsh3 d_hP d_hfd d_hel; refine tw_tail rfl (C1 Pa (cT (cw_ret (qw_then_ret (qw_ret3 rfl rfl rfl rfl ?_))))); rotate_left 1
       exact libR_mk rfl (Or.inl rfl) X
end Bk
namespace Bk
open Go
def wrapT (lv : Int) (h : Int × Int) (t : List UInt8) : List UInt8 := if h.1 = 82 ∧ level h.2 < lv then [40] ++ t ++ [41] else t
def appT (w : List UInt8) (ts : List (List UInt8)) : List UInt8 := w ++ [40] ++ Lib.join ts [44, 32] ++ [41]
def textN (k n : Int) (s : List UInt8) (ts : List (List UInt8)) (hs : List (Int × Int)) : List UInt8 :=
 if k = 80 then Lib.itoa n
 else if k = 81 then s
 else if k = 82 then wrapT (level n) (hs.getD 0 (0, 0)) (ts.getD 0 []) ++ [32] ++ symbol n ++ [32] ++ wrapT (level n + 1) (hs.getD 1 (0, 0)) (ts.getD 1 [])
 else if k = 83 then [105, 102, 32] ++ ts.getD 0 [] ++ [32, 123, 32] ++ ts.getD 1 [] ++ [32, 125, 32, 101, 108, 115, 101, 32, 123, 32] ++ ts.getD 2 [] ++ [32, 125]
 else if k = 84 then [108, 111, 99, 97, 108, 32] ++ s ++ [32, 61, 32] ++ ts.getD 0 [] ++ [32, 123, 32] ++ ts.getD 1 [] ++ [32, 125]
 else if k = 86 then [91, 93]
 else if k = 87 then appT [112, 117, 115, 104] ts
 else if k = 89 then appT [112, 111, 112] ts
 else if k = 88 then appT [116, 111, 112] ts
 else if k = 90 then [33] ++ wrapT 9 (hs.getD 0 (0, 0)) (ts.getD 0 [])
 else appT s ts
mutual
def Nd.ftext : Nd → List UInt8
 | .mk k n s l => textN k n s (rowText l) (l.map fun t => (t.kind, t.num))
def rowText : List Nd → List (List UInt8)
 | [] => []
 | t :: r => t.ftext :: rowText r
end
theorem rowText_map : ∀ l : List Nd, rowText l = l.map Nd.ftext
 | [] => rfl
 | t :: r => by simp only [rowText, List.map_cons, rowText_map r]
mutual
def Nd.okT : Nd → Prop
 | .mk k n s l => formN k n s l.length = true ∧ s.length ≤ 12 ∧ n ≤ 9223372036854775807 ∧ rowOkT l
def rowOkT : List Nd → Prop
 | [] => True
 | t :: r => t.okT ∧ rowOkT r
end
theorem rowOkT_mem {l : List Nd} (h : rowOkT l) {x : Nd} (hx : x ∈ l) : x.okT := by
 induction l with
 | nil => cases hx
 | cons a r ih =>
  rcases List.mem_cons.1 hx with rfl | hx
  · exact h.1
  · exact ih h.2 hx
theorem formN_num {k n : Int} {s : List UInt8} {c : Nat} (h : formN k n s c = true) : 0 ≤ n := by
 unfold formN at h
 repeat' split at h
 all_goals simp at h
 all_goals omega
theorem join_two (x y : List UInt8) (r : List (List UInt8)) (s : List UInt8) : Lib.join (x :: y :: r) s = x ++ s ++ Lib.join (y :: r) s := by
 simp only [Lib.join]; rw [List.intercalate, List.intercalate, List.intersperse_cons_cons]
 simp
theorem join_len (s : List UInt8) : ∀ ts : List (List UInt8), (Lib.join ts s).length ≤ (ts.map List.length).sum + s.length * ts.length
 | [] => by simp [Lib.join_nil]
 | [x] => by simp [Lib.join_one]
 | x :: y :: r => by
  have := join_len s (y :: r); rw [join_two]; simp only [List.length_append, List.map_cons, List.sum_cons, List.length_cons, Nat.mul_add, Nat.mul_one] at this ⊢
  omega
theorem symbol_len {n : Int} (h : 8 ≤ n) (h2 : n ≤ 23) : (symbol n).length ≤ 2 := by
 have : n = 8 ∨ n = 9 ∨ n = 10 ∨ n = 11 ∨ n = 12 ∨ n = 13 ∨ n = 14 ∨ n = 15 ∨ n = 16 ∨ n = 17 ∨ n = 18 ∨ n = 19 ∨ n = 20 ∨ n = 21 ∨ n = 22 ∨ n = 23 := by omega
 rcases this with rfl | rfl | rfl | rfl | rfl | rfl | rfl | rfl | rfl | rfl | rfl | rfl | rfl | rfl | rfl | rfl <;> decide
theorem wrap_len (lv : Int) (h : Int × Int) (t : List UInt8) : (wrapT lv h t).length ≤ t.length + 2 := by
 unfold wrapT
 split
 · simp only [List.length_append, List.length_cons, List.length_nil]; omega
 · omega
theorem rowText_length : ∀ l : List Nd, (rowText l).length = l.length
 | [] => rfl
 | t :: r => by simp only [rowText, List.length_cons, rowText_length r]
theorem len2 {l : List Nd} (h : l.length = 2) : ∃ x y, l = [x, y] := by
 match l, h with
 | [x, y], _ => exact ⟨x, y, rfl⟩
theorem len3 {l : List Nd} (h : l.length = 3) : ∃ x y z, l = [x, y, z] := by
 match l, h with
 | [x, y, z], _ => exact ⟨x, y, z, rfl⟩
theorem len1 {l : List Nd} (h : l.length = 1) : ∃ x, l = [x] := by
 match l, h with
 | [x], _ => exact ⟨x, rfl⟩
theorem formN_82 {n : Int} {s : List UInt8} {c : Nat} (h : formN 82 n s c = true) : 8 ≤ n ∧ n ≤ 23 ∧ c = 2 := by
 simp [formN] at h; omega
theorem formN_83' {n : Int} {s : List UInt8} {c : Nat} (h : formN 83 n s c = true) : c = 3 := by
 simp [formN] at h; omega
theorem formN_84 {n : Int} {s : List UInt8} {c : Nat} (h : formN 84 n s c = true) : funName s = true ∧ c = 2 := by
 simp [formN] at h
 exact ⟨h.1.2, h.2⟩
theorem formN_90 {n : Int} {s : List UInt8} {c : Nat} (h : formN 90 n s c = true) : c = 1 := by
 simp [formN] at h; omega
theorem appT_len (w : List UInt8) (ts : List (List UInt8)) : (appT w ts).length ≤ w.length + 2 + (ts.map List.length).sum + 2 * ts.length := by
 have := join_len [44, 32] ts
 unfold appT
 simp only [List.length_append, List.length_cons, List.length_nil] at this ⊢
 omega
mutual
theorem ftext_len : ∀ t : Nd, t.okT → t.ftext.length + 4 ≤ 40 * t.size
 | .mk k n s l, h => by
  simp only [Nd.okT] at h; obtain ⟨h1, h2, h3, h4⟩ := h; have hr := rowText_len l h4; have hl := length_rowSize l; have hrl := rowText_length l; have h0 := formN_num h1; simp only [Nd.ftext, Nd.size]
  unfold textN
  by_cases k0 : k = 80
  · rw [if_pos k0]; have := Lib.itoa_length_le n (by omega) h3; omega
  rw [if_neg k0]
  by_cases k1 : k = 81
  · rw [if_pos k1]; omega
  rw [if_neg k1]
  by_cases k2 : k = 82
  · rw [if_pos k2]
    subst k2; obtain ⟨a1, a2, a3⟩ := formN_82 h1; obtain ⟨x, y, rfl⟩ := len2 a3; have e1 := symbol_len a1 a2; have e2 := wrap_len (level n) (x.kind, x.num) x.ftext; have e3 := wrap_len (level n + 1) (y.kind, y.num) y.ftext; simp only [rowText, List.map_cons, List.map_nil, List.sum_cons, List.sum_nil, List.getD_cons_zero, List.getD_cons_succ, List.length_append, List.length_cons, List.length_nil] at hr ⊢
    omega
  rw [if_neg k2]
  by_cases k3 : k = 83
  · rw [if_pos k3]
    subst k3; obtain ⟨x, y, z, rfl⟩ := len3 (formN_83' h1); simp only [rowText, List.map_cons, List.map_nil, List.sum_cons, List.sum_nil, List.getD_cons_zero, List.getD_cons_succ, List.length_append, List.length_cons, List.length_nil] at hr ⊢
    omega
  rw [if_neg k3]
  by_cases k4 : k = 84
  · rw [if_pos k4]
    subst k4; obtain ⟨x, y, rfl⟩ := len2 (formN_84 h1).2; simp only [rowText, List.map_cons, List.map_nil, List.sum_cons, List.sum_nil, List.getD_cons_zero, List.getD_cons_succ, List.length_append, List.length_cons, List.length_nil] at hr ⊢
    omega
  rw [if_neg k4]
  by_cases k6 : k = 86
  · rw [if_pos k6]; simp only [List.length_cons, List.length_nil]; omega
  rw [if_neg k6]
  by_cases k7 : k = 87
  · rw [if_pos k7]; have := appT_len [112, 117, 115, 104] (rowText l); simp only [List.length_cons, List.length_nil] at this; omega
  rw [if_neg k7]
  by_cases k9 : k = 89
  · rw [if_pos k9]; have := appT_len [112, 111, 112] (rowText l); simp only [List.length_cons, List.length_nil] at this; omega
  rw [if_neg k9]
  by_cases k8 : k = 88
  · rw [if_pos k8]; have := appT_len [116, 111, 112] (rowText l); simp only [List.length_cons, List.length_nil] at this; omega
  rw [if_neg k8]
  by_cases k10 : k = 90
  · rw [if_pos k10]
    subst k10; obtain ⟨x, rfl⟩ := len1 (formN_90 h1); have e2 := wrap_len 9 (x.kind, x.num) x.ftext; simp only [rowText, List.map_cons, List.map_nil, List.sum_cons, List.sum_nil, List.getD_cons_zero, List.length_append, List.length_cons, List.length_nil] at hr ⊢
    omega
  rw [if_neg k10]; have := appT_len s (rowText l)
  omega
theorem rowText_len : ∀ l : List Nd, rowOkT l → ((rowText l).map List.length).sum + 4 * l.length ≤ 40 * rowSize l
 | [], _ => by simp [rowText, rowSize]
 | t :: r, h => by
  have h1 := ftext_len t h.1; have h2 := rowText_len r h.2; have h3 := Nd.size_pos t; simp only [rowText, rowSize, List.map_cons, List.sum_cons, List.length_cons]
  omega
end
end Bk
namespace Bk
open Go Go.RowKit Go.Proofs
structure Tabs (w : World) : Prop where
 sym : ∀ i, i < 43 → w.cell? ⟨0, i, none⟩ = some (str (symbols.getD i []))
 pow : Lib.TabIs Tryz.prog w "internal/strconv.uint64pow10" .u64 Lib.pow10Tab
theorem arith_Symbol_c (k : Int) (w : World) (h0 : 0 ≤ k) (h1 : k ≤ 255) (ht : Tabs w) : Calls Tryz.prog 26 #[.int .u8 k] w fun e w' => e = .returned (str (symbol k)) ∧ w = w' := arith_Symbol_s k w h0 h1 ⟨ht.sym⟩
end Bk
namespace Bk
open Go Go.RowKit Go.Proofs Go.Sort
theorem tabIs_belowF {P : Program} {B : Nat} {w w' : World} {name : String} {k : IntKind} {zs : List Int} (h : Lib.TabIs P w name k zs) (hb : Below B w w') (hg : ∀ g, P.globalNamed name = some g → g < B) : Lib.TabIs P w' name k zs := by
 unfold Lib.TabIs World.var? at *
 cases hn : P.globalNamed name with
 | none => rw [hn] at h; simp at h
 | some g => rw [hn] at h; simp only [Option.bind_some] at h ⊢; rw [hb.block g (hg g hn)]; exact h
theorem Tabs.belowF {B : Nat} {w w' : World} (h : Tabs w) (hb : Below B w w') (hB : Tryz.prog.globals.size ≤ B) : Tabs w' := by
 have h1 : 0 < Tryz.prog.globals.size := of_decide_eq_true (by kernel_rfl); have h2 : 2 < Tryz.prog.globals.size := of_decide_eq_true (by kernel_rfl); refine ⟨fun i hi => (Below.cell (p := ⟨0, i, none⟩) hb (by show 0 < B; omega)).trans (h.sym i hi), tabIs_belowF h.pow hb fun g hg => ?_⟩
 have hp : Tryz.prog.globalNamed "internal/strconv.uint64pow10" = some 2 := by kernel_rfl
 rw [hp] at hg
 injection hg with hg
 omega
theorem Tabs.extF {w w' : World} (h : Tabs w) (x : Ext w w') (hB : Tryz.prog.globals.size ≤ w.heap.size) : Tabs w' := h.belowF x hB
structure TabsF (w : World) : Prop where
 t : Tabs w
 g : Tryz.prog.globals.size ≤ w.heap.size
theorem TabsF.ext {w w' : World} (h : TabsF w) (x : Ext w w') : TabsF w' := ⟨h.t.extF x h.g, Nat.le_trans h.g x.size⟩
theorem TabsF.fr {S : Nat → Prop} {w w' : World} (h : TabsF w) (x : Fr S w w') (hs : ∀ k, S k → Tryz.prog.globals.size ≤ k) : TabsF w' :=
 ⟨h.t.belowF (B := Tryz.prog.globals.size) ⟨x.os, x.tape, x.output, x.size, fun k hk => x.block k (by have := h.g; omega) (fun hS => by have := hs k hS; omega)⟩ (Nat.le_refl _), Nat.le_trans h.g x.size⟩
theorem ext_growF (w : World) (k : Nat) (os : Array Obj) : Ext w (grow (w.drewN k) os) := by
 have hh : (grow (w.drewN k) os).heap = w.heap ++ os := rfl; refine ⟨rfl, rfl, rfl, ?_, fun i hi => ?_⟩
 · rw [hh]; simp
 · rw [hh, Array.getElem?_append_left hi]
theorem itoaF_c (n : Int) (w : World) (ht : TabsF w) (h0 : -9223372036854775808 ≤ n) (h1 : n ≤ 9223372036854775807) :
 Calls Tryz.prog 39 #[.int .i64 n] w fun e w' => e = .returned (str (Lib.itoa n)) ∧ Ext w w' :=
 (Tryz.strconv_Itoa n h0 h1 w ht.t.pow).mono fun e w' ⟨he, k, os, hw⟩ => ⟨he, hw ▸ ext_growF w k os⟩
theorem symF_c (k : Int) (w : World) (ht : TabsF w) (h0 : 0 ≤ k) (h1 : k ≤ 255) : Calls Tryz.prog 26 #[.int .u8 k] w fun e w' => e = .returned (str (symbol k)) ∧ w = w' := arith_Symbol_c k w h0 h1 ht.t
def TextT (x : Nd) : Prop := ∀ (S : Nat → Prop) (a : Option Addr) (c : Nat) (w : World), x.sits S w a → TabsF w → Calls Tryz.prog 18 #[x.val a c] w fun e w' => e = .returned (str x.ftext) ∧ Ext w w'
set_option maxRecDepth 100000 in
set_option maxHeartbeats 4000000 in
theorem operand_c (x : Nd) (lv : Int) (hx : TextT x) (hk : x.kind = 82 → 8 ≤ x.num ∧ x.num ≤ 23) (hl : x.ftext.length ≤ 1000000000) (S : Nat → Prop) (a : Option Addr) (c : Nat) (w : World) (hs : x.sits S w a) (ht : TabsF w) :
 Calls Tryz.prog 41 #[x.val a c, .int .i64 lv] w fun e w' => e = .returned (str (wrapT lv (x.kind, x.num) x.ftext)) ∧ Ext w w' := by
 have X := Ext.refl w; have HX := Lib.hid (fun S a c w h1 h2 => hx S a c w h1 h2); clear hx
 replace hs : x.sits (· < w.heap.size) w a := Nd.sits.wide (sits_lt2 _ _ hs) fun _ h => h.2
 generalize x.ftext = tx at *
 by_cases h : x.kind = 82
 · obtain ⟨h1, h2⟩ := hk h
   clear hk
   by_cases hlv : level x.num < lv
   · rw [show wrapT lv (x.kind, x.num) tx = [40] ++ tx ++ [41] from if_pos ⟨h, hlv⟩]
     refine calls_in Tryz.func41 Tryz.ntmps41 rfl rfl ?_
     focus
      refine cS ?_; (refine lw_box' [_, _, _, _] rfl rfl rfl ?_; intro b1 w2 n3); have h4 := n3.blk; have x5 := n3.ext; have p6 := n3.pos; have z7 := n3.size; clear n3; replace ht := ht.ext x5; replace X := X.ext x5; replace hs := Nd.sits.ext hs x5; clear x5; refine C1 Pa (cT (cw_seq (cS (C1 Pg (C1 (Pl h4) (C1 V1 (C1 Mv (Gya (C1 Pf (Gya (C1 (Pl h4) ?_))))))))))); refine Gya ?_; refine C1 (pur_conv tabOk rfl rfl rfl (u8_wrap _ (by omega) (by omega))) ?_; refine Gya ?_; refine cC rfl (arith_Level_c _ _ (by omega) (by omega)) ?_; rintro _ w8 ⟨⟨⟩, rfl⟩; refine Gya (C1 Mv (Gya (C1 V3 (C1 Qya (cT (Wya (cS (lw_loads_b' [_, _, _, _] tabOk rfl rfl rfl h4 rfl rfl rfl ?_)))))))); refine cC rfl (HX.out _ _ _ _ (by assumption) (by assumption)) ?_; rintro _ w10 ⟨⟨⟩, x9⟩; have z11 := x9.size; replace h4 := h4.ext x9; replace ht := ht.ext x9; replace X := X.ext x9; replace hs := Nd.sits.ext hs x9; clear x9; refine C1 (pur_sadd rfl rfl (by simp only [List.length_cons, List.length_nil]; omega)) ?_; refine C1 (pur_sadd rfl rfl (by simp only [List.length_append, List.length_cons, List.length_nil]; omega)) ?_; refine C1 Pa (cT (cw_ret (qw_then_ret (qw_ret1 rfl rfl ?_)))); rotate_left 1
     exact ⟨rfl, X⟩
   · rw [show wrapT lv (x.kind, x.num) tx = tx from if_neg (fun h => hlv h.2)]
     refine calls_in Tryz.func41 Tryz.ntmps41 rfl rfl ?_
     focus
      refine cS ?_; (refine lw_box' [_, _, _, _] rfl rfl rfl ?_; intro ba1 wa2 na3); have ha4 := na3.blk; have xa5 := na3.ext; have pa6 := na3.pos; have za7 := na3.size; clear na3; replace ht := ht.ext xa5; replace X := X.ext xa5; replace hs := Nd.sits.ext hs xa5; clear xa5; refine C1 Pa (cT (cw_seq (cS (C1 Pg (C1 (Pl ha4) (C1 V1 (C1 Mv (Gya (C1 Pf (Gya (C1 (Pl ha4) ?_))))))))))); refine Gya ?_; refine C1 (pur_conv tabOk rfl rfl rfl (u8_wrap _ (by omega) (by omega))) ?_; refine Gya ?_; refine cC rfl (arith_Level_c _ _ (by omega) (by omega)) ?_; rintro _ wa8 ⟨⟨⟩, rfl⟩; refine Gya (C1 Mv (Gya (C1 V3 (C1 Qya (cT (Wna (cw_skip (qw_then (cS (lw_loads_b' [_, _, _, _] tabOk rfl rfl rfl ha4 rfl rfl rfl ?_)))))))))); refine cC rfl (HX.out _ _ _ _ (by assumption) (by assumption)) ?_; rintro _ wa10 ⟨⟨⟩, xa9⟩; have za11 := xa9.size; replace ha4 := ha4.ext xa9; replace ht := ht.ext xa9; replace X := X.ext xa9; replace hs := Nd.sits.ext hs xa9; clear xa9; refine C1 Pa (cT (cw_ret (qw_ret1 rfl rfl ?_))); rotate_left 1
     exact ⟨rfl, X⟩
 · rw [show wrapT lv (x.kind, x.num) tx = tx from if_neg (fun h' => h h'.1)]
   refine calls_in Tryz.func41 Tryz.ntmps41 rfl rfl ?_
   focus
    refine cS ?_; (refine lw_box' [_, _, _, _] rfl rfl rfl ?_; intro bb1 wb2 nb3); have hb4 := nb3.blk; have xb5 := nb3.ext; have pb6 := nb3.pos; have zb7 := nb3.size; clear nb3; replace ht := ht.ext xb5; replace X := X.ext xb5; replace hs := Nd.sits.ext hs xb5; clear xb5; refine C1 Pa (cT (cw_seq (cS (C1 Pg (C1 (Pl hb4) (C1 V1 (C1 Mv (Ona (Ona (Ona (Ona ?_))))))))))); refine Ona (Ona (C1 Qna (cT (cw_cond_f rfl (cw_skip (qw_then (cS (lw_loads_b' [_, _, _, _] tabOk rfl rfl rfl hb4 rfl rfl rfl ?_)))))))); refine cC rfl (HX.out _ _ _ _ (by assumption) (by assumption)) ?_; rintro _ wb9 ⟨⟨⟩, xb8⟩; have zb10 := xb8.size; replace hb4 := hb4.ext xb8; replace ht := ht.ext xb8; replace X := X.ext xb8; replace hs := Nd.sits.ext hs xb8; clear xb8; refine C1 Pa (cT (cw_ret (qw_ret1 rfl rfl ?_))); rotate_left 1
   exact ⟨rfl, X⟩
end Bk
namespace Bk
open Go Go.RowKit Go.Proofs
attribute [local irreducible] Go.Calls
theorem OwnQ.cap {α : Type} {sh : Shape α} {w : World} {R : Nat → Prop} {B e : Nat} {a : Option Addr} {len cap : Nat} {xs : List α} (h : OwnQ sh w R B e (.slice a len cap) xs) : xs.length ≤ cap := by
 obtain ⟨css, ⟨-, h1⟩, -⟩ := h.ex
 rcases h1 with ⟨hv, hn⟩ | ⟨g, c, cur, hv, -, -, hc, -⟩
 · omega
 · simp only [Value.slice.injEq] at hv
   omega
theorem joinQ_c {w : World} {R : Nat → Prop} {B e : Nat} {a : Option Addr} {cap : Nat} {xs : List (List UInt8)} (sep : List UInt8) (h : OwnQ strShape w R B e (.slice a xs.length cap) xs) (hN : xs.length ≤ 1000000000) (hlen : (Lib.join xs sep).length ≤ 140737488355328) :
 Calls Tryz.prog 17 #[.slice a xs.length cap, str sep] w fun r w' => r = .returned (str (Lib.join xs sep)) ∧ Ext w w' := by
 have hc := h.cap; have he := h.els (S := fun b => b < w.heap.size) (fun _ _ h => h)
 by_cases hx : xs = []
 · subst hx
   refine (Tryz.strings_Join_none a cap ⟨sep.toArray⟩ w).mono fun r w' ⟨h1, h2⟩ => ⟨?_, ?_⟩
   · rw [h1]; rfl
   · rw [h2]; exact Ext.refl _
 · obtain ⟨g, o, rfl, hg, hr⟩ := els_row he hx
   have hm : (xs.map (fun l => (⟨l.toArray⟩ : ByteArray))).map (·.data.toList) = xs := by
    rw [List.map_map]
    conv => rhs; rw [← List.map_id xs]
    exact List.map_congr_left (fun _ _ => rfl)
   have hl : (xs.map (fun l => (⟨l.toArray⟩ : ByteArray))).length = xs.length := by simp
   have key := Tryz.strings_Join g o cap (xs.map (fun l => (⟨l.toArray⟩ : ByteArray))) ⟨sep.toArray⟩ w (fun j x hj => by
    rw [List.getElem?_map, Option.map_eq_some_iff] at hj; obtain ⟨y, hy, rfl⟩ := hj; have := hr.at (i := j) (v := str y) (by simp [hy])
    exact this) hg (by rw [hl]; omega) (by rw [hl]; exact hc) (by rw [hm]; exact hlen)
   rw [hl, hm] at key
   exact key.mono fun r w' ⟨h1, h2⟩ => ⟨h1, h2⟩
theorem rowText_snoc {l : List Nd} {j : Nat} (hj : j < l.length) : rowText (l.take (j + 1)) = rowText (l.take j) ++ [l[j].ftext] := by
 rw [rowText_map, rowText_map, List.take_succ_eq_append_getElem hj, List.map_append]; rfl
set_option maxRecDepth 100000 in
set_option maxHeartbeats 4000000 in
theorem applied_c (wd : List UInt8) (l : List Nd) (hx : ∀ x ∈ l, TextT x) (hl : l.length ≤ 1000000) (hlen : (appT wd (rowText l)).length ≤ 1000000000) (S : Nat → Prop) (a : Option Addr) (c : Nat) (w : World) (hs : rowSits S w l a) (ht : TabsF w) :
 Calls Tryz.prog 42 #[str wd, .slice a l.length c] w fun e w' => e = .returned (str (appT wd (rowText l))) ∧ Ext w w' := by
 have X := Ext.refl w; have HX := Lib.hid (fun x hm S a c w h1 h2 => hx x hm S a c w h1 h2); clear hx; have hs' : rowSits (· < w.heap.size) w l a := rowSits_lt _ _ hs; clear hs
 have hjl : (Lib.join (rowText l) [44, 32]).length + wd.length + 2 ≤ 1000000000 := by
  have := hlen
  unfold appT at this
  simp only [List.length_append, List.length_cons, List.length_nil] at this
  omega
 clear hlen
 unfold appT
 refine calls_in Tryz.func42 Tryz.ntmps42 rfl rfl ?_
 focus
  refine cS (C1 Pa (cN (C1 Pa (cT (cw_seq (cS (C1 Mv (C1 Pz (C1 Mv (cT (cw_block ?_))))))))))); rotate_left 1
 refine cw_loop (ι := Nat × Option Addr × Nat) (fun y => [(0, str wd), (5, .slice y.2.1 (rowText (l.take y.1)).length y.2.2), (8, .slice a l.length c), (9, .int .i64 l.length), (10, .int .i64 y.1)])
  (fun y w' => rowSits (· < w.heap.size) w' l a ∧ OwnQ strShape w' (fun _ => False) w.heap.size 9 (.slice y.2.1 (rowText (l.take y.1)).length y.2.2) (rowText (l.take y.1)) ∧ Ext w w' ∧ TabsF w' ∧ y.1 ≤ l.length) (fun y => l.length - y.1) (0, none, 0) (by (refine sub_cons rfl ?_; refine sub_cons rfl ?_; refine sub_cons rfl ?_; refine sub_cons rfl ?_; refine sub_cons rfl ?_; exact sub_nil)) ⟨hs', OwnQ.nil, X, ht, Nat.zero_le _⟩ ?_
 have hg0 := ht.g; clear hs' X ht; rintro ⟨j, oa, oc⟩ w1 ⟨hs, hown, X, ht, hj⟩; simp only at hown hj; have hz := X.size; have hgl := ht.g
 have hob : ∀ g, (Value.slice oa (rowText (l.take j)).length oc).ownBlock = some g → w.heap.size ≤ g ∧ g < w1.heap.size := fun g h => ⟨hown.ge h, hown.lt h⟩
 refine CW.sub (m := [(0, str wd), (5, .slice oa (rowText (l.take j)).length oc), (8, .slice a l.length c), (9, .int .i64 l.length), (10, .int .i64 j)]) ?_ (by (refine sub_cons rfl ?_; refine sub_cons rfl ?_; refine sub_cons rfl ?_; refine sub_cons rfl ?_; refine sub_cons rfl ?_; exact sub_nil))
 by_cases hlt : j < l.length
 · have hs2 := hs
   obtain ⟨kb, ko, rfl, hkS, hkid⟩ := kidRows hs2 (by intro e; subst e; simp at hlt); obtain ⟨xa, xc, rx, sx⟩ := hkid j l[j] (List.getElem?_eq_getElem hlt); have HT := Lib.hid (HX.out _ (List.getElem_mem hlt)); have hsn := rowText_snoc hlt
   have hll : (rowText (l.take j)).length ≤ 1000000 := by rw [rowText_length, List.length_take]; omega
   clear hkid hs2
   generalize rowText (l.take j) = os at *
   generalize l[j] = x at *
   focus
    refine cS (C1 V3 (cT (cw_seq (Wyo (cw_skip (qw_then (cw_seq (cw_block (cS (C1 Pi (C1 (Pws rx) ?_))))))))))); (refine lw_alloc' [_, _, _, _] zOk rfl rfl ?_; intro ba1 wa2 na3); (refine lw_init' [_, _, _, _] tabOk rfl rfl rfl rfl rfl rfl na3 rfl ?_; clear na3; clear wa2; intro wa4 na3); have ha5 := na3.blk; have xa6 := na3.ext; have pa7 := na3.pos; have za8 := na3.size; clear na3; replace X := X.ext xa6; replace ht := ht.ext xa6; replace hs := Bk.rowSits.ext hs xa6; replace hown := hown.ext xa6; replace rx := rx.ext xa6; replace sx := Nd.sits.ext sx xa6; clear xa6; refine cT (cw_region (C1 Mv (lw_loads_b' [_, _, _, _] tabOk rfl rfl rfl ha5 rfl rfl rfl ?_))); refine cC rfl (HT.out _ _ _ _ (by assumption) (by assumption)) ?_; rintro _ wa10 ⟨⟨⟩, xa9⟩; have za11 := xa9.size; replace ha5 := ha5.ext xa9; replace X := X.ext xa9; replace ht := ht.ext xa9; replace hs := Bk.rowSits.ext hs xa9; replace hown := hown.ext xa9; replace rx := rx.ext xa9; replace sx := Nd.sits.ext sx xa9; clear xa9; (refine lw_does (does_slice' [_] tabOk zOk rfl rfl rfl rfl rfl rfl rfl rfl rfl) rfl ?_ (fun _ h => h); rintro _ wa13 ⟨ba12, rfl, na14, ta15⟩); clear ta15; have ha16 := na14.blk; have xa17 := na14.ext; have pa18 := na14.pos; have za19 := na14.size; clear na14; replace ha5 := ha5.ext xa17; replace X := X.ext xa17; replace ht := ht.ext xa17; replace hs := Bk.rowSits.ext hs xa17; replace hown := hown.ext xa17; replace rx := rx.ext xa17; replace sx := Nd.sits.ext sx xa17; clear xa17; refine lw_appendQ (R := fun _ => False) (sh := strShape) (z := x.ftext) tabOk zOk rfl rfl rfl rfl (by kernel_rfl) rfl rfl rfl (by assumption) (fun _ h => by exact h) (Blk.row (by assumption)) rfl (by omega) (by omega) rfl ?_
    rintro ga20 cap'a21 wa22 ha23 ha24 ha25 fa26; have za27 := fa26.size; replace ha16 := Blk.fr ha16 fa26 (fun e => by have := hob _ e; omega); replace ha5 := Blk.fr ha5 fa26 (fun e => by have := hob _ e; omega); replace X := Ext.fr X fa26 (fun k hk => by have := hob _ hk; omega); replace ht := TabsF.fr ht fa26 (fun k hk => by have := hob _ hk; omega); replace hs := Bk.rowSits.fr hs fa26 (fun b hb hT => by have := hob _ hT; (try dsimp only at hb); omega); clear hown rx; replace sx := Nd.sits.fr sx fa26 (fun b hb hT => by have := hob _ hT; (try dsimp only at hb); omega); clear fa26; refine C1 Pa (lw_nil (qw_block_norm (qw_then (cw_region (C1 V7 (C1 Mv (lw_nil ?_))))))); rotate_left 1
   refine qw_round (j + 1, some ⟨_, 0, none⟩, _) ?_ ⟨by assumption, by simp only; rw [hsn]; assumption, X, by assumption, by simp only; omega⟩ (by simp only; omega); simp only [hsn]; (refine sub_cons rfl ?_; refine sub_cons rfl ?_; refine sub_cons rfl ?_; refine sub_cons rfl ?_; refine sub_cons rfl ?_; exact sub_nil)
 · have hje : j = l.length := by omega
   subst hje; rw [List.take_length] at hown; rw [List.take_length]
   have hrl : (rowText l).length ≤ 1000000 := by rw [rowText_length]; omega
   generalize rowText l = os at *
   focus
    refine cS (C1 V3 (cT (cw_seq (Wno (cw_exit (qw_then_exit (qw_then_exit (qw_block_exit (qw_then (cS (C1 Mv ?_))))))))))); refine C1 (pur_sadd rfl rfl (by simp only [List.length_cons, List.length_nil]; omega)) ?_; refine C1 Mv ?_; refine cC rfl (joinQ_c _ (by assumption) (by omega) (by omega)) ?_; rintro _ wb2 ⟨⟨⟩, xb1⟩; have zb3 := xb1.size; replace hs := Bk.rowSits.ext hs xb1; replace X := X.ext xb1; replace ht := ht.ext xb1; replace hown := hown.ext xb1; clear xb1; refine C1 (pur_sadd rfl rfl (by simp only [List.length_append, List.length_cons, List.length_nil]; omega)) ?_; refine C1 (pur_sadd rfl rfl (by simp only [List.length_append, List.length_cons, List.length_nil]; omega)) ?_; refine C1 Pa (cT (cw_ret (qw_ret1 rfl rfl ?_))); rotate_left 1
   exact ⟨rfl, X⟩
end Bk
namespace Bk
open Go Go.RowKit Go.Proofs
attribute [local irreducible] Go.Calls
def StrR (w : World) (q : List UInt8) (e : Ending) (w' : World) : Prop := e = .returned (str q) ∧ Ext w w'
theorem strR {w w' : World} {q q' : List UInt8} (h : q = q') (x : Ext w w') : StrR w q (.returned (str q')) w' := ⟨by rw [h], x⟩
theorem okT_op {x : Nd} (h : x.okT) (hk : x.kind = 82) : 8 ≤ x.num ∧ x.num ≤ 23 := by
 obtain ⟨k, n, s, l⟩ := x; replace hk : k = 82 := hk; subst hk; simp only [Nd.okT] at h; have := formN_82 h.1
 exact ⟨this.1, this.2.1⟩
set_option maxRecDepth 100000 in
set_option maxHeartbeats 8000000 in
theorem text_c (N : Nat) : ∀ t : Nd, t.size < N → t.size ≤ 1000000 → t.okT → TextT t := by
 induction N with
 | zero => intro t h; omega
 | succ N ih =>
  rintro ⟨k, n, s, l⟩ hN hM hok S a c w hs ht; have X := Ext.refl w; simp only [Nd.sits] at hs; have hs' : rowSits (· < w.heap.size) w l a := rowSits_lt _ _ hs; clear hs; simp only [Nd.size] at hN hM; have hlen := ftext_len _ hok; simp only [Nd.size] at hlen; simp only [Nd.okT] at hok; obtain ⟨h1, h2, h3, h4⟩ := hok; have h0 := formN_num h1
  have hT : ∀ x ∈ l, TextT x ∧ x.okT ∧ x.ftext.length ≤ 1000000000 := fun x hx => by
   have h5 := size_mem hx; have h6 := rowOkT_mem h4 hx; have h7 := ftext_len x h6
   exact ⟨ih x (by omega) (by omega) h6, h6, by omega⟩
  clear ih; have hl := length_rowSize l
  show Calls Tryz.prog 18 #[.agg #[.int .u8 k, .int .i64 n, str s, .slice a l.length c]] w (StrR w (Nd.mk k n s l).ftext)
  have hft : (Nd.mk k n s l).ftext = textN k n s (rowText l) (l.map fun t => (t.kind, t.num)) := by rw [Nd.ftext]
  rw [hft] at hlen ⊢; clear hft
  unfold textN at hlen ⊢
  have HA := Lib.hid (fun (wd : List UInt8) (hlen : (appT wd (rowText l)).length ≤ 1000000000) => applied_c wd l (fun x hx => (hT x hx).1) (by omega) hlen)
  by_cases k0 : k = 80
  · subst k0
    rw [if_pos rfl]; refine calls_in Tryz.func18 Tryz.ntmps18 rfl rfl ?_
    focus
     refine cS ?_; (refine lw_box' [_, _, _, _] rfl rfl rfl ?_; intro b1 w2 n3); have h4 := n3.blk; have x5 := n3.ext; have p6 := n3.pos; have z7 := n3.size; clear n3; replace ht := ht.ext x5; replace X := X.ext x5; replace hs' := Bk.rowSits.ext hs' x5; clear x5; refine C1 Pa (cT (cw_seq (cS (C1 Pg (C1 (Pl h4) (cT (cw_block (cS (C1 V1 (C1 Pa (cT ?_))))))))))); refine Wyd (cS (C1 Pf (C1 (Pl h4) ?_))); refine cC rfl (itoaF_c _ _ (by assumption) (by omega) (by omega)) ?_; rintro _ w9 ⟨⟨⟩, x8⟩; have z10 := x8.size; replace h4 := h4.ext x8; replace ht := ht.ext x8; replace X := X.ext x8; replace hs' := Bk.rowSits.ext hs' x8; clear x8; refine C1 Pa (cT (cw_ret (qw_block_ret (qw_then_ret (qw_ret1 rfl rfl ?_))))); rotate_left 1
    exact strR rfl X
  by_cases k1 : k = 81
  · subst k1
    rw [if_neg (by decide), if_pos rfl]; refine calls_in Tryz.func18 Tryz.ntmps18 rfl rfl ?_
    focus
     refine cS ?_; (refine lw_box' [_, _, _, _] rfl rfl rfl ?_; intro ba1 wa2 na3); have ha4 := na3.blk; have xa5 := na3.ext; have pa6 := na3.pos; have za7 := na3.size; clear na3; replace ht := ht.ext xa5; replace X := X.ext xa5; replace hs' := Bk.rowSits.ext hs' xa5; clear xa5; refine C1 Pa (cT (cw_seq (cS (C1 Pg (C1 (Pl ha4) (cT (cw_block (cS (C1 V1 (C1 Pa (cT ?_))))))))))); refine Wna (cS (C1 V1 (C1 Pa (cT (Wyd (cS (C1 Pf (C1 (Pl ha4) (C1 Pa (cT (cw_ret ?_))))))))))); refine qw_block_ret (qw_then_ret (qw_ret1 rfl rfl ?_)); rotate_left 1
    exact strR rfl X
  by_cases k2 : k = 82
  · subst k2
    rw [if_neg (by decide), if_neg (by decide), if_pos rfl] at hlen ⊢; obtain ⟨n1, n2, n3⟩ := formN_82 h1; obtain ⟨x, y, rfl⟩ := len2 n3; obtain ⟨t1, t2, t3⟩ := hT x (by simp); obtain ⟨u1, u2, u3⟩ := hT y (by simp); have HO := Lib.hid (fun lv S a c w h1 h2 => operand_c x lv t1 (okT_op t2) t3 S a c w h1 h2); have HP := Lib.hid (fun lv S a c w h1 h2 => operand_c y lv u1 (okT_op u2) u3 S a c w h1 h2); simp only [rowText, List.map_cons, List.map_nil, List.getD_cons_zero, List.getD_cons_succ, List.length_append, List.length_cons, List.length_nil] at hlen ⊢
    generalize hq1 : wrapT (level n) (x.kind, x.num) x.ftext = q1 at *
    generalize hq2 : wrapT (level n + 1) (y.kind, y.num) y.ftext = q2 at *
    have HO := Lib.hid (HO.out (level n)); have HP := Lib.hid (HP.out (level n + 1)); rw [hq1] at HO; rw [hq2] at HP; have hsl := symbol_len n1 n2; have hlv := level_bd n1 n2; clear t1 t2 t3 u1 u2 u3 hT HA hq1 hq2; have hs2 := hs'; obtain ⟨kb, ko, rfl, hkS, hkid⟩ := kidRows hs2 (by simp); obtain ⟨xa, xc, rx, sx⟩ := hkid 0 x rfl; obtain ⟨ya, yc, ry, sy⟩ := hkid 1 y rfl; clear hkid hs2; refine calls_in Tryz.func18 Tryz.ntmps18 rfl rfl ?_
    focus
     refine cS ?_; (refine lw_box' [_, _, _, _] rfl rfl rfl ?_; intro bb1 wb2 nb3); have hb4 := nb3.blk; have xb5 := nb3.ext; have pb6 := nb3.pos; have zb7 := nb3.size; clear nb3; replace ht := ht.ext xb5; replace X := X.ext xb5; replace hs' := Bk.rowSits.ext hs' xb5; replace rx := rx.ext xb5; replace sx := Nd.sits.ext sx xb5; replace ry := ry.ext xb5; replace sy := Nd.sits.ext sy xb5; clear xb5; refine C1 Pa (cT (cw_seq (cS (C1 Pg (C1 (Pl hb4) (cT (cw_block (cS (C1 V1 (C1 Pa (cT ?_))))))))))); refine Wna (cS (C1 V1 (C1 Pa (cT (Wna (cS (C1 V1 (C1 Pa (cT (Wyd (cS ?_))))))))))); refine C1 Pf (C1 (Pl hb4) ?_); refine C1 (pur_conv tabOk rfl rfl rfl (u8_wrap _ (by omega) (by omega))) ?_; refine cC rfl (arith_Level_c _ _ (by omega) (by omega)) ?_; rintro _ wb8 ⟨⟨⟩, rfl⟩; refine C1 Pa (cT (cw_seq ?_)); (refine cw_tdraw (fun wz => Ext wb2 wz) 20 (.pure 0 (.pure 1 (.pure 2 (.pure 3 (.pure 4 (.pure 7 (.pure 8 (.pure 9 (.pure 13 (.pure 14 (.pure 15 (.pure 16 (.pure 17 (.pure 18 (.fork 5 (.pure 6 (.fork 10 (.pure 11 (.pure 12 (.fork 19 .tail .none))) .none)) .none))))))))))))))) mixed (by kernel_rfl) (panicOk_then (panicOk_block (panicOk_then panicOk_body))) ?_; intro wb9 xb10 _); have qsb11 : (fun wz => Ext wb2 wz) wb9 := xb10; simp only at qsb11; have d_hb4 := hb4; have d_ht := ht; have d_hs' := hs'; have d_rx := rx; have d_sx := sx; have d_ry := ry; have d_sy := sy; have zb12 := xb10.size; replace hb4 := hb4.ext xb10; replace ht := ht.ext xb10; replace X := X.ext xb10; replace hs' := Bk.rowSits.ext hs' xb10
     replace rx := rx.ext xb10; replace sx := Nd.sits.ext sx xb10; replace ry := ry.ext xb10; replace sy := Nd.sits.ext sy xb10; clear xb10; refine ⟨qsb11, ?_⟩; refine Tq rfl Pf (Tq rfl (Db d_hb4) (Tq rfl Pi (Tq rfl (pur_loads_row' [_, _, _, _] tabOk rfl rfl rfl (fun wz hz => (Row.ext d_rx hz)) rfl rfl) (Tq rfl Mv (Tq rfl Pf (Tq rfl (Db d_hb4) ?_)))))); refine Tq rfl (pur_conv tabOk rfl rfl rfl (u8_wrap _ (by omega) (by omega))) ?_; refine Tq rfl Pf (Tq rfl (Db d_hb4) (Tq rfl Pi (Tq rfl (pur_loads' tabOk rfl rfl rfl (fun wz hz => (Row.ext d_ry hz)) rfl) (Tq rfl Mv (Tq rfl V7 ?_))))); refine tw_does rfl (does_call (by kernel_rfl) rfl (HO.out _ _ _ _ (by assumption) (by assumption)) (fun _ _ h => ⟨_, h.1⟩)) rfl ?_ (fun _ h => h) tw_none; rintro _ wb15 ⟨⟨⟩, xb14⟩; have zb16 := xb14.size; replace qsb11 := qsb11.ext xb14; replace hb4 := hb4.ext xb14; replace ht := ht.ext xb14; replace X := X.ext xb14; replace hs' := Bk.rowSits.ext hs' xb14; replace rx := rx.ext xb14; replace sx := Nd.sits.ext sx xb14; replace ry := ry.ext xb14; replace sy := Nd.sits.ext sy xb14; clear xb14; refine ⟨qsb11, ?_⟩; refine Tq rfl (pur_sadd rfl rfl (by simp only [List.length_cons, List.length_nil]; omega)) ?_; refine tw_does rfl (does_call (by kernel_rfl) rfl (symF_c _ _ (by assumption) (by omega) (by omega)) (fun _ _ h => ⟨_, h.1⟩)) rfl ?_ (fun _ h => h) tw_none; rintro _ wb18 ⟨⟨⟩, rfl⟩; refine ⟨qsb11, ?_⟩; refine Tq rfl (pur_sadd rfl rfl (by simp only [List.length_append, List.length_cons, List.length_nil]; omega)) ?_
     refine Tq rfl (pur_sadd rfl rfl (by simp only [List.length_append, List.length_cons, List.length_nil]; omega)) ?_; refine tw_does rfl (does_call (by kernel_rfl) rfl (HP.out _ _ _ _ (by assumption) (by assumption)) (fun _ _ h => ⟨_, h.1⟩)) rfl ?_ (fun _ h => h) tw_none; rintro _ wb21 ⟨⟨⟩, xb20⟩; have zb22 := xb20.size; replace qsb11 := qsb11.ext xb20; replace hb4 := hb4.ext xb20; replace ht := ht.ext xb20; replace X := X.ext xb20; replace hs' := Bk.rowSits.ext hs' xb20; replace rx := rx.ext xb20; replace sx := Nd.sits.ext sx xb20; replace ry := ry.ext xb20; replace sy := Nd.sits.ext sy xb20; clear xb20; refine ⟨qsb11, ?_⟩; clear d_hb4 d_ht d_hs' d_rx d_sx d_ry d_sy qsb11; refine tw_tail rfl ?_; refine C1 (pur_sadd rfl rfl (by simp only [List.length_append, List.length_cons, List.length_nil]; omega)) ?_; refine C1 Pa (cT (cw_ret (qw_block_ret (qw_then_ret (qw_ret1 rfl rfl ?_))))); rotate_left 1
    exact strR rfl X
  by_cases k3 : k = 83
  · subst k3
    rw [if_neg (by decide), if_neg (by decide), if_neg (by decide), if_pos rfl] at hlen ⊢; obtain ⟨x, y, z, rfl⟩ := len3 (formN_83' h1); have HO := Lib.hid (fun S a c w h1 h2 => (hT x (by simp)).1 S a c w h1 h2); have HP := Lib.hid (fun S a c w h1 h2 => (hT y (by simp)).1 S a c w h1 h2); have HQ := Lib.hid (fun S a c w h1 h2 => (hT z (by simp)).1 S a c w h1 h2); simp only [rowText, List.map_cons, List.map_nil, List.getD_cons_zero, List.getD_cons_succ, List.length_append, List.length_cons, List.length_nil] at hlen ⊢; clear hT HA; have hs2 := hs'; obtain ⟨kb, ko, rfl, hkS, hkid⟩ := kidRows hs2 (by simp); obtain ⟨xa, xc, rx, sx⟩ := hkid 0 x rfl; obtain ⟨ya, yc, ry, sy⟩ := hkid 1 y rfl; obtain ⟨za, zc, rz, sz⟩ := hkid 2 z rfl; clear hkid hs2
    generalize x.ftext = q1 at *
    generalize y.ftext = q2 at *
    generalize z.ftext = q3 at *
    refine calls_in Tryz.func18 Tryz.ntmps18 rfl rfl ?_
    focus
     refine cS ?_; (refine lw_box' [_, _, _, _] rfl rfl rfl ?_; intro bc1 wc2 nc3); have hc4 := nc3.blk; have xc5 := nc3.ext; have pc6 := nc3.pos; have zc7 := nc3.size; clear nc3; replace ht := ht.ext xc5; replace X := X.ext xc5; replace hs' := Bk.rowSits.ext hs' xc5; replace rx := rx.ext xc5; replace sx := Nd.sits.ext sx xc5; replace ry := ry.ext xc5; replace sy := Nd.sits.ext sy xc5; replace rz := rz.ext xc5; replace sz := Nd.sits.ext sz xc5; clear xc5; refine C1 Pa (cT (cw_seq (cS (C1 Pg (C1 (Pl hc4) (cT (cw_block (cS (C1 V1 (C1 Pa (cT ?_))))))))))); refine Wna (cS (C1 V1 (C1 Pa (cT (Wna (cS (C1 V1 (C1 Pa (cT (Wna (cS ?_))))))))))); refine C1 V1 (C1 Pa (cT (Wyd (cw_seq ?_)))); (refine cw_tdraw (fun wz => Ext wc2 wz) 19 (.pure 0 (.pure 1 (.pure 2 (.pure 3 (.pure 7 (.pure 8 (.pure 9 (.pure 10 (.pure 14 (.pure 15 (.pure 16 (.pure 17 (.fork 4 (.pure 5 (.pure 6 (.fork 11 (.pure 12 (.pure 13 (.fork 18 .tail .none))) .none))) .none))))))))))))) mixed (by kernel_rfl) (panicOk_then (panicOk_block (panicOk_then panicOk_body))) ?_; intro wc8 xc9 _); have qsc10 : (fun wz => Ext wc2 wz) wc8 := xc9; simp only at qsc10; have d_hc4 := hc4; have d_ht := ht; have d_hs' := hs'; have d_rx := rx; have d_sx := sx; have d_ry := ry; have d_sy := sy; have d_rz := rz; have d_sz := sz; have zc11 := xc9.size; replace hc4 := hc4.ext xc9; replace ht := ht.ext xc9; replace X := X.ext xc9; replace hs' := Bk.rowSits.ext hs' xc9; replace rx := rx.ext xc9; replace sx := Nd.sits.ext sx xc9; replace ry := ry.ext xc9
     replace sy := Nd.sits.ext sy xc9; replace rz := rz.ext xc9; replace sz := Nd.sits.ext sz xc9; clear xc9; refine ⟨qsc10, ?_⟩; refine Tq rfl Pf (Tq rfl (Db d_hc4) (Tq rfl Pi (Tq rfl (pur_loads_row' [_, _, _, _] tabOk rfl rfl rfl (fun wz hz => (Row.ext d_rx hz)) rfl rfl) (Tq rfl Pf (Tq rfl (Db d_hc4) (Tq rfl Pi (Tq rfl (pur_loads' tabOk rfl rfl rfl (fun wz hz => (Row.ext d_ry hz)) rfl) (Tq rfl Pf (Tq rfl (Db d_hc4) (Tq rfl Pi (Tq rfl (pur_loads' tabOk rfl rfl rfl (fun wz hz => (Row.ext d_rz hz)) rfl) ?_))))))))))); refine tw_does rfl (does_call (by kernel_rfl) rfl (HO.out _ _ _ _ (by assumption) (by assumption)) (fun _ _ h => ⟨_, h.1⟩)) rfl ?_ (fun _ h => h) tw_none; rintro _ wc14 ⟨⟨⟩, xc13⟩; have zc15 := xc13.size; replace qsc10 := qsc10.ext xc13; replace hc4 := hc4.ext xc13; replace ht := ht.ext xc13; replace X := X.ext xc13; replace hs' := Bk.rowSits.ext hs' xc13; replace rx := rx.ext xc13; replace sx := Nd.sits.ext sx xc13; replace ry := ry.ext xc13; replace sy := Nd.sits.ext sy xc13; replace rz := rz.ext xc13; replace sz := Nd.sits.ext sz xc13; clear xc13; refine ⟨qsc10, ?_⟩; refine Tq rfl (pur_sadd rfl rfl (by simp only [List.length_cons, List.length_nil]; omega)) ?_; refine Tq rfl (pur_sadd rfl rfl (by simp only [List.length_append, List.length_cons, List.length_nil]; omega)) ?_; refine tw_does rfl (does_call (by kernel_rfl) rfl (HP.out _ _ _ _ (by assumption) (by assumption)) (fun _ _ h => ⟨_, h.1⟩)) rfl ?_ (fun _ h => h) tw_none; rintro _ wc18 ⟨⟨⟩, xc17⟩; have zc19 := xc17.size
     replace qsc10 := qsc10.ext xc17; replace hc4 := hc4.ext xc17; replace ht := ht.ext xc17; replace X := X.ext xc17; replace hs' := Bk.rowSits.ext hs' xc17; replace rx := rx.ext xc17; replace sx := Nd.sits.ext sx xc17; replace ry := ry.ext xc17; replace sy := Nd.sits.ext sy xc17; replace rz := rz.ext xc17; replace sz := Nd.sits.ext sz xc17; clear xc17; refine ⟨qsc10, ?_⟩; refine Tq rfl (pur_sadd rfl rfl (by simp only [List.length_append, List.length_cons, List.length_nil]; omega)) ?_; refine Tq rfl (pur_sadd rfl rfl (by simp only [List.length_append, List.length_cons, List.length_nil]; omega)) ?_; refine tw_does rfl (does_call (by kernel_rfl) rfl (HQ.out _ _ _ _ (by assumption) (by assumption)) (fun _ _ h => ⟨_, h.1⟩)) rfl ?_ (fun _ h => h) tw_none; rintro _ wc22 ⟨⟨⟩, xc21⟩; have zc23 := xc21.size; replace qsc10 := qsc10.ext xc21; replace hc4 := hc4.ext xc21; replace ht := ht.ext xc21; replace X := X.ext xc21; replace hs' := Bk.rowSits.ext hs' xc21; replace rx := rx.ext xc21; replace sx := Nd.sits.ext sx xc21; replace ry := ry.ext xc21; replace sy := Nd.sits.ext sy xc21; replace rz := rz.ext xc21; replace sz := Nd.sits.ext sz xc21; clear xc21; refine ⟨qsc10, ?_⟩; clear d_hc4 d_ht d_hs' d_rx d_sx d_ry d_sy d_rz d_sz qsc10; refine tw_tail rfl ?_; refine C1 (pur_sadd rfl rfl (by simp only [List.length_append, List.length_cons, List.length_nil]; omega)) ?_; refine C1 (pur_sadd rfl rfl (by simp only [List.length_append, List.length_cons, List.length_nil]; omega)) ?_; refine C1 Pa (cT (cw_ret (qw_block_ret (qw_then_ret (qw_ret1 rfl rfl ?_)))))
     rotate_left 1
    exact strR rfl X
  by_cases k4 : k = 84
  · subst k4
    rw [if_neg (by decide), if_neg (by decide), if_neg (by decide), if_neg (by decide), if_pos rfl] at hlen ⊢; obtain ⟨x, y, rfl⟩ := len2 (formN_84 h1).2; have HO := Lib.hid (fun S a c w h1 h2 => (hT x (by simp)).1 S a c w h1 h2); have HP := Lib.hid (fun S a c w h1 h2 => (hT y (by simp)).1 S a c w h1 h2); simp only [rowText, List.map_cons, List.map_nil, List.getD_cons_zero, List.getD_cons_succ, List.length_append, List.length_cons, List.length_nil] at hlen ⊢; clear hT HA; have hs2 := hs'; obtain ⟨kb, ko, rfl, hkS, hkid⟩ := kidRows hs2 (by simp); obtain ⟨xa, xc, rx, sx⟩ := hkid 0 x rfl; obtain ⟨ya, yc, ry, sy⟩ := hkid 1 y rfl; clear hkid hs2
    generalize x.ftext = q1 at *
    generalize y.ftext = q2 at *
    refine calls_in Tryz.func18 Tryz.ntmps18 rfl rfl ?_
    focus
     refine cS ?_; (refine lw_box' [_, _, _, _] rfl rfl rfl ?_; intro bd1 wd2 nd3); have hd4 := nd3.blk; have xd5 := nd3.ext; have pd6 := nd3.pos; have zd7 := nd3.size; clear nd3; replace ht := ht.ext xd5; replace X := X.ext xd5; replace hs' := Bk.rowSits.ext hs' xd5; replace rx := rx.ext xd5; replace sx := Nd.sits.ext sx xd5; replace ry := ry.ext xd5; replace sy := Nd.sits.ext sy xd5; clear xd5; refine C1 Pa (cT (cw_seq (cS (C1 Pg (C1 (Pl hd4) (cT (cw_block (cS (C1 V1 (C1 Pa (cT ?_))))))))))); refine Wna (cS (C1 V1 (C1 Pa (cT (Wna (cS (C1 V1 (C1 Pa (cT (Wna (cS ?_))))))))))); refine C1 V1 (C1 Pa (cT (Wna (cS (C1 V1 (C1 Pa (cT (Wyd (cw_seq ?_))))))))); (refine cw_tdraw (fun wz => Ext wd2 wz) 16 (.pure 0 (.pure 1 (.pure 2 (.pure 3 (.pure 4 (.pure 5 (.pure 6 (.pure 7 (.pure 11 (.pure 12 (.pure 13 (.pure 14 (.fork 8 (.pure 9 (.pure 10 (.fork 15 .tail .none))) .none))))))))))))) mixed (by kernel_rfl) (panicOk_then (panicOk_block (panicOk_then panicOk_body))) ?_; intro wd8 xd9 _); have qsd10 : (fun wz => Ext wd2 wz) wd8 := xd9; simp only at qsd10; have d_hd4 := hd4; have d_ht := ht; have d_hs' := hs'; have d_rx := rx; have d_sx := sx; have d_ry := ry; have d_sy := sy; have zd11 := xd9.size; replace hd4 := hd4.ext xd9; replace ht := ht.ext xd9; replace X := X.ext xd9; replace hs' := Bk.rowSits.ext hs' xd9; replace rx := rx.ext xd9; replace sx := Nd.sits.ext sx xd9; replace ry := ry.ext xd9; replace sy := Nd.sits.ext sy xd9; clear xd9; refine ⟨qsd10, ?_⟩; refine Tq rfl Pf (Tq rfl (Db d_hd4) ?_)
     refine Tq rfl (pur_sadd rfl rfl (by simp only [List.length_cons, List.length_nil]; omega)) ?_; refine Tq rfl (pur_sadd rfl rfl (by simp only [List.length_append, List.length_cons, List.length_nil]; omega)) ?_; refine Tq rfl Pf (Tq rfl (Db d_hd4) (Tq rfl Pi (Tq rfl (pur_loads_row' [_, _, _, _] tabOk rfl rfl rfl (fun wz hz => (Row.ext d_rx hz)) rfl rfl) (Tq rfl Pf (Tq rfl (Db d_hd4) (Tq rfl Pi (Tq rfl (pur_loads' tabOk rfl rfl rfl (fun wz hz => (Row.ext d_ry hz)) rfl) ?_))))))); refine tw_does rfl (does_call (by kernel_rfl) rfl (HO.out _ _ _ _ (by assumption) (by assumption)) (fun _ _ h => ⟨_, h.1⟩)) rfl ?_ (fun _ h => h) tw_none; rintro _ wd14 ⟨⟨⟩, xd13⟩; have zd15 := xd13.size; replace qsd10 := qsd10.ext xd13; replace hd4 := hd4.ext xd13; replace ht := ht.ext xd13; replace X := X.ext xd13; replace hs' := Bk.rowSits.ext hs' xd13; replace rx := rx.ext xd13; replace sx := Nd.sits.ext sx xd13; replace ry := ry.ext xd13; replace sy := Nd.sits.ext sy xd13; clear xd13; refine ⟨qsd10, ?_⟩; refine Tq rfl (pur_sadd rfl rfl (by simp only [List.length_append, List.length_cons, List.length_nil]; omega)) ?_; refine Tq rfl (pur_sadd rfl rfl (by simp only [List.length_append, List.length_cons, List.length_nil]; omega)) ?_; refine tw_does rfl (does_call (by kernel_rfl) rfl (HP.out _ _ _ _ (by assumption) (by assumption)) (fun _ _ h => ⟨_, h.1⟩)) rfl ?_ (fun _ h => h) tw_none; rintro _ wd18 ⟨⟨⟩, xd17⟩; have zd19 := xd17.size; replace qsd10 := qsd10.ext xd17; replace hd4 := hd4.ext xd17; replace ht := ht.ext xd17
     replace X := X.ext xd17; replace hs' := Bk.rowSits.ext hs' xd17; replace rx := rx.ext xd17; replace sx := Nd.sits.ext sx xd17; replace ry := ry.ext xd17; replace sy := Nd.sits.ext sy xd17; clear xd17; refine ⟨qsd10, ?_⟩; clear d_hd4 d_ht d_hs' d_rx d_sx d_ry d_sy qsd10; refine tw_tail rfl ?_; refine C1 (pur_sadd rfl rfl (by simp only [List.length_append, List.length_cons, List.length_nil]; omega)) ?_; refine C1 (pur_sadd rfl rfl (by simp only [List.length_append, List.length_cons, List.length_nil]; omega)) ?_; refine C1 Pa (cT (cw_ret (qw_block_ret (qw_then_ret (qw_ret1 rfl rfl ?_))))); rotate_left 1
    exact strR rfl X
  by_cases k6 : k = 86
  · subst k6
    rw [if_neg (by decide), if_neg (by decide), if_neg (by decide), if_neg (by decide), if_neg (by decide), if_pos rfl]; refine calls_in Tryz.func18 Tryz.ntmps18 rfl rfl ?_
    focus
     refine cS ?_; (refine lw_box' [_, _, _, _] rfl rfl rfl ?_; intro be1 we2 ne3); have he4 := ne3.blk; have xe5 := ne3.ext; have pe6 := ne3.pos; have ze7 := ne3.size; clear ne3; replace ht := ht.ext xe5; replace X := X.ext xe5; replace hs' := Bk.rowSits.ext hs' xe5; clear xe5; refine C1 Pa (cT (cw_seq (cS (C1 Pg (C1 (Pl he4) (cT (cw_block (cS (C1 V1 (C1 Pa (cT ?_))))))))))); refine Wna (cS (C1 V1 (C1 Pa (cT (Wna (cS (C1 V1 (C1 Pa (cT (Wna (cS ?_))))))))))); refine C1 V1 (C1 Pa (cT (Wna (cS (C1 V1 (C1 Pa (cT (Wna (cS (C1 V1 (C1 Pa ?_))))))))))); refine cT (Wyd (cS (C1 Pa (cT (cw_ret (qw_block_ret (qw_then_ret (qw_ret1 rfl rfl ?_)))))))); rotate_left 1
    exact strR rfl X
  by_cases k7 : k = 87
  · subst k7
    rw [if_neg (by decide), if_neg (by decide), if_neg (by decide), if_neg (by decide), if_neg (by decide), if_neg (by decide), if_pos rfl] at hlen ⊢; have HA := Lib.hid (HA.out [112, 117, 115, 104] (by omega)); clear hlen
    generalize appT [112, 117, 115, 104] (rowText l) = q at *
    refine calls_in Tryz.func18 Tryz.ntmps18 rfl rfl ?_
    focus
     refine cS ?_; (refine lw_box' [_, _, _, _] rfl rfl rfl ?_; intro bf1 wf2 nf3); have hf4 := nf3.blk; have xf5 := nf3.ext; have pf6 := nf3.pos; have zf7 := nf3.size; clear nf3; replace ht := ht.ext xf5; replace X := X.ext xf5; replace hs' := Bk.rowSits.ext hs' xf5; clear xf5; refine C1 Pa (cT (cw_seq (cS (C1 Pg (C1 (Pl hf4) (cT (cw_block (cS (C1 V1 (C1 Pa (cT ?_))))))))))); refine Wna (cS (C1 V1 (C1 Pa (cT (Wna (cS (C1 V1 (C1 Pa (cT (Wna (cS ?_))))))))))); refine C1 V1 (C1 Pa (cT (Wna (cS (C1 V1 (C1 Pa (cT (Wna (cS (C1 V1 (C1 Pa ?_))))))))))); refine cT (Wna (cS (C1 V1 (C1 Pa (cT (Wyd (cS (C1 Pf (C1 (Pl hf4) ?_))))))))); refine cC rfl (HA.out _ _ _ _ (by assumption) (by assumption)) ?_; rintro _ wf9 ⟨⟨⟩, xf8⟩; have zf10 := xf8.size; replace hf4 := hf4.ext xf8; replace ht := ht.ext xf8; replace X := X.ext xf8; replace hs' := Bk.rowSits.ext hs' xf8; clear xf8; refine C1 Pa (cT (cw_ret (qw_block_ret (qw_then_ret (qw_ret1 rfl rfl ?_))))); rotate_left 1
    exact strR rfl X
  by_cases k9 : k = 89
  · subst k9
    rw [if_neg (by decide), if_neg (by decide), if_neg (by decide), if_neg (by decide), if_neg (by decide), if_neg (by decide), if_neg (by decide), if_pos rfl] at hlen ⊢; have HA := Lib.hid (HA.out [112, 111, 112] (by omega)); clear hlen
    generalize appT [112, 111, 112] (rowText l) = q at *
    refine calls_in Tryz.func18 Tryz.ntmps18 rfl rfl ?_
    focus
     refine cS ?_; (refine lw_box' [_, _, _, _] rfl rfl rfl ?_; intro bg1 wg2 ng3); have hg4 := ng3.blk; have xg5 := ng3.ext; have pg6 := ng3.pos; have zg7 := ng3.size; clear ng3; replace ht := ht.ext xg5; replace X := X.ext xg5; replace hs' := Bk.rowSits.ext hs' xg5; clear xg5; refine C1 Pa (cT (cw_seq (cS (C1 Pg (C1 (Pl hg4) (cT (cw_block (cS (C1 V1 (C1 Pa (cT ?_))))))))))); refine Wna (cS (C1 V1 (C1 Pa (cT (Wna (cS (C1 V1 (C1 Pa (cT (Wna (cS ?_))))))))))); refine C1 V1 (C1 Pa (cT (Wna (cS (C1 V1 (C1 Pa (cT (Wna (cS (C1 V1 (C1 Pa ?_))))))))))); refine cT (Wna (cS (C1 V1 (C1 Pa (cT (Wna (cS (C1 V1 (C1 Pa (cT (Wyd ?_))))))))))); refine cS (C1 Pf (C1 (Pl hg4) ?_)); refine cC rfl (HA.out _ _ _ _ (by assumption) (by assumption)) ?_; rintro _ wg9 ⟨⟨⟩, xg8⟩; have zg10 := xg8.size; replace hg4 := hg4.ext xg8; replace ht := ht.ext xg8; replace X := X.ext xg8; replace hs' := Bk.rowSits.ext hs' xg8; clear xg8; refine C1 Pa (cT (cw_ret (qw_block_ret (qw_then_ret (qw_ret1 rfl rfl ?_))))); rotate_left 1
    exact strR rfl X
  by_cases k8 : k = 88
  · subst k8
    rw [if_neg (by decide), if_neg (by decide), if_neg (by decide), if_neg (by decide), if_neg (by decide), if_neg (by decide), if_neg (by decide), if_neg (by decide), if_pos rfl] at hlen ⊢; have HA := Lib.hid (HA.out [116, 111, 112] (by omega)); clear hlen
    generalize appT [116, 111, 112] (rowText l) = q at *
    refine calls_in Tryz.func18 Tryz.ntmps18 rfl rfl ?_
    focus
     refine cS ?_; (refine lw_box' [_, _, _, _] rfl rfl rfl ?_; intro bh1 wh2 nh3); have hh4 := nh3.blk; have xh5 := nh3.ext; have ph6 := nh3.pos; have zh7 := nh3.size; clear nh3; replace ht := ht.ext xh5; replace X := X.ext xh5; replace hs' := Bk.rowSits.ext hs' xh5; clear xh5; refine C1 Pa (cT (cw_seq (cS (C1 Pg (C1 (Pl hh4) (cT (cw_block (cS (C1 V1 (C1 Pa (cT ?_))))))))))); refine Wna (cS (C1 V1 (C1 Pa (cT (Wna (cS (C1 V1 (C1 Pa (cT (Wna (cS ?_))))))))))); refine C1 V1 (C1 Pa (cT (Wna (cS (C1 V1 (C1 Pa (cT (Wna (cS (C1 V1 (C1 Pa ?_))))))))))); refine cT (Wna (cS (C1 V1 (C1 Pa (cT (Wna (cS (C1 V1 (C1 Pa (cT (Wna ?_))))))))))); refine cS (C1 V1 (C1 Pa (cT (Wyd (cS (C1 Pf (C1 (Pl hh4) ?_))))))); refine cC rfl (HA.out _ _ _ _ (by assumption) (by assumption)) ?_; rintro _ wh9 ⟨⟨⟩, xh8⟩; have zh10 := xh8.size; replace hh4 := hh4.ext xh8; replace ht := ht.ext xh8; replace X := X.ext xh8; replace hs' := Bk.rowSits.ext hs' xh8; clear xh8; refine C1 Pa (cT (cw_ret (qw_block_ret (qw_then_ret (qw_ret1 rfl rfl ?_))))); rotate_left 1
    exact strR rfl X
  by_cases k10 : k = 90
  · subst k10
    rw [if_neg (by decide), if_neg (by decide), if_neg (by decide), if_neg (by decide), if_neg (by decide), if_neg (by decide), if_neg (by decide), if_neg (by decide), if_neg (by decide), if_pos rfl] at hlen ⊢; obtain ⟨x, rfl⟩ := len1 (formN_90 h1); obtain ⟨t1, t2, t3⟩ := hT x (by simp); have HO := Lib.hid (fun S a c w h1 h2 => operand_c x 9 t1 (okT_op t2) t3 S a c w h1 h2); simp only [rowText, List.map_cons, List.map_nil, List.getD_cons_zero, List.getD_cons_succ, List.length_append, List.length_cons, List.length_nil] at hlen ⊢
    generalize wrapT 9 (x.kind, x.num) x.ftext = q1 at *
    clear hT HA t1 t2 t3; have hs2 := hs'; obtain ⟨kb, ko, rfl, hkS, hkid⟩ := kidRows hs2 (by simp); obtain ⟨xa, xc, rx, sx⟩ := hkid 0 x rfl; clear hkid hs2; refine calls_in Tryz.func18 Tryz.ntmps18 rfl rfl ?_
    focus
     refine cS ?_; (refine lw_box' [_, _, _, _] rfl rfl rfl ?_; intro bi1 wi2 ni3); have hi4 := ni3.blk; have xi5 := ni3.ext; have pi6 := ni3.pos; have zi7 := ni3.size; clear ni3; replace ht := ht.ext xi5; replace X := X.ext xi5; replace hs' := Bk.rowSits.ext hs' xi5; replace rx := rx.ext xi5; replace sx := Nd.sits.ext sx xi5; clear xi5; refine C1 Pa (cT (cw_seq (cS (C1 Pg (C1 (Pl hi4) (cT (cw_block (cS (C1 V1 (C1 Pa (cT ?_))))))))))); refine Wna (cS (C1 V1 (C1 Pa (cT (Wna (cS (C1 V1 (C1 Pa (cT (Wna (cS ?_))))))))))); refine C1 V1 (C1 Pa (cT (Wna (cS (C1 V1 (C1 Pa (cT (Wna (cS (C1 V1 (C1 Pa ?_))))))))))); refine cT (Wna (cS (C1 V1 (C1 Pa (cT (Wna (cS (C1 V1 (C1 Pa (cT (Wna ?_))))))))))); refine cS (C1 V1 (C1 Pa (cT (Wna (cS (C1 V1 (C1 Pa (cT (Wyd (cw_seq ?_)))))))))); (refine cw_tdraw (fun wz => Ext wi2 wz) 5 (.pure 0 (.pure 1 (.pure 2 (.pure 3 (.fork 4 .tail .none))))) mixed (by kernel_rfl) (panicOk_then (panicOk_block (panicOk_then panicOk_body))) ?_; intro wi8 xi9 _); have qsi10 : (fun wz => Ext wi2 wz) wi8 := xi9; simp only at qsi10; have d_hi4 := hi4; have d_ht := ht; have d_hs' := hs'; have d_rx := rx; have d_sx := sx; have zi11 := xi9.size; replace hi4 := hi4.ext xi9; replace ht := ht.ext xi9; replace X := X.ext xi9; replace hs' := Bk.rowSits.ext hs' xi9; replace rx := rx.ext xi9; replace sx := Nd.sits.ext sx xi9; clear xi9; refine ⟨qsi10, ?_⟩; refine Tq rfl Pf (Tq rfl (Db d_hi4) (Tq rfl Pi (Tq rfl (pur_loads_row' [_, _, _, _] tabOk rfl rfl rfl (fun wz hz => (Row.ext d_rx hz)) rfl rfl) ?_)))
     refine tw_does rfl (does_call (by kernel_rfl) rfl (arith_Level_c _ _ (by omega) (by omega)) (fun _ _ h => ⟨_, h.1⟩)) rfl ?_ (fun _ h => h) tw_none; rintro _ wi13 ⟨⟨⟩, rfl⟩; refine ⟨qsi10, ?_⟩; clear qsi10 d_hi4 d_ht d_hs' d_rx d_sx; refine tw_tail rfl ?_; refine cC rfl (HO.out _ _ _ _ (by assumption) (by assumption)) ?_; rintro _ wi15 ⟨⟨⟩, xi14⟩; have zi16 := xi14.size; replace hi4 := hi4.ext xi14; replace ht := ht.ext xi14; replace X := X.ext xi14; replace hs' := Bk.rowSits.ext hs' xi14; replace rx := rx.ext xi14; replace sx := Nd.sits.ext sx xi14; clear xi14; refine C1 (pur_sadd rfl rfl (by simp only [List.length_cons, List.length_nil]; omega)) ?_; refine C1 Pa (cT (cw_ret (qw_block_ret (qw_then_ret (qw_ret1 rfl rfl ?_))))); rotate_left 1
    exact strR rfl X
  rw [if_neg k0, if_neg k1, if_neg k2, if_neg k3, if_neg k4, if_neg k6, if_neg k7, if_neg k9, if_neg k8, if_neg k10] at hlen ⊢; have HA := Lib.hid (HA.out s (by omega)); clear hlen
  generalize appT s (rowText l) = q at *
  refine calls_in Tryz.func18 Tryz.ntmps18 rfl rfl ?_
  focus
   refine cS ?_; (refine lw_box' [_, _, _, _] rfl rfl rfl ?_; intro bj1 wj2 nj3); have hj4 := nj3.blk; have xj5 := nj3.ext; have pj6 := nj3.pos; have zj7 := nj3.size; clear nj3; replace ht := ht.ext xj5; replace X := X.ext xj5; replace hs' := Bk.rowSits.ext hs' xj5; clear xj5; refine C1 Pa (cT (cw_seq (cS (C1 Pg (C1 (Pl hj4) (cT (cw_block (cS (C1 V1 (C1 Pa (cT ?_))))))))))); refine Wna (cS (C1 V1 (C1 Pa (cT (Wna (cS (C1 V1 (C1 Pa (cT (Wna (cS ?_))))))))))); refine C1 V1 (C1 Pa (cT (Wna (cS (C1 V1 (C1 Pa (cT (Wna (cS (C1 V1 (C1 Pa ?_))))))))))); refine cT (Wna (cS (C1 V1 (C1 Pa (cT (Wna (cS (C1 V1 (C1 Pa (cT (Wna ?_))))))))))); refine cS (C1 V1 (C1 Pa (cT (Wna (cS (C1 V1 (C1 Pa (cT (Wna (cw_skip (qw_block_norm ?_))))))))))); refine qw_then (cS (C1 Pf (C1 (Pl hj4) (C1 Pf (C1 (Pl hj4) ?_))))); refine cC rfl (HA.out _ _ _ _ (by assumption) (by assumption)) ?_; rintro _ wj9 ⟨⟨⟩, xj8⟩; have zj10 := xj8.size; replace hj4 := hj4.ext xj8; replace ht := ht.ext xj8; replace X := X.ext xj8; replace hs' := Bk.rowSits.ext hs' xj8; clear xj8; refine C1 Pa (cT (cw_ret (qw_ret1 rfl rfl ?_))); rotate_left 1
  exact strR rfl X
end Bk
namespace Bk
open Go Go.RowKit Go.Proofs
structure BT (T : TypeId) : Prop where
 lies : liesAt Tryz.prog Tryz.prog.depth T (2 / Tryz.prog.cellsOf T) 0 49 1 = true
 ne : T ≠ 5
theorem bSize : (Tryz.prog.info? 49).map (·.size) = some 2 := by kernel_rfl
theorem infoByte : (Tryz.prog.info? 5).map (fun i => (i.zero, i.size, i.bytes)) = some (some (.int .u8 0), 1, 1) := by kernel_rfl
theorem uPtrB : Tryz.prog.underlying 46 = some (.pointer 49) := by kernel_rfl
theorem uUnsafe : Tryz.prog.underlying 110 = some .unsafePointer := by kernel_rfl
theorem uBytes : Tryz.prog.underlying 47 = some (.slice 5) := by kernel_rfl
set_option maxRecDepth 100000 in
theorem copyCheck_fresh (T : TypeId) (hT : BT T) (b : Nat) (w : World) (h0 : w.cell? ⟨b, 0, none⟩ = some (.pointer none)) (hsh : w.shape? b = some (T, 2)) (hfz : w.frozen? ⟨b, 0, none⟩ = false) :
 Calls Tryz.prog 37 #[.pointer (some ⟨b, 0, none⟩)] w fun e w' => e = .returned (.tuple #[]) ∧ w' = w.setCell ⟨b, 0, none⟩ (.pointer (some ⟨b, 0, none⟩)) := by
 obtain ⟨j, hj, hjs⟩ := Option.map_eq_some_iff.1 bSize
 go_enter Tryz.func37, Tryz.ntmps37
 go_wp2
 rw [Lib.run_to_unsafe w ⟨b, 0, none⟩ uPtrB uUnsafe hj (by rw [hjs]; decide) hsh (Nat.zero_lt_succ 1)]; simp only [Result.andThen]; rw [Oper.upon_value]
 go_wp2
 rw [run_callFunc_extern Tryz.func72 (by kernel_rfl) (by kernel_rfl) (by kernel_rfl) (e := Extern.AbiNoEscape.same) (by kernel_rfl)]; rw [Lib.run_noEscape]; simp only [Result.andThen]; rw [Oper.upon_value]
 go_wp2
 rw [Lib.run_from_unsafe w ⟨b, 0, none⟩ uUnsafe uPtrB hj hsh hT.lies]; simp only [Result.andThen]; rw [Oper.upon_value]
 go_wp2
 go_end0
 exact ⟨rfl, rfl⟩
set_option maxRecDepth 100000 in
theorem copyCheck_used (b : Nat) (w : World) (h0 : w.cell? ⟨b, 0, none⟩ = some (.pointer (some ⟨b, 0, none⟩))) :
 Calls Tryz.prog 37 #[.pointer (some ⟨b, 0, none⟩)] w fun e w' => e = .returned (.tuple #[]) ∧ w' = w := by
 obtain ⟨j, hj, hjs⟩ := Option.map_eq_some_iff.1 bSize
 go_enter Tryz.func37, Tryz.ntmps37
 go_wp2
 rw [Lib.run_neq_ptr_same w _ uPtrB hj]
 go_wp2
 go_end0
 exact ⟨rfl, rfl⟩
structure Fb (B b : Nat) (w w' : World) : Prop where
 below : Below B w w'
 kept : Lib.OthersKept 5 (some b) w w'
theorem Fb.refl (B b : Nat) (w : World) : Fb B b w w := ⟨Below.refl _ _, Lib.OthersKept.refl _ _ _⟩
theorem Fb.trans {B b : Nat} {u v w : World} (h : Fb B b u v) (k : Fb B b v w) : Fb B b u w := ⟨h.below.trans k.below, h.kept.trans k.kept⟩
theorem copyCheck_c (T : TypeId) (hT : BT T) (B b : Nat) (bs : List Value) (w : World) (h : Lib.IsBuilderF T 5 B b bs w) :
 Calls Tryz.prog 37 #[.pointer (some ⟨b, 0, none⟩)] w fun e w' => e = .returned (.tuple #[]) ∧ (Lib.BuilderAtF T 5 B b (.pointer (some ⟨b, 0, none⟩)) bs w' ∧ Fb B b w w') := by
 rcases h with h | h
 · refine (copyCheck_fresh T hT b w h.cell0 h.shape h.frozen0).mono ?_
   rintro e w' ⟨rfl, rfl⟩
   exact ⟨rfl, h.used _, (Below.refl B w).setCell (p := ⟨b, 0, none⟩) h.1 _, (Lib.OthersKept.refl _ _ w).setCell ⟨b, 0, none⟩ rfl _⟩
 · refine (copyCheck_used b w h.cell0).mono ?_
   rintro e w' ⟨rfl, rfl⟩
   exact ⟨rfl, h, Below.refl B _, Lib.OthersKept.refl _ _ _⟩
set_option maxHeartbeats 2000000 in
set_option maxRecDepth 100000 in
theorem WriteString_c (T : TypeId) (hT : BT T) (B b : Nat) (bs : List Value) (s : ByteArray) (w : World) (h : Lib.IsBuilderF T 5 B b bs w) (hlen : bs.length + s.size ≤ 140737488355328) (hBw : B ≤ w.heap.size) :
 Calls Tryz.prog 16 #[.pointer (some ⟨b, 0, none⟩), .string s] w fun e w' => e = .returned (.tuple #[.int .i64 s.size, .nilIface]) ∧ (Lib.IsBuilderF T 5 B b (bs ++ Lib.strCells s) w' ∧ Fb B b w w') := by
 obtain ⟨i0, hi, hz0, hz1, hz2⟩ := info_parts infoByte
 go_enter Tryz.func16, Tryz.ntmps16
 go_wp2_with (go_at_call 37; refine (copyCheck_c T hT B b bs _ h).mono ?_)
 rintro e w1 ⟨rfl, h1, hb1, hk1⟩; obtain ⟨hB, v, hbk, hown, hne⟩ := h1
 have c0 : w1.cell? ⟨b, 0, none⟩ = some (.pointer (some ⟨b, 0, none⟩)) := by rw [Lib.cell_of_heap hbk]; rfl
 have c1 : w1.cell? ⟨b, 1, none⟩ = some v := by rw [Lib.cell_of_heap hbk]; rfl
 go_wp2_with (at_builtin; refine Lib.wpList_append_own_stringF _ rfl _ _ 47 9 rfl B 5 i0 uBytes underStr hi hz0 hz1 hz2 _ _ _ rfl hown s rfl ?c3 ?c4 ?c5 ?_)
 case c3 => unfold maxLen; omega
 case c4 => omega
 case c5 => have := hb1.size; omega
 intro v' w2 hown' hgrow _
 have hlt : b < w1.heap.size := by
  rcases Nat.lt_or_ge b w1.heap.size with h' | h'
  · exact h'
  · simp [Array.getElem?_eq_none h'] at hbk
 have hb2 : w2.heap[b]? = some (.cells #[.pointer (some ⟨b, 0, none⟩), v] T (0, 0)) := by
  rw [hgrow.block b hlt (fun e => hne e.symm)]
  exact hbk
 have d0 : w2.cell? ⟨b, 0, none⟩ = some (.pointer (some ⟨b, 0, none⟩)) := by rw [Lib.cell_of_heap hb2]; rfl
 have d1 : w2.cell? ⟨b, 1, none⟩ = some v := by rw [Lib.cell_of_heap hb2]; rfl
 have f1 : w2.frozen? ⟨b, 1, none⟩ = false := Lib.frozen_of_heap hb2 1
 obtain ⟨ao, n', cap, rfl⟩ : ∃ ao n' cap, v' = .slice ao n' cap := by
  rcases hown'.2 with ⟨hv, _⟩ | ⟨g, cap, cur, fz, hv, _⟩
  · exact ⟨_, _, _, hv⟩
  · exact ⟨_, _, _, hv⟩
 go_wp2
 go_ret2
 refine ⟨rfl, .inr ?_, ?_, (hk1.grown hgrow (Lib.ownsRowF_kind hown)).setCell ⟨b, 1, none⟩ rfl _⟩
 · exact Lib.BuilderAtF.put (T := T) (e := 5) hB hb2 (bs' := bs ++ Lib.strCells s) (by simpa [Lib.strCells_length] using hown') hT.ne
 · exact (hb1.grown hgrow (by have := hb1.size; omega) (fun k hk => (hown.lt k hk).1)).setCell (p := ⟨b, 1, none⟩) hB _
theorem uPtrByte : Tryz.prog.underlying 92 = some (.pointer 5) := by kernel_rfl
theorem cellsByte : Tryz.prog.cellsOf 5 = 1 := by kernel_rfl
theorem unsafeString_none' (W : World) (q : Option Addr) : (Builtin.unsafeString_ #[92, 3] 9 #[.pointer q, .int .i64 0]).run Tryz.prog W = .ok (.string .empty) W :=
 Lib.run_unsafeString_none W _ _ _ q
set_option maxHeartbeats 1000000 in
set_option maxRecDepth 100000 in
theorem String_some (T : TypeId) (B b : Nat) (l : List UInt8) (w : World) (h : Lib.IsBuilderF T 5 B b (Lib.byteCells l) w) (h0 : l ≠ []) :
 Calls Tryz.prog 19 #[.pointer (some ⟨b, 0, none⟩)] w fun e w' => e = .returned (.string ⟨l.toArray⟩) ∧ (Lib.IsBuilderF T 5 B b (Lib.byteCells l) w' ∧ Fb B b w w') := by
 obtain ⟨p, hp, hAt⟩ : ∃ p, (p = .pointer none ∨ p = .pointer (some ⟨b, 0, none⟩)) ∧ Lib.BuilderAtF T 5 B b p (Lib.byteCells l) w := by
  rcases h with h | h
  · exact ⟨_, .inl rfl, h⟩
  · exact ⟨_, .inr rfl, h⟩
 obtain ⟨hB, v, hbk, hown, hne⟩ := hAt
 have hl0 : l.length ≠ 0 := by simpa using h0
 rw [Lib.byteCells_length] at hown
 obtain ⟨g, cap, cur, fz, rfl, hbg, hg, hfz, hnc, hcm, hcs, htake⟩ : ∃ g cap cur fz, v = .slice (some ⟨g, 0, none⟩) l.length cap ∧ B ≤ g ∧ w.heap[g]? = some (.cells cur 5 fz) ∧ fz.2 ≤ l.length * 1 ∧ l.length ≤ cap ∧ cap ≤ maxLen ∧ cur.size = cap * 1 ∧ cur.toList.take (l.length * 1) = Lib.byteCells l := by
  rcases hown.2 with ⟨_, hz⟩ | ⟨g, cap, cur, fz, hv, r⟩
  · exact absurd hz hl0
  · exact ⟨g, cap, cur, fz, hv, r⟩
 have c1 : w.drew.cell? ⟨b, 1, none⟩ = some (.slice (some ⟨g, 0, none⟩) l.length cap) := by
  have : w.drew.heap[b]? = some (.cells #[p, .slice (some ⟨g, 0, none⟩) l.length cap] T (0, 0)) := hbk
  rw [Lib.cell_of_heap this]; rfl
 have hSD : (Builtin.unsafeSliceData_ #[47] 92 #[.slice (some ⟨g, 0, none⟩) l.length cap]).run Tryz.prog w.drew = .ok (.pointer (some ⟨g, 0, none⟩)) w.drew :=
  Lib.run_unsafeSliceData_row _ _ _ _ _ _ (by omega)
 have hUS : (Builtin.unsafeString_ #[92, 3] 9 #[.pointer (some ⟨g, 0, none⟩), .int .i64 l.length]).run Tryz.prog w.drew = .ok (.string ⟨l.toArray⟩) (w.drew.freeze ⟨g, 0, none⟩ l.length) := by
  refine Lib.run_unsafeString_row w.drew 92 3 9 5 uPtrByte cellsByte g cur.size (by have hg' : w.drew.heap[g]? = some (.cells cur 5 fz) := hg; simp [World.shape?, hg']) l h0 (by omega) (by unfold maxLen at hcm; omega) ?_; intro j x hx; have := hown.cells (g := g) rfl j (.int .u8 x.toNat) (by simp [Lib.byteCells, hx])
  exact this
 have hkeep : Lib.IsBuilderF T 5 B b (Lib.byteCells l) (w.drew.freeze ⟨g, 0, none⟩ l.length) := by
  have hA : Lib.BuilderAtF T 5 B b p (Lib.byteCells l) w.drew := ⟨hB, _, hbk, by rw [Lib.byteCells_length]; exact hown, hne⟩; have hF := hA.froze (g := g) (cap := cap) (by rw [Lib.byteCells_length]; exact c1); rw [Lib.byteCells_length] at hF
  rcases hp with rfl | rfl
  · exact .inl hF
  · exact .inr hF
 go_enter Tryz.func19, Tryz.ntmps19
 go_wp2
 go_region
 all_goals (go_wp2; go_ret; exact ⟨rfl, hkeep, Lib.below_freeze (Below.drew (Below.refl B w)) (p := ⟨g, 0, none⟩) hbg _, ((Lib.OthersKept.refl _ _ w).drew).freeze ⟨g, 0, none⟩ _ ⟨cur, fz, hg⟩⟩)
set_option maxHeartbeats 2000000 in
set_option maxRecDepth 100000 in
theorem String_nil (T : TypeId) (B b : Nat) (p : Value) (w : World) (hbk : w.heap[b]? = some (.cells #[p, .slice none 0 0] T (0, 0))) (hA : Lib.BuilderAtF T 5 B b p [] w) :
 Calls Tryz.prog 19 #[.pointer (some ⟨b, 0, none⟩)] w fun e w' => e = .returned (.string ⟨#[]⟩) ∧ (Lib.BuilderAtF T 5 B b p [] w' ∧ Fb B b w w') := by
 have hUS := unsafeString_none'
 have c1 : w.drew.cell? ⟨b, 1, none⟩ = some (.slice none 0 0) := by
  have : w.drew.heap[b]? = some (.cells #[p, .slice none 0 0] T (0, 0)) := hbk
  rw [Lib.cell_of_heap this]; rfl
 have hSD : (Builtin.unsafeSliceData_ #[47] 92 #[.slice none 0 0]).run Tryz.prog w.drew = .ok (.pointer none) w.drew := rfl
 go_enter Tryz.func19, Tryz.ntmps19
 go_wp2
 go_region
 all_goals (go_wp2; go_ret; exact ⟨rfl, hA.drew, Below.drew (Below.refl B w), (Lib.OthersKept.refl _ _ w).drew⟩)
set_option maxHeartbeats 2000000 in
set_option maxRecDepth 100000 in
theorem String_noroom (T : TypeId) (B b g : Nat) (p : Value) (cur : Array Value) (w : World) (hBw : B ≤ w.heap.size) (hbk : w.heap[b]? = some (.cells #[p, .slice (some ⟨g, 0, none⟩) 0 0] T (0, 0))) (fz : Nat × Nat) (hg : w.heap[g]? = some (.cells cur 5 fz)) (hA : Lib.BuilderAtF T 5 B b p [] w) :
 Calls Tryz.prog 19 #[.pointer (some ⟨b, 0, none⟩)] w fun e w' => e = .returned (.string ⟨#[]⟩) ∧ (Lib.BuilderAtF T 5 B b p [] w' ∧ Fb B b w w') := by
 have hUS := unsafeString_none'
 have hlt : b < w.heap.size := by
  rcases Nat.lt_or_ge b w.heap.size with h' | h'
  · exact h'
  · simp [Array.getElem?_eq_none h'] at hbk
 have c1 : w.drew.cell? ⟨b, 1, none⟩ = some (.slice (some ⟨g, 0, none⟩) 0 0) := by
  have : w.drew.heap[b]? = some (.cells #[p, .slice (some ⟨g, 0, none⟩) 0 0] T (0, 0)) := hbk
  rw [Lib.cell_of_heap this]; rfl
 have hSD : (Builtin.unsafeSliceData_ #[47] 92 #[.slice (some ⟨g, 0, none⟩) 0 0]).run Tryz.prog w.drew = .ok (.pointer (some ⟨w.drew.heap.size, 0, none⟩)) (w.drew.alloc (.view ⟨g, 0, none⟩ 5)) :=
  Lib.run_unsafeSliceData_zero w.drew _ _ 5 uPtrByte ⟨g, 0, none⟩ 0 (5, cur.size) (by have hg' : w.drew.heap[g]? = some (.cells cur 5 fz) := hg; simp [World.shape?, hg'])
 have c2 : (w.drew.alloc (.view ⟨g, 0, none⟩ 5)).cell? ⟨b, 1, none⟩ = some (.slice (some ⟨g, 0, none⟩) 0 0) := by
  have : (w.drew.alloc (.view ⟨g, 0, none⟩ 5)).heap[b]? = _ := (Lib.alloc_old w.drew _ b hlt).trans hbk
  rw [Lib.cell_of_heap this]; rfl
 have c3 : (w.alloc (.view ⟨g, 0, none⟩ 5)).drew.cell? ⟨b, 1, none⟩ = some (.slice (some ⟨g, 0, none⟩) 0 0) := c2; have c0 : w.cell? ⟨b, 1, none⟩ = some (.slice (some ⟨g, 0, none⟩) 0 0) := c1
 go_enter Tryz.func19, Tryz.ntmps19
 go_wp2
 go_region
 all_goals (go_wp2; go_ret; exact ⟨rfl, hA.drew.alloc _, (Below.drew (Below.refl B w)).alloc hBw _, ((Lib.OthersKept.refl _ _ w).drew).alloc _⟩)
set_option maxHeartbeats 2000000 in
set_option maxRecDepth 100000 in
theorem String_room (T : TypeId) (B b g cap : Nat) (p : Value) (w : World) (hc0 : cap ≠ 0) (hbk : w.heap[b]? = some (.cells #[p, .slice (some ⟨g, 0, none⟩) 0 cap] T (0, 0))) (hA : Lib.BuilderAtF T 5 B b p [] w) :
 Calls Tryz.prog 19 #[.pointer (some ⟨b, 0, none⟩)] w fun e w' => e = .returned (.string ⟨#[]⟩) ∧ (Lib.BuilderAtF T 5 B b p [] w' ∧ Fb B b w w') := by
 have hUS := unsafeString_none'
 have c1 : w.drew.cell? ⟨b, 1, none⟩ = some (.slice (some ⟨g, 0, none⟩) 0 cap) := by
  have : w.drew.heap[b]? = some (.cells #[p, .slice (some ⟨g, 0, none⟩) 0 cap] T (0, 0)) := hbk
  rw [Lib.cell_of_heap this]; rfl
 have hSD : (Builtin.unsafeSliceData_ #[47] 92 #[.slice (some ⟨g, 0, none⟩) 0 cap]).run Tryz.prog w.drew = .ok (.pointer (some ⟨g, 0, none⟩)) w.drew :=
  Lib.run_unsafeSliceData_row _ _ _ _ _ _ hc0
 clear hc0
 go_enter Tryz.func19, Tryz.ntmps19
 go_wp2
 go_region
 all_goals (go_wp2; go_ret; exact ⟨rfl, hA.drew, Below.drew (Below.refl B w), (Lib.OthersKept.refl _ _ w).drew⟩)
theorem String_empty (T : TypeId) (B b : Nat) (w : World) (h : Lib.IsBuilderF T 5 B b [] w) (hBw : B ≤ w.heap.size) :
 Calls Tryz.prog 19 #[.pointer (some ⟨b, 0, none⟩)] w fun e w' => e = .returned (.string ⟨#[]⟩) ∧ (Lib.IsBuilderF T 5 B b [] w' ∧ Fb B b w w') := by
 obtain ⟨p, hp, hA⟩ : ∃ p, (p = .pointer none ∨ p = .pointer (some ⟨b, 0, none⟩)) ∧ Lib.BuilderAtF T 5 B b p [] w := by
  rcases h with h | h
  · exact ⟨_, .inl rfl, h⟩
  · exact ⟨_, .inr rfl, h⟩
 have fin : ∀ (e : Ending) (w' : World), (e = .returned (.string ⟨#[]⟩) ∧ (Lib.BuilderAtF T 5 B b p [] w' ∧ Fb B b w w')) → e = .returned (.string ⟨#[]⟩) ∧ (Lib.IsBuilderF T 5 B b [] w' ∧ Fb B b w w') := by
  rintro e w' ⟨he, hk, hb⟩
  rcases hp with rfl | rfl
  · exact ⟨he, .inl hk, hb⟩
  · exact ⟨he, .inr hk, hb⟩
 have hA' := hA; obtain ⟨hB, v, hbk, hown, hne⟩ := hA
 rcases hown.2 with ⟨rfl, _⟩ | ⟨g, cap, cur, fz, rfl, hbg, hg, _, _, _, _, _⟩
 · exact (String_nil T B b p w hbk hA').mono fin
 · by_cases hc0 : cap = 0
   · subst hc0
     exact (String_noroom T B b g p cur w hBw hbk fz hg hA').mono fin
   · exact (String_room T B b g cap p w hc0 hbk hA').mono fin
theorem String_any (T : TypeId) (B b : Nat) (l : List UInt8) (w : World) (h : Lib.IsBuilderF T 5 B b (Lib.byteCells l) w) (hBw : B ≤ w.heap.size) :
 Calls Tryz.prog 19 #[.pointer (some ⟨b, 0, none⟩)] w fun e w' => e = .returned (.string ⟨l.toArray⟩) ∧ (Lib.IsBuilderF T 5 B b (Lib.byteCells l) w' ∧ Fb B b w w') := by
 cases l with
 | nil => exact String_empty T B b w h hBw
 | cons x r => exact String_some T B b (x :: r) w h (by simp)
end Bk
namespace Bk
open Go Go.RowKit Go.Proofs
theorem btB : BT 49 := ⟨by kernel_rfl, by decide⟩
def U8 (w : World) (k : Nat) : Prop := ∃ c fz, w.heap[k]? = some (.cells c 5 fz)
structure BdF (w : World) (b : Nat) (l : List UInt8) (H : Nat) : Prop where
 is : Lib.IsBuilderF 49 5 b b (Lib.byteCells l) w
 own : ∀ p v, w.heap[b]? = some (.cells #[p, v] 49 (0, 0)) → ∀ g, v.ownBlock = some g → g < H
 lt : b < w.heap.size
theorem heap_lt {w : World} {b : Nat} {o : Obj} (h : w.heap[b]? = some o) : b < w.heap.size := by
 rcases Nat.lt_or_ge b w.heap.size with h' | h'
 · exact h'
 · rw [Array.getElem?_eq_none h'] at h; cases h
theorem BdF.fr {w w' : World} {b : Nat} {l : List UInt8} {H : Nat} {S : Nat → Prop} (h : BdF w b l H) (x : Fr S w w') (hs : ∀ k, S k → k ≠ b ∧ H ≤ k) : BdF w' b l H := by
 have hbb : w'.heap[b]? = w.heap[b]? := x.block b h.lt (fun hS => (hs b hS).1 rfl)
 have key : ∀ p, Lib.BuilderAtF 49 5 b b p (Lib.byteCells l) w → Lib.BuilderAtF 49 5 b b p (Lib.byteCells l) w' := by
  rintro p ⟨h1, v, h2, h3, h4⟩; refine ⟨h1, v, by rw [hbb]; exact h2, ?_, h4⟩; obtain ⟨k1, k2 | ⟨g, cap, cur, fz, rfl, k3, k4, k5⟩⟩ := h3
  · exact ⟨k1, Or.inl k2⟩
  · have hg := h.own p _ h2 g rfl
    exact ⟨k1, Or.inr ⟨g, cap, cur, fz, rfl, k3, by rw [x.block g (heap_lt k4) (fun hS => by have := (hs g hS).2; omega)]; exact k4, k5⟩⟩
 refine ⟨h.is.imp (key _) (key _), fun p v hv => h.own p v (by rw [← hbb]; exact hv), Nat.lt_of_lt_of_le h.lt x.size⟩
theorem BdF.ext {w w' : World} {b : Nat} {l : List UInt8} {H : Nat} (h : BdF w b l H) (x : Ext w w') : BdF w' b l H := h.fr (S := fun _ => False) (Fr.of_ext x) (fun _ h => h.elim)
theorem bdF_of {w : World} {b : Nat} {l : List UInt8} (h : Lib.IsBuilderF 49 5 b b (Lib.byteCells l) w) : BdF w b l w.heap.size := by
 refine ⟨h, fun p v hv g hg => ?_, ?_⟩
 · have key : ∀ q, Lib.BuilderAtF 49 5 b b q (Lib.byteCells l) w → g < w.heap.size := by
    rintro q ⟨-, v', h2, h3, -⟩; rw [hv] at h2; simp only [Option.some.injEq, Obj.cells.injEq, Array.mk.injEq, List.cons.injEq, and_true] at h2; obtain ⟨rfl, rfl⟩ := h2; obtain ⟨-, ⟨rfl, -⟩ | ⟨g', cap, cur, fz, rfl, -, k4, -⟩⟩ := h3
    · cases hg
    · simp only [Value.ownBlock, Option.some.injEq] at hg
      subst hg
      exact heap_lt k4
   exact h.elim (key _) (key _)
 · exact h.elim (fun ⟨_, _, h2, _⟩ => heap_lt h2) (fun ⟨_, _, h2, _⟩ => heap_lt h2)
theorem fr_fb {w w' : World} {b : Nat} (h : Below b w w') (h' : Lib.OthersKept 5 (some b) w w') : Fr (fun k => k = b ∨ (b ≤ k ∧ U8 w k)) w w' := by
 refine ⟨h.os, h.tape, h.output, h.size, fun k hk hS => ?_⟩
 by_cases hkb : k < b
 · exact h.block k hkb
 · have hne : k ≠ b := fun e => hS (Or.inl e)
   have hnu : ¬ U8 w k := fun e => hS (Or.inr ⟨by omega, e⟩)
   have ho : w.heap[k]? = some w.heap[k] := Array.getElem?_eq_getElem hk; rw [ho]
   exact h' k _ ho (by simpa using hne) (fun c fz e => hnu ⟨c, fz, by rw [ho, e]⟩)
theorem strCells_bytes (s : List UInt8) : Lib.strCells ⟨s.toArray⟩ = Lib.byteCells s := rfl
theorem writeF_c (b : Nat) (l s : List UInt8) (H : Nat) (w : World) (h : BdF w b l H) (hlen : l.length + s.length ≤ 140737488355328) :
 Calls Tryz.prog 16 #[.pointer (some ⟨b, 0, none⟩), str s] w fun e w' => e = .returned (.tuple #[.int .i64 s.length, .nilIface]) ∧ BdF w' b (l ++ s) w'.heap.size ∧ Fr (fun k => k = b ∨ (b ≤ k ∧ U8 w k)) w w' :=
 (WriteString_c 49 btB b b (Lib.byteCells l) ⟨s.toArray⟩ w h.is (by rw [Lib.byteCells_length]; exact hlen) (Nat.le_of_lt h.lt)).mono fun e w' ⟨h1, h2, h3⟩ =>
  ⟨h1, bdF_of (by rw [strCells_bytes] at h2; simpa [Lib.byteCells] using h2), fr_fb h3.below h3.kept⟩
theorem stringF_c (b : Nat) (l : List UInt8) (H : Nat) (w : World) (h : BdF w b l H) :
 Calls Tryz.prog 19 #[.pointer (some ⟨b, 0, none⟩)] w fun e w' => e = .returned (str l) ∧ Fr (fun k => k = b ∨ (b ≤ k ∧ U8 w k)) w w' :=
 (String_any 49 b b l w h.is (Nat.le_of_lt h.lt)).mono fun e w' ⟨h1, h2, h3⟩ => ⟨h1, fr_fb h3.below h3.kept⟩
theorem tb_not8 {w : World} {k : Nat} {vs : List Value} {T : TypeId} (h : TB w k vs T) (hT : T ≠ 5) : ¬ U8 w k := by
 rintro ⟨c, fz, e⟩; rw [TB] at h; rw [h] at e; simp only [Option.some.injEq, Obj.cells.injEq] at e
 exact hT e.2.1
end Bk
namespace Bk
open Go
theorem funName_short {s : List UInt8} (h : funName s = true) : s.length ≤ 12 := by
 unfold funName at h
 simp only [Bool.and_eq_true, decide_eq_true_eq] at h
 exact h.1.1.1.2
theorem seen_mem {v : Vis} {s : List UInt8} {b : Bool} (h : seen v s = some b) : (s, b) ∈ v := by
 unfold seen at h
 rw [Option.map_eq_some_iff] at h; obtain ⟨p, hp, rfl⟩ := h; have h1 := List.find?_some hp; have h2 := List.mem_of_find?_eq_some hp; simp only [decide_eq_true_eq] at h1; subst h1
 exact h2
theorem findF_name {lib : List FD} {s : List UInt8} {i : Nat} (h : findF lib s = some i) : ∃ f ∈ lib, f.name = s := by
 obtain ⟨h1, h2, -⟩ := List.findIdx?_eq_some_iff_getElem.1 h
 exact ⟨lib[i], List.getElem_mem h1, by simpa using h2⟩
mutual
theorem chk_okT {lib : List FD} (hlib : ∀ f ∈ lib, f.name.length ≤ 12) : ∀ (t : Nd) (v : Vis), t.wf → t.formed = true → (t.chk lib v).2 = 0 → (∀ p ∈ v, p.1.length ≤ 12) → t.okT
 | .mk k n s l, v, hw, hf, hc, hv => by
  simp only [Nd.wf] at hw; obtain ⟨-, -, -, w4, -, -, w7⟩ := hw; simp only [Nd.formed, Bool.and_eq_true] at hf; obtain ⟨f1, f2⟩ := hf; rw [Nd.chk] at hc
  split at hc
  · rename_i h; exact absurd hc h
  · rename_i hr
    have hr : reachF lib v k s l.length = 0 := Decidable.not_not.1 hr
    split at hc
    · rename_i h; exact absurd hc h
    · rename_i hrow
      have hrow : (rowChk lib v k s [] l).2 = 0 := Decidable.not_not.1 hrow
      have h84 : k = 84 → s.length ≤ 12 := fun h => by subst h; exact funName_short (formN_84 f1).1
      have hs : s.length ≤ 12 := by
       by_cases k1 : k = 81
       · subst k1
         simp only [reachF, if_true] at hr
         split at hr
         · rename_i hse
           obtain ⟨b, hb⟩ := Option.isSome_iff_exists.1 hse
           exact hv _ (seen_mem hb)
         · cases hr
       by_cases k4 : k = 84
       · exact h84 k4
       by_cases k5 : k = 85
       · subst k5
         simp only [reachF, show ¬ (85 : Int) = 81 by decide, show ¬ (85 : Int) = 84 by decide, if_false, if_true] at hr
         cases hff : findF lib s with
         | none => rw [hff] at hr; cases hr
         | some i =>
          obtain ⟨f, hf, rfl⟩ := findF_name hff
          exact hlib f hf
       have : s.isEmpty = true := by
        unfold formN at f1
        rw [if_neg k1, if_neg k4, if_neg k5] at f1
        repeat' split at f1
        all_goals simp at f1
        all_goals simp [f1]
       cases s with
       | nil => simp
       | cons _ _ => simp at this
      simp only [Nd.okT]
      exact ⟨f1, hs, w4, row_okT hlib l v k s [] w7 f2 hrow hv h84⟩
theorem row_okT {lib : List FD} (hlib : ∀ f ∈ lib, f.name.length ≤ 12) : ∀ (l : List Nd) (v : Vis) (k : Int) (s : List UInt8) (acc : List Bool), rowWf l → rowFormed l = true → (rowChk lib v k s acc l).2 = 0 → (∀ p ∈ v, p.1.length ≤ 12) → (k = 84 → s.length ≤ 12) → rowOkT l
 | [], _, _, _, _, _, _, _, _, _ => trivial
 | t :: r, v, k, s, acc, hw, hf, hc, hv, hs => by
  simp only [rowFormed, Bool.and_eq_true] at hf; rw [rowChk] at hc
  have hv2 : ∀ p ∈ (if k = 84 ∧ acc.length = 1 then (s, acc.getD 0 false) :: v else v), p.1.length ≤ 12 := fun p hp => by
   split at hp
   · rename_i h84
     rcases List.mem_cons.1 hp with rfl | hp
     · exact hs h84.1
     · exact hv p hp
   · exact hv p hp
  generalize (if k = 84 ∧ acc.length = 1 then (s, acc.getD 0 false) :: v else v) = v2 at hc hv2
  split at hc
  · rename_i h; exact absurd hc h
  · rename_i h
    have h := Decidable.not_not.1 h
    exact ⟨chk_okT hlib t _ hw.1 hf.1 h hv2, row_okT hlib r v k s _ hw.2 hf.2 hc hv hs⟩
end
theorem libErrFrom_none {lib : List FD} : ∀ (r : List FD) (j : Nat), libErrFrom lib j r = none → ∀ i (h : i < r.length), fnErr lib (j + i) r[i] = 0 := by
 intro r
 induction r with
 | nil => intro j _ i h; simp at h
 | cons f r ih =>
  intro j h i hi; rw [libErrFrom] at h
  split at h
  · cases h
  · rename_i hz
    cases i with
    | zero => simpa using hz
    | succ i =>
     have := ih (j + 1) h i (by simpa using hi); rw [show j + (i + 1) = j + 1 + i by omega]
     simpa using this
structure GoodFD (f : FD) : Prop where
 name : f.name.length ≤ 12
 len : f.params.length ≤ 8
 par : ∀ p ∈ f.params, p.name.length ≤ 12
 size : f.body.size ≤ 2000
 ok : f.body.okT
theorem fnErr_zero {lib : List FD} {i : Nat} {f : FD} (h : fnErr lib i f = 0) : i < 30 ∧ funName f.name = true ∧ paramErr f.params = 0 ∧ f.body.formed = true ∧ f.body.size ≤ 2000 ∧ (f.body.chk lib (f.params.map fun p => (p.name, p.list))).2 = 0 := by
 unfold fnErr at h
 split at h
 · cases h
 split at h
 · cases h
 split at h
 · cases h
 split at h
 · rename_i h1; exact absurd h h1
 split at h
 · cases h
 split at h
 · cases h
 split at h
 · cases h
 split at h
 · rename_i h1; exact absurd h h1
 rename_i k1 k2 k3 k4 k5 k6 k7 k8
 exact ⟨by omega, by simpa using k2, Decidable.not_not.1 k4, by simpa using k5, by omega, Decidable.not_not.1 k8⟩
theorem paramErr_zero {l : List FP} (h : paramErr l = 0) : l.length ≤ 8 ∧ (∀ p ∈ l, funName p.name = true) ∧ (l.map FP.name).Nodup := by
 unfold paramErr at h
 split at h
 · cases h
 · split at h
   · rename_i h1 h2
     split at h
     · rename_i h3; exact ⟨by omega, fun p hp => by simpa using List.all_eq_true.1 h2 p hp, h3⟩
     · cases h
   · cases h
theorem lib_good {lib : List FD} (h : libErr lib = none) (hw : ∀ f ∈ lib, f.body.wf) : lib.length ≤ 30 ∧ ∀ f ∈ lib, GoodFD f := by
 have hz := libErrFrom_none lib 0 h
 have hn : ∀ f ∈ lib, f.name.length ≤ 12 := fun f hf => by
  obtain ⟨i, hi, rfl⟩ := List.mem_iff_getElem.1 hf
  exact funName_short (fnErr_zero (hz i hi)).2.1
 refine ⟨?_, fun f hf => ?_⟩
 · rcases Nat.lt_or_ge 30 lib.length with hl | hl
   · have := (fnErr_zero (hz 30 hl)).1
     omega
   · exact hl
 · have hfw := hw f hf
   obtain ⟨i, hi, rfl⟩ := List.mem_iff_getElem.1 hf; obtain ⟨-, a2, a3, a4, a5, a6⟩ := fnErr_zero (hz i hi); obtain ⟨b1, b2, -⟩ := paramErr_zero a3; refine ⟨funName_short a2, b1, fun p hp => funName_short (b2 p hp), a5, chk_okT hn _ _ hfw a4 a6 (fun p hp => ?_)⟩; obtain ⟨q, hq, rfl⟩ := List.mem_map.1 hp
   exact funName_short (b2 q hq)
def typeT (b : Bool) : List UInt8 := if b then [115, 116, 97, 99, 107] else [105, 110, 116]
def paramT (p : FP) : List UInt8 := typeT p.list ++ [32] ++ p.name
def headT (f : FD) : List UInt8 := [112, 114, 111, 99, 32] ++ f.name ++ [40] ++ Lib.join (f.params.map paramT) [44, 32] ++ [41, 32]
def tailT (f : FD) : List UInt8 := typeT f.list ++ [32, 123, 32] ++ f.body.ftext ++ ([32, 125] ++ [10])
def funT (f : FD) : List UInt8 := headT f ++ tailT f
def libT (lib : List FD) : List UInt8 := (lib.map funT).flatten
def printL (lib : List FD) : List UInt8 × Int := match libErr lib with
 | none => (libT lib, 0)
 | some (_, e) => ([], e)
theorem typeT_len (b : Bool) : (typeT b).length ≤ 5 := by cases b <;> decide
theorem paramT_len {p : FP} (h : p.name.length ≤ 12) : (paramT p).length ≤ 18 := by
 have := typeT_len p.list
 unfold paramT
 simp only [List.length_append, List.length_cons, List.length_nil]
 omega
theorem sum_le {l : List (List UInt8)} {m : Nat} (h : ∀ x ∈ l, x.length ≤ m) : (l.map List.length).sum ≤ m * l.length := by
 induction l with
 | nil => simp
 | cons x r ih =>
  have h1 := h x (by simp); have h2 := ih (fun y hy => h y (by simp [hy])); simp only [List.map_cons, List.sum_cons, List.length_cons, Nat.mul_add, Nat.mul_one]
  omega
theorem join_params {f : FD} (h : GoodFD f) : (Lib.join (f.params.map paramT) [44, 32]).length ≤ 200 := by
 have h1 := join_len [44, 32] (f.params.map paramT)
 have h2 := sum_le (l := f.params.map paramT) (m := 18) (fun x hx => by
  obtain ⟨p, hp, rfl⟩ := List.mem_map.1 hx
  exact paramT_len (h.par p hp))
 have h3 := h.len; simp only [List.length_map, List.length_cons, List.length_nil] at h1 h2
 omega
theorem headT_len {f : FD} (h : GoodFD f) : (headT f).length ≤ 300 := by
 have h1 := join_params h; have h2 := h.name
 unfold headT
 simp only [List.length_append, List.length_cons, List.length_nil] at h1 ⊢
 omega
theorem tailT_len {f : FD} (h : GoodFD f) : (tailT f).length ≤ 90000 := by
 have h1 := ftext_len _ h.ok; have h2 := h.size; have h3 := typeT_len f.list
 unfold tailT
 simp only [List.length_append, List.length_cons, List.length_nil] at h1 ⊢
 omega
theorem libT_len {lib : List FD} (h : ∀ f ∈ lib, GoodFD f) : (libT lib).length ≤ 100000 * lib.length := by
 induction lib with
 | nil => simp [libT]
 | cons f r ih =>
  have h1 := ih (fun g hg => h g (by simp [hg])); have h2 := headT_len (h f (by simp)); have h3 := tailT_len (h f (by simp))
  unfold libT funT at h1 ⊢
  simp only [List.map_cons, List.flatten_cons, List.length_append, List.length_cons]
  omega
theorem libT_snoc {lib : List FD} {j : Nat} (hj : j < lib.length) : libT (lib.take (j + 1)) = libT (lib.take j) ++ headT lib[j] ++ tailT lib[j] := by
 unfold libT
 rw [List.take_succ_eq_append_getElem hj, List.map_append, List.flatten_append]
 simp [funT]
end Bk
namespace Bk
open Go Go.RowKit Go.Proofs
attribute [local irreducible] Go.Calls
theorem ftypeName_c (b : Bool) (w : World) : Calls Tryz.prog 15 #[.bool b] w fun e w' => e = .returned (str (typeT b)) ∧ Ext w w' := by
 have X := Ext.refl w
 cases b
 · refine calls_in Tryz.func15 Tryz.ntmps15 rfl rfl ?_
   focus
    refine cS (C1 Pa (cT (cw_seq (cS (C1 Mv (cT (cw_cond_f rfl (cw_skip (qw_then (cS (C1 Pa ?_))))))))))); refine cT (cw_ret (qw_ret1 rfl rfl ?_)); rotate_left 1
   exact ⟨rfl, X⟩
 · refine calls_in Tryz.func15 Tryz.ntmps15 rfl rfl ?_
   focus
    refine cS (C1 Pa (cT (cw_seq (cS (C1 Mv (cT (cw_cond_t rfl (cS (C1 Pa (cT (cw_ret ?_))))))))))); refine qw_then_ret (qw_ret1 rfl rfl ?_); rotate_left 1
   exact ⟨rfl, X⟩
def PrR (w : World) (q : List UInt8 × Int) (e : Ending) (w' : World) : Prop := e = .returned (.tuple #[str q.1, .int .i64 q.2]) ∧ Ext w w'
theorem prR {w w' : World} {q : List UInt8 × Int} {s : List UInt8} {e : Int} (h : q = (s, e)) (x : Ext w w') : PrR w q (.returned (.tuple #[str s, .int .i64 e])) w' := ⟨by rw [h], x⟩
theorem validF_v {lib : List FD} {i e : Int} (h : validI lib = (i, e)) (S : Nat → Prop) (a : Option Addr) (c : Nat) (w : World) (hl : LibFew lib) (hs : FDs S w lib a) :
 Calls Tryz.prog 14 #[.slice a lib.length c] w fun r w' => r = .returned (.tuple #[.int .i64 i, .int .i64 e]) ∧ Ext w w' := by
 have := Valid_c lib S a c w hl hs
 rw [h] at this; exact this
theorem libErrFrom_ne {lib : List FD} {i : Nat} {e : Int} : ∀ (r : List FD) (j : Nat), libErrFrom lib j r = some (i, e) → e ≠ 0 := by
 intro r
 induction r with
 | nil => intro j h; cases h
 | cons f r ih =>
  intro j h; rw [libErrFrom] at h
  split at h
  · rename_i hne
    simp only [Option.some.injEq, Prod.mk.injEq] at h; obtain ⟨rfl, rfl⟩ := h
    exact hne
  · exact ih _ h
theorem params_snoc {l : List FP} {j : Nat} (hj : j < l.length) : ((l.take (j + 1)).map paramT) = (l.take j).map paramT ++ [paramT l[j]] := by
 rw [List.take_succ_eq_append_getElem hj, List.map_append]; rfl
theorem bdF_new {w : World} {b : Nat} (h : TB w b [.pointer none, .slice none 0 0] 49) : BdF w b [] w.heap.size := by
 refine bdF_of (Or.inl ⟨Nat.le_refl _, .slice none 0 0, h, ⟨by simp [Lib.byteCells], Or.inl ⟨rfl, rfl⟩⟩, by simp [Value.ownBlock]⟩)
set_option maxRecDepth 100000 in
set_option maxHeartbeats 8000000 in
theorem Print_c (lib : List FD) (S : Nat → Prop) (a : Option Addr) (c : Nat) (w : World) (hl : LibFew lib) (hs : FDs S w lib a) (ht : TabsF w) :
 Calls Tryz.prog 7 #[.slice a lib.length c] w (PrR w (printL lib)) := by
 have X := Ext.refl w; have hg0 := ht.g; replace hs := hs.ltA; have hL := hl.len; have HL := Lib.hid hl
 cases hv : libErr lib with
 | some q =>
  obtain ⟨i, e⟩ := q; have hne := libErrFrom_ne lib 0 hv
  have hval : validI lib = ((i : Int), e) := by unfold validI; rw [hv]
  have HV := Lib.hid (validF_v hval); rw [show printL lib = ([], e) from by unfold printL; rw [hv]]; clear hval hv hl; refine calls_in Tryz.func7 Tryz.ntmps7 rfl rfl ?_
  focus
   refine cS (C1 Pa (C1 Pa (cT (cw_seq (cS (C1 Mv ?_)))))); refine cC rfl (HV.out _ _ _ _ HL.out (by assumption)) ?_; rintro _ w2 ⟨⟨⟩, x1⟩; have z3 := x1.size; replace ht := ht.ext x1; replace X := X.ext x1; replace hs := hs.ext x1; clear x1; refine C1 Mv (C1 Px (C1 Px (C1 Pa (C1 Pa (cN (C1 Mv (C1 V2 (cT (Wya (cS (C1 Mv ?_))))))))))); refine C1 Pa (C1 Pa (cT (cw_ret (qw_then_ret (qw_ret2 rfl rfl rfl ?_))))); rotate_left 1
  exact prR rfl X
 | none =>
  have hval : validI lib = (-1, 0) := by unfold validI; rw [hv]
  have HV := Lib.hid (validF_v hval); obtain ⟨hlen, hG⟩ := lib_good hv (fun f hf => (hl.all f hf).2.2.2.2); have HG := Lib.hid hG; rw [show printL lib = (libT lib, 0) from by unfold printL; rw [hv]]; clear hval hv hl hG; refine calls_in Tryz.func7 Tryz.ntmps7 rfl rfl ?_
  focus
   refine cS (C1 Pa (C1 Pa (cT (cw_seq (cS (C1 Mv ?_)))))); refine cC rfl (HV.out _ _ _ _ HL.out (by assumption)) ?_; rintro _ wa2 ⟨⟨⟩, xa1⟩; have za3 := xa1.size; replace ht := ht.ext xa1; replace X := X.ext xa1; replace hs := hs.ext xa1; clear xa1; refine C1 Mv (C1 Px (C1 Px (C1 Pa (C1 Pa (cN (C1 Mv (C1 V2 (cT (Wnd (cw_skip (qw_then ?_))))))))))); refine cS ?_; (refine lw_allocT zOk rfl rfl ?_; intro ba4 wa5 na6 ta7); have xa9 := na6.ext; have pa10 := na6.pos; have za11 := na6.size; clear na6; replace ht := ht.ext xa9; replace X := X.ext xa9; replace hs := hs.ext xa9; clear xa9; refine cT (cw_seq (cS (C1 Mv (C1 Pz (C1 Mv (cT (cw_block ?_))))))); rotate_left 1
  have hbd := bdF_new ta7; clear ta7; refine cw_loop (ι := Nat × Nat) (fun y => [(6, .pointer (some ⟨ba4, 0, none⟩)), (20, .slice a lib.length c), (21, .int .i64 lib.length), (22, .int .i64 y.1)])
   (fun y w' => BdF w' ba4 (libT (lib.take y.1)) y.2 ∧ y.2 ≤ w'.heap.size ∧ FDs (· < w.heap.size) w' lib a ∧ Ext w w' ∧ TabsF w' ∧ y.1 ≤ lib.length ∧ ba4 < w'.heap.size) (fun y => lib.length - y.1) (0, wa5.heap.size) (by (refine sub_cons rfl ?_; refine sub_cons rfl ?_; refine sub_cons rfl ?_; refine sub_cons rfl ?_; exact sub_nil)) ⟨hbd, Nat.le_refl _, hs, X, ht, Nat.zero_le _, by omega⟩ ?_
  clear hbd hs X ht HV; rintro ⟨j, H⟩ w1 ⟨hbd, hH, hs, X, ht, hj, hbz⟩; simp only at hbd hH hj; have hgl := ht.g; have hz := X.size; refine CW.sub (m := [(6, .pointer (some ⟨ba4, 0, none⟩)), (20, .slice a lib.length c), (21, .int .i64 lib.length), (22, .int .i64 j)]) ?_ (by (refine sub_cons rfl ?_; refine sub_cons rfl ?_; refine sub_cons rfl ?_; refine sub_cons rfl ?_; exact sub_nil))
  by_cases hlt : j < lib.length
  · have hs2 := hs
    obtain ⟨kb, ko, ⟨⟩, hkS, hk⟩ := Arr.get hs2 (by omega); obtain ⟨pa, pc, ba, bc, hr, hps, hbs⟩ := hk j lib[j] (List.getElem?_eq_getElem hlt); clear hk hs2; have hsn := libT_snoc hlt; have hgx := HG.out _ (List.getElem_mem hlt)
    have hll : (libT (lib.take j)).length ≤ 3000000 := by
     have h1 := libT_len (lib := lib.take j) (fun f hf => HG.out f (List.mem_of_mem_take hf)); rw [List.length_take] at h1
     omega
    generalize libT (lib.take j) = out at *
    generalize lib[j] = x at *
    have hjp := join_params hgx; have hnl := hgx.name; have hhl := headT_len hgx; have htl := tailT_len hgx; have hpn := hgx.len; have hbl := ftext_len _ hgx.ok; have hbs2 := hgx.size; have hty := typeT_len x.list; have HP := Lib.hid (fun (S : Nat → Prop) (a : Option Addr) (c : Nat) (w : World) h1 h2 => text_c (x.body.size + 1) x.body (by omega) (by omega) hgx.ok S a c w h1 h2); have HQ := Lib.hid hgx.par; clear hgx; simp only [FD.cells] at hr; have hH2 : H ≤ w1.heap.size := hH; clear hH
    focus
     refine cS (C1 V3 (cT (cw_seq (Wyo (cw_skip (qw_then (cw_seq (cw_block (cS (C1 Pi (C1 (Pws hr) ?_))))))))))); (refine lw_allocT zOk rfl rfl ?_; intro bb1 wb2 nb3 tb4); (refine lw_initT tabOk rfl rfl rfl rfl rfl rfl nb3 tb4 rfl ?_; clear nb3 tb4; clear wb2; intro wb5 nb3 tb4); have xb6 := nb3.ext; have pb7 := nb3.pos; have zb8 := nb3.size; clear nb3; replace X := X.ext xb6; replace ht := ht.ext xb6; replace hs := hs.ext xb6; replace hbd := hbd.ext xb6; replace hr := hr.ext xb6; replace hps := hps.ext xb6; replace hbs := Nd.sits.ext hbs xb6; clear xb6; refine cN (C1 Pa (cT (cw_seq (cS (C1 Pf (lw_load_b tabOk rfl rfl rfl (TB.blk tb4) rfl rfl (C1 Pz (C1 Mv (cT (cw_block ?_)))))))))); rotate_left 1
    refine cw_loop (ι := Nat × Option Addr × Nat) (fun y => [(29, .int .i64 y.1), (28, .int .i64 x.params.length), (27, .slice pa x.params.length pc), (9, .slice y.2.1 ((x.params.take y.1).map paramT).length y.2.2), (8, .pointer (some ⟨bb1, 0, none⟩)), (6, .pointer (some ⟨ba4, 0, none⟩)), (20, .slice (some ⟨kb, ko, none⟩) lib.length c), (21, .int .i64 lib.length), (22, .int .i64 j)])
     (fun y w' => TB w' bb1 [str x.name, .slice pa x.params.length pc, .bool x.list, .int .u8 x.body.kind, .int .i64 x.body.num, str x.body.name, .slice ba x.body.kids.length bc] 42 ∧ OwnQ strShape w' (fun _ => False) (bb1 + 1) 9 (.slice y.2.1 ((x.params.take y.1).map paramT).length y.2.2) ((x.params.take y.1).map paramT) ∧ BdF w' ba4 out H ∧ FPs (· < w.heap.size) w' x.params pa ∧ x.body.sits (· < w.heap.size) w' ba ∧ FDs (· < w.heap.size) w' lib (some ⟨kb, ko, none⟩) ∧ Ext w w' ∧ TabsF w' ∧ y.1 ≤ x.params.length ∧ bb1 < w'.heap.size) (fun y => x.params.length - y.1) (0, none, 0) (by (refine sub_cons rfl ?_; refine sub_cons rfl ?_; refine sub_cons rfl ?_; refine sub_cons rfl ?_; refine sub_cons rfl ?_; refine sub_cons rfl ?_; refine sub_cons rfl ?_; refine sub_cons rfl ?_; refine sub_cons rfl ?_; exact sub_nil))
     ⟨tb4, OwnQ.nil, hbd, hps, hbs, hs, X, ht, Nat.zero_le _, by omega⟩ ?_
    clear tb4 hbd hps hbs hs X ht hr; rintro ⟨i, oa, oc⟩ w2 ⟨tb, hown, hbd, hps, hbs, hs, X, ht, hi, hz2⟩; simp only at hown hi; have hgl2 := ht.g
    have hob : ∀ g, (Value.slice oa ((x.params.take i).map paramT).length oc).ownBlock = some g → bb1 + 1 ≤ g ∧ g < w2.heap.size := fun g h => ⟨hown.ge h, hown.lt h⟩
    refine CW.sub (m := [(29, .int .i64 i), (28, .int .i64 x.params.length), (27, .slice pa x.params.length pc), (9, .slice oa ((x.params.take i).map paramT).length oc), (8, .pointer (some ⟨bb1, 0, none⟩)), (6, .pointer (some ⟨ba4, 0, none⟩)), (20, .slice (some ⟨kb, ko, none⟩) lib.length c), (21, .int .i64 lib.length), (22, .int .i64 j)]) ?_ (by (refine sub_cons rfl ?_; refine sub_cons rfl ?_; refine sub_cons rfl ?_; refine sub_cons rfl ?_; refine sub_cons rfl ?_; refine sub_cons rfl ?_; refine sub_cons rfl ?_; refine sub_cons rfl ?_; refine sub_cons rfl ?_; exact sub_nil))
    by_cases hit : i < x.params.length
    · have hps2 := hps
      obtain ⟨qb, qo, rfl, hqS, hkk⟩ := Arr.get hps2 (by omega); have r1 := hkk i _ (List.getElem?_eq_getElem hit); simp only [FPAt] at r1; have hsp := params_snoc hit; have hpl := HQ.out _ (List.getElem_mem hit)
      have hmm : ((x.params.take i).map paramT).length ≤ 1000 := by simp only [List.length_map, List.length_take]; omega
      clear hkk hps2
      generalize (x.params.take i).map paramT = os at *
      generalize x.params[i] = y at *
      have hyt := typeT_len y.list
      focus
       refine cS (C1 V3 (cT (cw_seq (Wyo (cw_skip (qw_then (cw_seq (cw_block (cS (C1 Pi (C1 (Pws r1) ?_))))))))))); (refine lw_allocT zOk rfl rfl ?_; intro bc1 wc2 nc3 tc4); (refine lw_initT tabOk rfl rfl rfl rfl rfl rfl nc3 tc4 rfl ?_; clear nc3 tc4; clear wc2; intro wc5 nc3 tc4); have xc6 := nc3.ext; have pc7 := nc3.pos; have zc8 := nc3.size; clear nc3; replace hbd := hbd.ext xc6; replace hbs := Nd.sits.ext hbs xc6; replace hs := hs.ext xc6; replace X := X.ext xc6; replace ht := ht.ext xc6; replace tb := tb.ext xc6; replace hps := hps.ext xc6; replace hown := hown.ext xc6; replace r1 := r1.ext xc6; clear xc6; refine cT ?_; (refine cw_tdraw (fun wz => Ext wc5 wz) 9 (.pure 0 (.pure 1 (.pure 2 (.pure 5 (.pure 6 (.fork 3 (.pure 4 (.pure 7 (.fork 8 .tail .none))) .none)))))) mixed (by kernel_rfl) (panicOk_block (panicOk_then (panicOk_then (panicOk_block (panicOk_then (panicOk_block (panicOk_then (panicOk_then (panicOk_block (panicOk_then panicOk_body)))))))))) ?_; intro wc9 xc10 _); have qsc11 : (fun wz => Ext wc5 wz) wc9 := xc10; simp only at qsc11; have d_tc4 := tc4; have d_hbd := hbd; have d_hbs := hbs; have d_hs := hs; have d_ht := ht; have d_tb := tb; have d_hps := hps; have d_hown := hown; have d_r1 := r1; have zc12 := xc10.size; replace tc4 := tc4.ext xc10; replace hbd := hbd.ext xc10; replace hbs := Nd.sits.ext hbs xc10; replace hs := hs.ext xc10; replace X := X.ext xc10; replace ht := ht.ext xc10; replace tb := tb.ext xc10; replace hps := hps.ext xc10; replace hown := hown.ext xc10
       replace r1 := r1.ext xc10; clear xc10; refine ⟨qsc11, ?_⟩; refine Tq rfl Mv (Tq rfl Pf (Tq rfl (pur_load tabOk rfl rfl rfl (fun wz hz => Blk.cell (Blk.ext (TB.blk d_tc4) hz) rfl)) (Tq rfl Pg (Tq rfl (pur_load tabOk rfl rfl rfl (fun wz hz => Blk.cell (Blk.ext (TB.blk d_tc4) hz) rfl)) ?_)))); refine tw_does rfl (does_call (by kernel_rfl) rfl (ftypeName_c _ _) (fun _ _ h => ⟨_, h.1⟩)) rfl ?_ (fun _ h => h) tw_none; rintro _ wc15 ⟨⟨⟩, xc14⟩; have zc16 := xc14.size; replace qsc11 := qsc11.ext xc14; replace tc4 := tc4.ext xc14; replace hbd := hbd.ext xc14; replace hbs := Nd.sits.ext hbs xc14; replace hs := hs.ext xc14; replace X := X.ext xc14; replace ht := ht.ext xc14; replace tb := tb.ext xc14; replace hps := hps.ext xc14; replace hown := hown.ext xc14; replace r1 := r1.ext xc14; clear xc14; refine ⟨qsc11, ?_⟩; refine Tq rfl (pur_sadd rfl rfl (by simp only [List.length_cons, List.length_nil]; omega)) ?_; refine Tq rfl (pur_sadd rfl rfl (by simp only [List.length_append, List.length_cons, List.length_nil]; omega)) ?_; (refine tw_does rfl (does_slice' [_] tabOk zOk rfl rfl rfl rfl rfl rfl rfl rfl rfl) rfl ?_ (fun _ h => h) tw_none; rintro _ wc19 ⟨bc18, rfl, nc20, tc21⟩); clear tc21; have hc22 := nc20.blk; have xc23 := nc20.ext; have pc24 := nc20.pos; have zc25 := nc20.size; clear nc20; replace qsc11 := qsc11.ext xc23; replace tc4 := tc4.ext xc23; replace hbd := hbd.ext xc23; replace hbs := Nd.sits.ext hbs xc23; replace hs := hs.ext xc23; replace X := X.ext xc23; replace ht := ht.ext xc23
       replace tb := tb.ext xc23; replace hps := hps.ext xc23; replace hown := hown.ext xc23; replace r1 := r1.ext xc23; clear xc23; refine ⟨qsc11, ?_⟩; clear d_tc4 d_hbd d_hbs d_hs d_ht d_tb d_hps d_hown d_r1 qsc11; refine tw_tail rfl ?_; refine lw_does (does_appendQ (R := fun _ => False) (sh := strShape) (z := paramT y) tabOk zOk rfl rfl rfl rfl (by kernel_rfl) rfl rfl rfl (by assumption) (fun _ h => by exact h) (Blk.row (by assumption)) rfl (by omega) (by omega)) rfl ?_ (fun _ h => h); rintro _ wc32 ⟨gc26, ⟨capc27, ⟨rfl, ⟨hc28, ⟨hc29, ⟨hc30, fc31⟩⟩⟩⟩⟩⟩; have zc33 := fc31.size; replace hc22 := Blk.fr hc22 fc31 (fun e => by have := hob _ e; omega); replace tc4 := TB.fr tc4 fc31 (fun e => by have := hob _ e; omega); replace hbd := BdF.fr hbd fc31 (fun k hk => by have := hob _ hk; omega); replace hbs := Nd.sits.fr hbs fc31 (fun b hb hT => by have := hob _ hT; (try dsimp only at hb); omega); replace hs := FDs.fr hs fc31 (fun b hb hT => by have := hob _ hT; (try dsimp only at hb); omega); replace X := Ext.fr X fc31 (fun k hk => by have := hob _ hk; omega); replace ht := TabsF.fr ht fc31 (fun k hk => by have := hob _ hk; omega); replace tb := TB.fr tb fc31 (fun e => by have := hob _ e; omega); replace hps := FPs.fr hps fc31 (fun b hb hT => by have := hob _ hT; (try dsimp only at hb); omega); clear hown r1 fc31; refine C1 Pa (lw_nil (qw_block_norm (qw_then (cw_region (C1 V7 (C1 Mv (lw_nil ?_))))))); rotate_left 1
      refine qw_round (i + 1, some ⟨_, 0, none⟩, _) ?_ ⟨by assumption, by simp only; rw [hsp]; assumption, by assumption, by assumption, by assumption, by assumption, X, by assumption, by (try simp only); omega, by (try simp only); omega⟩ (by (try simp only); omega); simp only [hsp]; (refine sub_cons rfl ?_; refine sub_cons rfl ?_; refine sub_cons rfl ?_; refine sub_cons rfl ?_; refine sub_cons rfl ?_; refine sub_cons rfl ?_; refine sub_cons rfl ?_; refine sub_cons rfl ?_; refine sub_cons rfl ?_; exact sub_nil)
    · have hie : i = x.params.length := by omega
      subst hie; rw [List.take_length] at hown hob; rw [List.take_length]
      focus
       refine cS (C1 V3 (cT (cw_seq (Wno (cw_exit (qw_then_exit (qw_then_exit (qw_block_exit (qw_then (cw_seq ?_)))))))))); (refine cw_tdraw (fun wz => Ext w2 wz) 6 (.pure 0 (.pure 1 (.pure 2 (.pure 3 (.pure 4 (.fork 5 .tail .none)))))) mixed (by kernel_rfl) (panicOk_then (panicOk_block (panicOk_then (panicOk_then (panicOk_block (panicOk_then panicOk_body)))))) ?_; intro wd1 xd2 _); have qsd3 : (fun wz => Ext w2 wz) wd1 := xd2; simp only at qsd3; have d_tb := tb; have d_hbd := hbd; have d_hps := hps; have d_hbs := hbs; have d_hs := hs; have d_ht := ht; have d_hown := hown; have zd4 := xd2.size; replace tb := tb.ext xd2; replace hbd := hbd.ext xd2; replace hps := hps.ext xd2; replace hbs := Nd.sits.ext hbs xd2; replace hs := hs.ext xd2; replace X := X.ext xd2; replace ht := ht.ext xd2; replace hown := hown.ext xd2; clear xd2; refine ⟨qsd3, ?_⟩; refine Tq rfl Pg (Tq rfl (pur_load tabOk rfl rfl rfl (fun wz hz => Blk.cell (Blk.ext (TB.blk d_tb) hz) rfl)) ?_); refine Tq rfl (pur_sadd rfl rfl (by simp only [List.length_cons, List.length_nil]; omega)) ?_; refine Tq rfl (pur_sadd rfl rfl (by simp only [List.length_append, List.length_cons, List.length_nil]; omega)) ?_; refine Tq rfl Mv ?_; refine tw_does rfl (does_call (by kernel_rfl) rfl (joinQ_c _ (by assumption) (by simp only [List.length_map]; omega) (by omega)) (fun _ _ h => ⟨_, h.1⟩)) rfl ?_ (fun _ h => h) tw_none; rintro _ wd7 ⟨⟨⟩, xd6⟩; have zd8 := xd6.size; replace qsd3 := qsd3.ext xd6; replace tb := tb.ext xd6; replace hbd := hbd.ext xd6
       replace hps := hps.ext xd6; replace hbs := Nd.sits.ext hbs xd6; replace hs := hs.ext xd6; replace X := X.ext xd6; replace ht := ht.ext xd6; replace hown := hown.ext xd6; clear xd6; refine ⟨qsd3, ?_⟩; clear d_tb d_hbd d_hps d_hbs d_hs d_ht d_hown qsd3; refine tw_tail rfl ?_; refine C1 (pur_sadd rfl rfl (by simp only [List.length_append, List.length_cons, List.length_nil]; omega)) ?_; refine C1 (pur_sadd rfl rfl (by simp only [List.length_append, List.length_cons, List.length_nil]; omega)) ?_; refine cC rfl (writeF_c _ _ _ _ _ (by assumption) (by simp only [List.length_append, List.length_cons, List.length_nil]; omega)) ?_; rintro _ wd11 ⟨⟨⟩, ⟨hd9, fd10⟩⟩; have zd12 := fd10.size; replace tb := TB.fr tb fd10 (fun e => e.elim (fun e => by omega) (fun e => tb_not8 (by assumption) (by decide) e.2)); clear hbd; replace hps := FPs.fr hps fd10 (fun b hb hT => hT.elim (fun e => by (try dsimp only at hb); omega) (fun e => by have := e.1; (try dsimp only at hb); omega)); replace hbs := Nd.sits.fr hbs fd10 (fun b hb hT => hT.elim (fun e => by (try dsimp only at hb); omega) (fun e => by have := e.1; (try dsimp only at hb); omega)); replace hs := FDs.fr hs fd10 (fun b hb hT => hT.elim (fun e => by (try dsimp only at hb); omega) (fun e => by have := e.1; (try dsimp only at hb); omega)); replace X := Ext.fr X fd10 (fun k hk => hk.elim (fun e => by omega) (fun e => by have := e.1; omega)); replace ht := TabsF.fr ht fd10 (fun k hk => hk.elim (fun e => by omega) (fun e => by have := e.1; omega))
       clear hown fd10; refine cT ?_; (refine cw_tdraw (fun wz => Ext wd11 wz) 7 (.pure 0 (.pure 1 (.pure 4 (.pure 5 (.fork 2 (.pure 3 (.fork 6 .tail .none)) .none))))) mixed (by kernel_rfl) (panicOk_block (panicOk_then (panicOk_then (panicOk_block (panicOk_then panicOk_body))))) ?_; intro wd13 xd14 _); have qsd15 : (fun wz => Ext wd11 wz) wd13 := xd14; simp only at qsd15; have d_hd9 := hd9; have d_tb := tb; have d_hps := hps; have d_hbs := hbs; have d_hs := hs; have d_ht := ht; have zd16 := xd14.size; replace hd9 := hd9.ext xd14; replace tb := tb.ext xd14; replace hps := hps.ext xd14; replace hbs := Nd.sits.ext hbs xd14; replace hs := hs.ext xd14; replace X := X.ext xd14; replace ht := ht.ext xd14; clear xd14; refine ⟨qsd15, ?_⟩; refine Tq rfl Pf (Tq rfl (pur_load tabOk rfl rfl rfl (fun wz hz => Blk.cell (Blk.ext (TB.blk d_tb) hz) rfl)) (Tq rfl Pf (Tq rfl (pur_loads_blk' [_, _, _, _] tabOk rfl rfl rfl (fun wz hz => (Blk.ext (TB.blk d_tb) hz)) rfl rfl) ?_))); refine tw_does rfl (does_call (by kernel_rfl) rfl (ftypeName_c _ _) (fun _ _ h => ⟨_, h.1⟩)) rfl ?_ (fun _ h => h) tw_none; rintro _ wd19 ⟨⟨⟩, xd18⟩; have zd20 := xd18.size; replace qsd15 := qsd15.ext xd18; replace hd9 := hd9.ext xd18; replace tb := tb.ext xd18; replace hps := hps.ext xd18; replace hbs := Nd.sits.ext hbs xd18; replace hs := hs.ext xd18; replace X := X.ext xd18; replace ht := ht.ext xd18; clear xd18; refine ⟨qsd15, ?_⟩; refine Tq rfl (pur_sadd rfl rfl (by simp only [List.length_cons, List.length_nil]; omega)) ?_
       refine tw_does rfl (does_call (by kernel_rfl) rfl (HP.out _ _ _ _ (by assumption) (by assumption)) (fun _ _ h => ⟨_, h.1⟩)) rfl ?_ (fun _ h => h) tw_none; rintro _ wd23 ⟨⟨⟩, xd22⟩; have zd24 := xd22.size; replace qsd15 := qsd15.ext xd22; replace hd9 := hd9.ext xd22; replace tb := tb.ext xd22; replace hps := hps.ext xd22; replace hbs := Nd.sits.ext hbs xd22; replace hs := hs.ext xd22; replace X := X.ext xd22; replace ht := ht.ext xd22; clear xd22; refine ⟨qsd15, ?_⟩; clear d_hd9 d_tb d_hps d_hbs d_hs d_ht qsd15; refine tw_tail rfl ?_; refine C1 (pur_sadd rfl rfl (by simp only [List.length_append, List.length_cons, List.length_nil]; omega)) ?_; refine C1 (pur_sadd rfl rfl (by simp only [List.length_append, List.length_cons, List.length_nil]; omega)) ?_; refine cC rfl (writeF_c _ _ _ _ _ (by assumption) (by simp only [List.length_append, List.length_cons, List.length_nil]; omega)) ?_; rintro _ wd27 ⟨⟨⟩, ⟨hd25, fd26⟩⟩; have zd28 := fd26.size; clear hd9; replace tb := TB.fr tb fd26 (fun e => e.elim (fun e => by omega) (fun e => tb_not8 (by assumption) (by decide) e.2)); replace hps := FPs.fr hps fd26 (fun b hb hT => hT.elim (fun e => by (try dsimp only at hb); omega) (fun e => by have := e.1; (try dsimp only at hb); omega)); replace hbs := Nd.sits.fr hbs fd26 (fun b hb hT => hT.elim (fun e => by (try dsimp only at hb); omega) (fun e => by have := e.1; (try dsimp only at hb); omega)); replace hs := FDs.fr hs fd26 (fun b hb hT => hT.elim (fun e => by (try dsimp only at hb); omega) (fun e => by have := e.1; (try dsimp only at hb); omega))
       replace X := Ext.fr X fd26 (fun k hk => hk.elim (fun e => by omega) (fun e => by have := e.1; omega)); replace ht := TabsF.fr ht fd26 (fun k hk => hk.elim (fun e => by omega) (fun e => by have := e.1; omega)); clear fd26; refine lw_nil (qw_block_norm (qw_then (cw_region (C1 V7 (C1 Mv (lw_nil ?_)))))); rotate_left 1
      refine qw_round (j + 1, wd27.heap.size) (by (refine sub_cons rfl ?_; refine sub_cons rfl ?_; refine sub_cons rfl ?_; refine sub_cons rfl ?_; exact sub_nil)) ⟨?_, Nat.le_refl _, hs, X, ht, by (try simp only); omega, by omega⟩ (by (try simp only); omega)
      show BdF wd27 ba4 (libT (lib.take (j + 1))) wd27.heap.size
      rw [hsn]
      exact hd25
  · have hje : j = lib.length := by omega
    subst hje; rw [List.take_length] at hbd
    focus
     refine cS (C1 V3 (cT (cw_seq (Wno (cw_exit (qw_then_exit (qw_then_exit (qw_block_exit (qw_then (cS ?_)))))))))); refine cC rfl (stringF_c _ _ _ _ (by assumption)) ?_; rintro _ we2 ⟨⟨⟩, fe1⟩; have ze3 := fe1.size; replace hs := hs.fr fe1 (by omega); replace X := Ext.fr X fe1 (fun k hk => hk.elim (fun e => by omega) (fun e => by have := e.1; omega)); replace ht := TabsF.fr ht fe1 (fun k hk => hk.elim (fun e => by omega) (fun e => by have := e.1; omega)); clear hbd fe1; refine C1 Pa (C1 Pa (cT (cw_ret (qw_ret2 rfl rfl rfl ?_)))); rotate_left 1
    exact prR rfl X
end Bk
