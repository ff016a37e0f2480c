/- Texts that the proofs of FuntextPrint need. No condition. (Part 7 of 7.) -/
import Derived.Test.YthfjhbdgdaebnaaGreatDoorPFpr6
set_option linter.unusedSimpArgs false
set_option linter.unusedVariables false
namespace Bk
open Go Go.RowKit Go.Proofs
attribute [local irreducible] Go.Calls
mutual
theorem chk_congr {lib : List FD} : ∀ (t : Nd) (v v' : Vis), (∀ s, seen v s = seen v' s) → t.chk lib v = t.chk lib v'
 | .mk k n s l, v, v', h => by
  rw [Nd.chk, Nd.chk]
  have hr : reachF lib v k s l.length = reachF lib v' k s l.length := by unfold reachF; rw [h s]
  rw [hr, row_congr l v v' k s [] h, h s]
theorem row_congr {lib : List FD} : ∀ (l : List Nd) (v v' : Vis) (k : Int) (s : List UInt8) (acc : List Bool), (∀ s, seen v s = seen v' s) → rowChk lib v k s acc l = rowChk lib v' k s acc l
 | [], _, _, _, _, _, _ => by rw [rowChk, rowChk]
 | t :: r, v, v', k, s, acc, h => by
  rw [rowChk, rowChk]
  have hv : ∀ s', seen (if k = 84 ∧ acc.length = 1 then (s, acc.getD 0 false) :: v else v) s' = seen (if k = 84 ∧ acc.length = 1 then (s, acc.getD 0 false) :: v' else v') s' := fun s' => by
   by_cases hk : k = 84 ∧ acc.length = 1
   · rw [if_pos hk, if_pos hk, seen_cons, seen_cons, h s']
   · rw [if_neg hk, if_neg hk, h s']
  rw [chk_congr t _ _ hv]; simp only [row_congr r v v' k s _ h]
end
theorem seen_nil (s : List UInt8) : seen [] s = none := rfl
theorem seen_not {v : Vis} {s : List UInt8} (h : s ∉ v.map Prod.fst) : seen v s = none := by
 induction v with
 | nil => rfl
 | cons p r ih =>
  simp only [List.map_cons, List.mem_cons, not_or] at h; rw [seen_cons, if_neg (fun e => h.1 e.symm), ih h.2]
theorem seen_app (a : Vis) (p : List UInt8 × Bool) (s : List UInt8) : seen (a ++ [p]) s = match seen a s with | some b => some b | none => if p.1 = s then some p.2 else none := by
 induction a with
 | nil => rw [List.nil_append, seen_cons, seen_nil]
 | cons q r ih =>
  rw [List.cons_append, seen_cons, seen_cons, ih]
  by_cases h : q.1 = s
  · simp [h]
  · simp [h]
theorem seen_visR (l : List FP) (h : (l.map FP.name).Nodup) (s : List UInt8) : seen (visR l) s = seen (l.map fun p => (p.name, p.list)) s := by
 induction l with
 | nil => rfl
 | cons p r ih =>
  rw [List.map_cons, List.nodup_cons] at h
  have e : visR (p :: r) = visR r ++ [(p.name, p.list)] := by simp [visR]
  rw [e, seen_app, ih h.2, List.map_cons, seen_cons]
  by_cases hp : p.name = s
  · subst hp
    rw [seen_not (v := r.map fun p => (p.name, p.list)) (by rw [List.map_map]; exact h.1)]
  · simp only [if_neg hp]
    cases seen (r.map fun p => (p.name, p.list)) s <;> rfl
theorem chk_visR {lib : List FD} (t : Nd) (l : List FP) (h : (l.map FP.name).Nodup) : t.chk lib (visR l) = t.chk lib (l.map fun p => (p.name, p.list)) := chk_congr t _ _ (seen_visR l h)
theorem gName_v {s : List UInt8} {q : Bool} (h : funName s = q) (w : World) (hs : s.length ≤ 9223372036854775807) : Calls Tryz.prog 43 #[str s] w fun e w' => e = .returned (.bool q) ∧ Ext w w' := by
 have := gName_c s w hs
 rw [h] at this; exact this
theorem gForm_v {t : Nd} {q : Bool} (h : t.formed = q) (ht : t.size ≤ 1000000) (hw : t.wf) (S : Nat → Prop) (a : Option Addr) (c : Nat) (w : World) (hs : t.sits S w a) :
 Calls Tryz.prog 45 #[t.val a c] w fun e w' => e = .returned (.bool q) ∧ Ext w w' := by
 have := gForm_c (t.size + 1) t S a c w (by omega) (by omega) hw hs
 rw [h] at this; exact this
theorem paramErr_3 {l : List FP} {j : Nat} (h8 : ¬ 8 < l.length) (hj : j < l.length) (h : funName l[j].name = false) : paramErr l = 3 := by
 unfold paramErr
 rw [if_neg h8, if_neg]; intro e; have := List.all_eq_true.1 e l[j] (List.getElem_mem hj)
 rw [h] at this; cases this
theorem paramErr_all {l : List FP} (h8 : ¬ 8 < l.length) (h : ∀ i (hi : i < l.length), funName l[i].name = true) : paramErr l = if (l.map FP.name).Nodup then 0 else 22 := by
 unfold paramErr
 rw [if_neg h8, if_pos]; rw [List.all_eq_true]; intro p hp; obtain ⟨i, hi, rfl⟩ := List.mem_iff_getElem.1 hp
 exact h i hi
theorem nodup_take {l : List FP} {k : Nat} (hk : k < l.length) (h : ((l.take k).map FP.name).Nodup) (h2 : ∀ i (hi : i < l.length), i < k → l[i].name ≠ l[k].name) : ((l.take (k + 1)).map FP.name).Nodup := by
 rw [List.take_succ_eq_append_getElem hk, List.map_append, List.nodup_append]; refine ⟨h, by simp, ?_⟩; intro a ha b hb e; obtain rfl := List.mem_singleton.1 hb; obtain ⟨p, hp, rfl⟩ := List.mem_map.1 ha; obtain ⟨i, hi, rfl⟩ := List.mem_iff_getElem.1 hp
 have hi2 : i < l.length ∧ i < k := by simp only [List.length_take] at hi; omega
 rw [List.getElem_take] at e
 exact h2 i hi2.1 hi2.2 e
theorem nodup_not {l : List FP} {i k : Nat} (hk : k < l.length) (hik : i < k) (e : (l[i]'(by omega)).name = l[k].name) : ¬ (l.map FP.name).Nodup := by
 intro h; have := List.pairwise_iff_getElem.1 h i k (by simp; omega) (by simp; omega) hik; simp only [List.getElem_map] at this
 exact this e
set_option maxRecDepth 100000 in
set_option maxHeartbeats 8000000 in
theorem gOne_c (lib : List FD) (i : Nat) (S : Nat → Prop) (a : Option Addr) (c : Nat) (w : World) (hl : LibFew lib) (hi : i < lib.length) (hs : FDs S w lib a) :
 Calls Tryz.prog 20 #[.slice a lib.length c, .int .i64 i] w (IntR w (fnErr lib i lib[i])) := by
 have X := Ext.refl w; replace hs := hs.ltA; have hL := hl.len; obtain ⟨m1, m2, m3, m4, m5⟩ := hl.all _ (List.getElem_mem hi); obtain ⟨fq, hfq, hqi⟩ := findF_mem hi; have hps := Lib.hid (fun f hf => (hl.all f hf).2.1); clear hl; have hs2 := hs; obtain ⟨kb, ko, ⟨⟩, hkS, hk⟩ := Arr.get hs2 (by omega); obtain ⟨pa, pc, ba, bc, hr, h1, h2⟩ := hk i lib[i] (List.getElem?_eq_getElem hi); clear hk hs2
 generalize lib[i] = f at *
 simp only [FD.cells] at hr
 have hdef : fnErr lib i f = if 30 ≤ i then 5 else if !funName f.name then 3 else if fq < i then 22
  else if paramErr f.params ≠ 0 then paramErr f.params
  else if !f.body.formed then 3 else if 80 < f.body.depth then 19 else if 2000 < f.body.size then 5
  else if (f.body.chk lib (f.params.map fun p => (p.name, p.list))).2 ≠ 0 then (f.body.chk lib (f.params.map fun p => (p.name, p.list))).2
  else if (f.body.chk lib (f.params.map fun p => (p.name, p.list))).1 ≠ f.list then 7 else 0 := by
  rw [fnErr, hfq]; rfl
 rw [hdef]; clear hdef; have HF := Lib.hid (gFind_v (findI_some hfq)); clear hfq
 by_cases c1 : 30 ≤ i
 · rw [if_pos c1]
   refine calls_in Tryz.func20 Tryz.ntmps20 rfl rfl ?_
   focus
    refine cS (cA rfl rfl (cN (cM rfl rfl (cM rfl rfl ?_)))); refine lw_pure (pur_indexAddr tabOk rfl rfl rfl rfl (by omega) (by omega)) rfl ?_; refine lw_loads_r0 tabOk rfl rfl rfl hr rfl rfl ?_; (refine lw_alloc' [_, _, _, _, _, _, _] zOk rfl rfl ?_; intro b1 w2 n3); (refine lw_init' [_, _, _, _, _, _, _] tabOk rfl rfl rfl rfl rfl rfl n3 rfl ?_; clear n3; clear w2; intro w4 n3); have h5 := n3.blk; have x6 := n3.ext; have p7 := n3.pos; have z8 := n3.size; clear n3; replace X := X.ext x6; replace hs := hs.ext x6; replace hr := hr.ext x6; replace h1 := h1.ext x6; replace h2 := Nd.sits.ext h2 x6; clear x6; refine cT (cw_seq (cS (cM rfl rfl (lw_pure (pur_geq rfl rfl) rfl (cT ?_))))); refine cw_yes rfl (by omega) ?_; refine cS (cA rfl rfl (cT (cw_ret (qw_then_ret (qw_ret1 rfl rfl ?_))))); rotate_left 1
   exact intR rfl X
 rw [if_neg c1]
 cases hn : funName f.name
 · have HN := Lib.hid (gName_v hn)
   clear hn; simp only [Bool.not_false, if_true]; refine calls_in Tryz.func20 Tryz.ntmps20 rfl rfl ?_
   focus
    refine cS (cA rfl rfl (cN (cM rfl rfl (cM rfl rfl ?_)))); refine lw_pure (pur_indexAddr tabOk rfl rfl rfl rfl (by omega) (by omega)) rfl ?_; refine lw_loads_r0 tabOk rfl rfl rfl hr rfl rfl ?_; (refine lw_alloc' [_, _, _, _, _, _, _] zOk rfl rfl ?_; intro ba1 wa2 na3); (refine lw_init' [_, _, _, _, _, _, _] tabOk rfl rfl rfl rfl rfl rfl na3 rfl ?_; clear na3; clear wa2; intro wa4 na3); have ha5 := na3.blk; have xa6 := na3.ext; have pa7 := na3.pos; have za8 := na3.size; clear na3; replace X := X.ext xa6; replace hs := hs.ext xa6; replace hr := hr.ext xa6; replace h1 := h1.ext xa6; replace h2 := Nd.sits.ext h2 xa6; clear xa6; refine cT (cw_seq (cS (cM rfl rfl (lw_pure (pur_geq rfl rfl) rfl (cT ?_))))); refine cw_no rfl (by omega) ?_; refine cw_skip (qw_then (cw_seq (cS (lw_pure (pur_fieldAddr0 tabOk rfl rfl rfl) rfl (lw_load_b tabOk rfl rfl rfl ha5 rfl rfl ?_))))); refine cC (by kernel_rfl) rfl (HN.out _ (by omega)) rfl ?_; rintro _ wa10 ⟨⟨⟩, xa9⟩; have za11 := xa9.size; replace ha5 := ha5.ext xa9; replace X := X.ext xa9; replace hs := hs.ext xa9; replace hr := hr.ext xa9; replace h1 := h1.ext xa9; replace h2 := Nd.sits.ext h2 xa9; clear xa9; refine lw_pure (pur_not rfl) rfl (cT (cw_cond_t rfl (cS (cA rfl rfl (cT (cw_ret (qw_then_ret (qw_ret1 rfl rfl ?_)))))))); rotate_left 1
   exact intR rfl X
 have HN := Lib.hid (gName_v hn); clear hn; simp only [Bool.not_true, Bool.false_eq_true, if_false]
 by_cases c3 : fq < i
 · rw [if_pos c3]
   refine calls_in Tryz.func20 Tryz.ntmps20 rfl rfl ?_
   focus
    refine cS (cA rfl rfl (cN (cM rfl rfl (cM rfl rfl ?_)))); refine lw_pure (pur_indexAddr tabOk rfl rfl rfl rfl (by omega) (by omega)) rfl ?_; refine lw_loads_r0 tabOk rfl rfl rfl hr rfl rfl ?_; (refine lw_alloc' [_, _, _, _, _, _, _] zOk rfl rfl ?_; intro bb1 wb2 nb3); (refine lw_init' [_, _, _, _, _, _, _] tabOk rfl rfl rfl rfl rfl rfl nb3 rfl ?_; clear nb3; clear wb2; intro wb4 nb3); have hb5 := nb3.blk; have xb6 := nb3.ext; have pb7 := nb3.pos; have zb8 := nb3.size; clear nb3; replace X := X.ext xb6; replace hs := hs.ext xb6; replace hr := hr.ext xb6; replace h1 := h1.ext xb6; replace h2 := Nd.sits.ext h2 xb6; clear xb6; refine cT (cw_seq (cS (cM rfl rfl (lw_pure (pur_geq rfl rfl) rfl (cT ?_))))); refine cw_no rfl (by omega) ?_; refine cw_skip (qw_then (cw_seq (cS (lw_pure (pur_fieldAddr0 tabOk rfl rfl rfl) rfl (lw_load_b tabOk rfl rfl rfl hb5 rfl rfl ?_))))); refine cC (by kernel_rfl) rfl (HN.out _ (by omega)) rfl ?_; rintro _ wb10 ⟨⟨⟩, xb9⟩; have zb11 := xb9.size; replace hb5 := hb5.ext xb9; replace X := X.ext xb9; replace hs := hs.ext xb9; replace hr := hr.ext xb9; replace h1 := h1.ext xb9; replace h2 := Nd.sits.ext h2 xb9; clear xb9; refine lw_pure (pur_not rfl) rfl (cT (cw_cond_f rfl (cw_skip (qw_then (cw_seq (cS (cM rfl rfl (lw_pure (pur_fieldAddr0 tabOk rfl rfl rfl) rfl (lw_load_b tabOk rfl rfl rfl hb5 rfl rfl ?_))))))))); refine cC (by kernel_rfl) rfl (HF.out _ _ _ _ (by omega) (by assumption)) rfl ?_; rintro _ wb13 ⟨⟨⟩, xb12⟩; have zb14 := xb12.size; replace hb5 := hb5.ext xb12
    replace X := X.ext xb12; replace hs := hs.ext xb12; replace hr := hr.ext xb12; replace h1 := h1.ext xb12; replace h2 := Nd.sits.ext h2 xb12; clear xb12; refine cM rfl rfl (lw_pure (pur_neq rfl rfl) rfl (cT ?_)); refine cw_yes rfl (by omega) ?_; refine cS (cA rfl rfl (cT (cw_ret (qw_then_ret (qw_ret1 rfl rfl ?_))))); rotate_left 1
   exact intR rfl X
 rw [if_neg c3]
 have hfi : fq = i := by omega
 subst hfi; have HM := Lib.hid m3
 by_cases c8 : 8 < f.params.length
 · rw [show paramErr f.params = 5 from if_pos c8, if_pos (by decide)]
   refine calls_in Tryz.func20 Tryz.ntmps20 rfl rfl ?_
   focus
    refine cS (cA rfl rfl (cN (cM rfl rfl (cM rfl rfl ?_)))); refine lw_pure (pur_indexAddr tabOk rfl rfl rfl rfl (by omega) (by omega)) rfl ?_; refine lw_loads_r0 tabOk rfl rfl rfl hr rfl rfl ?_; (refine lw_alloc' [_, _, _, _, _, _, _] zOk rfl rfl ?_; intro bc1 wc2 nc3); (refine lw_init' [_, _, _, _, _, _, _] tabOk rfl rfl rfl rfl rfl rfl nc3 rfl ?_; clear nc3; clear wc2; intro wc4 nc3); have hc5 := nc3.blk; have xc6 := nc3.ext; have pc7 := nc3.pos; have zc8 := nc3.size; clear nc3; replace X := X.ext xc6; replace hs := hs.ext xc6; replace h1 := h1.ext xc6; replace h2 := Nd.sits.ext h2 xc6; replace hr := hr.ext xc6; clear xc6; refine cT (cw_seq (cS (cM rfl rfl (lw_pure (pur_geq rfl rfl) rfl (cT ?_))))); refine cw_no rfl (by omega) ?_; refine cw_skip (qw_then (cw_seq (cS (lw_pure (pur_fieldAddr0 tabOk rfl rfl rfl) rfl (lw_load_b tabOk rfl rfl rfl hc5 rfl rfl ?_))))); refine cC (by kernel_rfl) rfl (HN.out _ (by omega)) rfl ?_; rintro _ wc10 ⟨⟨⟩, xc9⟩; have zc11 := xc9.size; replace hc5 := hc5.ext xc9; replace X := X.ext xc9; replace hs := hs.ext xc9; replace h1 := h1.ext xc9; replace h2 := Nd.sits.ext h2 xc9; replace hr := hr.ext xc9; clear xc9; refine lw_pure (pur_not rfl) rfl (cT (cw_cond_f rfl (cw_skip (qw_then (cw_seq (cS (cM rfl rfl (lw_pure (pur_fieldAddr0 tabOk rfl rfl rfl) rfl (lw_load_b tabOk rfl rfl rfl hc5 rfl rfl ?_))))))))); refine cC (by kernel_rfl) rfl (HF.out _ _ _ _ (by omega) (by assumption)) rfl ?_; rintro _ wc13 ⟨⟨⟩, xc12⟩; have zc14 := xc12.size; replace hc5 := hc5.ext xc12
    replace X := X.ext xc12; replace hs := hs.ext xc12; replace h1 := h1.ext xc12; replace h2 := Nd.sits.ext h2 xc12; replace hr := hr.ext xc12; clear xc12; refine cM rfl rfl (lw_pure (pur_neq rfl rfl) rfl (cT ?_)); refine cw_no rfl (by omega) ?_; refine cw_skip (qw_then (cw_seq (cS (lw_pure (pur_fieldAddr tabOk rfl rfl rfl) rfl (lw_load_b tabOk rfl rfl rfl hc5 rfl rfl (lw_pure (pur_len_slice tabOk rfl rfl) rfl (lw_pure (pur_gtr rfl rfl) rfl (cT ?_)))))))); refine cw_yes rfl (by omega) ?_; refine cS (cA rfl rfl (cT (cw_ret (qw_then_ret (qw_ret1 rfl rfl ?_))))); rotate_left 1
   exact intR rfl X
 refine calls_in Tryz.func20 Tryz.ntmps20 rfl rfl ?_
 focus
  refine cS (cA rfl rfl (cN (cM rfl rfl (cM rfl rfl ?_)))); refine lw_pure (pur_indexAddr tabOk rfl rfl rfl rfl (by omega) (by omega)) rfl ?_; refine lw_loads_r0 tabOk rfl rfl rfl hr rfl rfl ?_; (refine lw_alloc' [_, _, _, _, _, _, _] zOk rfl rfl ?_; intro bd1 wd2 nd3); (refine lw_init' [_, _, _, _, _, _, _] tabOk rfl rfl rfl rfl rfl rfl nd3 rfl ?_; clear nd3; clear wd2; intro wd4 nd3); have hd5 := nd3.blk; have xd6 := nd3.ext; have pd7 := nd3.pos; have zd8 := nd3.size; clear nd3; replace X := X.ext xd6; replace hs := hs.ext xd6; replace h1 := h1.ext xd6; replace h2 := Nd.sits.ext h2 xd6; replace hr := hr.ext xd6; clear xd6; refine cT (cw_seq (cS (cM rfl rfl (lw_pure (pur_geq rfl rfl) rfl (cT ?_))))); refine cw_no rfl (by omega) ?_; refine cw_skip (qw_then (cw_seq (cS (lw_pure (pur_fieldAddr0 tabOk rfl rfl rfl) rfl (lw_load_b tabOk rfl rfl rfl hd5 rfl rfl ?_))))); refine cC (by kernel_rfl) rfl (HN.out _ (by omega)) rfl ?_; rintro _ wd10 ⟨⟨⟩, xd9⟩; have zd11 := xd9.size; replace hd5 := hd5.ext xd9; replace X := X.ext xd9; replace hs := hs.ext xd9; replace h1 := h1.ext xd9; replace h2 := Nd.sits.ext h2 xd9; replace hr := hr.ext xd9; clear xd9; refine lw_pure (pur_not rfl) rfl (cT (cw_cond_f rfl (cw_skip (qw_then (cw_seq (cS (cM rfl rfl (lw_pure (pur_fieldAddr0 tabOk rfl rfl rfl) rfl (lw_load_b tabOk rfl rfl rfl hd5 rfl rfl ?_))))))))); refine cC (by kernel_rfl) rfl (HF.out _ _ _ _ (by omega) (by assumption)) rfl ?_; rintro _ wd13 ⟨⟨⟩, xd12⟩; have zd14 := xd12.size; replace hd5 := hd5.ext xd12
  replace X := X.ext xd12; replace hs := hs.ext xd12; replace h1 := h1.ext xd12; replace h2 := Nd.sits.ext h2 xd12; replace hr := hr.ext xd12; clear xd12; refine cM rfl rfl (lw_pure (pur_neq rfl rfl) rfl (cT ?_)); refine cw_no rfl (by omega) ?_; refine cw_skip (qw_then (cw_seq (cS (lw_pure (pur_fieldAddr tabOk rfl rfl rfl) rfl (lw_load_b tabOk rfl rfl rfl hd5 rfl rfl (lw_pure (pur_len_slice tabOk rfl rfl) rfl (lw_pure (pur_gtr rfl rfl) rfl (cT ?_)))))))); refine cw_no rfl (by omega) ?_; refine cw_skip (qw_then (cw_seq (cS (cA rfl rfl (cT (cw_block ?_)))))); rotate_left 1
 clear hr HN HF; refine cw_loop (ι := Nat) (fun j => [(0, .slice (some ⟨kb, ko, none⟩) lib.length c), (1, .int .i64 fq), (5, .pointer (some ⟨bd1, 0, none⟩)), (6, .int .i64 j)]) (fun j w' => Blk w' bd1 [str f.name, .slice pa f.params.length pc, .bool f.list, .int .u8 f.body.kind, .int .i64 f.body.num, str f.body.name, .slice ba f.body.kids.length bc] ∧ Ext w w' ∧ FDs (· < w.heap.size) w' lib (some ⟨kb, ko, none⟩) ∧ FPs (· < w.heap.size) w' f.params pa ∧ f.body.sits (· < w.heap.size) w' ba ∧ bd1 < w'.heap.size ∧ j ≤ f.params.length ∧ ∀ i (hi : i < f.params.length), i < j → funName f.params[i].name = true) (fun j => f.params.length - j) 0 (by (refine sub_cons rfl ?_; refine sub_cons rfl ?_; refine sub_cons rfl ?_; refine sub_cons rfl ?_; exact sub_nil)) ⟨hd5, X, hs, h1, h2, by omega, Nat.zero_le _, fun i _ h => by omega⟩ ?_; clear hd5 X hs h1 h2; rintro j w1 ⟨hb, X, hs, h1, h2, hz, hj, hall⟩; have HA := Lib.hid hall; clear hall
 by_cases hlt : j < f.params.length
 · have h12 := h1
   obtain ⟨ub, uo, hpa, -, huk⟩ := Arr.get h12 (by omega); subst hpa; have r1 : Row w1 ⟨ub, uo + j * 2, none⟩ f.params[j].cells := huk j _ (List.getElem?_eq_getElem hlt); have hnl := m3 _ (List.getElem_mem hlt); have HE3 := Lib.hid (paramErr_3 c8 hlt)
   have HNX := Lib.hid (fun (h : funName f.params[j].name = true) (i : Nat) (hi : i < f.params.length) (h2 : i < j + 1) => if h3 : i < j then HA.out i hi h3 else (by
    obtain rfl : i = j := by omega
    exact h : funName f.params[i].name = true))
   clear huk h12 HA
   generalize f.params[j] = y at *
   cases hn : funName y.name
   · have HN := Lib.hid (gName_v hn)
     have HQ := Lib.hid (HE3.out hn); clear hn HE3 HNX
     focus
      refine cw_seq (cS (cM rfl rfl (lw_pure (pur_fieldAddr tabOk rfl rfl rfl) rfl (lw_load_b tabOk rfl rfl rfl hb rfl rfl (lw_pure (pur_len_slice tabOk rfl rfl) rfl (lw_pure (pur_lss rfl rfl) rfl (cT ?_))))))); refine cw_yes rfl (by omega) ?_; refine cw_skip (qw_then (cw_seq (cw_block (cS (lw_pure (pur_fieldAddr tabOk rfl rfl rfl) rfl (lw_load_b tabOk rfl rfl rfl hb rfl rfl (cM rfl rfl ?_))))))); refine lw_pure (pur_indexAddr tabOk rfl rfl rfl rfl (by omega) (by omega)) rfl ?_; refine lw_pure (pur_fieldAddr0 tabOk rfl rfl rfl) rfl (lw_load_r0 tabOk rfl rfl rfl r1 rfl rfl ?_); refine cC (by kernel_rfl) rfl (HN.out _ (by omega)) rfl ?_; rintro _ we2 ⟨⟨⟩, xe1⟩; have ze3 := xe1.size; replace X := X.ext xe1; replace hs := hs.ext xe1; replace h2 := Nd.sits.ext h2 xe1; replace hb := hb.ext xe1; replace h1 := h1.ext xe1; replace r1 := r1.ext xe1; clear xe1; refine lw_pure (pur_not rfl) rfl (cT (cw_cond_t rfl (cS (cA rfl rfl (cT (cw_ret (qw_block_ret (qw_then_ret (qw_then_ret (qw_block_ret (qw_then_ret ?_))))))))))); refine qw_ret1 rfl rfl ?_; rotate_left 1
     exact intR (by rw [HQ.out]; rfl) X
   · have HN := Lib.hid (gName_v hn)
     have HQ := Lib.hid (HNX.out hn); clear hn HE3 HNX
     focus
      refine cw_seq (cS (cM rfl rfl (lw_pure (pur_fieldAddr tabOk rfl rfl rfl) rfl (lw_load_b tabOk rfl rfl rfl hb rfl rfl (lw_pure (pur_len_slice tabOk rfl rfl) rfl (lw_pure (pur_lss rfl rfl) rfl (cT ?_))))))); refine cw_yes rfl (by omega) ?_; refine cw_skip (qw_then (cw_seq (cw_block (cS (lw_pure (pur_fieldAddr tabOk rfl rfl rfl) rfl (lw_load_b tabOk rfl rfl rfl hb rfl rfl (cM rfl rfl ?_))))))); refine lw_pure (pur_indexAddr tabOk rfl rfl rfl rfl (by omega) (by omega)) rfl ?_; refine lw_pure (pur_fieldAddr0 tabOk rfl rfl rfl) rfl (lw_load_r0 tabOk rfl rfl rfl r1 rfl rfl ?_); refine cC (by kernel_rfl) rfl (HN.out _ (by omega)) rfl ?_; rintro _ wf2 ⟨⟨⟩, xf1⟩; have zf3 := xf1.size; replace X := X.ext xf1; replace hs := hs.ext xf1; replace h2 := Nd.sits.ext h2 xf1; replace hb := hb.ext xf1; replace h1 := h1.ext xf1; replace r1 := r1.ext xf1; clear xf1; refine lw_pure (pur_not rfl) rfl (cT (cw_cond_f rfl (cw_skip (qw_block_norm (qw_then (cw_region (cM rfl rfl ?_))))))); refine lw_pure (pur_add rfl rfl (IntWalk.i64_in _ (by omega))) rfl ?_; refine cA rfl rfl (lw_nil ?_); rotate_left 1
     exact qw_round (j + 1) (by (refine sub_cons rfl ?_; refine sub_cons rfl ?_; refine sub_cons rfl ?_; refine sub_cons rfl ?_; exact sub_nil)) ⟨hb, X, hs, h1, h2, by omega, by omega, HQ.out⟩ (by omega)
 have hje : j = f.params.length := by omega
 subst hje; have HPA := Lib.hid (paramErr_all c8 (fun i hi => HA.out i hi hi)); clear HA
 focus
  refine cw_seq (cS (cM rfl rfl (lw_pure (pur_fieldAddr tabOk rfl rfl rfl) rfl (lw_load_b tabOk rfl rfl rfl hb rfl rfl (lw_pure (pur_len_slice tabOk rfl rfl) rfl (lw_pure (pur_lss rfl rfl) rfl (cT ?_))))))); refine cw_no rfl (by omega) ?_; refine cw_exit (qw_then_exit (qw_then_exit (qw_block_exit (qw_then (cw_seq (cS (cA rfl rfl (cT (cw_block ?_))))))))); rotate_left 1
 refine cw_loop (ι := Nat) (fun k => [(0, .slice (some ⟨kb, ko, none⟩) lib.length c), (1, .int .i64 fq), (5, .pointer (some ⟨bd1, 0, none⟩)), (7, .int .i64 k)]) (fun k w' => Blk w' bd1 [str f.name, .slice pa f.params.length pc, .bool f.list, .int .u8 f.body.kind, .int .i64 f.body.num, str f.body.name, .slice ba f.body.kids.length bc] ∧ Ext w w' ∧ FDs (· < w.heap.size) w' lib (some ⟨kb, ko, none⟩) ∧ FPs (· < w.heap.size) w' f.params pa ∧ f.body.sits (· < w.heap.size) w' ba ∧ bd1 < w'.heap.size ∧ k ≤ f.params.length ∧ ((f.params.take k).map FP.name).Nodup) (fun k => f.params.length - k) 0 (by (refine sub_cons rfl ?_; refine sub_cons rfl ?_; refine sub_cons rfl ?_; refine sub_cons rfl ?_; exact sub_nil)) ⟨hb, X, hs, h1, h2, hz, Nat.zero_le _, by simp⟩ ?_; clear hb X hs h1 h2 hz; rintro k w2 ⟨hb, X, hs, h1, h2, hz, hk, hnd⟩; have HD := Lib.hid hnd; clear hnd
 by_cases hlt2 : k < f.params.length
 · focus
    refine cw_seq (cS (cM rfl rfl (lw_pure (pur_fieldAddr tabOk rfl rfl rfl) rfl (lw_load_b tabOk rfl rfl rfl hb rfl rfl (lw_pure (pur_len_slice tabOk rfl rfl) rfl (lw_pure (pur_lss rfl rfl) rfl (cT ?_))))))); refine cw_yes rfl (by omega) ?_; refine cw_skip (qw_then (cw_seq (cw_block (cS (cA rfl rfl (cT (cw_block ?_))))))); rotate_left 1
   refine cw_loop (ι := Nat) (fun j => [(0, .slice (some ⟨kb, ko, none⟩) lib.length c), (1, .int .i64 fq), (5, .pointer (some ⟨bd1, 0, none⟩)), (7, .int .i64 k), (8, .int .i64 j)]) (fun j w' => Blk w' bd1 [str f.name, .slice pa f.params.length pc, .bool f.list, .int .u8 f.body.kind, .int .i64 f.body.num, str f.body.name, .slice ba f.body.kids.length bc] ∧ Ext w w' ∧ FDs (· < w.heap.size) w' lib (some ⟨kb, ko, none⟩) ∧ FPs (· < w.heap.size) w' f.params pa ∧ f.body.sits (· < w.heap.size) w' ba ∧ bd1 < w'.heap.size ∧ j ≤ k ∧ ∀ i (hi : i < f.params.length), i < j → f.params[i].name ≠ f.params[k].name) (fun j => k - j) 0 (by (refine sub_cons rfl ?_; refine sub_cons rfl ?_; refine sub_cons rfl ?_; refine sub_cons rfl ?_; refine sub_cons rfl ?_; exact sub_nil)) ⟨hb, X, hs, h1, h2, hz, Nat.zero_le _, fun i _ h => by omega⟩ ?_; clear hb X hs h1 h2 hz; rintro j w3 ⟨hb, X, hs, h1, h2, hz, hj, hall⟩; have HA := Lib.hid hall; clear hall
   by_cases hlt3 : j < k
   · have h12 := h1
     obtain ⟨ub, uo, hpa, -, huk⟩ := Arr.get h12 (by omega); subst hpa
     have hjp : j < f.params.length := by omega
     have r1 : Row w3 ⟨ub, uo + j * 2, none⟩ f.params[j].cells := huk j _ (List.getElem?_eq_getElem hjp); have r2 : Row w3 ⟨ub, uo + k * 2, none⟩ f.params[k].cells := huk k _ (List.getElem?_eq_getElem hlt2)
     have HNX := Lib.hid (fun (h : f.params[j].name ≠ f.params[k].name) (i : Nat) (hi : i < f.params.length) (h2 : i < j + 1) => if h3 : i < j then HA.out i hi h3 else (by
      obtain rfl : i = j := by omega
      exact h : f.params[i].name ≠ f.params[k].name))
     have HNN := Lib.hid (fun h => nodup_not hlt2 hlt3 h); clear huk h12 HA
     generalize f.params[j] = y at *
     generalize f.params[k] = z at *
     by_cases hyz : y.name = z.name
     · have HQ := Lib.hid (HNN.out hyz)
       clear HNX HNN
       focus
        refine cw_seq (cS (cM rfl rfl (cM rfl rfl (lw_pure (pur_lss rfl rfl) rfl (cT ?_))))); refine cw_yes rfl (by omega) ?_; refine cw_skip (qw_then (cw_seq (cw_block (cw_seq ?_)))); (refine cw_tdraw (fun wz => Ext w3 wz) 12 (.pure 0 (.pure 1 (.pure 2 (.pure 3 (.pure 4 (.pure 5 (.pure 6 (.pure 7 (.pure 8 (.pure 9 (.pure 10 (.pure 11 .tail)))))))))))) mixed (by kernel_rfl) (panicOk_then (panicOk_block (panicOk_then (panicOk_then (panicOk_block (panicOk_block (panicOk_then (panicOk_then (panicOk_block (panicOk_then panicOk_body)))))))))) ?_; intro wi1 xi2 _); have qsi3 : (fun wz => Ext w3 wz) wi1 := xi2; simp only at qsi3; have d_hs := hs; have d_h2 := h2; have d_hb := hb; have d_h1 := h1; have d_r1 := r1; have d_r2 := r2; have zi4 := xi2.size; replace X := X.ext xi2; replace hs := hs.ext xi2; replace h2 := Nd.sits.ext h2 xi2; replace hb := hb.ext xi2; replace h1 := h1.ext xi2; replace r1 := r1.ext xi2; replace r2 := r2.ext xi2; clear xi2; refine ⟨qsi3, ?_⟩; refine tw_pure rfl (pur_fieldAddr tabOk rfl rfl rfl) rfl (tw_pure rfl (pur_load tabOk rfl rfl rfl (fun wz hz => Blk.cell (Blk.ext d_hb hz) rfl)) rfl (tw_pure rfl (pur_move rfl) rfl ?_)); refine tw_pure rfl (pur_indexAddr tabOk rfl rfl rfl rfl (by omega) (by omega)) rfl ?_; refine tw_pure rfl (pur_fieldAddr0 tabOk rfl rfl rfl) rfl (tw_pure rfl (pur_load tabOk rfl rfl rfl (fun wz hz => Row.at0 (Row.ext d_r1 hz) rfl)) rfl (tw_pure rfl (pur_fieldAddr tabOk rfl rfl rfl) rfl (tw_pure rfl (pur_load tabOk rfl rfl rfl (fun wz hz => Blk.cell (Blk.ext d_hb hz) rfl)) rfl (tw_pure rfl (pur_move rfl) rfl ?_))))
        refine tw_pure rfl (pur_indexAddr tabOk rfl rfl rfl rfl (by omega) (by omega)) rfl ?_; refine tw_pure rfl (pur_fieldAddr0 tabOk rfl rfl rfl) rfl (tw_pure rfl (pur_load tabOk rfl rfl rfl (fun wz hz => Row.at0 (Row.ext d_r2 hz) rfl)) rfl ?_); clear qsi3 d_hs d_h2 d_hb d_h1 d_r1 d_r2; refine tw_tail rfl (lw_pure (pur_seql rfl rfl) rfl (cT ?_)); refine cw_yes rfl (by assumption) ?_; refine cS (cA rfl rfl (cT (cw_ret (qw_block_ret (qw_then_ret (qw_then_ret (qw_block_ret (qw_block_ret (qw_then_ret (qw_then_ret (qw_block_ret ?_))))))))))); refine qw_then_ret (qw_ret1 rfl rfl ?_); rotate_left 1
       exact intR (by rw [HPA.out, if_neg HQ.out]; rfl) X
     · have HQ := Lib.hid (HNX.out hyz)
       clear HNX HNN
       focus
        refine cw_seq (cS (cM rfl rfl (cM rfl rfl (lw_pure (pur_lss rfl rfl) rfl (cT ?_))))); refine cw_yes rfl (by omega) ?_; refine cw_skip (qw_then (cw_seq (cw_block (cw_seq ?_)))); (refine cw_tdraw (fun wz => Ext w3 wz) 12 (.pure 0 (.pure 1 (.pure 2 (.pure 3 (.pure 4 (.pure 5 (.pure 6 (.pure 7 (.pure 8 (.pure 9 (.pure 10 (.pure 11 .tail)))))))))))) mixed (by kernel_rfl) (panicOk_then (panicOk_block (panicOk_then (panicOk_then (panicOk_block (panicOk_block (panicOk_then (panicOk_then (panicOk_block (panicOk_then panicOk_body)))))))))) ?_; intro wj1 xj2 _); have qsj3 : (fun wz => Ext w3 wz) wj1 := xj2; simp only at qsj3; have d_hs := hs; have d_h2 := h2; have d_hb := hb; have d_h1 := h1; have d_r1 := r1; have d_r2 := r2; have zj4 := xj2.size; replace X := X.ext xj2; replace hs := hs.ext xj2; replace h2 := Nd.sits.ext h2 xj2; replace hb := hb.ext xj2; replace h1 := h1.ext xj2; replace r1 := r1.ext xj2; replace r2 := r2.ext xj2; clear xj2; refine ⟨qsj3, ?_⟩; refine tw_pure rfl (pur_fieldAddr tabOk rfl rfl rfl) rfl (tw_pure rfl (pur_load tabOk rfl rfl rfl (fun wz hz => Blk.cell (Blk.ext d_hb hz) rfl)) rfl (tw_pure rfl (pur_move rfl) rfl ?_)); refine tw_pure rfl (pur_indexAddr tabOk rfl rfl rfl rfl (by omega) (by omega)) rfl ?_; refine tw_pure rfl (pur_fieldAddr0 tabOk rfl rfl rfl) rfl (tw_pure rfl (pur_load tabOk rfl rfl rfl (fun wz hz => Row.at0 (Row.ext d_r1 hz) rfl)) rfl (tw_pure rfl (pur_fieldAddr tabOk rfl rfl rfl) rfl (tw_pure rfl (pur_load tabOk rfl rfl rfl (fun wz hz => Blk.cell (Blk.ext d_hb hz) rfl)) rfl (tw_pure rfl (pur_move rfl) rfl ?_))))
        refine tw_pure rfl (pur_indexAddr tabOk rfl rfl rfl rfl (by omega) (by omega)) rfl ?_; refine tw_pure rfl (pur_fieldAddr0 tabOk rfl rfl rfl) rfl (tw_pure rfl (pur_load tabOk rfl rfl rfl (fun wz hz => Row.at0 (Row.ext d_r2 hz) rfl)) rfl ?_); clear qsj3 d_hs d_h2 d_hb d_h1 d_r1 d_r2; refine tw_tail rfl (lw_pure (pur_seql rfl rfl) rfl (cT ?_)); refine cw_no rfl (by assumption) ?_; refine cw_skip (qw_block_norm (qw_then (cw_region (cM rfl rfl ?_)))); refine lw_pure (pur_add rfl rfl (IntWalk.i64_in _ (by omega))) rfl ?_; refine cA rfl rfl (lw_nil ?_); rotate_left 1
       exact qw_round (j + 1) (by (refine sub_cons rfl ?_; refine sub_cons rfl ?_; refine sub_cons rfl ?_; refine sub_cons rfl ?_; refine sub_cons rfl ?_; exact sub_nil)) ⟨hb, X, hs, h1, h2, by omega, by omega, HQ.out⟩ (by omega)
   · have hje : j = k := by omega
     subst hje; have HQ := Lib.hid (nodup_take hlt2 HD.out HA.out); clear HA HD
     focus
      refine cw_seq (cS (cM rfl rfl (cM rfl rfl (lw_pure (pur_lss rfl rfl) rfl (cT ?_))))); refine cw_no rfl (by omega) ?_; refine cw_exit (qw_then_exit (qw_then_exit (qw_block_exit (qw_block_norm (qw_then (cw_region (cM rfl rfl ?_))))))); refine lw_pure (pur_add rfl rfl (IntWalk.i64_in _ (by omega))) rfl ?_; refine cA rfl rfl (lw_nil ?_); rotate_left 1
     exact qw_round (j + 1) (by (refine sub_cons rfl ?_; refine sub_cons rfl ?_; refine sub_cons rfl ?_; refine sub_cons rfl ?_; exact sub_nil)) ⟨hb, X, hs, h1, h2, by omega, by omega, HQ.out⟩ (by omega)
 have hke : k = f.params.length := by omega
 subst hke; have hnd := HD.out; rw [List.take_length] at hnd; have HPZ := Lib.hid (show paramErr f.params = 0 by rw [HPA.out, if_pos hnd]); have HCV := Lib.hid (chk_visR (lib := lib) f.body f.params hnd); have HW := Lib.hid m5; clear HD HPA hnd m5 m3
 cases hf : f.body.formed
 · have HG := Lib.hid (gForm_v hf)
   clear hf
   focus
    refine cw_seq (cS (cM rfl rfl (lw_pure (pur_fieldAddr tabOk rfl rfl rfl) rfl (lw_load_b tabOk rfl rfl rfl hb rfl rfl (lw_pure (pur_len_slice tabOk rfl rfl) rfl (lw_pure (pur_lss rfl rfl) rfl (cT ?_))))))); refine cw_no rfl (by omega) ?_; refine cw_exit (qw_then_exit (qw_then_exit (qw_block_exit (qw_then (cw_seq (cS (lw_pure (pur_fieldAddr tabOk rfl rfl rfl) rfl (lw_loads_b' [_, _, _, _] tabOk rfl rfl rfl hb rfl rfl rfl ?_)))))))); refine cC (by kernel_rfl) rfl (HG.out (by omega) HW.out _ _ _ _ (by assumption)) rfl ?_; rintro _ wl2 ⟨⟨⟩, xl1⟩; have zl3 := xl1.size; replace hb := hb.ext xl1; replace X := X.ext xl1; replace hs := hs.ext xl1; replace h1 := h1.ext xl1; replace h2 := Nd.sits.ext h2 xl1; clear xl1; refine lw_pure (pur_not rfl) rfl (cT (cw_cond_t rfl (cS (cA rfl rfl (cT (cw_ret (qw_then_ret (qw_ret1 rfl rfl ?_)))))))); rotate_left 1
   exact intR (by rw [HPZ.out]; rfl) X
 · have HG := Lib.hid (gForm_v hf)
   have HC := Lib.hid (fun SL SV S la va a lc vc c w h1 h2 h3 => Calls.mono (gCheck_c lib hL hps.out (f.body.size + 1) f.body f.params SL SV S la va a lc vc c w (by omega) (by omega) (by omega) HW.out hf h1 h2 h3) (fun e w' h => (h : e = .returned (.tuple #[.bool (f.body.chk lib (visR f.params)).1, .int .i64 (f.body.chk lib (visR f.params)).2]) ∧ Ext w w'))); rw [HCV.out] at HC; have HDp := Lib.hid (fun (S : Nat → Prop) (a : Option Addr) (c : Nat) (w : World) (hs : f.body.sits S w a) => gDepth_c (f.body.size + 1) f.body S a c w (by omega) (by omega) hs); have HSz := Lib.hid (fun (S : Nat → Prop) (a : Option Addr) (c : Nat) (w : World) (hs : f.body.sits S w a) => gSize_c (f.body.size + 1) f.body S a c w (by omega) (by omega) hs); clear hf HCV
   generalize f.body.chk lib (f.params.map fun p => (p.name, p.list)) = q at *
   obtain ⟨qb, qe⟩ := q; (try dsimp only at HC)
   focus
    refine cw_seq (cS (cM rfl rfl (lw_pure (pur_fieldAddr tabOk rfl rfl rfl) rfl (lw_load_b tabOk rfl rfl rfl hb rfl rfl (lw_pure (pur_len_slice tabOk rfl rfl) rfl (lw_pure (pur_lss rfl rfl) rfl (cT ?_))))))); refine cw_no rfl (by omega) ?_; refine cw_exit (qw_then_exit (qw_then_exit (qw_block_exit (qw_then (cw_seq (cS (lw_pure (pur_fieldAddr tabOk rfl rfl rfl) rfl (lw_loads_b' [_, _, _, _] tabOk rfl rfl rfl hb rfl rfl rfl ?_)))))))); refine cC (by kernel_rfl) rfl (HG.out (by omega) HW.out _ _ _ _ (by assumption)) rfl ?_; rintro _ wm2 ⟨⟨⟩, xm1⟩; have zm3 := xm1.size; replace hb := hb.ext xm1; replace X := X.ext xm1; replace hs := hs.ext xm1; replace h1 := h1.ext xm1; replace h2 := Nd.sits.ext h2 xm1; clear xm1; refine lw_pure (pur_not rfl) rfl (cT (cw_cond_f rfl (cw_skip (qw_then (cw_seq (cS (lw_pure (pur_fieldAddr tabOk rfl rfl rfl) rfl (lw_loads_b' [_, _, _, _] tabOk rfl rfl rfl hb rfl rfl rfl ?_)))))))); refine cC (by kernel_rfl) rfl (HDp.out _ _ _ _ (by assumption)) rfl ?_; rintro _ wm5 ⟨⟨⟩, xm4⟩; have zm6 := xm4.size; replace hb := hb.ext xm4; replace X := X.ext xm4; replace hs := hs.ext xm4; replace h1 := h1.ext xm4; replace h2 := Nd.sits.ext h2 xm4; clear xm4; refine lw_pure (pur_gtr rfl rfl) rfl (cT ?_); refine cw_dec rfl (fun cm7 => ?_) (fun cm7 => ?_); refine cS (cA rfl rfl (cT (cw_ret (qw_then_ret (qw_ret1 rfl rfl ?_))))); rotate_left 1; refine cw_skip (qw_then (cw_seq (cS (lw_pure (pur_fieldAddr tabOk rfl rfl rfl) rfl (lw_loads_b' [_, _, _, _] tabOk rfl rfl rfl hb rfl rfl rfl ?_)))))
    refine cC (by kernel_rfl) rfl (HSz.out _ _ _ _ (by assumption)) rfl ?_; rintro _ wm9 ⟨⟨⟩, xm8⟩; have zm10 := xm8.size; replace hb := hb.ext xm8; replace X := X.ext xm8; replace hs := hs.ext xm8; replace h1 := h1.ext xm8; replace h2 := Nd.sits.ext h2 xm8; clear xm8; refine lw_pure (pur_gtr rfl rfl) rfl (cT ?_); refine cw_dec rfl (fun cm11 => ?_) (fun cm11 => ?_); refine cS (cA rfl rfl (cT (cw_ret (qw_then_ret (qw_ret1 rfl rfl ?_))))); rotate_left 1; refine cw_skip (qw_then (cS (cM rfl rfl (lw_pure (pur_fieldAddr tabOk rfl rfl rfl) rfl (lw_load_b tabOk rfl rfl rfl hb rfl rfl (lw_pure (pur_fieldAddr tabOk rfl rfl rfl) rfl (lw_loads_b' [_, _, _, _] tabOk rfl rfl rfl hb rfl rfl rfl ?_))))))); refine cC (by kernel_rfl) rfl (HC.out _ _ _ _ _ _ _ _ _ _ (by assumption) (by assumption) (by assumption)) rfl ?_; rintro _ wm13 ⟨⟨⟩, xm12⟩; have zm14 := xm12.size; replace hb := hb.ext xm12; replace X := X.ext xm12; replace hs := hs.ext xm12; replace h1 := h1.ext xm12; replace h2 := Nd.sits.ext h2 xm12; clear xm12; refine cM rfl rfl (lw_pure (pur_extract rfl rfl) rfl (lw_pure (pur_extract rfl rfl) rfl (cA rfl rfl (cA rfl rfl (cT (cw_seq (cS (cM rfl rfl (lw_pure (pur_neq rfl rfl) rfl (cT ?_)))))))))); refine cw_decn rfl (fun cm15 => ?_) (fun cm15 => ?_); refine cS (cM rfl rfl (cA rfl rfl (cT (cw_ret (qw_then_ret (qw_ret1 rfl rfl ?_)))))); rotate_left 1; refine cw_skip (qw_then (cw_seq (cS (cM rfl rfl (lw_pure (pur_fieldAddr tabOk rfl rfl rfl) rfl (lw_load_b tabOk rfl rfl rfl hb rfl rfl (lw_pure (pur_bneqF tabOk rfl rfl rfl) rfl (cT ?_))))))))
    refine cw_decn rfl (fun cm16 => ?_) (fun cm16 => ?_); refine cS (cA rfl rfl (cT (cw_ret (qw_then_ret (qw_ret1 rfl rfl ?_))))); rotate_left 1; refine cw_skip (qw_then (cS (cA rfl rfl (cT (cw_ret (qw_ret1 rfl rfl ?_)))))); rotate_left 1
   all_goals exact intR (by rw [HPZ.out]; (try dsimp only); (repeat' split); all_goals first | rfl | (exfalso; omega) | contradiction | (simp_all; done)) X
end Bk
namespace Bk
open Go Go.RowKit Go.Proofs
attribute [local irreducible] Go.Calls
theorem libErr_at {lib : List FD} {j : Nat} (hj : j < lib.length) : libErrFrom lib j (lib.drop j) = if fnErr lib j lib[j] ≠ 0 then some (j, fnErr lib j lib[j]) else libErrFrom lib (j + 1) (lib.drop (j + 1)) := by
 rw [List.drop_eq_getElem_cons hj, libErrFrom]
theorem gOne_v {lib : List FD} {i : Nat} {q : Int} (hi : i < lib.length) (h : fnErr lib i lib[i] = q) (S : Nat → Prop) (a : Option Addr) (c : Nat) (w : World) (hl : LibFew lib) (hs : FDs S w lib a) :
 Calls Tryz.prog 20 #[.slice a lib.length c, .int .i64 i] w fun e w' => e = .returned (.int .i64 q) ∧ Ext w w' := by
 have := gOne_c lib i S a c w hl hi hs
 rw [h] at this; exact this
set_option maxRecDepth 100000 in
set_option maxHeartbeats 4000000 in
theorem gValid_c (lib : List FD) (S : Nat → Prop) (a : Option Addr) (c : Nat) (w : World) (hl : LibFew lib) (hs : FDs S w lib a) :
 Calls Tryz.prog 8 #[.slice a lib.length c] w fun r w' => r = .returned (.tuple #[.int .i64 (validI lib).1, .int .i64 (validI lib).2]) ∧ Ext w w' := by
 have X := Ext.refl w; replace hs := hs.ltA; have hL := hl.len; have HL := Lib.hid hl; clear hl; refine calls_in Tryz.func8 Tryz.ntmps8 rfl rfl ?_
 focus
  refine cS (cA rfl rfl (cA rfl rfl (cT (cw_seq (cS (cA rfl rfl (cT (cw_block ?_)))))))); rotate_left 1
 refine cw_loop (ι := Nat) (fun j => [(0, .slice a lib.length c), (4, .int .i64 j)]) (fun j w' => FDs (· < w.heap.size) w' lib a ∧ Ext w w' ∧ j ≤ lib.length ∧ libErr lib = libErrFrom lib j (lib.drop j)) (fun j => lib.length - j) 0 (by (refine sub_cons rfl ?_; refine sub_cons rfl ?_; exact sub_nil)) ⟨hs, X, Nat.zero_le _, rfl⟩ ?_; clear hs X; rintro j w1 ⟨hs, X, hj, he⟩; have HE := Lib.hid he; clear he
 by_cases hlt : j < lib.length
 · have hq := HE.out
   rw [libErr_at hlt] at hq
   by_cases hz : fnErr lib j lib[j] = 0
   · have HO := Lib.hid (gOne_v hlt hz)
     rw [if_neg (by simpa using hz)] at hq; have HQ := Lib.hid hq; clear hq hz HE
     focus
      refine cw_seq (cS (cM rfl rfl (cM rfl rfl (lw_pure (pur_len_slice tabOk rfl rfl) rfl (lw_pure (pur_lss rfl rfl) rfl (cT ?_)))))); refine cw_yes rfl (by omega) ?_; refine cw_skip (qw_then (cw_seq (cw_block (cS (cM rfl rfl (cM rfl rfl ?_)))))); refine cC (by kernel_rfl) rfl (HO.out _ _ _ _ HL.out (by assumption)) rfl ?_; rintro _ wa2 ⟨⟨⟩, xa1⟩; have za3 := xa1.size; replace hs := hs.ext xa1; replace X := X.ext xa1; clear xa1; refine cA rfl rfl (cN (cM rfl rfl (lw_pure (pur_neq rfl rfl) rfl (cT ?_)))); refine cw_no rfl (by decide) ?_; refine cw_skip (qw_block_norm (qw_then (cw_region (cM rfl rfl ?_)))); refine lw_pure (pur_add rfl rfl (IntWalk.i64_in _ (by omega))) rfl ?_; refine cA rfl rfl (lw_nil ?_); rotate_left 1
     exact qw_round (j + 1) (by (refine sub_cons rfl ?_; refine sub_cons rfl ?_; exact sub_nil)) ⟨hs, X, by omega, HQ.out⟩ (by omega)
   · have HO := Lib.hid (gOne_v hlt rfl)
     rw [if_pos hz] at hq
     generalize fnErr lib j lib[j] = q at *
     have HQ := Lib.hid (show validI lib = ((j : Int), q) by unfold validI; rw [hq]); clear hq HE
     focus
      refine cw_seq (cS (cM rfl rfl (cM rfl rfl (lw_pure (pur_len_slice tabOk rfl rfl) rfl (lw_pure (pur_lss rfl rfl) rfl (cT ?_)))))); refine cw_yes rfl (by omega) ?_; refine cw_skip (qw_then (cw_seq (cw_block (cS (cM rfl rfl (cM rfl rfl ?_)))))); refine cC (by kernel_rfl) rfl (HO.out _ _ _ _ HL.out (by assumption)) rfl ?_; rintro _ wb2 ⟨⟨⟩, xb1⟩; have zb3 := xb1.size; replace hs := hs.ext xb1; replace X := X.ext xb1; clear xb1; refine cA rfl rfl (cN (cM rfl rfl (lw_pure (pur_neq rfl rfl) rfl (cT ?_)))); refine cw_yes rfl (by assumption) ?_; refine cS (cM rfl rfl (cM rfl rfl (cA rfl rfl (cA rfl rfl (cT (cw_ret (qw_block_ret (qw_then_ret (qw_then_ret (qw_block_ret (qw_then_ret ?_))))))))))); refine qw_ret2 rfl rfl rfl ?_; rotate_left 1
     rw [HQ.out]
     exact ⟨rfl, X⟩
 · have hje : j = lib.length := by omega
   subst hje; have hq := HE.out; rw [List.drop_length, libErrFrom] at hq; have HQ := Lib.hid (show validI lib = (-1, 0) by unfold validI; rw [hq]); clear hq HE
   focus
    refine cw_seq (cS (cM rfl rfl (cM rfl rfl (lw_pure (pur_len_slice tabOk rfl rfl) rfl (lw_pure (pur_lss rfl rfl) rfl (cT ?_)))))); refine cw_no rfl (by omega) ?_; refine cw_exit (qw_then_exit (qw_then_exit (qw_block_exit (qw_then (cS (cA rfl rfl (cA rfl rfl (cT (cw_ret (qw_ret2 rfl rfl rfl ?_)))))))))); rotate_left 1
   rw [HQ.out]
   exact ⟨rfl, X⟩
end Bk
namespace Bk
open Go Go.RowKit Go.Proofs
attribute [local irreducible] Go.Calls
structure RC where
 pb : Nat
 B : Nat
 ts : List Tok
 n : Int
 a : Option Addr
 cap : Nat
abbrev Tok.rcells (t : Tok) : List Value := [str t.text, .int .i64 t.pos]
def RTokAt (w : World) (b o : Nat) (t : Tok) : Prop := Row w ⟨b, o, none⟩ t.rcells
abbrev RC.cells (c : RC) (σ : PS) : List Value := [.slice c.a c.ts.length c.cap, .int .i64 σ.at_, .int .i64 c.n, .int .i64 σ.err, .int .i64 σ.off]
def refName (s : List UInt8) : Bool := decide (s ≠ []) && decide (s.length ≤ 16) && (s.head?.map letter).getD false && !keyword s
structure RP (c : RC) (σ : PS) (w : World) : Prop where
 blk : Blk w c.pb (c.cells σ)
 toks : Arr (fun b => b < c.B ∧ b ≠ c.pb) 2 RTokAt w c.ts c.a
 pbB : c.pb < c.B
 B : c.B ≤ w.heap.size
 at_ : σ.at_ ≤ c.ts.length
 len : c.ts.length ≤ 1000000
 tok : ∀ t ∈ c.ts, t.text.length ≤ 1000000
 nm : ∀ t ∈ c.ts, refName t.text = isName t.text
 num : ∀ t ∈ c.ts, startsDigit t.text = true → ∀ x ∈ t.text, digit x = true
theorem RP.ext {c : RC} {σ : PS} {w w' : World} (h : RP c σ w) (x : Ext w w') : RP c σ w' :=
 ⟨h.blk.ext x, h.toks.mono (fun _ h => h) (fun _ _ _ _ _ h => Row.ext h x), h.pbB, Nat.le_trans h.B x.size, h.at_, h.len, h.tok, h.nm, h.num⟩
theorem RP.fr {c : RC} {σ : PS} {S : Nat → Prop} {w w' : World} (h : RP c σ w) (x : Fr S w w') (hs : ∀ k, S k → c.B ≤ k) : RP c σ w' :=
 ⟨h.blk.fr x (fun e => by have := hs _ e; have := h.pbB; omega), h.toks.mono (fun _ h => h) (fun b _ _ _ hb h => Row.fr h x (fun e => by have h1 := hs _ e; have h2 := hb.1; have h3 : c.B ≤ b := h1; omega)), h.pbB, Nat.le_trans h.B x.size, h.at_, h.len, h.tok, h.nm, h.num⟩
theorem RP.put {c : RC} {σ σ' : PS} {w w' : World} (h : RP c σ w) (p : Put w w' c.pb (c.cells σ')) (ha : σ'.at_ ≤ c.ts.length) : RP c σ' w' :=
 ⟨p.blk, h.toks.mono (fun _ h => h) (fun b _ _ _ hb h => Row.fr h p.fr (fun e => hb.2 e)), h.pbB, Nat.le_trans h.B p.fr.size, ha, h.len, h.tok, h.nm, h.num⟩
section
variable {P : Program} {n : Nat} {ops : Array Oper} {Q : Exit → Act → World → Prop} {rest : List Oper} {l : Sl} {w : World} {tab : Tab} {ty : TypeId} {pos : String} {after : Array Edge}
end
end Bk
namespace Bk
open Go Go.RowKit Go.Proofs
attribute [local irreducible] Go.Calls
def opTexts : List (List UInt8) := [[43], [45], [42], [47], [37], [38], [124], [94], [61, 61], [33, 61], [60], [60, 61], [62], [62, 61], [38, 38], [124, 124]]
def opLevels : List Int := [7, 7, 8, 8, 8, 5, 3, 4, 6, 6, 6, 6, 6, 6, 2, 1]
theorem opT (j : Nat) (h : j < opTexts.length) : opTexts[j] = symbol (8 + (j : Int)) ∧ opLevels.getD j 0 = level (8 + (j : Int)) ∧ binOf (symbol (8 + (j : Int))) = some (8 + (j : Int)) := by
 have h' : j < 16 := h
 have : j = 0 ∨ j = 1 ∨ j = 2 ∨ j = 3 ∨ j = 4 ∨ j = 5 ∨ j = 6 ∨ j = 7 ∨ j = 8 ∨ j = 9 ∨ j = 10 ∨ j = 11 ∨ j = 12 ∨ j = 13 ∨ j = 14 ∨ j = 15 := by omega
 rcases this with rfl | rfl | rfl | rfl | rfl | rfl | rfl | rfl | rfl | rfl | rfl | rfl | rfl | rfl | rfl | rfl <;> exact ⟨rfl, rfl, rfl⟩
theorem Row.nthI {w : World} {b j : Nat} {l : List Int} (h : Row w ⟨b, 0, none⟩ (l.map (.int .i64 ·))) (hj : j < l.length) : Row w ⟨b, 0 + j * 1, none⟩ [.int .i64 (l.getD j 0)] := by
 have h1 := h.sub j 1
 have e : ((l.map (Value.int .i64 ·)).drop j).take 1 = [.int .i64 (l.getD j 0)] := by
  rw [List.drop_eq_getElem_cons (by simpa using hj)]; simp [hj]
 rw [e] at h1
 rw [Nat.mul_one]; exact h1
end Bk
namespace Bk
open Go Go.RowKit Go.Proofs
attribute [local irreducible] Go.Calls
set_option maxRecDepth 100000 in
set_option maxHeartbeats 1000000 in
theorem gSymbols_c (w : World) : Calls Tryz.prog 52 #[] w fun e w' => ∃ b, e = .returned (.slice (some ⟨b, 0, none⟩) 16 16) ∧ Row w' ⟨b, 0, none⟩ (opTexts.map str) ∧ Ext w w' := by
 have X := Ext.refl w; refine calls_in (args := []) Tryz.func52 Tryz.ntmps52 rfl rfl ?_
 focus
  refine cS (cA rfl rfl (cN ?_)); (refine lw_does (does_slice' [_, _, _, _, _, _, _, _, _, _, _, _, _, _, _, _] tabOk zOk rfl rfl rfl rfl rfl rfl rfl rfl rfl) rfl ?_ (fun _ h => h); rintro _ w2 ⟨b1, rfl, n3, t4⟩); clear t4; have h5 := n3.blk; have x6 := n3.ext; have p7 := n3.pos; have z8 := n3.size; clear n3; replace X := X.ext x6; clear x6; refine cA rfl rfl (cT (cw_ret (qw_ret1 rfl rfl ?_))); rotate_left 1
 exact ⟨_, rfl, Blk.row (by assumption), X⟩
set_option maxRecDepth 100000 in
set_option maxHeartbeats 1000000 in
theorem gLevels_c (w : World) : Calls Tryz.prog 79 #[] w fun e w' => ∃ b, e = .returned (.slice (some ⟨b, 0, none⟩) 16 16) ∧ Row w' ⟨b, 0, none⟩ (opLevels.map (.int .i64 ·)) ∧ Ext w w' := by
 have X := Ext.refl w; refine calls_in (args := []) Tryz.func79 Tryz.ntmps79 rfl rfl ?_
 focus
  refine cS (cA rfl rfl (cN ?_)); (refine lw_does (does_slice' [_, _, _, _, _, _, _, _, _, _, _, _, _, _, _, _] tabOk zOk rfl rfl rfl rfl rfl rfl rfl rfl rfl) rfl ?_ (fun _ h => h); rintro _ w2 ⟨b1, rfl, n3, t4⟩); clear t4; have h5 := n3.blk; have x6 := n3.ext; have p7 := n3.pos; have z8 := n3.size; clear n3; replace X := X.ext x6; clear x6; refine cA rfl rfl (cT (cw_ret (qw_ret1 rfl rfl ?_))); rotate_left 1
 exact ⟨_, rfl, Blk.row (by assumption), X⟩
theorem Row.nthH {w : World} {b j : Nat} {l : List (List UInt8)} (h : Row w ⟨b, 0, none⟩ (l.map str)) (hj : j < l.length) : Row w ⟨b, 0 + j * 1, none⟩ [str l[j]] := by
 have h1 := h.sub j 1
 have e : ((l.map str).drop j).take 1 = [str l[j]] := by
  rw [List.drop_eq_getElem_cons (by simpa using hj)]; simp
 rw [e] at h1
 rw [Nat.mul_one]; exact h1
theorem gSymbols_j {j : Nat} (hj : j < 16) (w : World) : Calls Tryz.prog 52 #[] w fun e w' => ∃ b, e = .returned (.slice (some ⟨b, 0, none⟩) 16 16) ∧ Row w' ⟨b, 0 + j * 1, none⟩ [str (symbol (8 + (j : Int)))] ∧ Ext w w' :=
 Calls.mono (gSymbols_c w) fun e w' ⟨b, h1, h2, h3⟩ => ⟨b, h1, by have := h2.nthH (j := j) hj; rw [(opT j hj).1] at this; exact this, h3⟩
theorem gLevels_j {j : Nat} (hj : j < 16) (w : World) : Calls Tryz.prog 79 #[] w fun e w' => ∃ b, e = .returned (.slice (some ⟨b, 0, none⟩) 16 16) ∧ Row w' ⟨b, 0 + j * 1, none⟩ [.int .i64 (level (8 + (j : Int)))] ∧ Ext w w' :=
 Calls.mono (gLevels_c w) fun e w' ⟨b, h1, h2, h3⟩ => ⟨b, h1, by have := h2.nthI (j := j) hj; rw [(opT j hj).2.1] at this; exact this, h3⟩
theorem gSymbols_n {n : Int} (h0 : 8 ≤ n) (h1 : n ≤ 23) (w : World) : Calls Tryz.prog 52 #[] w fun e w' => ∃ b, e = .returned (.slice (some ⟨b, 0, none⟩) 16 16) ∧ Row w' ⟨b, 0 + (n - 8).toNat * 1, none⟩ [str (symbol n)] ∧ Ext w w' := by
 have h := gSymbols_j (j := (n - 8).toNat) (by omega) w; rw [show (8 : Int) + ((n - 8).toNat : Int) = n by omega] at h
 exact h
theorem gLevels_n {n : Int} (h0 : 8 ≤ n) (h1 : n ≤ 23) (w : World) : Calls Tryz.prog 79 #[] w fun e w' => ∃ b, e = .returned (.slice (some ⟨b, 0, none⟩) 16 16) ∧ Row w' ⟨b, 0 + (n - 8).toNat * 1, none⟩ [.int .i64 (level n)] ∧ Ext w w' := by
 have h := gLevels_j (j := (n - 8).toNat) (by omega) w; rw [show (8 : Int) + ((n - 8).toNat : Int) = n by omega] at h
 exact h
def lvG (k n : Int) : Int := if k = 82 then level n else 10
set_option maxRecDepth 100000 in
set_option maxHeartbeats 1000000 in
theorem gLevel_c (x : Nd) (a : Option Addr) (c : Nat) (w : World) (h : x.kind = 82 → 8 ≤ x.num ∧ x.num ≤ 23) : Calls Tryz.prog 50 #[x.val a c] w fun e w' => e = .returned (.int .i64 (lvG x.kind x.num)) ∧ Ext w w' := by
 have X := Ext.refl w
 by_cases hk : x.kind = 82
 · obtain ⟨h1, h2⟩ := h hk
   rw [show lvG x.kind x.num = level x.num from if_pos hk]; have HL := Lib.hid (fun w => gLevels_n h1 h2 w); refine calls_in Tryz.func50 Tryz.ntmps50 rfl rfl ?_
   focus
    refine cS ?_; (refine lw_box' [_, _, _, _] rfl rfl rfl ?_; intro b1 w2 n3); have h4 := n3.blk; have x5 := n3.ext; have p6 := n3.pos; have z7 := n3.size; clear n3; replace X := X.ext x5; clear x5; refine cA rfl rfl (cT (cw_seq (cS (lw_pure (pur_fieldAddr0 tabOk rfl rfl rfl) rfl (lw_load_b tabOk rfl rfl rfl h4 rfl rfl (lw_pure (pur_eql rfl rfl) rfl (cT ?_))))))); refine cw_yes rfl (by assumption) ?_; refine cw_seq ?_; (refine cw_tdraw (fun wz => Ext w2 wz) 4 (.pure 1 (.pure 2 (.pure 3 (.fork 0 .tail .none)))) mixed (by kernel_rfl) (panicOk_then (panicOk_then panicOk_body)) ?_; intro w8 x9 _); have qs10 : (fun wz => Ext w2 wz) w8 := x9; simp only at qs10; have d_h4 := h4; have z11 := x9.size; replace h4 := h4.ext x9; replace X := X.ext x9; clear x9; refine ⟨qs10, ?_⟩; refine tw_pure rfl (pur_fieldAddr tabOk rfl rfl rfl) rfl (tw_pure rfl (pur_load tabOk rfl rfl rfl (fun wz hz => Blk.cell (Blk.ext d_h4 hz) rfl)) rfl ?_); refine tw_pure rfl (pur_sub rfl rfl (IntWalk.i64_in _ (by omega))) rfl ?_; refine tw_does rfl (does_call (by kernel_rfl) rfl (HL.out _) (fun _ _ ⟨_, h⟩ => ⟨_, h.1⟩)) rfl ?_ (fun _ h => h) tw_none; rintro _ w16 ⟨b13, ⟨⟨⟩, ⟨h14, x15⟩⟩⟩; have z17 := x15.size; replace qs10 := qs10.ext x15; replace h4 := h4.ext x15; replace X := X.ext x15; clear x15; refine ⟨qs10, ?_⟩; clear d_h4 qs10; refine tw_tail rfl ?_; refine lw_pure (pur_indexAddr tabOk rfl rfl rfl rfl (by omega) (by omega)) rfl ?_; refine lw_load_r0 tabOk rfl rfl rfl h14 rfl rfl (cA rfl rfl (cT (cw_ret (qw_then_ret (qw_ret1 rfl rfl ?_)))))
    rotate_left 1
   exact ⟨rfl, X⟩
 · rw [show lvG x.kind x.num = 10 from if_neg hk]
   refine calls_in Tryz.func50 Tryz.ntmps50 rfl rfl ?_
   focus
    refine cS ?_; (refine lw_box' [_, _, _, _] rfl rfl rfl ?_; intro ba1 wa2 na3); have ha4 := na3.blk; have xa5 := na3.ext; have pa6 := na3.pos; have za7 := na3.size; clear na3; replace X := X.ext xa5; clear xa5; refine cA rfl rfl (cT (cw_seq (cS (lw_pure (pur_fieldAddr0 tabOk rfl rfl rfl) rfl (lw_load_b tabOk rfl rfl rfl ha4 rfl rfl (lw_pure (pur_eql rfl rfl) rfl (cT ?_))))))); refine cw_no rfl (by assumption) ?_; refine cw_skip (qw_then (cS (cA rfl rfl (cT (cw_ret (qw_ret1 rfl rfl ?_)))))); rotate_left 1
   exact ⟨rfl, X⟩
end Bk
namespace Bk
open Go Go.RowKit Go.Proofs
theorem str_appG (a b : List UInt8) : (⟨a.toArray⟩ : ByteArray) ++ ⟨b.toArray⟩ = ⟨(a ++ b).toArray⟩ := by
 apply ByteArray.ext; simp
theorem run_conv1G (W : World) (b : Nat) (c : Int) (h : W.cell? ⟨b, 0, none⟩ = some (.int .u8 c)) :
 (convert 47 9 (.slice (some ⟨b, 0, none⟩) 1 1)).run Tryz.prog W = .ok (str [UInt8.ofNat c.toNat]) W := by
 have hl : (loadCells ⟨b, 0, none⟩ 1).run Tryz.prog W = .ok ([c].map (Value.int .u8)).toArray W := by
  refine run_loadCells_list W ⟨b, 0, none⟩ [.int .u8 c] ?_; intro j v hj
  rcases j with _ | j
  · simp at hj; subst hj; simpa [Addr.add] using h
  · simp at hj
 rw [run_convert_bytes_string W 47 9 5 _ _ _ (by kernel_rfl) (by kernel_rfl) (by kernel_rfl), run_bytesToString W ⟨b, 0, none⟩ 1 1 [c] hl]
 rfl
set_option maxRecDepth 100000 in
theorem DecimalG_c (N : Nat) : ∀ (n : Int) (w : World), n < N → 0 ≤ n → n ≤ 9223372036854775807 →
 Calls Tryz.prog 49 #[.int .i64 n] w fun e w' => e = .returned (str (Lib.decDigits n.toNat)) ∧ Ext w w' := by
 induction N with
 | zero => intro n w h h0; omega
 | succ N ih =>
  intro n w hN h0 h1
  have IH := Lib.hid ih; clear ih
  have hcv := run_conv1G
  by_cases h10 : n < 10
  · have hd : Lib.decDigits n.toNat = [UInt8.ofNat (48 + n.toNat)] := by rw [Lib.decDigits, dif_pos (by omega)]
    have HD := Lib.hid hd; clear hd
    go_enter Tryz.func49, Tryz.ntmps49
    go_wp2_with fail
    go_ret
    rw [HD.out]
    exact ⟨ret_str (by rw [show (48 + n).toNat = 48 + n.toNat by omega]), (by refine Ext.alloc ?_ _; exact Ext.refl _)⟩
  · have hd : Lib.decDigits n.toNat = Lib.decDigits (n / 10).toNat ++ [UInt8.ofNat (48 + n.toNat % 10)] := by
     rw [Lib.decDigits, dif_neg (by omega), show n.toNat / 10 = (n / 10).toNat by omega]
    have HD := Lib.hid hd; clear hd
    have q1 : n.tdiv 10 = n / 10 := Int.tdiv_eq_ediv_of_nonneg h0; have q2 : n.tmod 10 = n % 10 := Int.tmod_eq_emod_of_nonneg h0; have q3 : IntKind.i64.wrap (48 + n % 10) = 48 + n % 10 := IntWalk.i64_in _ (by omega); have q4 : IntKind.i64.wrap (n / 10) = n / 10 := IntWalk.i64_in _ (by omega)
    have q5 : IntKind.u8.wrap (48 + n % 10) = 48 + n % 10 := by rw [IntKind.wrap]; simp [IntKind.signed, IntKind.bits]; omega
    have hdl : (Lib.decDigits (n / 10).toNat).length ≤ 21 := by
     have := Lib.itoa_length_le (n / 10) (by omega) (by omega)
     unfold Lib.itoa at this
     rw [if_neg (by omega)] at this
     exact this
    have hsz : ¬ 9223372036854775807 < (Lib.decDigits (n / 10).toNat).length + 1 := by omega
    have hfin : Ending.returned (Value.string ((⟨(Lib.decDigits (n / 10).toNat).toArray⟩ : ByteArray) ++ ⟨#[UInt8.ofNat (48 + n % 10).toNat]⟩)) = .returned (str (Lib.decDigits n.toNat)) := by
     refine ret_eq ?_; rw [HD.out, show (⟨#[UInt8.ofNat (48 + n % 10).toNat]⟩ : ByteArray) = ⟨[UInt8.ofNat (48 + n % 10).toNat].toArray⟩ from rfl, str_appG, show (48 + n % 10).toNat = 48 + n.toNat % 10 by omega]
    have HFIN := Lib.hid hfin; clear hfin
    go_enter Tryz.func49, Tryz.ntmps49
    go_wp2_with fail
    refine wp_region_held_drew (S := fun _ => True) (by kernel_rfl) trivial (fun hHeld => ?_)
    ((refine wpAnyH_take (i := 0) (oi := _) (v := ?v0_1) rfl (by kernel_rfl) (by kernel_rfl) (by kernel_rfl) (fun _ _ _ h => h) (Or.inl ⟨by rfl, ?y0_1⟩) (by assumption) ?r0_1); (case y0_1 => (intro w hSw; (try dsimp only at hSw); go_simp; try (with_reducible rfl))); (try simp only [Act.put, List.getElem_toArray, List.getElem_cons_zero, List.getElem_cons_succ, List.setIfInBounds_toArray, List.set_cons_zero, List.set_cons_succ]))
    ((refine wpAnyH_take (i := 1) (oi := _) (v := ?v1_2) rfl (by kernel_rfl) (by kernel_rfl) (by kernel_rfl) (fun _ _ _ h => h) (Or.inl ⟨by rfl, ?y1_2⟩) (by assumption) ?r1_2); (case y1_2 => (intro w hSw; (try dsimp only at hSw); go_simp; try (with_reducible rfl))); (try simp only [Act.put, List.getElem_toArray, List.getElem_cons_zero, List.getElem_cons_succ, List.setIfInBounds_toArray, List.set_cons_zero, List.set_cons_succ]))
    ((refine wpAnyH_take (i := 3) (oi := _) (v := ?v3_3) rfl (by kernel_rfl) (by kernel_rfl) (by kernel_rfl) (fun _ _ _ h => h) (Or.inl ⟨by rfl, ?y3_3⟩) (by assumption) ?r3_3); (case y3_3 => (intro w hSw; (try dsimp only at hSw); go_simp; try (with_reducible rfl))); (try simp only [Act.put, List.getElem_toArray, List.getElem_cons_zero, List.getElem_cons_succ, List.setIfInBounds_toArray, List.set_cons_zero, List.set_cons_succ]))
    ((refine wpAnyH_take (i := 4) (oi := _) (v := ?v4_4) rfl (by kernel_rfl) (by kernel_rfl) (by kernel_rfl) (fun _ _ _ h => h) (Or.inl ⟨by rfl, ?y4_4⟩) (by assumption) ?r4_4); (case y4_4 => (intro w hSw; (try dsimp only at hSw); go_simp; try (with_reducible rfl))); (try simp only [Act.put, List.getElem_toArray, List.getElem_cons_zero, List.getElem_cons_succ, List.setIfInBounds_toArray, List.set_cons_zero, List.set_cons_succ]))
    ((refine wpAnyH_take (i := 5) (oi := _) (v := ?v5_5) rfl (by kernel_rfl) (by kernel_rfl) (by kernel_rfl) (fun _ _ _ h => h) (Or.inl ⟨by rfl, ?y5_5⟩) (by assumption) ?r5_5); (case y5_5 => (intro w hSw; (try dsimp only at hSw); go_simp; try (with_reducible rfl))); (try simp only [Act.put, List.getElem_toArray, List.getElem_cons_zero, List.getElem_cons_succ, List.setIfInBounds_toArray, List.set_cons_zero, List.set_cons_succ]))
    ((refine wpAnyH_take (i := 6) (oi := _) (v := ?v6_6) rfl (by kernel_rfl) (by kernel_rfl) (by kernel_rfl) (fun _ _ _ h => h) (Or.inl ⟨by rfl, ?y6_6⟩) (by assumption) ?r6_6); (case y6_6 => (intro w hSw; (try dsimp only at hSw); go_simp; try (with_reducible rfl))); (try simp only [Act.put, List.getElem_toArray, List.getElem_cons_zero, List.getElem_cons_succ, List.setIfInBounds_toArray, List.set_cons_zero, List.set_cons_succ]))
    ((refine wpAnyH_ready (rs := [2, 7]) (by kernel_rfl) (by simp) ?_); (refine AllReadyH.cons (o := _) rfl (fun K hK => ?_) (AllReadyH.cons (o := _) rfl (fun K hK => ?_) AllReadyH.nil)) <;> go_simp)
    · refine (IH.out (n / 10) _ (by omega) (by omega) (by omega)).mono ?_
      rintro e w1 ⟨rfl, hx1⟩; (refine hK.out _ _ trivial (fun hHeld => ?_); clear hK K; (try simp only [Act.put, List.getElem_toArray, List.getElem_cons_zero, List.getElem_cons_succ, List.setIfInBounds_toArray, List.set_cons_zero, List.set_cons_succ]))
      ((refine wpAnyH_ready (rs := [7]) (by kernel_rfl) (by simp) ?_); (refine AllReadyH.cons (o := _) rfl (fun K hK => ?_) AllReadyH.nil); go_simp)
      (refine hK.out _ _ trivial (fun hHeld => ?_); clear hK K; (try simp only [Act.put, List.getElem_toArray, List.getElem_cons_zero, List.getElem_cons_succ, List.setIfInBounds_toArray, List.set_cons_zero, List.set_cons_succ]))
      ((refine wpAnyH_ready (rs := [8]) (by kernel_rfl) (by simp) ?_); (refine AllReadyH.cons (o := _) rfl (fun K hK => ?_) AllReadyH.nil); go_simp)
      (refine hK.out _ _ trivial (fun hHeld => ?_); clear hK K; (try simp only [Act.put, List.getElem_toArray, List.getElem_cons_zero, List.getElem_cons_succ, List.setIfInBounds_toArray, List.set_cons_zero, List.set_cons_succ]))
      ((refine wpAnyH_take (i := 9) (oi := _) (v := ?v9_7) rfl (by kernel_rfl) (by kernel_rfl) (by kernel_rfl) (fun _ _ _ h => h) (Or.inl ⟨by rfl, ?y9_7⟩) (by assumption) ?r9_7); (case y9_7 => (intro w hSw; (try dsimp only at hSw); go_simp; try (with_reducible rfl))); (try simp only [Act.put, List.getElem_toArray, List.getElem_cons_zero, List.getElem_cons_succ, List.setIfInBounds_toArray, List.set_cons_zero, List.set_cons_succ]))
      ((refine wpAnyH_take (i := 10) (oi := _) (v := ?v10_8) rfl (by kernel_rfl) (by kernel_rfl) (by kernel_rfl) (fun _ _ _ h => h) (Or.inl ⟨by rfl, ?y10_8⟩) (by assumption) ?r10_8); (case y10_8 => (intro w hSw; (try dsimp only at hSw); go_simp; try (with_reducible rfl))); (try simp only [Act.put, List.getElem_toArray, List.getElem_cons_zero, List.getElem_cons_succ, List.setIfInBounds_toArray, List.set_cons_zero, List.set_cons_succ]))
      (refine wpAnyH_done (by kernel_rfl) ?_ _)
      go_wp2_with fail
      go_ret
      exact ⟨HFIN.out, (by refine Ext.alloc ?_ _; refine Ext.trans ?_ (by assumption); refine Ext.drew ?_; exact Ext.refl _)⟩
    · (refine hK.out _ _ trivial (fun hHeld => ?_); clear hK K; (try simp only [Act.put, List.getElem_toArray, List.getElem_cons_zero, List.getElem_cons_succ, List.setIfInBounds_toArray, List.set_cons_zero, List.set_cons_succ]))
      ((refine wpAnyH_ready (rs := [2, 8]) (by kernel_rfl) (by simp) ?_); (refine AllReadyH.cons (o := _) rfl (fun K hK => ?_) (AllReadyH.cons (o := _) rfl (fun K hK => ?_) AllReadyH.nil)) <;> go_simp)
      · refine (IH.out (n / 10) _ (by omega) (by omega) (by omega)).mono ?_
        rintro e w1 ⟨rfl, hx1⟩; have hc1 := hx1.cells; (refine hK.out _ _ trivial (fun hHeld => ?_); clear hK K; (try simp only [Act.put, List.getElem_toArray, List.getElem_cons_zero, List.getElem_cons_succ, List.setIfInBounds_toArray, List.set_cons_zero, List.set_cons_succ]))
        ((refine wpAnyH_ready (rs := [8]) (by kernel_rfl) (by simp) ?_); (refine AllReadyH.cons (o := _) rfl (fun K hK => ?_) AllReadyH.nil); go_simp)
        (refine hK.out _ _ trivial (fun hHeld => ?_); clear hK K; (try simp only [Act.put, List.getElem_toArray, List.getElem_cons_zero, List.getElem_cons_succ, List.setIfInBounds_toArray, List.set_cons_zero, List.set_cons_succ]))
        ((refine wpAnyH_take (i := 9) (oi := _) (v := ?v9_9) rfl (by kernel_rfl) (by kernel_rfl) (by kernel_rfl) (fun _ _ _ h => h) (Or.inl ⟨by rfl, ?y9_9⟩) (by assumption) ?r9_9); (case y9_9 => (intro w hSw; (try dsimp only at hSw); go_simp; try (with_reducible rfl))); (try simp only [Act.put, List.getElem_toArray, List.getElem_cons_zero, List.getElem_cons_succ, List.setIfInBounds_toArray, List.set_cons_zero, List.set_cons_succ]))
        ((refine wpAnyH_take (i := 10) (oi := _) (v := ?v10_10) rfl (by kernel_rfl) (by kernel_rfl) (by kernel_rfl) (fun _ _ _ h => h) (Or.inl ⟨by rfl, ?y10_10⟩) (by assumption) ?r10_10); (case y10_10 => (intro w hSw; (try dsimp only at hSw); go_simp; try (with_reducible rfl))); (try simp only [Act.put, List.getElem_toArray, List.getElem_cons_zero, List.getElem_cons_succ, List.setIfInBounds_toArray, List.set_cons_zero, List.set_cons_succ]))
        (refine wpAnyH_done (by kernel_rfl) ?_ _)
        go_wp2_with fail
        go_ret
        exact ⟨HFIN.out, (by refine Ext.trans ?_ (by assumption); refine Ext.drew ?_; refine Ext.alloc ?_ _; exact Ext.refl _)⟩
      · (refine hK.out _ _ trivial (fun hHeld => ?_); clear hK K; (try simp only [Act.put, List.getElem_toArray, List.getElem_cons_zero, List.getElem_cons_succ, List.setIfInBounds_toArray, List.set_cons_zero, List.set_cons_succ]))
        ((refine wpAnyH_ready (rs := [2]) (by kernel_rfl) (by simp) ?_); (refine AllReadyH.cons (o := _) rfl (fun K hK => ?_) AllReadyH.nil); go_simp)
        refine (IH.out (n / 10) _ (by omega) (by omega) (by omega)).mono ?_; rintro e w1 ⟨rfl, hx1⟩; (refine hK.out _ _ trivial (fun hHeld => ?_); clear hK K; (try simp only [Act.put, List.getElem_toArray, List.getElem_cons_zero, List.getElem_cons_succ, List.setIfInBounds_toArray, List.set_cons_zero, List.set_cons_succ]))
        ((refine wpAnyH_take (i := 9) (oi := _) (v := ?v9_11) rfl (by kernel_rfl) (by kernel_rfl) (by kernel_rfl) (fun _ _ _ h => h) (Or.inl ⟨by rfl, ?y9_11⟩) (by assumption) ?r9_11); (case y9_11 => (intro w hSw; (try dsimp only at hSw); go_simp; try (with_reducible rfl))); (try simp only [Act.put, List.getElem_toArray, List.getElem_cons_zero, List.getElem_cons_succ, List.setIfInBounds_toArray, List.set_cons_zero, List.set_cons_succ]))
        ((refine wpAnyH_take (i := 10) (oi := _) (v := ?v10_12) rfl (by kernel_rfl) (by kernel_rfl) (by kernel_rfl) (fun _ _ _ h => h) (Or.inl ⟨by rfl, ?y10_12⟩) (by assumption) ?r10_12); (case y10_12 => (intro w hSw; (try dsimp only at hSw); go_simp; try (with_reducible rfl))); (try simp only [Act.put, List.getElem_toArray, List.getElem_cons_zero, List.getElem_cons_succ, List.setIfInBounds_toArray, List.set_cons_zero, List.set_cons_succ]))
        (refine wpAnyH_done (by kernel_rfl) ?_ _)
        go_wp2_with fail
        go_ret
        exact ⟨HFIN.out, (by refine Ext.trans ?_ (by assumption); refine Ext.drew ?_; refine Ext.alloc ?_ _; exact Ext.refl _)⟩
end Bk
namespace Bk
open Go Go.RowKit Go.Proofs
attribute [local irreducible] Go.Calls
theorem gLevel_v {x : Nd} {q : Int} (h : lvG x.kind x.num = q) (a : Option Addr) (c : Nat) (w : World) (hk : x.kind = 82 → 8 ≤ x.num ∧ x.num ≤ 23) : Calls Tryz.prog 50 #[x.val a c] w fun e w' => e = .returned (.int .i64 q) ∧ Ext w w' := by
 have := gLevel_c x a c w hk
 rw [h] at this; exact this
theorem gLevel_k (n : Int) (s : List UInt8) (l : List Nd) (a : Option Addr) (c : Nat) (w : World) (h1 : 8 ≤ n) (h2 : n ≤ 23) : Calls Tryz.prog 50 #[.agg #[.int .u8 82, .int .i64 n, str s, .slice a l.length c]] w fun e w' => e = .returned (.int .i64 (level n)) ∧ Ext w w' :=
 gLevel_v (x := .mk 82 n s l) (if_pos rfl) a c w (fun _ => ⟨h1, h2⟩)
theorem decG_c (n : Int) (w : World) (h0 : 0 ≤ n) (h1 : n ≤ 9223372036854775807) : Calls Tryz.prog 49 #[.int .i64 n] w fun e w' => e = .returned (str (Lib.itoa n)) ∧ Ext w w' := by
 have := DecimalG_c (n.toNat + 1) n w (by omega) h0 h1; rw [show Lib.itoa n = Lib.decDigits n.toNat from by simp [Lib.itoa]; intro h; omega]
 exact this
def TextG (x : Nd) : Prop := ∀ (S : Nat → Prop) (a : Option Addr) (c : Nat) (w : World), x.sits S w a → Calls Tryz.prog 22 #[x.val a c] w fun e w' => e = .returned (str x.ftext) ∧ Ext w w'
set_option maxRecDepth 100000 in
set_option maxHeartbeats 4000000 in
theorem gWrap_c (x : Nd) (lv : Int) (hlv : lv ≤ 10) (hx : TextG x) (hk : x.kind = 82 → 8 ≤ x.num ∧ x.num ≤ 23) (hl : x.ftext.length ≤ 1000000000) (S : Nat → Prop) (a : Option Addr) (c : Nat) (w : World) (hs : x.sits S w a) :
 Calls Tryz.prog 51 #[x.val a c, .int .i64 lv] w fun e w' => e = .returned (str (wrapT lv (x.kind, x.num) x.ftext)) ∧ Ext w w' := by
 have X := Ext.refl w; have HX := Lib.hid (fun S a c w h1 => hx S a c w h1); clear hx
 replace hs : x.sits (· < w.heap.size) w a := Nd.sits.wide (sits_lt2 _ _ hs) fun _ h => h.2
 generalize x.ftext = tx at *
 by_cases h : x.kind = 82
 · have HL := Lib.hid (fun (q : Int) (h : lvG x.kind x.num = q) a c w => gLevel_v (x := x) h a c w hk)
   have hq : lvG x.kind x.num = level x.num := if_pos h; have HL := Lib.hid (HL.out _ hq); clear hk hq
   by_cases hlv : level x.num < lv
   · rw [show wrapT lv (x.kind, x.num) tx = [40] ++ tx ++ [41] from if_pos ⟨h, hlv⟩]
     refine calls_in Tryz.func51 Tryz.ntmps51 rfl rfl ?_
     focus
      refine cS ?_; (refine lw_box' [_, _, _, _] rfl rfl rfl ?_; intro b1 w2 n3); have h4 := n3.blk; have x5 := n3.ext; have p6 := n3.pos; have z7 := n3.size; clear n3; replace X := X.ext x5; replace hs := Nd.sits.ext hs x5; clear x5; refine cA rfl rfl (cT (cw_seq (cS (lw_loads_b' [_, _, _, _] tabOk rfl rfl rfl h4 rfl rfl rfl ?_)))); refine cC (by kernel_rfl) rfl (HL.out _ _ _) rfl ?_; rintro _ w9 ⟨⟨⟩, x8⟩; have z10 := x8.size; replace h4 := h4.ext x8; replace X := X.ext x8; replace hs := Nd.sits.ext hs x8; clear x8; refine cM rfl rfl (lw_pure (pur_lss rfl rfl) rfl (cT ?_)); refine cw_yes rfl (by assumption) ?_; refine cS (lw_loads_b' [_, _, _, _] tabOk rfl rfl rfl h4 rfl rfl rfl ?_); refine cC (by kernel_rfl) rfl (HX.out _ _ _ _ (by assumption)) rfl ?_; rintro _ w12 ⟨⟨⟩, x11⟩; have z13 := x11.size; replace h4 := h4.ext x11; replace X := X.ext x11; replace hs := Nd.sits.ext hs x11; clear x11; refine lw_pure (pur_sadd rfl rfl (by simp only [List.length_cons, List.length_nil]; omega)) rfl ?_; refine lw_pure (pur_sadd rfl rfl (by simp only [List.length_append, List.length_cons, List.length_nil]; omega)) rfl ?_; refine cA rfl rfl (cT (cw_ret (qw_then_ret (qw_ret1 rfl rfl ?_)))); rotate_left 1
     exact ⟨rfl, X⟩
   · rw [show wrapT lv (x.kind, x.num) tx = tx from if_neg (fun h => hlv h.2)]
     refine calls_in Tryz.func51 Tryz.ntmps51 rfl rfl ?_
     focus
      refine cS ?_; (refine lw_box' [_, _, _, _] rfl rfl rfl ?_; intro ba1 wa2 na3); have ha4 := na3.blk; have xa5 := na3.ext; have pa6 := na3.pos; have za7 := na3.size; clear na3; replace X := X.ext xa5; replace hs := Nd.sits.ext hs xa5; clear xa5; refine cA rfl rfl (cT (cw_seq (cS (lw_loads_b' [_, _, _, _] tabOk rfl rfl rfl ha4 rfl rfl rfl ?_)))); refine cC (by kernel_rfl) rfl (HL.out _ _ _) rfl ?_; rintro _ wa9 ⟨⟨⟩, xa8⟩; have za10 := xa8.size; replace ha4 := ha4.ext xa8; replace X := X.ext xa8; replace hs := Nd.sits.ext hs xa8; clear xa8; refine cM rfl rfl (lw_pure (pur_lss rfl rfl) rfl (cT ?_)); refine cw_no rfl (by assumption) ?_; refine cw_skip (qw_then (cS (lw_loads_b' [_, _, _, _] tabOk rfl rfl rfl ha4 rfl rfl rfl ?_))); refine cC (by kernel_rfl) rfl (HX.out _ _ _ _ (by assumption)) rfl ?_; rintro _ wa12 ⟨⟨⟩, xa11⟩; have za13 := xa11.size; replace ha4 := ha4.ext xa11; replace X := X.ext xa11; replace hs := Nd.sits.ext hs xa11; clear xa11; refine cA rfl rfl (cT (cw_ret (qw_ret1 rfl rfl ?_))); rotate_left 1
     exact ⟨rfl, X⟩
 · rw [show wrapT lv (x.kind, x.num) tx = tx from if_neg (fun h' => h h'.1)]
   have HL := Lib.hid (fun (q : Int) (h : lvG x.kind x.num = q) a c w => gLevel_v (x := x) h a c w hk); have hq : lvG x.kind x.num = 10 := if_neg h; have HL := Lib.hid (HL.out _ hq); clear hk hq; refine calls_in Tryz.func51 Tryz.ntmps51 rfl rfl ?_
   focus
    refine cS ?_; (refine lw_box' [_, _, _, _] rfl rfl rfl ?_; intro bb1 wb2 nb3); have hb4 := nb3.blk; have xb5 := nb3.ext; have pb6 := nb3.pos; have zb7 := nb3.size; clear nb3; replace X := X.ext xb5; replace hs := Nd.sits.ext hs xb5; clear xb5; refine cA rfl rfl (cT (cw_seq (cS (lw_loads_b' [_, _, _, _] tabOk rfl rfl rfl hb4 rfl rfl rfl ?_)))); refine cC (by kernel_rfl) rfl (HL.out _ _ _) rfl ?_; rintro _ wb9 ⟨⟨⟩, xb8⟩; have zb10 := xb8.size; replace hb4 := hb4.ext xb8; replace X := X.ext xb8; replace hs := Nd.sits.ext hs xb8; clear xb8; refine cM rfl rfl (lw_pure (pur_lss rfl rfl) rfl (cT ?_)); refine cw_no rfl (by omega) ?_; refine cw_skip (qw_then (cS (lw_loads_b' [_, _, _, _] tabOk rfl rfl rfl hb4 rfl rfl rfl ?_))); refine cC (by kernel_rfl) rfl (HX.out _ _ _ _ (by assumption)) rfl ?_; rintro _ wb12 ⟨⟨⟩, xb11⟩; have zb13 := xb11.size; replace hb4 := hb4.ext xb11; replace X := X.ext xb11; replace hs := Nd.sits.ext hs xb11; clear xb11; refine cA rfl rfl (cT (cw_ret (qw_ret1 rfl rfl ?_))); rotate_left 1
   exact ⟨rfl, X⟩
theorem join_snoc {ts : List (List UInt8)} {y sep : List UInt8} (h : ts ≠ []) : Lib.join (ts ++ [y]) sep = Lib.join ts sep ++ sep ++ y := by
 cases ts with
 | nil => exact absurd rfl h
 | cons x r => rw [List.cons_append, Lib.join_cons, Lib.join_cons]; simp [Lib.joinTail]
theorem join_take_le {ts : List (List UInt8)} {sep : List UInt8} (j : Nat) : (Lib.join (ts.take j) sep).length ≤ (Lib.join ts sep).length := by
 cases ts with
 | nil => simp
 | cons x r =>
  cases j with
  | zero => simp [Lib.join_nil]
  | succ j =>
   rw [List.take_succ_cons, Lib.join_cons, Lib.join_cons]; have := Lib.joinTail_take_le sep r j
   simp only [List.length_append]; omega
set_option maxRecDepth 100000 in
set_option maxHeartbeats 4000000 in
theorem gList_c (l : List Nd) (hx : ∀ x ∈ l, TextG x) (hl : l.length ≤ 1000000) (hlen : (Lib.join (rowText l) [44, 32]).length ≤ 1000000000) (S : Nat → Prop) (a : Option Addr) (c : Nat) (w : World) (hs : rowSits S w l a) :
 Calls Tryz.prog 53 #[.slice a l.length c] w fun e w' => e = .returned (str (Lib.join (rowText l) [44, 32])) ∧ Ext w w' := by
 have X := Ext.refl w; have HX := Lib.hid (fun x hm S a c w h1 => hx x hm S a c w h1); clear hx; have hs' : rowSits (· < w.heap.size) w l a := rowSits_lt _ _ hs; clear hs; have hrl := rowText_length l; refine calls_in Tryz.func53 Tryz.ntmps53 rfl rfl ?_
 focus
  refine cS (cA rfl rfl (cN (cA rfl rfl (cT (cw_seq (cS (cA rfl rfl (cT (cw_block ?_))))))))); rotate_left 1
 refine cw_loop (ι := Nat) (fun j => [(0, .slice a l.length c), (3, str (Lib.join (rowText (l.take j)) [44, 32])), (4, .int .i64 j)])
  (fun j w' => rowSits (· < w.heap.size) w' l a ∧ Ext w w' ∧ j ≤ l.length) (fun j => l.length - j) 0 (by (refine sub_cons rfl ?_; refine sub_cons rfl ?_; refine sub_cons rfl ?_; exact sub_nil)) ⟨hs', X, Nat.zero_le _⟩ ?_
 clear hs' X; rintro j w1 ⟨hs, X, hj⟩
 by_cases hlt : j < l.length
 · have hs2 := hs
   obtain ⟨kb, ko, rfl, hkS, hkid⟩ := kidRows hs2 (by intro e; subst e; simp at hlt); obtain ⟨xa, xc, rx, sx⟩ := hkid j l[j] (List.getElem?_eq_getElem hlt); have HT := Lib.hid (HX.out _ (List.getElem_mem hlt)); have hsn := rowText_snoc hlt
   have hll : (Lib.join (rowText (l.take (j + 1))) [44, 32]).length ≤ 1000000000 := by
    have := join_take_le (ts := rowText l) (sep := [44, 32]) (j + 1); rw [show (rowText l).take (j + 1) = rowText (l.take (j + 1)) by rw [rowText_map, rowText_map, List.map_take]] at this
    omega
   clear hkid hs2
   cases j with
   | zero =>
    have hv : Lib.join (rowText (l.take (0 + 1))) [44, 32] = Lib.join (rowText (l.take 0)) [44, 32] ++ (l[0]).ftext := by
     rw [hsn]; simp [rowText, Lib.join_nil, Lib.join_one]
    have HV := Lib.hid hv; rw [hv, List.length_append] at hll; clear hsn hv
    generalize l[0] = x at *
    focus
     refine cw_seq (cS (cM rfl rfl (cM rfl rfl (lw_pure (pur_len_slice tabOk rfl rfl) rfl (lw_pure (pur_lss rfl rfl) rfl (cT ?_)))))); refine cw_yes rfl (by omega) ?_; refine cw_skip (qw_then (cw_seq (cw_block (cw_seq (cS (cM rfl rfl (lw_pure (pur_gtr rfl rfl) rfl (cT ?_)))))))); refine cw_no rfl (by decide) ?_; refine cw_skip (qw_then (cw_region (cM rfl rfl (cM rfl rfl (cM rfl rfl ?_))))); refine lw_pure (pur_indexAddr tabOk rfl rfl rfl rfl (by omega) (by omega)) rfl ?_; refine lw_loads_r' [_, _, _, _] tabOk rfl rfl rfl rx rfl rfl rfl ?_; refine cC (by kernel_rfl) rfl (HT.out _ _ _ _ (by assumption)) rfl ?_; rintro _ wa2 ⟨⟨⟩, xa1⟩; have za3 := xa1.size; replace X := X.ext xa1; replace hs := Bk.rowSits.ext hs xa1; replace rx := rx.ext xa1; replace sx := Nd.sits.ext sx xa1; clear xa1; refine lw_pure (pur_sadd rfl rfl (by omega)) rfl ?_; refine cA rfl rfl (lw_nil (qw_block_norm (qw_then (cw_region (cM rfl rfl ?_))))); refine lw_pure (pur_add rfl rfl (IntWalk.i64_in _ (by omega))) rfl ?_; refine cA rfl rfl (lw_nil ?_); rotate_left 1
    exact qw_round 1 (by rw [HV.out]; (refine sub_cons rfl ?_; refine sub_cons rfl ?_; refine sub_cons rfl ?_; exact sub_nil)) ⟨hs, X, by omega⟩ (by omega)
   | succ j =>
    have hv : Lib.join (rowText (l.take (j + 1 + 1))) [44, 32] = Lib.join (rowText (l.take (j + 1))) [44, 32] ++ [44, 32] ++ (l[j + 1]).ftext := by
     rw [hsn, join_snoc (by intro e; have := congrArg List.length e; rw [rowText_length, List.length_take] at this; simp only [List.length_nil] at this; omega)]
    have HV := Lib.hid hv; rw [hv, List.length_append, List.length_append] at hll; simp only [List.length_cons, List.length_nil] at hll; clear hsn hv
    generalize Lib.join (rowText (l.take (j + 1))) [44, 32] = os at *
    generalize l[j + 1] = x at *
    focus
     refine cw_seq (cS (cM rfl rfl (cM rfl rfl (lw_pure (pur_len_slice tabOk rfl rfl) rfl (lw_pure (pur_lss rfl rfl) rfl (cT ?_)))))); refine cw_yes rfl (by omega) ?_; refine cw_skip (qw_then (cw_seq (cw_block (cw_seq (cS (cM rfl rfl (lw_pure (pur_gtr rfl rfl) rfl (cT ?_)))))))); refine cw_yes rfl (by omega) ?_; refine cw_region (cM rfl rfl ?_); refine lw_pure (pur_sadd rfl rfl (by simp only [List.length_cons, List.length_nil]; omega)) rfl ?_; refine cA rfl rfl (cT (cw_region (cM rfl rfl (cM rfl rfl (cM rfl rfl ?_))))); refine lw_pure (pur_indexAddr tabOk rfl rfl rfl rfl (by omega) (by omega)) rfl ?_; refine lw_loads_r0 tabOk rfl rfl rfl rx rfl rfl ?_; refine cC (by kernel_rfl) rfl (HT.out _ _ _ _ (by assumption)) rfl ?_; rintro _ wb2 ⟨⟨⟩, xb1⟩; have zb3 := xb1.size; replace X := X.ext xb1; replace hs := Bk.rowSits.ext hs xb1; replace rx := rx.ext xb1; replace sx := Nd.sits.ext sx xb1; clear xb1; refine lw_pure (pur_sadd rfl rfl (by simp only [List.length_append, List.length_cons, List.length_nil]; omega)) rfl ?_; refine cA rfl rfl (lw_nil (qw_block_norm (qw_then (cw_region (cM rfl rfl ?_))))); refine lw_pure (pur_add rfl rfl (IntWalk.i64_in _ (by omega))) rfl ?_; refine cA rfl rfl (lw_nil ?_); rotate_left 1
    exact qw_round (j + 1 + 1) (by rw [HV.out]; (refine sub_cons rfl ?_; refine sub_cons rfl ?_; refine sub_cons rfl ?_; exact sub_nil)) ⟨hs, X, by omega⟩ (by omega)
 · have hje : j = l.length := by omega
   subst hje; rw [List.take_length]
   generalize Lib.join (rowText l) [44, 32] = os at *
   focus
    refine cw_seq (cS (cM rfl rfl (cM rfl rfl (lw_pure (pur_len_slice tabOk rfl rfl) rfl (lw_pure (pur_lss rfl rfl) rfl (cT ?_)))))); refine cw_no rfl (by omega) ?_; refine cw_exit (qw_then_exit (qw_then_exit (qw_block_exit (qw_then (cS (cM rfl rfl (cA rfl rfl (cT (cw_ret (qw_ret1 rfl rfl ?_)))))))))); rotate_left 1
   exact ⟨rfl, X⟩
set_option maxRecDepth 100000 in
set_option maxHeartbeats 8000000 in
theorem gExpr_c (N : Nat) : ∀ t : Nd, t.size < N → t.size ≤ 1000000 → t.okT → TextG t := by
 induction N with
 | zero => intro t h; omega
 | succ N ih =>
  rintro ⟨k, n, s, l⟩ hN hM hok S a c w hs; have X := Ext.refl w; simp only [Nd.sits] at hs; have hs' : rowSits (· < w.heap.size) w l a := rowSits_lt _ _ hs; clear hs; simp only [Nd.size] at hN hM; have hlen := ftext_len _ hok; simp only [Nd.size] at hlen; simp only [Nd.okT] at hok; obtain ⟨h1, h2, h3, h4⟩ := hok; have h0 := formN_num h1
  have hT : ∀ x ∈ l, TextG x ∧ x.okT ∧ x.ftext.length ≤ 1000000000 := fun x hx => by
   have h5 := size_mem hx; have h6 := rowOkT_mem h4 hx; have h7 := ftext_len x h6
   exact ⟨ih x (by omega) (by omega) h6, h6, by omega⟩
  clear ih; have hl := length_rowSize l
  show Calls Tryz.prog 22 #[.agg #[.int .u8 k, .int .i64 n, str s, .slice a l.length c]] w (StrR w (Nd.mk k n s l).ftext)
  have hft : (Nd.mk k n s l).ftext = textN k n s (rowText l) (l.map fun t => (t.kind, t.num)) := by rw [Nd.ftext]
  rw [hft] at hlen ⊢; clear hft
  unfold textN at hlen ⊢
  have HA := Lib.hid (fun (hlen : (Lib.join (rowText l) [44, 32]).length ≤ 1000000000) => gList_c l (fun x hx => (hT x hx).1) (by omega) hlen)
  by_cases k0 : k = 80
  · subst k0
    rw [if_pos rfl]; refine calls_in Tryz.func22 Tryz.ntmps22 rfl rfl ?_
    focus
     refine cS ?_; (refine lw_box' [_, _, _, _] rfl rfl rfl ?_; intro b1 w2 n3); have h4 := n3.blk; have x5 := n3.ext; have p6 := n3.pos; have z7 := n3.size; clear n3; replace X := X.ext x5; replace hs' := Bk.rowSits.ext hs' x5; clear x5; refine cA rfl rfl (cT (cw_seq (cS (lw_pure (pur_fieldAddr0 tabOk rfl rfl rfl) rfl (lw_load_b tabOk rfl rfl rfl h4 rfl rfl (cT (cw_block (cS (lw_pure (pur_eql rfl rfl) rfl (cA rfl rfl (cT ?_))))))))))); refine cw_yes rfl (by decide) ?_; refine cS (lw_pure (pur_fieldAddr tabOk rfl rfl rfl) rfl (lw_load_b tabOk rfl rfl rfl h4 rfl rfl ?_)); refine cC (by kernel_rfl) rfl (decG_c _ _ (by omega) (by omega)) rfl ?_; rintro _ w9 ⟨⟨⟩, x8⟩; have z10 := x8.size; replace h4 := h4.ext x8; replace X := X.ext x8; replace hs' := Bk.rowSits.ext hs' x8; clear x8; refine cA rfl rfl (cT (cw_ret (qw_block_ret (qw_then_ret (qw_ret1 rfl rfl ?_))))); rotate_left 1
    exact strR rfl X
  by_cases k1 : k = 81
  · subst k1
    rw [if_neg (by decide), if_pos rfl]; refine calls_in Tryz.func22 Tryz.ntmps22 rfl rfl ?_
    focus
     refine cS ?_; (refine lw_box' [_, _, _, _] rfl rfl rfl ?_; intro ba1 wa2 na3); have ha4 := na3.blk; have xa5 := na3.ext; have pa6 := na3.pos; have za7 := na3.size; clear na3; replace X := X.ext xa5; replace hs' := Bk.rowSits.ext hs' xa5; clear xa5; refine cA rfl rfl (cT (cw_seq (cS (lw_pure (pur_fieldAddr0 tabOk rfl rfl rfl) rfl (lw_load_b tabOk rfl rfl rfl ha4 rfl rfl (cT (cw_block (cS (lw_pure (pur_eql rfl rfl) rfl (cA rfl rfl (cT ?_))))))))))); refine cw_no rfl (by assumption) ?_; refine cS (lw_pure (pur_eql rfl rfl) rfl (cA rfl rfl (cT ?_))); refine cw_yes rfl (by decide) ?_; refine cS (lw_pure (pur_fieldAddr tabOk rfl rfl rfl) rfl (lw_load_b tabOk rfl rfl rfl ha4 rfl rfl (cA rfl rfl (cT (cw_ret (qw_block_ret (qw_then_ret (qw_ret1 rfl rfl ?_)))))))); rotate_left 1
    exact strR rfl X
  by_cases k2 : k = 82
  · subst k2
    rw [if_neg (by decide), if_neg (by decide), if_pos rfl] at hlen ⊢; obtain ⟨n1, n2, n3⟩ := formN_82 h1; obtain ⟨x, y, rfl⟩ := len2 n3; obtain ⟨t1, t2, t3⟩ := hT x (by simp); obtain ⟨u1, u2, u3⟩ := hT y (by simp); have HO := Lib.hid (fun lv h2 S a c w h1 => gWrap_c x lv h2 t1 (okT_op t2) t3 S a c w h1); have HP := Lib.hid (fun lv h2 S a c w h1 => gWrap_c y lv h2 u1 (okT_op u2) u3 S a c w h1); simp only [rowText, List.map_cons, List.map_nil, List.getD_cons_zero, List.getD_cons_succ, List.length_append, List.length_cons, List.length_nil] at hlen ⊢
    generalize hq1 : wrapT (level n) (x.kind, x.num) x.ftext = q1 at *
    generalize hq2 : wrapT (level n + 1) (y.kind, y.num) y.ftext = q2 at *
    have hlv := level_bd n1 n2; have HO := Lib.hid (HO.out (level n) (by omega)); have HP := Lib.hid (HP.out (level n + 1) (by omega)); rw [hq1] at HO; rw [hq2] at HP; have hsl := symbol_len n1 n2; have HSy := Lib.hid (fun w => gSymbols_n n1 n2 w); clear t1 t2 t3 u1 u2 u3 hT HA hq1 hq2; have hs2 := hs'; obtain ⟨kb, ko, rfl, hkS, hkid⟩ := kidRows hs2 (by simp); obtain ⟨xa, xc, rx, sx⟩ := hkid 0 x rfl; obtain ⟨ya, yc, ry, sy⟩ := hkid 1 y rfl; clear hkid hs2; refine calls_in Tryz.func22 Tryz.ntmps22 rfl rfl ?_
    focus
     refine cS ?_; (refine lw_box' [_, _, _, _] rfl rfl rfl ?_; intro bb1 wb2 nb3); have hb4 := nb3.blk; have xb5 := nb3.ext; have pb6 := nb3.pos; have zb7 := nb3.size; clear nb3; replace X := X.ext xb5; replace hs' := Bk.rowSits.ext hs' xb5; replace rx := rx.ext xb5; replace sx := Nd.sits.ext sx xb5; replace ry := ry.ext xb5; replace sy := Nd.sits.ext sy xb5; clear xb5; refine cA rfl rfl (cT (cw_seq (cS (lw_pure (pur_fieldAddr0 tabOk rfl rfl rfl) rfl (lw_load_b tabOk rfl rfl rfl hb4 rfl rfl (cT (cw_block (cS (lw_pure (pur_eql rfl rfl) rfl (cA rfl rfl (cT ?_))))))))))); refine cw_no rfl (by assumption) ?_; refine cS (lw_pure (pur_eql rfl rfl) rfl (cA rfl rfl (cT ?_))); refine cw_no rfl (by assumption) ?_; refine cS (lw_pure (pur_eql rfl rfl) rfl (cA rfl rfl (cT ?_))); refine cw_yes rfl (by decide) ?_; refine cS (lw_loads_b' [_, _, _, _] tabOk rfl rfl rfl hb4 rfl rfl rfl ?_); refine cC (by kernel_rfl) rfl (gLevel_k n s [x, y] _ _ _ n1 n2) rfl ?_; rintro _ wb9 ⟨⟨⟩, xb8⟩; have zb10 := xb8.size; replace hb4 := hb4.ext xb8; replace X := X.ext xb8; replace hs' := Bk.rowSits.ext hs' xb8; replace rx := rx.ext xb8; replace sx := Nd.sits.ext sx xb8; replace ry := ry.ext xb8; replace sy := Nd.sits.ext sy xb8; clear xb8; refine cA rfl rfl (cT (cw_seq ?_)); (refine cw_tdraw (fun wz => Ext wb9 wz) 22 (.pure 0 (.pure 1 (.pure 2 (.pure 3 (.pure 4 (.pure 8 (.pure 9 (.pure 10 (.pure 15 (.pure 16 (.pure 17 (.pure 18 (.pure 19 (.pure 20 (.fork 5 (.pure 6 (.fork 7 (.pure 11 (.fork 12 (.pure 13 (.pure 14 (.fork 21 .tail .none))) (.fork 21 (.fork 12 (.pure 13 (.pure 14 .tail)) .none) .none))) .none)) .none))))))))))))))) mixed (by kernel_rfl) (panicOk_then (panicOk_block (panicOk_then panicOk_body))) ?_; intro wb11 xb12 _)
     have qsb13 : (fun wz => Ext wb9 wz) wb11 := xb12; simp only at qsb13; have d_hb4 := hb4; have d_hs' := hs'; have d_rx := rx; have d_sx := sx; have d_ry := ry; have d_sy := sy; have zb14 := xb12.size; replace hb4 := hb4.ext xb12; replace X := X.ext xb12; replace hs' := Bk.rowSits.ext hs' xb12; replace rx := rx.ext xb12; replace sx := Nd.sits.ext sx xb12; replace ry := ry.ext xb12; replace sy := Nd.sits.ext sy xb12; clear xb12; refine ⟨qsb13, ?_⟩; refine tw_pure rfl (pur_fieldAddr tabOk rfl rfl rfl) rfl (tw_pure rfl (pur_load tabOk rfl rfl rfl (fun wz hz => Blk.cell (Blk.ext d_hb4 hz) rfl)) rfl ?_); refine tw_pure rfl (pur_indexAddr tabOk rfl rfl rfl rfl (by omega) (by omega)) rfl ?_; refine tw_pure rfl (pur_loads_row' [_, _, _, _] tabOk rfl rfl rfl (fun wz hz => (Row.ext d_rx hz)) rfl rfl) rfl (tw_pure rfl (pur_move rfl) rfl (tw_pure rfl (pur_fieldAddr tabOk rfl rfl rfl) rfl (tw_pure rfl (pur_load tabOk rfl rfl rfl (fun wz hz => Blk.cell (Blk.ext d_hb4 hz) rfl)) rfl ?_))); refine tw_pure rfl (pur_sub rfl rfl (IntWalk.i64_in _ (by omega))) rfl ?_; refine tw_pure rfl (pur_fieldAddr tabOk rfl rfl rfl) rfl (tw_pure rfl (pur_load tabOk rfl rfl rfl (fun wz hz => Blk.cell (Blk.ext d_hb4 hz) rfl)) rfl ?_); refine tw_pure rfl (pur_indexAddr tabOk rfl rfl rfl rfl (by omega) (by omega)) rfl ?_; refine tw_pure rfl (pur_loads' tabOk rfl rfl rfl (fun wz hz => (Row.ext d_ry hz)) rfl) rfl (tw_pure rfl (pur_move rfl) rfl ?_); refine tw_pure rfl (pur_add rfl rfl (IntWalk.i64_in _ (by omega))) rfl ?_
     refine tw_does rfl (does_call (by kernel_rfl) rfl (HO.out _ _ _ _ (by assumption)) (fun _ _ h => ⟨_, h.1⟩)) rfl ?_ (fun _ h => h) tw_none; rintro _ wb17 ⟨⟨⟩, xb16⟩; have zb18 := xb16.size; replace qsb13 := qsb13.ext xb16; replace hb4 := hb4.ext xb16; replace X := X.ext xb16; replace hs' := Bk.rowSits.ext hs' xb16; replace rx := rx.ext xb16; replace sx := Nd.sits.ext sx xb16; replace ry := ry.ext xb16; replace sy := Nd.sits.ext sy xb16; clear xb16; refine ⟨qsb13, ?_⟩; refine tw_pure rfl (pur_sadd rfl rfl (by simp only [List.length_cons, List.length_nil]; omega)) rfl ?_; refine tw_does rfl (does_call (by kernel_rfl) rfl (HSy.out _) (fun _ _ ⟨_, h⟩ => ⟨_, h.1⟩)) rfl ?_ (fun _ h => h) tw_none; rintro _ wb23 ⟨bb20, ⟨⟨⟩, ⟨hb21, xb22⟩⟩⟩; have zb24 := xb22.size; replace qsb13 := qsb13.ext xb22; replace hb4 := hb4.ext xb22; replace X := X.ext xb22; replace hs' := Bk.rowSits.ext hs' xb22; replace rx := rx.ext xb22; replace sx := Nd.sits.ext sx xb22; replace ry := ry.ext xb22; replace sy := Nd.sits.ext sy xb22; clear xb22; refine ⟨qsb13, ?_⟩; refine tw_pure rfl (pur_indexAddr tabOk rfl rfl rfl rfl (by omega) (by omega)) rfl ?_; (refine tw_does rfl (does_pur (pur_load tabOk rfl rfl rfl (fun wz hz => by subst hz; exact Row.at0 hb21 rfl))) rfl ?_ (fun _ h => h) ?krb25; rintro _ _ ⟨rfl, rfl⟩); refine ⟨qsb13, ?_⟩; refine tw_pure rfl (pur_sadd rfl rfl (by simp only [List.length_append, List.length_cons, List.length_nil]; omega)) rfl ?_; refine tw_pure rfl (pur_sadd rfl rfl (by simp only [List.length_append, List.length_cons, List.length_nil]; omega)) rfl ?_
     refine tw_does rfl (does_call (by kernel_rfl) rfl (HP.out _ _ _ _ (by assumption)) (fun _ _ h => ⟨_, h.1⟩)) rfl ?_ (fun _ h => h) tw_none; rintro _ wb28 ⟨⟨⟩, xb27⟩; have zb29 := xb27.size; replace hb21 := hb21.ext xb27; replace qsb13 := qsb13.ext xb27; replace hb4 := hb4.ext xb27; replace X := X.ext xb27; replace hs' := Bk.rowSits.ext hs' xb27; replace rx := rx.ext xb27; replace sx := Nd.sits.ext sx xb27; replace ry := ry.ext xb27; replace sy := Nd.sits.ext sy xb27; clear xb27; refine ⟨qsb13, ?_⟩; clear d_hb4 d_hs' d_rx d_sx d_ry d_sy qsb13; refine tw_tail rfl ?_; refine lw_pure (pur_sadd rfl rfl (by simp only [List.length_append, List.length_cons, List.length_nil]; omega)) rfl ?_; refine cA rfl rfl (cT (cw_ret (qw_block_ret (qw_then_ret (qw_ret1 rfl rfl ?_))))); rotate_left 1; refine tw_does rfl (does_call (by kernel_rfl) rfl (HP.out _ _ _ _ (by assumption)) (fun _ _ h => ⟨_, h.1⟩)) rfl ?_ (fun _ h => h) tw_none; rintro _ wb32 ⟨⟨⟩, xb31⟩; have zb33 := xb31.size; replace hb21 := hb21.ext xb31; replace qsb13 := qsb13.ext xb31; replace hb4 := hb4.ext xb31; replace X := X.ext xb31; replace hs' := Bk.rowSits.ext hs' xb31; replace rx := rx.ext xb31; replace sx := Nd.sits.ext sx xb31; replace ry := ry.ext xb31; replace sy := Nd.sits.ext sy xb31; clear xb31; refine ⟨qsb13, ?_⟩; (refine tw_does rfl (does_pur (pur_load tabOk rfl rfl rfl (fun wz hz => by subst hz; exact Row.at0 hb21 rfl))) rfl ?_ (fun _ h => h) tw_none; rintro _ _ ⟨rfl, rfl⟩); refine ⟨qsb13, ?_⟩; refine tw_pure rfl (pur_sadd rfl rfl (by simp only [List.length_append, List.length_cons, List.length_nil]; omega)) rfl ?_
     refine tw_pure rfl (pur_sadd rfl rfl (by simp only [List.length_append, List.length_cons, List.length_nil]; omega)) rfl ?_; clear d_hb4 d_hs' d_rx d_sx d_ry d_sy qsb13; refine tw_tail rfl ?_; refine lw_pure (pur_sadd rfl rfl (by simp only [List.length_append, List.length_cons, List.length_nil]; omega)) rfl ?_; refine cA rfl rfl (cT (cw_ret (qw_block_ret (qw_then_ret (qw_ret1 rfl rfl ?_))))); rotate_left 1
    all_goals exact strR rfl X
  by_cases k3 : k = 83
  · subst k3
    rw [if_neg (by decide), if_neg (by decide), if_neg (by decide), if_pos rfl] at hlen ⊢; obtain ⟨x, y, z, rfl⟩ := len3 (formN_83' h1); have HO := Lib.hid (fun S a c w h1 => (hT x (by simp)).1 S a c w h1); have HP := Lib.hid (fun S a c w h1 => (hT y (by simp)).1 S a c w h1); have HQ := Lib.hid (fun S a c w h1 => (hT z (by simp)).1 S a c w h1); simp only [rowText, List.map_cons, List.map_nil, List.getD_cons_zero, List.getD_cons_succ, List.length_append, List.length_cons, List.length_nil] at hlen ⊢; clear hT HA; have hs2 := hs'; obtain ⟨kb, ko, rfl, hkS, hkid⟩ := kidRows hs2 (by simp); obtain ⟨xa, xc, rx, sx⟩ := hkid 0 x rfl; obtain ⟨ya, yc, ry, sy⟩ := hkid 1 y rfl; obtain ⟨za, zc, rz, sz⟩ := hkid 2 z rfl; clear hkid hs2
    generalize x.ftext = q1 at *
    generalize y.ftext = q2 at *
    generalize z.ftext = q3 at *
    refine calls_in Tryz.func22 Tryz.ntmps22 rfl rfl ?_
    focus
     refine cS ?_; (refine lw_box' [_, _, _, _] rfl rfl rfl ?_; intro bc1 wc2 nc3); have hc4 := nc3.blk; have xc5 := nc3.ext; have pc6 := nc3.pos; have zc7 := nc3.size; clear nc3; replace X := X.ext xc5; replace hs' := Bk.rowSits.ext hs' xc5; replace rx := rx.ext xc5; replace sx := Nd.sits.ext sx xc5; replace ry := ry.ext xc5; replace sy := Nd.sits.ext sy xc5; replace rz := rz.ext xc5; replace sz := Nd.sits.ext sz xc5; clear xc5; refine cA rfl rfl (cT (cw_seq (cS (lw_pure (pur_fieldAddr0 tabOk rfl rfl rfl) rfl (lw_load_b tabOk rfl rfl rfl hc4 rfl rfl (cT (cw_block (cS (lw_pure (pur_eql rfl rfl) rfl (cA rfl rfl (cT ?_))))))))))); refine cw_no rfl (by assumption) ?_; refine cS (lw_pure (pur_eql rfl rfl) rfl (cA rfl rfl (cT ?_))); refine cw_no rfl (by assumption) ?_; refine cS (lw_pure (pur_eql rfl rfl) rfl (cA rfl rfl (cT ?_))); refine cw_no rfl (by assumption) ?_; refine cS (lw_pure (pur_eql rfl rfl) rfl (cA rfl rfl (cT ?_))); refine cw_yes rfl (by decide) ?_; refine cw_seq ?_; (refine cw_tdraw (fun wz => Ext wc2 wz) 19 (.pure 0 (.pure 1 (.pure 2 (.pure 3 (.pure 7 (.pure 8 (.pure 9 (.pure 10 (.pure 14 (.pure 15 (.pure 16 (.pure 17 (.fork 4 (.pure 5 (.pure 6 (.fork 11 (.pure 12 (.pure 13 (.fork 18 .tail .none))) .none))) .none))))))))))))) mixed (by kernel_rfl) (panicOk_then (panicOk_block (panicOk_then panicOk_body))) ?_; intro wc8 xc9 _); have qsc10 : (fun wz => Ext wc2 wz) wc8 := xc9; simp only at qsc10; have d_hc4 := hc4; have d_hs' := hs'; have d_rx := rx; have d_sx := sx; have d_ry := ry
     have d_sy := sy; have d_rz := rz; have d_sz := sz; have zc11 := xc9.size; replace hc4 := hc4.ext xc9; replace X := X.ext xc9; replace hs' := Bk.rowSits.ext hs' xc9; replace rx := rx.ext xc9; replace sx := Nd.sits.ext sx xc9; replace ry := ry.ext xc9; replace sy := Nd.sits.ext sy xc9; replace rz := rz.ext xc9; replace sz := Nd.sits.ext sz xc9; clear xc9; refine ⟨qsc10, ?_⟩; refine tw_pure rfl (pur_fieldAddr tabOk rfl rfl rfl) rfl (tw_pure rfl (pur_load tabOk rfl rfl rfl (fun wz hz => Blk.cell (Blk.ext d_hc4 hz) rfl)) rfl ?_); refine tw_pure rfl (pur_indexAddr tabOk rfl rfl rfl rfl (by omega) (by omega)) rfl ?_; refine tw_pure rfl (pur_loads_row' [_, _, _, _] tabOk rfl rfl rfl (fun wz hz => (Row.ext d_rx hz)) rfl rfl) rfl (tw_pure rfl (pur_fieldAddr tabOk rfl rfl rfl) rfl (tw_pure rfl (pur_load tabOk rfl rfl rfl (fun wz hz => Blk.cell (Blk.ext d_hc4 hz) rfl)) rfl ?_)); refine tw_pure rfl (pur_indexAddr tabOk rfl rfl rfl rfl (by omega) (by omega)) rfl ?_; refine tw_pure rfl (pur_loads' tabOk rfl rfl rfl (fun wz hz => (Row.ext d_ry hz)) rfl) rfl (tw_pure rfl (pur_fieldAddr tabOk rfl rfl rfl) rfl (tw_pure rfl (pur_load tabOk rfl rfl rfl (fun wz hz => Blk.cell (Blk.ext d_hc4 hz) rfl)) rfl ?_)); refine tw_pure rfl (pur_indexAddr tabOk rfl rfl rfl rfl (by omega) (by omega)) rfl ?_; refine tw_pure rfl (pur_loads' tabOk rfl rfl rfl (fun wz hz => (Row.ext d_rz hz)) rfl) rfl ?_; refine tw_does rfl (does_call (by kernel_rfl) rfl (HO.out _ _ _ _ (by assumption)) (fun _ _ h => ⟨_, h.1⟩)) rfl ?_ (fun _ h => h) tw_none
     rintro _ wc14 ⟨⟨⟩, xc13⟩; have zc15 := xc13.size; replace qsc10 := qsc10.ext xc13; replace hc4 := hc4.ext xc13; replace X := X.ext xc13; replace hs' := Bk.rowSits.ext hs' xc13; replace rx := rx.ext xc13; replace sx := Nd.sits.ext sx xc13; replace ry := ry.ext xc13; replace sy := Nd.sits.ext sy xc13; replace rz := rz.ext xc13; replace sz := Nd.sits.ext sz xc13; clear xc13; refine ⟨qsc10, ?_⟩; refine tw_pure rfl (pur_sadd rfl rfl (by simp only [List.length_cons, List.length_nil]; omega)) rfl ?_; refine tw_pure rfl (pur_sadd rfl rfl (by simp only [List.length_append, List.length_cons, List.length_nil]; omega)) rfl ?_; refine tw_does rfl (does_call (by kernel_rfl) rfl (HP.out _ _ _ _ (by assumption)) (fun _ _ h => ⟨_, h.1⟩)) rfl ?_ (fun _ h => h) tw_none; rintro _ wc18 ⟨⟨⟩, xc17⟩; have zc19 := xc17.size; replace qsc10 := qsc10.ext xc17; replace hc4 := hc4.ext xc17; replace X := X.ext xc17; replace hs' := Bk.rowSits.ext hs' xc17; replace rx := rx.ext xc17; replace sx := Nd.sits.ext sx xc17; replace ry := ry.ext xc17; replace sy := Nd.sits.ext sy xc17; replace rz := rz.ext xc17; replace sz := Nd.sits.ext sz xc17; clear xc17; refine ⟨qsc10, ?_⟩; refine tw_pure rfl (pur_sadd rfl rfl (by simp only [List.length_append, List.length_cons, List.length_nil]; omega)) rfl ?_; refine tw_pure rfl (pur_sadd rfl rfl (by simp only [List.length_append, List.length_cons, List.length_nil]; omega)) rfl ?_; refine tw_does rfl (does_call (by kernel_rfl) rfl (HQ.out _ _ _ _ (by assumption)) (fun _ _ h => ⟨_, h.1⟩)) rfl ?_ (fun _ h => h) tw_none
     rintro _ wc22 ⟨⟨⟩, xc21⟩; have zc23 := xc21.size; replace qsc10 := qsc10.ext xc21; replace hc4 := hc4.ext xc21; replace X := X.ext xc21; replace hs' := Bk.rowSits.ext hs' xc21; replace rx := rx.ext xc21; replace sx := Nd.sits.ext sx xc21; replace ry := ry.ext xc21; replace sy := Nd.sits.ext sy xc21; replace rz := rz.ext xc21; replace sz := Nd.sits.ext sz xc21; clear xc21; refine ⟨qsc10, ?_⟩; clear d_hc4 d_hs' d_rx d_sx d_ry d_sy d_rz d_sz qsc10; refine tw_tail rfl ?_; refine lw_pure (pur_sadd rfl rfl (by simp only [List.length_append, List.length_cons, List.length_nil]; omega)) rfl ?_; refine lw_pure (pur_sadd rfl rfl (by simp only [List.length_append, List.length_cons, List.length_nil]; omega)) rfl ?_; refine cA rfl rfl (cT (cw_ret (qw_block_ret (qw_then_ret (qw_ret1 rfl rfl ?_))))); rotate_left 1
    exact strR rfl X
  by_cases k4 : k = 84
  · subst k4
    rw [if_neg (by decide), if_neg (by decide), if_neg (by decide), if_neg (by decide), if_pos rfl] at hlen ⊢; obtain ⟨x, y, rfl⟩ := len2 (formN_84 h1).2; have HO := Lib.hid (fun S a c w h1 => (hT x (by simp)).1 S a c w h1); have HP := Lib.hid (fun S a c w h1 => (hT y (by simp)).1 S a c w h1); simp only [rowText, List.map_cons, List.map_nil, List.getD_cons_zero, List.getD_cons_succ, List.length_append, List.length_cons, List.length_nil] at hlen ⊢; clear hT HA; have hs2 := hs'; obtain ⟨kb, ko, rfl, hkS, hkid⟩ := kidRows hs2 (by simp); obtain ⟨xa, xc, rx, sx⟩ := hkid 0 x rfl; obtain ⟨ya, yc, ry, sy⟩ := hkid 1 y rfl; clear hkid hs2
    generalize x.ftext = q1 at *
    generalize y.ftext = q2 at *
    refine calls_in Tryz.func22 Tryz.ntmps22 rfl rfl ?_
    focus
     refine cS ?_; (refine lw_box' [_, _, _, _] rfl rfl rfl ?_; intro bd1 wd2 nd3); have hd4 := nd3.blk; have xd5 := nd3.ext; have pd6 := nd3.pos; have zd7 := nd3.size; clear nd3; replace X := X.ext xd5; replace hs' := Bk.rowSits.ext hs' xd5; replace rx := rx.ext xd5; replace sx := Nd.sits.ext sx xd5; replace ry := ry.ext xd5; replace sy := Nd.sits.ext sy xd5; clear xd5; refine cA rfl rfl (cT (cw_seq (cS (lw_pure (pur_fieldAddr0 tabOk rfl rfl rfl) rfl (lw_load_b tabOk rfl rfl rfl hd4 rfl rfl (cT (cw_block (cS (lw_pure (pur_eql rfl rfl) rfl (cA rfl rfl (cT ?_))))))))))); refine cw_no rfl (by assumption) ?_; refine cS (lw_pure (pur_eql rfl rfl) rfl (cA rfl rfl (cT ?_))); refine cw_no rfl (by assumption) ?_; refine cS (lw_pure (pur_eql rfl rfl) rfl (cA rfl rfl (cT ?_))); refine cw_no rfl (by assumption) ?_; refine cS (lw_pure (pur_eql rfl rfl) rfl (cA rfl rfl (cT ?_))); refine cw_no rfl (by assumption) ?_; refine cS (lw_pure (pur_eql rfl rfl) rfl (cA rfl rfl (cT ?_))); refine cw_yes rfl (by decide) ?_; refine cw_seq ?_; (refine cw_tdraw (fun wz => Ext wd2 wz) 16 (.pure 0 (.pure 1 (.pure 2 (.pure 3 (.pure 4 (.pure 5 (.pure 6 (.pure 7 (.pure 11 (.pure 12 (.pure 13 (.pure 14 (.fork 8 (.pure 9 (.pure 10 (.fork 15 .tail .none))) .none))))))))))))) mixed (by kernel_rfl) (panicOk_then (panicOk_block (panicOk_then panicOk_body))) ?_; intro wd8 xd9 _); have qsd10 : (fun wz => Ext wd2 wz) wd8 := xd9; simp only at qsd10; have d_hd4 := hd4; have d_hs' := hs'; have d_rx := rx; have d_sx := sx
     have d_ry := ry; have d_sy := sy; have zd11 := xd9.size; replace hd4 := hd4.ext xd9; replace X := X.ext xd9; replace hs' := Bk.rowSits.ext hs' xd9; replace rx := rx.ext xd9; replace sx := Nd.sits.ext sx xd9; replace ry := ry.ext xd9; replace sy := Nd.sits.ext sy xd9; clear xd9; refine ⟨qsd10, ?_⟩; refine tw_pure rfl (pur_fieldAddr tabOk rfl rfl rfl) rfl (tw_pure rfl (pur_load tabOk rfl rfl rfl (fun wz hz => Blk.cell (Blk.ext d_hd4 hz) rfl)) rfl ?_); refine tw_pure rfl (pur_sadd rfl rfl (by simp only [List.length_cons, List.length_nil]; omega)) rfl ?_; refine tw_pure rfl (pur_sadd rfl rfl (by simp only [List.length_append, List.length_cons, List.length_nil]; omega)) rfl ?_; refine tw_pure rfl (pur_fieldAddr tabOk rfl rfl rfl) rfl (tw_pure rfl (pur_load tabOk rfl rfl rfl (fun wz hz => Blk.cell (Blk.ext d_hd4 hz) rfl)) rfl ?_); refine tw_pure rfl (pur_indexAddr tabOk rfl rfl rfl rfl (by omega) (by omega)) rfl ?_; refine tw_pure rfl (pur_loads_row' [_, _, _, _] tabOk rfl rfl rfl (fun wz hz => (Row.ext d_rx hz)) rfl rfl) rfl (tw_pure rfl (pur_fieldAddr tabOk rfl rfl rfl) rfl (tw_pure rfl (pur_load tabOk rfl rfl rfl (fun wz hz => Blk.cell (Blk.ext d_hd4 hz) rfl)) rfl ?_)); refine tw_pure rfl (pur_indexAddr tabOk rfl rfl rfl rfl (by omega) (by omega)) rfl ?_; refine tw_pure rfl (pur_loads' tabOk rfl rfl rfl (fun wz hz => (Row.ext d_ry hz)) rfl) rfl ?_; refine tw_does rfl (does_call (by kernel_rfl) rfl (HO.out _ _ _ _ (by assumption)) (fun _ _ h => ⟨_, h.1⟩)) rfl ?_ (fun _ h => h) tw_none
     rintro _ wd14 ⟨⟨⟩, xd13⟩; have zd15 := xd13.size; replace qsd10 := qsd10.ext xd13; replace hd4 := hd4.ext xd13; replace X := X.ext xd13; replace hs' := Bk.rowSits.ext hs' xd13; replace rx := rx.ext xd13; replace sx := Nd.sits.ext sx xd13; replace ry := ry.ext xd13; replace sy := Nd.sits.ext sy xd13; clear xd13; refine ⟨qsd10, ?_⟩; refine tw_pure rfl (pur_sadd rfl rfl (by simp only [List.length_append, List.length_cons, List.length_nil]; omega)) rfl ?_; refine tw_pure rfl (pur_sadd rfl rfl (by simp only [List.length_append, List.length_cons, List.length_nil]; omega)) rfl ?_; refine tw_does rfl (does_call (by kernel_rfl) rfl (HP.out _ _ _ _ (by assumption)) (fun _ _ h => ⟨_, h.1⟩)) rfl ?_ (fun _ h => h) tw_none; rintro _ wd18 ⟨⟨⟩, xd17⟩; have zd19 := xd17.size; replace qsd10 := qsd10.ext xd17; replace hd4 := hd4.ext xd17; replace X := X.ext xd17; replace hs' := Bk.rowSits.ext hs' xd17; replace rx := rx.ext xd17; replace sx := Nd.sits.ext sx xd17; replace ry := ry.ext xd17; replace sy := Nd.sits.ext sy xd17; clear xd17; refine ⟨qsd10, ?_⟩; clear d_hd4 d_hs' d_rx d_sx d_ry d_sy qsd10; refine tw_tail rfl ?_; refine lw_pure (pur_sadd rfl rfl (by simp only [List.length_append, List.length_cons, List.length_nil]; omega)) rfl ?_; refine lw_pure (pur_sadd rfl rfl (by simp only [List.length_append, List.length_cons, List.length_nil]; omega)) rfl ?_; refine cA rfl rfl (cT (cw_ret (qw_block_ret (qw_then_ret (qw_ret1 rfl rfl ?_))))); rotate_left 1
    exact strR rfl X
  by_cases k6 : k = 86
  · subst k6
    rw [if_neg (by decide), if_neg (by decide), if_neg (by decide), if_neg (by decide), if_neg (by decide), if_pos rfl]; refine calls_in Tryz.func22 Tryz.ntmps22 rfl rfl ?_
    focus
     refine cS ?_; (refine lw_box' [_, _, _, _] rfl rfl rfl ?_; intro be1 we2 ne3); have he4 := ne3.blk; have xe5 := ne3.ext; have pe6 := ne3.pos; have ze7 := ne3.size; clear ne3; replace X := X.ext xe5; replace hs' := Bk.rowSits.ext hs' xe5; clear xe5; refine cA rfl rfl (cT (cw_seq (cS (lw_pure (pur_fieldAddr0 tabOk rfl rfl rfl) rfl (lw_load_b tabOk rfl rfl rfl he4 rfl rfl (cT (cw_block (cS (lw_pure (pur_eql rfl rfl) rfl (cA rfl rfl (cT ?_))))))))))); refine cw_no rfl (by assumption) ?_; refine cS (lw_pure (pur_eql rfl rfl) rfl (cA rfl rfl (cT ?_))); refine cw_no rfl (by assumption) ?_; refine cS (lw_pure (pur_eql rfl rfl) rfl (cA rfl rfl (cT ?_))); refine cw_no rfl (by assumption) ?_; refine cS (lw_pure (pur_eql rfl rfl) rfl (cA rfl rfl (cT ?_))); refine cw_no rfl (by assumption) ?_; refine cS (lw_pure (pur_eql rfl rfl) rfl (cA rfl rfl (cT ?_))); refine cw_no rfl (by assumption) ?_; refine cS (lw_pure (pur_eql rfl rfl) rfl (cA rfl rfl (cT ?_))); refine cw_no rfl (by decide) ?_; refine cS (lw_pure (pur_eql rfl rfl) rfl (cA rfl rfl (cT ?_))); refine cw_yes rfl (by decide) ?_; refine cS (cA rfl rfl (cT (cw_ret (qw_block_ret (qw_then_ret (qw_ret1 rfl rfl ?_)))))); rotate_left 1
    exact strR rfl X
  by_cases k7 : k = 87
  · subst k7
    rw [if_neg (by decide), if_neg (by decide), if_neg (by decide), if_neg (by decide), if_neg (by decide), if_neg (by decide), if_pos rfl] at hlen ⊢
    unfold appT at hlen ⊢
    simp only [List.length_append, List.length_cons, List.length_nil] at hlen; have HA := Lib.hid (HA.out (by omega))
    generalize Lib.join (rowText l) [44, 32] = q at *
    refine calls_in Tryz.func22 Tryz.ntmps22 rfl rfl ?_
    focus
     refine cS ?_; (refine lw_box' [_, _, _, _] rfl rfl rfl ?_; intro bf1 wf2 nf3); have hf4 := nf3.blk; have xf5 := nf3.ext; have pf6 := nf3.pos; have zf7 := nf3.size; clear nf3; replace X := X.ext xf5; replace hs' := Bk.rowSits.ext hs' xf5; clear xf5; refine cA rfl rfl (cT (cw_seq (cS (lw_pure (pur_fieldAddr0 tabOk rfl rfl rfl) rfl (lw_load_b tabOk rfl rfl rfl hf4 rfl rfl (cT (cw_block (cS (lw_pure (pur_eql rfl rfl) rfl (cA rfl rfl (cT ?_))))))))))); refine cw_no rfl (by assumption) ?_; refine cS (lw_pure (pur_eql rfl rfl) rfl (cA rfl rfl (cT ?_))); refine cw_no rfl (by assumption) ?_; refine cS (lw_pure (pur_eql rfl rfl) rfl (cA rfl rfl (cT ?_))); refine cw_no rfl (by assumption) ?_; refine cS (lw_pure (pur_eql rfl rfl) rfl (cA rfl rfl (cT ?_))); refine cw_no rfl (by assumption) ?_; refine cS (lw_pure (pur_eql rfl rfl) rfl (cA rfl rfl (cT ?_))); refine cw_no rfl (by assumption) ?_; refine cS (lw_pure (pur_eql rfl rfl) rfl (cA rfl rfl (cT ?_))); refine cw_no rfl (by decide) ?_; refine cS (lw_pure (pur_eql rfl rfl) rfl (cA rfl rfl (cT ?_))); refine cw_no rfl (by assumption) ?_; refine cS (lw_pure (pur_eql rfl rfl) rfl (cA rfl rfl (cT ?_))); refine cw_yes rfl (by decide) ?_; refine cS (lw_pure (pur_fieldAddr tabOk rfl rfl rfl) rfl (lw_load_b tabOk rfl rfl rfl hf4 rfl rfl ?_)); refine cC (by kernel_rfl) rfl (HA.out _ _ _ _ (by assumption)) rfl ?_; rintro _ wf9 ⟨⟨⟩, xf8⟩; have zf10 := xf8.size; replace hf4 := hf4.ext xf8; replace X := X.ext xf8; replace hs' := Bk.rowSits.ext hs' xf8
     clear xf8; refine lw_pure (pur_sadd rfl rfl (by simp only [List.length_cons, List.length_nil]; omega)) rfl ?_; refine lw_pure (pur_sadd rfl rfl (by simp only [List.length_append, List.length_cons, List.length_nil]; omega)) rfl ?_; refine cA rfl rfl (cT (cw_ret (qw_block_ret (qw_then_ret (qw_ret1 rfl rfl ?_))))); rotate_left 1
    exact strR rfl X
  by_cases k9 : k = 89
  · subst k9
    rw [if_neg (by decide), if_neg (by decide), if_neg (by decide), if_neg (by decide), if_neg (by decide), if_neg (by decide), if_neg (by decide), if_pos rfl] at hlen ⊢
    unfold appT at hlen ⊢
    simp only [List.length_append, List.length_cons, List.length_nil] at hlen; have HA := Lib.hid (HA.out (by omega))
    generalize Lib.join (rowText l) [44, 32] = q at *
    refine calls_in Tryz.func22 Tryz.ntmps22 rfl rfl ?_
    focus
     refine cS ?_; (refine lw_box' [_, _, _, _] rfl rfl rfl ?_; intro bg1 wg2 ng3); have hg4 := ng3.blk; have xg5 := ng3.ext; have pg6 := ng3.pos; have zg7 := ng3.size; clear ng3; replace X := X.ext xg5; replace hs' := Bk.rowSits.ext hs' xg5; clear xg5; refine cA rfl rfl (cT (cw_seq (cS (lw_pure (pur_fieldAddr0 tabOk rfl rfl rfl) rfl (lw_load_b tabOk rfl rfl rfl hg4 rfl rfl (cT (cw_block (cS (lw_pure (pur_eql rfl rfl) rfl (cA rfl rfl (cT ?_))))))))))); refine cw_no rfl (by assumption) ?_; refine cS (lw_pure (pur_eql rfl rfl) rfl (cA rfl rfl (cT ?_))); refine cw_no rfl (by assumption) ?_; refine cS (lw_pure (pur_eql rfl rfl) rfl (cA rfl rfl (cT ?_))); refine cw_no rfl (by assumption) ?_; refine cS (lw_pure (pur_eql rfl rfl) rfl (cA rfl rfl (cT ?_))); refine cw_no rfl (by assumption) ?_; refine cS (lw_pure (pur_eql rfl rfl) rfl (cA rfl rfl (cT ?_))); refine cw_no rfl (by assumption) ?_; refine cS (lw_pure (pur_eql rfl rfl) rfl (cA rfl rfl (cT ?_))); refine cw_no rfl (by decide) ?_; refine cS (lw_pure (pur_eql rfl rfl) rfl (cA rfl rfl (cT ?_))); refine cw_no rfl (by assumption) ?_; refine cS (lw_pure (pur_eql rfl rfl) rfl (cA rfl rfl (cT ?_))); refine cw_no rfl (by assumption) ?_; refine cS (lw_pure (pur_eql rfl rfl) rfl (cA rfl rfl (cT ?_))); refine cw_no rfl (by decide) ?_; refine cS (lw_pure (pur_eql rfl rfl) rfl (cA rfl rfl (cT ?_))); refine cw_yes rfl (by decide) ?_; refine cS (lw_pure (pur_fieldAddr tabOk rfl rfl rfl) rfl (lw_load_b tabOk rfl rfl rfl hg4 rfl rfl ?_)); refine cC (by kernel_rfl) rfl (HA.out _ _ _ _ (by assumption)) rfl ?_
     rintro _ wg9 ⟨⟨⟩, xg8⟩; have zg10 := xg8.size; replace hg4 := hg4.ext xg8; replace X := X.ext xg8; replace hs' := Bk.rowSits.ext hs' xg8; clear xg8; refine lw_pure (pur_sadd rfl rfl (by simp only [List.length_cons, List.length_nil]; omega)) rfl ?_; refine lw_pure (pur_sadd rfl rfl (by simp only [List.length_append, List.length_cons, List.length_nil]; omega)) rfl ?_; refine cA rfl rfl (cT (cw_ret (qw_block_ret (qw_then_ret (qw_ret1 rfl rfl ?_))))); rotate_left 1
    exact strR rfl X
  by_cases k8 : k = 88
  · subst k8
    rw [if_neg (by decide), if_neg (by decide), if_neg (by decide), if_neg (by decide), if_neg (by decide), if_neg (by decide), if_neg (by decide), if_neg (by decide), if_pos rfl] at hlen ⊢
    unfold appT at hlen ⊢
    simp only [List.length_append, List.length_cons, List.length_nil] at hlen; have HA := Lib.hid (HA.out (by omega))
    generalize Lib.join (rowText l) [44, 32] = q at *
    refine calls_in Tryz.func22 Tryz.ntmps22 rfl rfl ?_
    focus
     refine cS ?_; (refine lw_box' [_, _, _, _] rfl rfl rfl ?_; intro bh1 wh2 nh3); have hh4 := nh3.blk; have xh5 := nh3.ext; have ph6 := nh3.pos; have zh7 := nh3.size; clear nh3; replace X := X.ext xh5; replace hs' := Bk.rowSits.ext hs' xh5; clear xh5; refine cA rfl rfl (cT (cw_seq (cS (lw_pure (pur_fieldAddr0 tabOk rfl rfl rfl) rfl (lw_load_b tabOk rfl rfl rfl hh4 rfl rfl (cT (cw_block (cS (lw_pure (pur_eql rfl rfl) rfl (cA rfl rfl (cT ?_))))))))))); refine cw_no rfl (by assumption) ?_; refine cS (lw_pure (pur_eql rfl rfl) rfl (cA rfl rfl (cT ?_))); refine cw_no rfl (by assumption) ?_; refine cS (lw_pure (pur_eql rfl rfl) rfl (cA rfl rfl (cT ?_))); refine cw_no rfl (by assumption) ?_; refine cS (lw_pure (pur_eql rfl rfl) rfl (cA rfl rfl (cT ?_))); refine cw_no rfl (by assumption) ?_; refine cS (lw_pure (pur_eql rfl rfl) rfl (cA rfl rfl (cT ?_))); refine cw_no rfl (by assumption) ?_; refine cS (lw_pure (pur_eql rfl rfl) rfl (cA rfl rfl (cT ?_))); refine cw_no rfl (by decide) ?_; refine cS (lw_pure (pur_eql rfl rfl) rfl (cA rfl rfl (cT ?_))); refine cw_no rfl (by assumption) ?_; refine cS (lw_pure (pur_eql rfl rfl) rfl (cA rfl rfl (cT ?_))); refine cw_no rfl (by assumption) ?_; refine cS (lw_pure (pur_eql rfl rfl) rfl (cA rfl rfl (cT ?_))); refine cw_yes rfl (by decide) ?_; refine cS (lw_pure (pur_fieldAddr tabOk rfl rfl rfl) rfl (lw_load_b tabOk rfl rfl rfl hh4 rfl rfl ?_)); refine cC (by kernel_rfl) rfl (HA.out _ _ _ _ (by assumption)) rfl ?_; rintro _ wh9 ⟨⟨⟩, xh8⟩; have zh10 := xh8.size
     replace hh4 := hh4.ext xh8; replace X := X.ext xh8; replace hs' := Bk.rowSits.ext hs' xh8; clear xh8; refine lw_pure (pur_sadd rfl rfl (by simp only [List.length_cons, List.length_nil]; omega)) rfl ?_; refine lw_pure (pur_sadd rfl rfl (by simp only [List.length_append, List.length_cons, List.length_nil]; omega)) rfl ?_; refine cA rfl rfl (cT (cw_ret (qw_block_ret (qw_then_ret (qw_ret1 rfl rfl ?_))))); rotate_left 1
    exact strR rfl X
  by_cases k10 : k = 90
  · subst k10
    rw [if_neg (by decide), if_neg (by decide), if_neg (by decide), if_neg (by decide), if_neg (by decide), if_neg (by decide), if_neg (by decide), if_neg (by decide), if_neg (by decide), if_pos rfl] at hlen ⊢; obtain ⟨x, rfl⟩ := len1 (formN_90 h1); obtain ⟨t1, t2, t3⟩ := hT x (by simp); have HO := Lib.hid (fun S a c w h1 => gWrap_c x 9 (by decide) t1 (okT_op t2) t3 S a c w h1); simp only [rowText, List.map_cons, List.map_nil, List.getD_cons_zero, List.getD_cons_succ, List.length_append, List.length_cons, List.length_nil] at hlen ⊢
    generalize wrapT 9 (x.kind, x.num) x.ftext = q1 at *
    clear hT HA t1 t2 t3; have hs2 := hs'; obtain ⟨kb, ko, rfl, hkS, hkid⟩ := kidRows hs2 (by simp); obtain ⟨xa, xc, rx, sx⟩ := hkid 0 x rfl; clear hkid hs2; refine calls_in Tryz.func22 Tryz.ntmps22 rfl rfl ?_
    focus
     refine cS ?_; (refine lw_box' [_, _, _, _] rfl rfl rfl ?_; intro bi1 wi2 ni3); have hi4 := ni3.blk; have xi5 := ni3.ext; have pi6 := ni3.pos; have zi7 := ni3.size; clear ni3; replace X := X.ext xi5; replace hs' := Bk.rowSits.ext hs' xi5; replace rx := rx.ext xi5; replace sx := Nd.sits.ext sx xi5; clear xi5; refine cA rfl rfl (cT (cw_seq (cS (lw_pure (pur_fieldAddr0 tabOk rfl rfl rfl) rfl (lw_load_b tabOk rfl rfl rfl hi4 rfl rfl (cT (cw_block (cS (lw_pure (pur_eql rfl rfl) rfl (cA rfl rfl (cT ?_))))))))))); refine cw_no rfl (by assumption) ?_; refine cS (lw_pure (pur_eql rfl rfl) rfl (cA rfl rfl (cT ?_))); refine cw_no rfl (by assumption) ?_; refine cS (lw_pure (pur_eql rfl rfl) rfl (cA rfl rfl (cT ?_))); refine cw_no rfl (by assumption) ?_; refine cS (lw_pure (pur_eql rfl rfl) rfl (cA rfl rfl (cT ?_))); refine cw_no rfl (by assumption) ?_; refine cS (lw_pure (pur_eql rfl rfl) rfl (cA rfl rfl (cT ?_))); refine cw_no rfl (by assumption) ?_; refine cS (lw_pure (pur_eql rfl rfl) rfl (cA rfl rfl (cT ?_))); refine cw_no rfl (by decide) ?_; refine cS (lw_pure (pur_eql rfl rfl) rfl (cA rfl rfl (cT ?_))); refine cw_no rfl (by assumption) ?_; refine cS (lw_pure (pur_eql rfl rfl) rfl (cA rfl rfl (cT ?_))); refine cw_no rfl (by assumption) ?_; refine cS (lw_pure (pur_eql rfl rfl) rfl (cA rfl rfl (cT ?_))); refine cw_no rfl (by assumption) ?_; refine cS (lw_pure (pur_eql rfl rfl) rfl (cA rfl rfl (cT ?_))); refine cw_no rfl (by assumption) ?_; refine cw_skip (qw_block_norm (qw_then (cS (lw_pure (pur_fieldAddr tabOk rfl rfl rfl) rfl (lw_load_b tabOk rfl rfl rfl hi4 rfl rfl ?_)))))
     refine lw_pure (pur_indexAddr tabOk rfl rfl rfl rfl (by omega) (by omega)) rfl ?_; refine lw_loads_r' [_, _, _, _] tabOk rfl rfl rfl rx rfl rfl rfl ?_; refine cC (by kernel_rfl) rfl (HO.out _ _ _ _ (by assumption)) rfl ?_; rintro _ wi9 ⟨⟨⟩, xi8⟩; have zi10 := xi8.size; replace hi4 := hi4.ext xi8; replace X := X.ext xi8; replace hs' := Bk.rowSits.ext hs' xi8; replace rx := rx.ext xi8; replace sx := Nd.sits.ext sx xi8; clear xi8; refine lw_pure (pur_sadd rfl rfl (by simp only [List.length_cons, List.length_nil]; omega)) rfl ?_; refine cA rfl rfl (cT (cw_ret (qw_ret1 rfl rfl ?_))); rotate_left 1
    exact strR rfl X
  by_cases k5 : k = 85
  case neg => exact absurd h1 (by unfold formN; simp [k0, k1, k2, k3, k4, k5, k6, k7, k8, k9, k10])
  rw [if_neg k0, if_neg k1, if_neg k2, if_neg k3, if_neg k4, if_neg k6, if_neg k7, if_neg k9, if_neg k8, if_neg k10] at hlen ⊢
  unfold appT at hlen ⊢
  simp only [List.length_append, List.length_cons, List.length_nil] at hlen; have HA := Lib.hid (HA.out (by omega))
  generalize Lib.join (rowText l) [44, 32] = q at *
  refine calls_in Tryz.func22 Tryz.ntmps22 rfl rfl ?_
  focus
   refine cS ?_; (refine lw_box' [_, _, _, _] rfl rfl rfl ?_; intro bj1 wj2 nj3); have hj4 := nj3.blk; have xj5 := nj3.ext; have pj6 := nj3.pos; have zj7 := nj3.size; clear nj3; replace X := X.ext xj5; replace hs' := Bk.rowSits.ext hs' xj5; clear xj5; refine cA rfl rfl (cT (cw_seq (cS (lw_pure (pur_fieldAddr0 tabOk rfl rfl rfl) rfl (lw_load_b tabOk rfl rfl rfl hj4 rfl rfl (cT (cw_block (cS (lw_pure (pur_eql rfl rfl) rfl (cA rfl rfl (cT ?_))))))))))); refine cw_no rfl (by assumption) ?_; refine cS (lw_pure (pur_eql rfl rfl) rfl (cA rfl rfl (cT ?_))); refine cw_no rfl (by assumption) ?_; refine cS (lw_pure (pur_eql rfl rfl) rfl (cA rfl rfl (cT ?_))); refine cw_no rfl (by assumption) ?_; refine cS (lw_pure (pur_eql rfl rfl) rfl (cA rfl rfl (cT ?_))); refine cw_no rfl (by assumption) ?_; refine cS (lw_pure (pur_eql rfl rfl) rfl (cA rfl rfl (cT ?_))); refine cw_no rfl (by assumption) ?_; refine cS (lw_pure (pur_eql rfl rfl) rfl (cA rfl rfl (cT ?_))); refine cw_yes rfl (by assumption) ?_; refine cw_seq ?_; (refine cw_tdraw (fun wz => Ext wj2 wz) 6 (.pure 0 (.pure 1 (.pure 2 (.pure 3 (.pure 4 (.fork 5 .tail .none)))))) mixed (by kernel_rfl) (panicOk_then (panicOk_block (panicOk_then panicOk_body))) ?_; intro wj8 xj9 _); have qsj10 : (fun wz => Ext wj2 wz) wj8 := xj9; simp only at qsj10; have d_hj4 := hj4; have d_hs' := hs'; have zj11 := xj9.size; replace hj4 := hj4.ext xj9; replace X := X.ext xj9; replace hs' := Bk.rowSits.ext hs' xj9; clear xj9; refine ⟨qsj10, ?_⟩; refine tw_pure rfl (pur_fieldAddr tabOk rfl rfl rfl) rfl (tw_pure rfl (pur_load tabOk rfl rfl rfl (fun wz hz => Blk.cell (Blk.ext d_hj4 hz) rfl)) rfl ?_)
   refine tw_pure rfl (pur_sadd rfl rfl (by simp only [List.length_cons, List.length_nil]; omega)) rfl ?_; refine tw_pure rfl (pur_fieldAddr tabOk rfl rfl rfl) rfl (tw_pure rfl (pur_load tabOk rfl rfl rfl (fun wz hz => Blk.cell (Blk.ext d_hj4 hz) rfl)) rfl ?_); refine tw_does rfl (does_call (by kernel_rfl) rfl (HA.out _ _ _ _ (by assumption)) (fun _ _ h => ⟨_, h.1⟩)) rfl ?_ (fun _ h => h) tw_none; rintro _ wj14 ⟨⟨⟩, xj13⟩; have zj15 := xj13.size; replace qsj10 := qsj10.ext xj13; replace hj4 := hj4.ext xj13; replace X := X.ext xj13; replace hs' := Bk.rowSits.ext hs' xj13; clear xj13; refine ⟨qsj10, ?_⟩; clear d_hj4 d_hs' qsj10; refine tw_tail rfl ?_; refine lw_pure (pur_sadd rfl rfl (by simp only [List.length_append, List.length_cons, List.length_nil]; omega)) rfl ?_; refine lw_pure (pur_sadd rfl rfl (by simp only [List.length_append, List.length_cons, List.length_nil]; omega)) rfl ?_; refine cA rfl rfl (cT (cw_ret (qw_block_ret (qw_then_ret (qw_ret1 rfl rfl ?_))))); rotate_left 1
  exact strR rfl X
end Bk
namespace Bk
open Go Go.RowKit Go.Proofs
attribute [local irreducible] Go.Calls
theorem gkindT_c (b : Bool) (w : World) : Calls Tryz.prog 21 #[.bool b] w fun e w' => e = .returned (str (typeT b)) ∧ Ext w w' := by
 have X := Ext.refl w
 cases b
 · refine calls_in Tryz.func21 Tryz.ntmps21 rfl rfl ?_
   focus
    refine cS (cA rfl rfl (cT (cw_seq (cS (cM rfl rfl (cT (cw_cond_f rfl (cw_skip (qw_then (cS (cA rfl rfl ?_))))))))))); refine cT (cw_ret (qw_ret1 rfl rfl ?_)); rotate_left 1
   exact ⟨rfl, X⟩
 · refine calls_in Tryz.func21 Tryz.ntmps21 rfl rfl ?_
   focus
    refine cS (cA rfl rfl (cT (cw_seq (cS (cM rfl rfl (cT (cw_cond_t rfl (cS (cA rfl rfl (cT (cw_ret ?_))))))))))); refine qw_then_ret (qw_ret1 rfl rfl ?_); rotate_left 1
   exact ⟨rfl, X⟩
theorem params_snocG {l : List FP} {j : Nat} (hj : j < l.length) : ((l.take (j + 1)).map paramT) = (l.take j).map paramT ++ [paramT l[j]] := by
 rw [List.take_succ_eq_append_getElem hj, List.map_append]; rfl
set_option maxRecDepth 100000 in
set_option maxHeartbeats 8000000 in
theorem gPrint_c (lib : List FD) (S : Nat → Prop) (a : Option Addr) (c : Nat) (w : World) (hlen : lib.length ≤ 30) (hG : ∀ f ∈ lib, GoodFD f) (hs : FDs S w lib a) :
 Calls Tryz.prog 9 #[.slice a lib.length c] w (StrR w (libT lib)) := by
 have X := Ext.refl w; replace hs := hs.ltA; have HG := Lib.hid hG; clear hG; refine calls_in Tryz.func9 Tryz.ntmps9 rfl rfl ?_
 focus
  refine cS (cA rfl rfl (cN (cA rfl rfl (cT (cw_seq (cS (cA rfl rfl (cT (cw_block ?_))))))))); rotate_left 1
 refine cw_loop (ι := Nat) (fun j => [(0, .slice a lib.length c), (3, str (libT (lib.take j))), (4, .int .i64 j)])
  (fun j w' => FDs (· < w.heap.size) w' lib a ∧ Ext w w' ∧ j ≤ lib.length) (fun j => lib.length - j) 0 (by (refine sub_cons rfl ?_; refine sub_cons rfl ?_; refine sub_cons rfl ?_; exact sub_nil)) ⟨hs, X, Nat.zero_le _⟩ ?_
 clear hs X; rintro j w1 ⟨hs, X, hj⟩
 by_cases hlt : j < lib.length
 · have hs2 := hs
   obtain ⟨kb, ko, ⟨⟩, hkS, hk⟩ := Arr.get hs2 (by omega); obtain ⟨pa, pc, ba, bc, hr, hps, hbs⟩ := hk j lib[j] (List.getElem?_eq_getElem hlt); clear hk hs2; have hsn := Lib.hid (libT_snoc hlt); have hgx := HG.out _ (List.getElem_mem hlt)
   have hll : (libT (lib.take j)).length ≤ 3000000 := by
    have h1 := libT_len (lib := lib.take j) (fun f hf => HG.out f (List.mem_of_mem_take hf)); rw [List.length_take] at h1
    omega
   generalize libT (lib.take j) = out at *
   generalize lib[j] = x at *
   have hjp := join_params hgx; have hnl := hgx.name; have hhl := headT_len hgx; have htl := tailT_len hgx; have hpn := hgx.len; have hbl := ftext_len _ hgx.ok; have hbs2 := hgx.size; have hty := typeT_len x.list; have HP := Lib.hid (fun (S : Nat → Prop) (a : Option Addr) (c : Nat) (w : World) h1 => gExpr_c (x.body.size + 1) x.body (by omega) (by omega) hgx.ok S a c w h1); have HQ := Lib.hid hgx.par; clear hgx; simp only [FD.cells] at hr
   focus
    refine cw_seq (cS (cM rfl rfl (cM rfl rfl (lw_pure (pur_len_slice tabOk rfl rfl) rfl (lw_pure (pur_lss rfl rfl) rfl (cT ?_)))))); refine cw_yes rfl (by omega) ?_; refine cw_skip (qw_then (cw_seq (cw_block (cS (cM rfl rfl ?_))))); refine lw_pure (pur_sadd rfl rfl (by simp only [List.length_cons, List.length_nil]; omega)) rfl ?_; refine cM rfl rfl (cM rfl rfl ?_); refine lw_pure (pur_indexAddr tabOk rfl rfl rfl rfl (by omega) (by omega)) rfl ?_; refine lw_pure (pur_fieldAddr0 tabOk rfl rfl rfl) rfl (lw_load_r0 tabOk rfl rfl rfl hr rfl rfl ?_); refine lw_pure (pur_sadd rfl rfl (by simp only [List.length_append, List.length_cons, List.length_nil]; omega)) rfl ?_; refine lw_pure (pur_sadd rfl rfl (by simp only [List.length_append, List.length_cons, List.length_nil]; omega)) rfl ?_; refine cA rfl rfl (cT (cw_seq (cS (cA rfl rfl (cT (cw_block ?_)))))); rotate_left 1
   refine cw_loop (ι := Nat) (fun i => [(0, .slice (some ⟨kb, ko, none⟩) lib.length c), (3, str (((out ++ [112, 114, 111, 99, 32]) ++ x.name) ++ [40] ++ Lib.join ((x.params.take i).map paramT) [44, 32])), (4, .int .i64 j), (5, .int .i64 i)])
    (fun i w' => Row w' ⟨kb, ko + j * 7, none⟩ [str x.name, .slice pa x.params.length pc, .bool x.list, .int .u8 x.body.kind, .int .i64 x.body.num, str x.body.name, .slice ba x.body.kids.length bc] ∧ FDs (· < w.heap.size) w' lib (some ⟨kb, ko, none⟩) ∧ FPs (· < w.heap.size) w' x.params pa ∧ x.body.sits (· < w.heap.size) w' ba ∧ Ext w w' ∧ i ≤ x.params.length) (fun i => x.params.length - i) 0
    (by simp only [List.take_zero, List.map_nil, Lib.join_nil, List.append_nil]; (refine sub_cons rfl ?_; refine sub_cons rfl ?_; refine sub_cons rfl ?_; refine sub_cons rfl ?_; exact sub_nil)) ⟨hr, hs, hps, hbs, X, Nat.zero_le _⟩ ?_
   clear hr hs hps hbs X; rintro i w2 ⟨hr, hs, hps, hbs, X, hi⟩
   by_cases hit : i < x.params.length
   · have hps2 := hps
     obtain ⟨qb, qo, rfl, hqS, hkk⟩ := Arr.get hps2 (by omega); have r1 := hkk i _ (List.getElem?_eq_getElem hit); simp only [FPAt] at r1; have hsp := params_snocG hit; have hpl := HQ.out _ (List.getElem_mem hit); have hmm := join_take_le (ts := x.params.map paramT) (sep := [44, 32]) i; rw [← List.map_take] at hmm; clear hkk hps2; have hyt := typeT_len (x.params[i]).list
     cases i with
     | zero =>
      have hv : (((out ++ ([112, 114, 111, 99, 32] : List UInt8)) ++ x.name) ++ ([40] : List UInt8) ++ Lib.join ((x.params.take (0 + 1)).map paramT) ([44, 32] : List UInt8)) = (((((out ++ ([112, 114, 111, 99, 32] : List UInt8)) ++ x.name) ++ ([40] : List UInt8) ++ Lib.join ((x.params.take 0).map paramT) ([44, 32] : List UInt8)) ++ typeT (x.params[0]).list) ++ ([32] : List UInt8)) ++ (x.params[0]).name := by
       rw [hsp]; simp [Lib.join_nil, Lib.join_one, paramT]
      have HV := Lib.hid hv; clear hsp hv
      have hSl : (((out ++ [112, 114, 111, 99, 32]) ++ x.name) ++ [40] ++ Lib.join ((x.params.take 0).map paramT) [44, 32]).length ≤ 4000000 := by simp only [List.length_append, List.length_cons, List.length_nil]; omega
      generalize (((out ++ [112, 114, 111, 99, 32]) ++ x.name) ++ [40] ++ Lib.join ((x.params.take 0).map paramT) [44, 32]) = os at *
      generalize x.params[0] = y at *
      focus
       refine cw_seq (cS (cM rfl rfl (cM rfl rfl (cM rfl rfl ?_)))); refine lw_pure (pur_indexAddr tabOk rfl rfl rfl rfl (by omega) (by omega)) rfl ?_; refine lw_pure (pur_fieldAddr tabOk rfl rfl rfl) rfl (lw_load_r tabOk rfl rfl rfl hr rfl rfl (lw_pure (pur_len_slice tabOk rfl rfl) rfl (lw_pure (pur_lss rfl rfl) rfl (cT ?_)))); refine cw_yes rfl (by omega) ?_; refine cw_skip (qw_then (cw_seq (cw_block (cw_seq (cS (cM rfl rfl (lw_pure (pur_gtr rfl rfl) rfl (cT ?_)))))))); refine cw_no rfl (by decide) ?_; refine cw_skip (qw_then ?_); (refine cw_tdraw (fun wz => Ext w2 wz) 22 (.pure 0 (.pure 1 (.pure 2 (.pure 3 (.pure 4 (.pure 5 (.pure 6 (.pure 7 (.pure 8 (.pure 9 (.pure 13 (.pure 14 (.pure 15 (.pure 16 (.pure 17 (.pure 18 (.pure 19 (.pure 20 (.pure 21 (.fork 10 (.pure 11 (.pure 12 .tail)) .none)))))))))))))))))))) mixed (by kernel_rfl) (panicOk_block (panicOk_then (panicOk_then (panicOk_block (panicOk_then (panicOk_block (panicOk_then (panicOk_then (panicOk_block (panicOk_then panicOk_body)))))))))) ?_; intro wb1 xb2 _); have qsb3 : (fun wz => Ext w2 wz) wb1 := xb2; simp only at qsb3; have d_hs := hs; have d_hbs := hbs; have d_hr := hr; have d_hps := hps; have d_r1 := r1; have zb4 := xb2.size; replace hs := hs.ext xb2; replace hbs := Nd.sits.ext hbs xb2; replace X := X.ext xb2; replace hr := hr.ext xb2; replace hps := hps.ext xb2; replace r1 := r1.ext xb2; clear xb2; refine ⟨qsb3, ?_⟩; refine tw_pure rfl (pur_move rfl) rfl (tw_pure rfl (pur_move rfl) rfl (tw_pure rfl (pur_move rfl) rfl ?_))
       refine tw_pure rfl (pur_indexAddr tabOk rfl rfl rfl rfl (by omega) (by omega)) rfl ?_; refine tw_pure rfl (pur_fieldAddr tabOk rfl rfl rfl) rfl (tw_pure rfl (pur_load tabOk rfl rfl rfl (fun wz hz => Row.at (Row.ext d_hr hz) rfl)) rfl (tw_pure rfl (pur_move rfl) rfl ?_)); refine tw_pure rfl (pur_indexAddr tabOk rfl rfl rfl rfl (by omega) (by omega)) rfl ?_; refine tw_pure rfl (pur_fieldAddr tabOk rfl rfl rfl) rfl (tw_pure rfl (pur_load tabOk rfl rfl rfl (fun wz hz => Row.at (Row.ext d_r1 hz) rfl)) rfl (tw_pure rfl (pur_move rfl) rfl (tw_pure rfl (pur_move rfl) rfl ?_))); refine tw_pure rfl (pur_indexAddr tabOk rfl rfl rfl rfl (by omega) (by omega)) rfl ?_; refine tw_pure rfl (pur_fieldAddr tabOk rfl rfl rfl) rfl (tw_pure rfl (pur_load tabOk rfl rfl rfl (fun wz hz => Row.at (Row.ext d_hr hz) rfl)) rfl (tw_pure rfl (pur_move rfl) rfl ?_)); refine tw_pure rfl (pur_indexAddr tabOk rfl rfl rfl rfl (by omega) (by omega)) rfl ?_; refine tw_pure rfl (pur_fieldAddr0 tabOk rfl rfl rfl) rfl (tw_pure rfl (pur_load tabOk rfl rfl rfl (fun wz hz => Row.at (Row.ext d_r1 hz) rfl)) rfl ?_); refine tw_does rfl (does_call (by kernel_rfl) rfl (gkindT_c _ _) (fun _ _ h => ⟨_, h.1⟩)) rfl ?_ (fun _ h => h) tw_none; rintro _ wb7 ⟨⟨⟩, xb6⟩; have zb8 := xb6.size; replace qsb3 := qsb3.ext xb6; replace hs := hs.ext xb6; replace hbs := Nd.sits.ext hbs xb6; replace X := X.ext xb6; replace hr := hr.ext xb6; replace hps := hps.ext xb6; replace r1 := r1.ext xb6; clear xb6; refine ⟨qsb3, ?_⟩; refine tw_pure rfl (pur_sadd rfl rfl (by omega)) rfl ?_
       refine tw_pure rfl (pur_sadd rfl rfl (by simp only [List.length_append, List.length_cons, List.length_nil]; omega)) rfl ?_; clear d_hs d_hbs d_hr d_hps d_r1 qsb3; refine tw_tail rfl ?_; refine lw_pure (pur_sadd rfl rfl (by simp only [List.length_append, List.length_cons, List.length_nil]; omega)) rfl ?_; refine cA rfl rfl (lw_nil (qw_block_norm (qw_then (cw_region (cM rfl rfl ?_))))); refine lw_pure (pur_add rfl rfl (IntWalk.i64_in _ (by omega))) rfl ?_; refine cA rfl rfl (lw_nil ?_); rotate_left 1
      exact qw_round (0 + 1) (by rw [HV.out]; (refine sub_cons rfl ?_; refine sub_cons rfl ?_; refine sub_cons rfl ?_; refine sub_cons rfl ?_; exact sub_nil)) ⟨by assumption, by assumption, by assumption, by assumption, X, by omega⟩ (by omega)
     | succ i =>
      have hv : (((out ++ ([112, 114, 111, 99, 32] : List UInt8)) ++ x.name) ++ ([40] : List UInt8) ++ Lib.join ((x.params.take (i + 1 + 1)).map paramT) ([44, 32] : List UInt8)) = ((((((out ++ ([112, 114, 111, 99, 32] : List UInt8)) ++ x.name) ++ ([40] : List UInt8) ++ Lib.join ((x.params.take (i + 1)).map paramT) ([44, 32] : List UInt8)) ++ ([44, 32] : List UInt8)) ++ typeT (x.params[i + 1]).list) ++ ([32] : List UInt8)) ++ (x.params[i + 1]).name := by
       rw [hsp, join_snoc (by intro e; have := congrArg List.length e; simp only [List.length_map, List.length_take, List.length_nil] at this; omega)]; simp only [paramT, List.append_assoc]
      have HV := Lib.hid hv; clear hsp hv
      have hSl : (((out ++ [112, 114, 111, 99, 32]) ++ x.name) ++ [40] ++ Lib.join ((x.params.take (i + 1)).map paramT) [44, 32]).length ≤ 4000000 := by simp only [List.length_append, List.length_cons, List.length_nil]; omega
      generalize (((out ++ [112, 114, 111, 99, 32]) ++ x.name) ++ [40] ++ Lib.join ((x.params.take (i + 1)).map paramT) [44, 32]) = os at *
      generalize x.params[i + 1] = y at *
      focus
       refine cw_seq (cS (cM rfl rfl (cM rfl rfl (cM rfl rfl ?_)))); refine lw_pure (pur_indexAddr tabOk rfl rfl rfl rfl (by omega) (by omega)) rfl ?_; refine lw_pure (pur_fieldAddr tabOk rfl rfl rfl) rfl (lw_load_r tabOk rfl rfl rfl hr rfl rfl (lw_pure (pur_len_slice tabOk rfl rfl) rfl (lw_pure (pur_lss rfl rfl) rfl (cT ?_)))); refine cw_yes rfl (by omega) ?_; refine cw_skip (qw_then (cw_seq (cw_block (cw_seq (cS (cM rfl rfl (lw_pure (pur_gtr rfl rfl) rfl (cT ?_)))))))); refine cw_yes rfl (by omega) ?_; refine cw_region (cM rfl rfl ?_); refine lw_pure (pur_sadd rfl rfl (by simp only [List.length_cons, List.length_nil]; omega)) rfl ?_; refine cA rfl rfl (cT ?_); (refine cw_tdraw (fun wz => Ext w2 wz) 22 (.pure 0 (.pure 1 (.pure 2 (.pure 3 (.pure 4 (.pure 5 (.pure 6 (.pure 7 (.pure 8 (.pure 9 (.pure 13 (.pure 14 (.pure 15 (.pure 16 (.pure 17 (.pure 18 (.pure 19 (.pure 20 (.pure 21 (.fork 10 (.pure 11 (.pure 12 .tail)) .none)))))))))))))))))))) mixed (by kernel_rfl) (panicOk_block (panicOk_then (panicOk_then (panicOk_block (panicOk_then (panicOk_block (panicOk_then (panicOk_then (panicOk_block (panicOk_then panicOk_body)))))))))) ?_; intro wc1 xc2 _); have qsc3 : (fun wz => Ext w2 wz) wc1 := xc2; simp only at qsc3; have d_hs := hs; have d_hbs := hbs; have d_hr := hr; have d_hps := hps; have d_r1 := r1; have zc4 := xc2.size; replace hs := hs.ext xc2; replace hbs := Nd.sits.ext hbs xc2; replace X := X.ext xc2; replace hr := hr.ext xc2; replace hps := hps.ext xc2; replace r1 := r1.ext xc2
       clear xc2; refine ⟨qsc3, ?_⟩; refine tw_pure rfl (pur_move rfl) rfl (tw_pure rfl (pur_move rfl) rfl (tw_pure rfl (pur_move rfl) rfl ?_)); refine tw_pure rfl (pur_indexAddr tabOk rfl rfl rfl rfl (by omega) (by omega)) rfl ?_; refine tw_pure rfl (pur_fieldAddr tabOk rfl rfl rfl) rfl (tw_pure rfl (pur_load tabOk rfl rfl rfl (fun wz hz => Row.at (Row.ext d_hr hz) rfl)) rfl (tw_pure rfl (pur_move rfl) rfl ?_)); refine tw_pure rfl (pur_indexAddr tabOk rfl rfl rfl rfl (by omega) (by omega)) rfl ?_; refine tw_pure rfl (pur_fieldAddr tabOk rfl rfl rfl) rfl (tw_pure rfl (pur_load tabOk rfl rfl rfl (fun wz hz => Row.at (Row.ext d_r1 hz) rfl)) rfl (tw_pure rfl (pur_move rfl) rfl (tw_pure rfl (pur_move rfl) rfl ?_))); refine tw_pure rfl (pur_indexAddr tabOk rfl rfl rfl rfl (by omega) (by omega)) rfl ?_; refine tw_pure rfl (pur_fieldAddr tabOk rfl rfl rfl) rfl (tw_pure rfl (pur_load tabOk rfl rfl rfl (fun wz hz => Row.at (Row.ext d_hr hz) rfl)) rfl (tw_pure rfl (pur_move rfl) rfl ?_)); refine tw_pure rfl (pur_indexAddr tabOk rfl rfl rfl rfl (by omega) (by omega)) rfl ?_; refine tw_pure rfl (pur_fieldAddr0 tabOk rfl rfl rfl) rfl (tw_pure rfl (pur_load tabOk rfl rfl rfl (fun wz hz => Row.at0 (Row.ext d_r1 hz) rfl)) rfl ?_); refine tw_does rfl (does_call (by kernel_rfl) rfl (gkindT_c _ _) (fun _ _ h => ⟨_, h.1⟩)) rfl ?_ (fun _ h => h) tw_none; rintro _ wc7 ⟨⟨⟩, xc6⟩; have zc8 := xc6.size; replace qsc3 := qsc3.ext xc6; replace hs := hs.ext xc6; replace hbs := Nd.sits.ext hbs xc6; replace X := X.ext xc6
       replace hr := hr.ext xc6; replace hps := hps.ext xc6; replace r1 := r1.ext xc6; clear xc6; refine ⟨qsc3, ?_⟩; refine tw_pure rfl (pur_sadd rfl rfl (by simp only [List.length_append, List.length_cons, List.length_nil]; omega)) rfl ?_; refine tw_pure rfl (pur_sadd rfl rfl (by simp only [List.length_append, List.length_cons, List.length_nil]; omega)) rfl ?_; clear d_hs d_hbs d_hr d_hps d_r1 qsc3; refine tw_tail rfl ?_; refine lw_pure (pur_sadd rfl rfl (by simp only [List.length_append, List.length_cons, List.length_nil]; omega)) rfl ?_; refine cA rfl rfl (lw_nil (qw_block_norm (qw_then (cw_region (cM rfl rfl ?_))))); refine lw_pure (pur_add rfl rfl (IntWalk.i64_in _ (by omega))) rfl ?_; refine cA rfl rfl (lw_nil ?_); rotate_left 1
      exact qw_round (i + 1 + 1) (by rw [HV.out]; (refine sub_cons rfl ?_; refine sub_cons rfl ?_; refine sub_cons rfl ?_; refine sub_cons rfl ?_; exact sub_nil)) ⟨by assumption, by assumption, by assumption, by assumption, X, by omega⟩ (by omega)
   · have hie : i = x.params.length := by omega
     subst hie; rw [List.take_length]
     have hfin : ((((((out ++ ([112, 114, 111, 99, 32] : List UInt8)) ++ x.name) ++ ([40] : List UInt8) ++ Lib.join (x.params.map paramT) ([44, 32] : List UInt8)) ++ ([41, 32] : List UInt8)) ++ typeT x.list) ++ ([32, 123, 32] : List UInt8)) ++ x.body.ftext ++ ([32, 125, 10] : List UInt8) = libT (lib.take (j + 1)) := by
      rw [hsn.out]; simp only [headT, tailT, List.append_assoc, List.cons_append, List.nil_append]
     have HV := Lib.hid hfin.symm
     have hSl : (((out ++ [112, 114, 111, 99, 32]) ++ x.name) ++ [40] ++ Lib.join (x.params.map paramT) [44, 32]).length ≤ 4000000 := by simp only [List.length_append, List.length_cons, List.length_nil]; omega
     clear hfin hsn
     generalize (((out ++ [112, 114, 111, 99, 32]) ++ x.name) ++ [40] ++ Lib.join (x.params.map paramT) [44, 32]) = os at *
     generalize x.body.ftext = tx at *
     focus
      refine cw_seq (cS (cM rfl rfl (cM rfl rfl (cM rfl rfl ?_)))); refine lw_pure (pur_indexAddr tabOk rfl rfl rfl rfl (by omega) (by omega)) rfl ?_; refine lw_pure (pur_fieldAddr tabOk rfl rfl rfl) rfl (lw_load_r tabOk rfl rfl rfl hr rfl rfl (lw_pure (pur_len_slice tabOk rfl rfl) rfl (lw_pure (pur_lss rfl rfl) rfl (cT ?_)))); refine cw_no rfl (by omega) ?_; refine cw_exit (qw_then_exit (qw_then_exit (qw_block_exit (qw_then ?_)))); (refine cw_tdraw (fun wz => Ext w2 wz) 16 (.pure 0 (.pure 1 (.pure 2 (.pure 3 (.pure 4 (.pure 5 (.pure 6 (.pure 10 (.pure 11 (.pure 12 (.pure 13 (.pure 14 (.fork 7 (.pure 8 (.pure 9 (.fork 15 .tail .none))) .none))))))))))))) mixed (by kernel_rfl) (panicOk_block (panicOk_then (panicOk_then (panicOk_block (panicOk_then panicOk_body))))) ?_; intro wd1 xd2 _); have qsd3 : (fun wz => Ext w2 wz) wd1 := xd2; simp only at qsd3; have d_hr := hr; have d_hs := hs; have d_hps := hps; have d_hbs := hbs; have zd4 := xd2.size; replace hr := hr.ext xd2; replace hs := hs.ext xd2; replace hps := hps.ext xd2; replace hbs := Nd.sits.ext hbs xd2; replace X := X.ext xd2; clear xd2; refine ⟨qsd3, ?_⟩; refine tw_pure rfl (pur_move rfl) rfl ?_; refine tw_pure rfl (pur_sadd rfl rfl (by simp only [List.length_cons, List.length_nil]; omega)) rfl ?_; refine tw_pure rfl (pur_move rfl) rfl (tw_pure rfl (pur_move rfl) rfl ?_); refine tw_pure rfl (pur_indexAddr tabOk rfl rfl rfl rfl (by omega) (by omega)) rfl ?_; refine tw_pure rfl (pur_fieldAddr tabOk rfl rfl rfl) rfl (tw_pure rfl (pur_load tabOk rfl rfl rfl (fun wz hz => Row.at (Row.ext d_hr hz) rfl)) rfl (tw_pure rfl (pur_move rfl) rfl (tw_pure rfl (pur_move rfl) rfl ?_)))
      refine tw_pure rfl (pur_indexAddr tabOk rfl rfl rfl rfl (by omega) (by omega)) rfl ?_; refine tw_pure rfl (pur_fieldAddr tabOk rfl rfl rfl) rfl (tw_pure rfl (pur_loads_row' [_, _, _, _] tabOk rfl rfl rfl (fun wz hz => (Row.ext d_hr hz)) rfl rfl) rfl ?_); refine tw_does rfl (does_call (by kernel_rfl) rfl (gkindT_c _ _) (fun _ _ h => ⟨_, h.1⟩)) rfl ?_ (fun _ h => h) tw_none; rintro _ wd7 ⟨⟨⟩, xd6⟩; have zd8 := xd6.size; replace qsd3 := qsd3.ext xd6; replace hr := hr.ext xd6; replace hs := hs.ext xd6; replace hps := hps.ext xd6; replace hbs := Nd.sits.ext hbs xd6; replace X := X.ext xd6; clear xd6; refine ⟨qsd3, ?_⟩; refine tw_pure rfl (pur_sadd rfl rfl (by simp only [List.length_append, List.length_cons, List.length_nil]; omega)) rfl ?_; refine tw_pure rfl (pur_sadd rfl rfl (by simp only [List.length_append, List.length_cons, List.length_nil]; omega)) rfl ?_; refine tw_does rfl (does_call (by kernel_rfl) rfl (HP.out _ _ _ _ (by assumption)) (fun _ _ h => ⟨_, h.1⟩)) rfl ?_ (fun _ h => h) tw_none; rintro _ wd11 ⟨⟨⟩, xd10⟩; have zd12 := xd10.size; replace qsd3 := qsd3.ext xd10; replace hr := hr.ext xd10; replace hs := hs.ext xd10; replace hps := hps.ext xd10; replace hbs := Nd.sits.ext hbs xd10; replace X := X.ext xd10; clear xd10; refine ⟨qsd3, ?_⟩; clear d_hr d_hs d_hps d_hbs qsd3; refine tw_tail rfl ?_; refine lw_pure (pur_sadd rfl rfl (by simp only [List.length_append, List.length_cons, List.length_nil]; omega)) rfl ?_; refine lw_pure (pur_sadd rfl rfl (by simp only [List.length_append, List.length_cons, List.length_nil]; omega)) rfl ?_
      refine cA rfl rfl (lw_nil (qw_block_norm (qw_then (cw_region (cM rfl rfl ?_))))); refine lw_pure (pur_add rfl rfl (IntWalk.i64_in _ (by omega))) rfl ?_; refine cA rfl rfl (lw_nil ?_); rotate_left 1
     exact qw_round (j + 1) (by rw [HV.out]; (refine sub_cons rfl ?_; refine sub_cons rfl ?_; refine sub_cons rfl ?_; exact sub_nil)) ⟨by assumption, X, by omega⟩ (by omega)
 · have hje : j = lib.length := by omega
   subst hje; rw [List.take_length]
   focus
    refine cw_seq (cS (cM rfl rfl (cM rfl rfl (lw_pure (pur_len_slice tabOk rfl rfl) rfl (lw_pure (pur_lss rfl rfl) rfl (cT ?_)))))); refine cw_no rfl (by omega) ?_; refine cw_exit (qw_then_exit (qw_then_exit (qw_block_exit (qw_then (cS (cM rfl rfl (cA rfl rfl (cT (cw_ret (qw_ret1 rfl rfl ?_)))))))))); rotate_left 1
   exact strR rfl X
end Bk
namespace Bk
open Go Go.RowKit Go.Proofs
attribute [local irreducible] Go.Calls
theorem few_libN {lib : List FD} (h : fewL lib = true) (hw : ∀ f ∈ lib, f.wfA) : LibFew lib := by
 unfold fewL at h
 simp only [Bool.and_eq_true, decide_eq_true_eq, List.all_eq_true] at h; refine ⟨by omega, fun f hf => ?_⟩; obtain ⟨⟨h1, h2⟩, h3⟩ := h.2 f hf; obtain ⟨-, -, w3, w4⟩ := hw f hf; have h4 := sizeL_eq _ _ h3
 exact ⟨by omega, by omega, w3, by omega, w4⟩
theorem gValid_v {lib : List FD} {i e : Int} (h : validI lib = (i, e)) (S : Nat → Prop) (a : Option Addr) (c : Nat) (w : World) (hl : LibFew lib) (hs : FDs S w lib a) :
 Calls Tryz.prog 8 #[.slice a lib.length c] w fun r w' => r = .returned (.tuple #[.int .i64 i, .int .i64 e]) ∧ Ext w w' := by
 have := gValid_c lib S a c w hl hs
 rw [h] at this; exact this
set_option maxRecDepth 100000 in
set_option maxHeartbeats 4000000 in
theorem print36_c (lib : List FD) (S : Nat → Prop) (a : Option Addr) (c : Nat) (w : World) (hl : lib.length ≤ 9223372036854775807) (hw : ∀ f ∈ lib, f.wfA) (hs : FDs S w lib a) (ht : TabsF w) (hE : Errs w) :
 Calls Tryz.prog 3 #[.slice a lib.length c] w fun e w' => e = .returned (.bool true) ∧ Ext w w' := by
 have X := Ext.refl w; replace hs := hs.ltA; have HF := Lib.hid (fun (S : Nat → Prop) (a : Option Addr) (c : Nat) (w : World) hs => few36_c lib S a c w hl hw hs)
 cases hf : fewL lib with
 | false =>
  rw [hf] at HF; clear hw; refine calls_in Tryz.func3 Tryz.ntmps3 rfl rfl ?_
  focus
   refine cS (cA rfl rfl (cT (cw_seq (cS ?_)))); refine cC (by kernel_rfl) rfl (awake36_c _ (by assumption) (by assumption)) rfl ?_; rintro _ w2 ⟨⟨⟩, x1⟩; have z3 := x1.size; replace ht := ht.ext x1; replace hE := hE.ext x1; replace X := X.ext x1; replace hs := hs.ext x1; clear x1; refine lw_pure (pur_not rfl) rfl (cM rfl rfl (lw_on rfl rfl rfl (rfl) (cM rfl rfl (lw_on rfl rfl rfl (rfl) ?_)))); refine cC (by kernel_rfl) rfl (HF.out _ _ _ _ (by assumption)) rfl ?_; rintro _ w5 ⟨⟨⟩, x4⟩; have z6 := x4.size; replace ht := ht.ext x4; replace hE := hE.ext x4; replace X := X.ext x4; replace hs := hs.ext x4; clear x4; refine lw_on rfl rfl rfl (rfl) (lw_pure (pur_not rfl) rfl (lw_pure (pur_pick_f rfl rfl rfl) rfl (cT (cw_cond_t rfl (cS ?_))))); refine cC (by kernel_rfl) rfl (awake36_c _ (by assumption) (by assumption)) rfl ?_; rintro _ w8 ⟨⟨⟩, x7⟩; have z9 := x7.size; replace ht := ht.ext x7; replace hE := hE.ext x7; replace X := X.ext x7; replace hs := hs.ext x7; clear x7; refine cA rfl rfl (cT (cw_ret (qw_then_ret (qw_ret1 rfl rfl ?_)))); rotate_left 1
  exact ⟨rfl, X⟩
 | true =>
  rw [hf] at HF; have hL := few_libN hf hw; have HL := Lib.hid hL
  have hwf : ∀ f ∈ lib, f.body.wf := fun f hf => (hL.all f hf).2.2.2.2
  have HP := Lib.hid (fun (S : Nat → Prop) (a : Option Addr) (c : Nat) (w : World) hs ht => Print_c lib S a c w hL hs ht); clear hf hw
  cases hv : libErr lib with
  | some q =>
   obtain ⟨i, e⟩ := q; obtain ⟨hi, hne⟩ := libErr_some hv
   have hval : validI lib = ((i : Int), e) := by unfold validI; rw [hv]
   have HV := Lib.hid (gValid_v hval); rw [show printL lib = ([], e) from by unfold printL; rw [hv]] at HP; clear hv hwf hval; refine calls_in Tryz.func3 Tryz.ntmps3 rfl rfl ?_
   focus
    refine cS (cA rfl rfl (cT (cw_seq (cS ?_)))); refine cC (by kernel_rfl) rfl (awake36_c _ (by assumption) (by assumption)) rfl ?_; rintro _ wa2 ⟨⟨⟩, xa1⟩; have za3 := xa1.size; replace ht := ht.ext xa1; replace hE := hE.ext xa1; replace X := X.ext xa1; replace hs := hs.ext xa1; clear xa1; refine lw_pure (pur_not rfl) rfl (cM rfl rfl (lw_on rfl rfl rfl (rfl) (cM rfl rfl (lw_on rfl rfl rfl (rfl) ?_)))); refine cC (by kernel_rfl) rfl (HF.out _ _ _ _ (by assumption)) rfl ?_; rintro _ wa5 ⟨⟨⟩, xa4⟩; have za6 := xa4.size; replace ht := ht.ext xa4; replace hE := hE.ext xa4; replace X := X.ext xa4; replace hs := hs.ext xa4; clear xa4; refine lw_on rfl rfl rfl (rfl) (lw_pure (pur_not rfl) rfl (lw_pure (pur_pick_f rfl rfl rfl) rfl (cT (cw_cond_f rfl (cw_skip (qw_then (cS (cM rfl rfl ?_)))))))); refine cC (by kernel_rfl) rfl (HP.out _ _ _ _ (by assumption) (by assumption)) rfl ?_; rintro _ wa8 ⟨⟨⟩, xa7⟩; have za9 := xa7.size; replace ht := ht.ext xa7; replace hE := hE.ext xa7; replace X := X.ext xa7; replace hs := hs.ext xa7; clear xa7; refine cM rfl rfl (lw_pure (pur_extract rfl rfl) rfl (lw_pure (pur_extract rfl rfl) rfl (cA rfl rfl (cA rfl rfl (cT (cw_seq (cS (cM rfl rfl ?_)))))))); refine cC (by kernel_rfl) rfl (HV.out _ _ _ _ HL.out (by assumption)) rfl ?_; rintro _ wa11 ⟨⟨⟩, xa10⟩; have za12 := xa10.size; replace ht := ht.ext xa10; replace hE := hE.ext xa10; replace X := X.ext xa10; replace hs := hs.ext xa10; clear xa10; refine cM rfl rfl (lw_pure (pur_extract rfl rfl) rfl (lw_pure (pur_extract rfl rfl) rfl (cA rfl rfl (cA rfl rfl (cN (cM rfl rfl (lw_pure (pur_neq rfl rfl) rfl (cT ?_))))))))
    refine cw_yes rfl (by assumption) ?_; refine cS (cM rfl rfl (lw_pure (pur_seql rfl rfl) rfl (cM rfl rfl (lw_on rfl rfl rfl (gd_tt (rfl)) (cM rfl rfl (lw_on rfl rfl rfl (gd_tt (rfl)) (cM rfl rfl (lw_on rfl rfl rfl (gd_tt (rfl)) (lw_pure (pur_eql rfl rfl) rfl (lw_pure (pur_pick_yes rfl rfl (rfl)) rfl (cA rfl rfl ?_))))))))))); refine cT (cw_ret (qw_then_ret (qw_ret1 rfl rfl ?_))); rotate_left 1
   exact ⟨by simp, X⟩
  | none =>
   have hval : validI lib = (-1, 0) := by unfold validI; rw [hv]
   have HV := Lib.hid (gValid_v hval); rw [show printL lib = (libT lib, 0) from by unfold printL; rw [hv]] at HP; obtain ⟨hg1, hg2⟩ := lib_good hv hwf; have HQ := Lib.hid (fun (S : Nat → Prop) (a : Option Addr) (c : Nat) (w : World) hs => gPrint_c lib S a c w hg1 hg2 hs); clear hv hwf hval hg2
   generalize libT lib = T at *
   refine calls_in Tryz.func3 Tryz.ntmps3 rfl rfl ?_
   focus
    refine cS (cA rfl rfl (cT (cw_seq (cS ?_)))); refine cC (by kernel_rfl) rfl (awake36_c _ (by assumption) (by assumption)) rfl ?_; rintro _ wb2 ⟨⟨⟩, xb1⟩; have zb3 := xb1.size; replace ht := ht.ext xb1; replace hE := hE.ext xb1; replace X := X.ext xb1; replace hs := hs.ext xb1; clear xb1; refine lw_pure (pur_not rfl) rfl (cM rfl rfl (lw_on rfl rfl rfl (rfl) (cM rfl rfl (lw_on rfl rfl rfl (rfl) ?_)))); refine cC (by kernel_rfl) rfl (HF.out _ _ _ _ (by assumption)) rfl ?_; rintro _ wb5 ⟨⟨⟩, xb4⟩; have zb6 := xb4.size; replace ht := ht.ext xb4; replace hE := hE.ext xb4; replace X := X.ext xb4; replace hs := hs.ext xb4; clear xb4; refine lw_on rfl rfl rfl (rfl) (lw_pure (pur_not rfl) rfl (lw_pure (pur_pick_f rfl rfl rfl) rfl (cT (cw_cond_f rfl (cw_skip (qw_then (cS (cM rfl rfl ?_)))))))); refine cC (by kernel_rfl) rfl (HP.out _ _ _ _ (by assumption) (by assumption)) rfl ?_; rintro _ wb8 ⟨⟨⟩, xb7⟩; have zb9 := xb7.size; replace ht := ht.ext xb7; replace hE := hE.ext xb7; replace X := X.ext xb7; replace hs := hs.ext xb7; clear xb7; refine cM rfl rfl (lw_pure (pur_extract rfl rfl) rfl (lw_pure (pur_extract rfl rfl) rfl (cA rfl rfl (cA rfl rfl (cT (cw_seq (cS (cM rfl rfl ?_)))))))); refine cC (by kernel_rfl) rfl (HV.out _ _ _ _ HL.out (by assumption)) rfl ?_; rintro _ wb11 ⟨⟨⟩, xb10⟩; have zb12 := xb10.size; replace ht := ht.ext xb10; replace hE := hE.ext xb10; replace X := X.ext xb10; replace hs := hs.ext xb10; clear xb10; refine cM rfl rfl (lw_pure (pur_extract rfl rfl) rfl (lw_pure (pur_extract rfl rfl) rfl (cA rfl rfl (cA rfl rfl (cN (cM rfl rfl (lw_pure (pur_neq rfl rfl) rfl (cT ?_))))))))
    refine cw_no rfl (by decide) ?_; refine cw_skip (qw_then (cS (cM rfl rfl (lw_pure (pur_eql rfl rfl) rfl (cM rfl rfl ?_))))); refine lw_on rfl rfl rfl (gd_tt (by omega)) ?_; refine cM rfl rfl ?_; refine lw_on rfl rfl rfl (gd_tt (by omega)) ?_; refine cM rfl rfl ?_; refine lw_on rfl rfl rfl (gd_tt (by omega)) ?_; refine cC (by kernel_rfl) rfl (HQ.out _ _ _ _ (by assumption)) rfl ?_; rintro _ wb14 ⟨⟨⟩, xb13⟩; have zb15 := xb13.size; replace ht := ht.ext xb13; replace hE := hE.ext xb13; replace X := X.ext xb13; replace hs := hs.ext xb13; clear xb13; refine lw_on rfl rfl rfl (gd_tt (by omega)) ?_; refine lw_pure (pur_seql rfl rfl) rfl ?_; refine lw_pure (pur_pick_yes rfl rfl (by omega)) rfl ?_; refine cA rfl rfl (cT (cw_ret (qw_ret1 rfl rfl ?_))); rotate_left 1
   exact ⟨by simp, X⟩
end Bk
namespace Bk
open Go Go.RowKit Go.Proofs
def AllB : Nat → Prop := fun _ => True
theorem row_build (W : World) (b o : Nat) : ∀ (len i0 : Nat), (∀ i, i < len → ∃ (t : Nd) (a' : Option Addr) (c' : Nat), t.wf ∧ W.cell? ⟨b, o + (i0 + i) * 4, none⟩ = some (.int .u8 t.kind) ∧ W.cell? ⟨b, o + (i0 + i) * 4 + 1, none⟩ = some (.int .i64 t.num) ∧ W.cell? ⟨b, o + (i0 + i) * 4 + 2, none⟩ = some (str t.name) ∧ W.cell? ⟨b, o + (i0 + i) * 4 + 3, none⟩ = some (.slice a' t.kids.length c') ∧ t.sits AllB W a') →
 ∃ l : List Nd, l.length = len ∧ rowWf l ∧ rowSits AllB W l (some ⟨b, o + i0 * 4, none⟩)
 | 0, _, _ => ⟨[], rfl, by simp [rowWf], by simp [rowSits]⟩
 | len + 1, i0, h => by
  obtain ⟨l, hl, hw, hs⟩ := row_build W b o len (i0 + 1) (fun i hi => by
   have := h (i + 1) (by omega)
   rwa [show i0 + (i + 1) = i0 + 1 + i from by omega] at this)
  obtain ⟨t, a', c', hwf, h0, h1, h2, h3, hsk⟩ := h 0 (by omega); rw [Nat.add_zero] at h0 h1 h2 h3; refine ⟨t :: l, by simp [hl], by simp [rowWf, hwf, hw], ?_⟩; simp only [rowSits]; refine ⟨b, o + i0 * 4, a', c', rfl, trivial, h0, h1, h2, h3, hsk, ?_⟩
  rwa [show o + i0 * 4 + 4 = o + (i0 + 1) * 4 from by omega]
theorem cells4 {W : World} {a : Addr} {cs : List Value} (h : W.cells? 0 a 4 = some cs) : ∃ c0 c1 c2 c3, cs = [c0, c1, c2, c3] ∧ W.cell? (a.add 0) = some c0 ∧ W.cell? (a.add 1) = some c1 ∧ W.cell? (a.add 2) = some c2 ∧ W.cell? (a.add 3) = some c3 := by
 unfold World.cells? at h
 rw [if_pos (Nat.zero_le _)] at h; rw [show List.range 4 = [0, 1, 2, 3] from rfl] at h
 cases e0 : W.cell? (a.add 0) <;> simp [e0] at h
 cases e1 : W.cell? (a.add 1) <;> simp [e1] at h
 cases e2 : W.cell? (a.add 2) <;> simp [e2] at h
 cases e3 : W.cell? (a.add 3) <;> simp [e3] at h
 exact ⟨_, _, _, _, h.symm, rfl, rfl, rfl, rfl⟩
theorem addr_add2 (b o n m : Nat) : ((⟨b, o, none⟩ : Addr).add n).add m = ⟨b, o + n + m, none⟩ := by
 unfold Addr.add
 by_cases hn : n = 0 <;> by_cases hm : m = 0 <;> simp [hn, hm]
theorem cellsNode : Tryz.prog.cellsOf 40 = 4 := by kernel_rfl
theorem cells5 : Tryz.prog.cellsOf 5 = 1 := by kernel_rfl
theorem cells3 : Tryz.prog.cellsOf 3 = 1 := by kernel_rfl
theorem cells9 : Tryz.prog.cellsOf 9 = 1 := by kernel_rfl
theorem cells22 : Tryz.prog.cellsOf 38 = 1 := by kernel_rfl
theorem node_of_trod {H : Type} (enc : TypeId × Value → H) (W : World) (sp : Nat → Bool) (N : Nat) : ∀ (fuel : Nat), fuel < N → ∀ (cs : List Value) (x : DataW H × List MemPlace), DataW.trod enc Tryz.prog W 0 sp true fuel 40 cs = some x →
 ∃ (t : Nd) (a : Option Addr) (c : Nat), cs = [.int .u8 t.kind, .int .i64 t.num, str t.name, .slice a t.kids.length c] ∧ t.wf ∧ t.sits AllB W a := by
 induction N with
 | zero => intro fuel h; omega
 | succ N ih =>
  intro fuel hN cs x h; obtain ⟨xs, n, rfl, -, hl, hlen, hf⟩ := DataW.trod_struct Tryz.underlying40 h; rw [cellsNode] at hl
  obtain ⟨c0, c1, c2, c3, rfl⟩ : ∃ c0 c1 c2 c3, cs = [c0, c1, c2, c3] := by
   rcases cs with _ | ⟨c0, _ | ⟨c1, _ | ⟨c2, _ | ⟨c3, _ | ⟨c4, cs⟩⟩⟩⟩⟩
   · simp at hl
   · simp at hl
   · simp at hl
   · simp at hl
   · exact ⟨_, _, _, _, rfl⟩
   · simp at hl
  obtain ⟨y0, y1, y2, y3, rfl⟩ : ∃ y0 y1 y2 y3, xs = [y0, y1, y2, y3] := by
   have hlen' : xs.length = 4 := hlen
   rcases xs with _ | ⟨c0, _ | ⟨c1, _ | ⟨c2, _ | ⟨c3, _ | ⟨c4, cs⟩⟩⟩⟩⟩
   · simp at hlen'
   · simp at hlen'
   · simp at hlen'
   · simp at hlen'
   · exact ⟨_, _, _, _, rfl⟩
   · simp at hlen'
  · have f0 : DataW.trod enc Tryz.prog W 0 sp true n 5 (([c0, c1, c2, c3].drop 0).take (Tryz.prog.cellsOf 5)) = some y0 := hf 0 _ rfl
    have f1 : DataW.trod enc Tryz.prog W 0 sp true n 3 (([c0, c1, c2, c3].drop 1).take (Tryz.prog.cellsOf 3)) = some y1 := hf 1 _ rfl; have f2 : DataW.trod enc Tryz.prog W 0 sp true n 9 (([c0, c1, c2, c3].drop 2).take (Tryz.prog.cellsOf 9)) = some y2 := hf 2 _ rfl; have f3 : DataW.trod enc Tryz.prog W 0 sp true n 38 (([c0, c1, c2, c3].drop 3).take (Tryz.prog.cellsOf 38)) = some y3 := hf 3 _ rfl; simp only [cells5, cells3, cells9, cells22, List.drop_zero, List.drop_succ_cons, List.take_succ_cons, List.take_zero] at f0 f1 f2 f3; obtain ⟨k, hk, -, wk⟩ := DataW.trod_int (show Tryz.prog.underlying 5 = some (.int .u8) by kernel_rfl) f0; obtain ⟨m, hm, -, wm⟩ := DataW.trod_int Tryz.underlying3 f1; obtain ⟨s, hs, -, ws⟩ := DataW.trod_string (show Tryz.prog.underlying 9 = some .string by kernel_rfl) f2; simp only [List.cons.injEq, and_true] at hk hm hs; subst hk hm hs
    have wk' : 0 ≤ k ∧ k ≤ 255 := by simpa [Lit.wf, IntKind.min, IntKind.max, IntKind.signed, IntKind.bits] using wk
    have wm' : -9223372036854775808 ≤ m ∧ m ≤ 9223372036854775807 := by simpa [Lit.wf, IntKind.min, IntKind.max, IntKind.signed, IntKind.bits] using wm
    have ws' : s.data.toList.length ≤ 9223372036854775807 := by
     have : s.data.toList.length = s.size := by rw [Array.length_toList]; rfl
     unfold maxLen at ws; omega
    rcases DataW.trod_slice Tryz.underlying38 f3 with ⟨hc, -⟩ | ⟨a, len, cap, elems, rest, n', hn', hc, -, -, hle, hcm, hel, hE, -⟩
    · simp only [List.cons.injEq, and_true] at hc
      subst hc
      exact ⟨.mk k m s.data.toList [], none, 0, rfl, ⟨wk'.1, wk'.2, wm'.1, wm'.2, ws', by simp, by simp [rowWf]⟩, by simp [Nd.sits, rowSits]⟩
    · simp only [List.cons.injEq, and_true] at hc
      subst hc; rw [cellsNode] at hE
      rcases Nat.eq_zero_or_pos len with h0 | hpos
      · subst h0
        exact ⟨.mk k m s.data.toList [], some a, cap, rfl, ⟨wk'.1, wk'.2, wm'.1, wm'.2, ws', by simp, by simp [rowWf]⟩, by simp [Nd.sits, rowSits]⟩
      · have step : ∀ i, i < len → ∃ (t : Nd) (a' : Option Addr) (c' : Nat), t.wf ∧ W.cell? ((a.add (i * 4)).add 0) = some (.int .u8 t.kind) ∧ W.cell? ((a.add (i * 4)).add 1) = some (.int .i64 t.num) ∧ W.cell? ((a.add (i * 4)).add 2) = some (str t.name) ∧ W.cell? ((a.add (i * 4)).add 3) = some (.slice a' t.kids.length c') ∧ t.sits AllB W a' := by
         intro i hi; have hEi := hE i hi
         cases hc4 : W.cells? 0 (a.add (i * 4)) 4 with
         | none =>
          rw [hc4] at hEi; have hh : elems[i]? = some elems[i] := List.getElem?_eq_getElem (by omega); rw [hh] at hEi
          simp at hEi
         | some cs4 =>
          rw [hc4, List.getElem?_eq_getElem (by omega)] at hEi; obtain ⟨d0, d1, d2, d3, rfl, e0, e1, e2, e3⟩ := cells4 hc4; obtain ⟨t, a', c', hcs, hw, hs⟩ := ih n' (by omega) _ _ hEi; simp only [List.cons.injEq, and_true] at hcs; obtain ⟨rfl, rfl, rfl, rfl⟩ := hcs
          exact ⟨t, a', c', hw, e0, e1, e2, e3, hs⟩
        obtain ⟨b, o, spot⟩ := a
        have hspot : spot = none := by
         obtain ⟨t, a', c', -, e0, -⟩ := step 0 hpos; simp only [Nat.zero_mul, Addr.add, if_true] at e0
         unfold World.cell? at e0
         cases spot with
         | none => rfl
         | some q => simp at e0; split at e0 <;> simp at e0
        subst hspot
        obtain ⟨l, hl', hw', hs'⟩ := row_build W b o len 0 (fun i hi => by
         obtain ⟨t, a', c', hw, e0, e1, e2, e3, hs⟩ := step i hi; rw [addr_add2] at e0 e1 e2 e3; rw [Nat.zero_add]
         exact ⟨t, a', c', hw, e0, e1, e2, e3, hs⟩)
        subst hl'; refine ⟨.mk k m s.data.toList l, some ⟨b, o, none⟩, cap, rfl, ⟨wk'.1, wk'.2, wm'.1, wm'.2, ws', by unfold maxLen at hcm; omega, hw'⟩, ?_⟩
        simpa [Nd.sits] using hs'
end Bk
namespace Bk
open Go Go.RowKit Go.Proofs
section
theorem cells_rowF {W : World} {p : Addr} {k : Nat} {cs : List Value} (h : W.cells? 0 p k = some cs) : Row W p cs ∧ cs.length = k := by
 unfold World.cells? at h
 rw [if_pos (Nat.zero_le _)] at h; refine ⟨fun i v hi => ?_, by simpa using mapM_some_length h⟩
 have hl : cs.length = k := by simpa using mapM_some_length h
 have hik : i < k := by
  rcases Nat.lt_or_ge i cs.length with h' | h'
  · omega
  · rw [List.getElem?_eq_none h'] at hi; cases hi
 have := mapM_some_get h i i (by simp [hik]); rw [hi] at this
 exact this
theorem addr_addF (b o i : Nat) : (⟨b, o, none⟩ : Addr).add i = ⟨b, o + i, none⟩ := by unfold Addr.add; by_cases h0 : i = 0 <;> simp [h0]
theorem arr_of_trodC {α H : Type} (enc : TypeId × Value → H) (W : World) (sp : Nat → Bool) {t e k : Nat} (ht : Tryz.prog.underlying t = some (.slice e)) (hk : Tryz.prog.cellsOf e = k) (hk0 : 0 < k) (G : List Value → α → Prop)
 {fuel : Nat} (hG : ∀ (n : Nat) (cs : List Value) (x : DataW H × List MemPlace), n < fuel → DataW.trod enc Tryz.prog W 0 sp true n e cs = some x → ∃ y, G cs y) {c : Value} {x : DataW H × List MemPlace} (h : DataW.trod enc Tryz.prog W 0 sp true fuel t [c] = some x) :
 ∃ (l : List α) (a : Option Addr) (cap : Nat), c = .slice a l.length cap ∧ l.length ≤ 9223372036854775807 ∧ l.length ≤ cap ∧ Arr AllB k (fun w b o y => ∃ cs, Row w ⟨b, o, none⟩ cs ∧ G cs y) W l a := by
 rcases DataW.trod_slice ht h with ⟨hc, -⟩ | ⟨a, len, cap, elems, rest, n', hn', hc, -, -, hle, hcm, hel, hE, -⟩
 · simp only [List.cons.injEq, and_true] at hc
   exact ⟨[], none, 0, hc, by simp, by simp, Or.inl rfl⟩
 · simp only [List.cons.injEq, and_true] at hc
   rw [hk] at hE
   unfold maxLen at hcm
   rcases Nat.eq_zero_or_pos len with h0 | hpos
   · subst h0
     exact ⟨[], some a, cap, hc, by simp, by simp, Or.inl rfl⟩
   · have step : ∀ i, i < len → ∃ y cs, Row W (a.add (i * k)) cs ∧ cs.length = k ∧ G cs y := fun i hi => by
      have hEi := hE i hi
      cases hc4 : W.cells? 0 (a.add (i * k)) k with
      | none =>
       rw [hc4, List.getElem?_eq_getElem (by omega)] at hEi
       simp at hEi
      | some cs =>
       rw [hc4, List.getElem?_eq_getElem (by omega)] at hEi; obtain ⟨r1, r2⟩ := cells_rowF hc4; obtain ⟨y, hy⟩ := hG n' cs _ (by omega) hEi
       exact ⟨y, cs, r1, r2, hy⟩
     obtain ⟨b, o, spot⟩ := a
     have hspot : spot = none := by
      obtain ⟨y, cs, r, hl, -⟩ := step 0 hpos; simp only [Nat.zero_mul, Addr.add, if_true] at r
      cases cs with
      | nil => simp at hl; omega
      | cons v vs =>
       have := r 0 v rfl; simp only [Addr.add, if_true] at this
       exact cell_spot this
     subst hspot
     have hl : ∃ l : List α, l.length = len ∧ ∀ i y, l[i]? = some y → ∃ cs, Row W ⟨b, o + i * k, none⟩ cs ∧ G cs y := by
      have key : ∀ m, m ≤ len → ∃ l : List α, l.length = m ∧ ∀ i y, l[i]? = some y → ∃ cs, Row W ⟨b, o + i * k, none⟩ cs ∧ G cs y := by
       intro m
       induction m with
       | zero => intro _; exact ⟨[], rfl, by simp⟩
       | succ m ih =>
        intro hm; obtain ⟨l, h1, h2⟩ := ih (by omega); obtain ⟨y, cs, r, -, hg⟩ := step m (by omega); rw [addr_addF] at r; refine ⟨l ++ [y], by simp [h1], fun i z hz => ?_⟩
        rcases Nat.lt_or_ge i m with hi | hi
        · rw [List.getElem?_append_left (by omega)] at hz; exact h2 i z hz
        · rw [List.getElem?_append_right (by omega)] at hz
          obtain rfl : i = m := by
           rcases Nat.lt_or_ge m i with h' | h'
           · rw [List.getElem?_eq_none (by simp; omega)] at hz; cases hz
           · omega
          simp [h1] at hz
          subst hz
          exact ⟨cs, r, hg⟩
      exact key len (Nat.le_refl _)
     obtain ⟨l, h1, h2⟩ := hl; subst h1
     exact ⟨l, some ⟨b, o, none⟩, cap, hc, by omega, by omega, Or.inr ⟨b, o, rfl, trivial, h2⟩⟩
theorem len2F {cs : List Value} (h : cs.length = 2) : ∃ a b, cs = [a, b] := by
 rcases cs with _ | ⟨a, _ | ⟨b, _ | ⟨c, r⟩⟩⟩ <;> simp at h; exact ⟨a, b, rfl⟩
theorem len7F {cs : List Value} (h : cs.length = 7) : ∃ a b c d e f g, cs = [a, b, c, d, e, f, g] := by
 rcases cs with _ | ⟨a, _ | ⟨b, _ | ⟨c, _ | ⟨d, _ | ⟨e, _ | ⟨f, _ | ⟨g, _ | ⟨i, r⟩⟩⟩⟩⟩⟩⟩⟩ <;> simp at h; exact ⟨a, b, c, d, e, f, g, rfl⟩
theorem get_of_lenF {α : Type} {xs : List α} {n i : Nat} (h : xs.length = n) (hi : i < n) : ∃ y, xs[i]? = some y := ⟨xs[i], List.getElem?_eq_getElem (by omega)⟩
theorem cFP : Tryz.prog.cellsOf 52 = 2 := by kernel_rfl
theorem cFPs : Tryz.prog.cellsOf 37 = 1 := by kernel_rfl
theorem cFD : Tryz.prog.cellsOf 42 = 7 := by kernel_rfl
theorem cBool : Tryz.prog.cellsOf 4 = 1 := by kernel_rfl
end
section
variable {H : Type} (enc : TypeId × Value → H) (W : World) (sp : Nat → Bool)
theorem fp_of_trod {fuel : Nat} {cs : List Value} {x : DataW H × List MemPlace} (h : DataW.trod enc Tryz.prog W 0 sp true fuel 52 cs = some x) : ∃ v : FP, cs = v.cells ∧ v.name.length ≤ 9223372036854775807 := by
 obtain ⟨xs, n, rfl, -, hl, hlen, hf⟩ := DataW.trod_struct Tryz.underlying52 h; rw [cFP] at hl; obtain ⟨c0, c1, rfl⟩ := len2F hl; obtain ⟨y0, e0⟩ := get_of_lenF (i := 0) hlen (by decide); obtain ⟨y1, e1⟩ := get_of_lenF (i := 1) hlen (by decide); have f0 : DataW.trod enc Tryz.prog W 0 sp true n 9 (([c0, c1].drop 0).take (Tryz.prog.cellsOf 9)) = some y0 := (hf 0 _ rfl).trans e0; have f1 : DataW.trod enc Tryz.prog W 0 sp true n 4 (([c0, c1].drop 1).take (Tryz.prog.cellsOf 4)) = some y1 := (hf 1 _ rfl).trans e1; simp only [cells9, cBool, List.drop_zero, List.drop_succ_cons, List.take_succ_cons, List.take_zero] at f0 f1; obtain ⟨s, hs, -, ws⟩ := DataW.trod_string underStr f0; obtain ⟨b, hb, -⟩ := DataW.trod_bool Tryz.underlying4 f1; simp only [List.cons.injEq, and_true] at hs hb; subst hs hb
 have ws' : s.data.toList.length ≤ 9223372036854775807 := by
  have : s.data.toList.length = s.size := by rw [Array.length_toList]; rfl
  unfold maxLen at ws; omega
 exact ⟨⟨s.data.toList, b⟩, rfl, ws'⟩
theorem fps_of_trod {fuel : Nat} {c : Value} {x : DataW H × List MemPlace} (h : DataW.trod enc Tryz.prog W 0 sp true fuel 37 [c] = some x) :
 ∃ (l : List FP) (a : Option Addr) (cap : Nat), c = .slice a l.length cap ∧ l.length ≤ 9223372036854775807 ∧ (∀ v ∈ l, v.name.length ≤ 9223372036854775807) ∧ FPs AllB W l a := by
 obtain ⟨l, a, cap, h1, h2, -, h3⟩ := arr_of_trodC (α := FP) enc W sp Tryz.underlying37 cFP (by decide) (fun cs v => cs = v.cells ∧ v.name.length ≤ 9223372036854775807) (fun n cs x _ hx => fp_of_trod enc W sp hx) h; refine ⟨l, a, cap, h1, h2, fun v hv => ?_, h3.mono (fun _ h => h) (fun b o v _ _ ⟨cs, r, e, _⟩ => by subst e; exact r)⟩
 rcases h3 with rfl | ⟨b, o, -, -, hh⟩
 · cases hv
 · obtain ⟨i, hi, rfl⟩ := List.mem_iff_getElem.1 hv
   obtain ⟨cs, -, -, hw⟩ := hh i _ (List.getElem?_eq_getElem hi)
   exact hw
theorem fd_of_trod {fuel : Nat} {cs : List Value} {x : DataW H × List MemPlace} (h : DataW.trod enc Tryz.prog W 0 sp true fuel 42 cs = some x) : ∃ f : FD, (∃ pa pc ba bc, cs = f.cells pa pc ba bc ∧ FPs AllB W f.params pa ∧ f.body.sits AllB W ba) ∧ f.wfA := by
 obtain ⟨xs, n, rfl, -, hl, hlen, hf⟩ := DataW.trod_struct Tryz.underlying42 h; rw [cFD] at hl; obtain ⟨c0, c1, c2, c3, c4, c5, c6, rfl⟩ := len7F hl; obtain ⟨y0, e0⟩ := get_of_lenF (i := 0) hlen (by decide); obtain ⟨y1, e1⟩ := get_of_lenF (i := 1) hlen (by decide); obtain ⟨y2, e2⟩ := get_of_lenF (i := 2) hlen (by decide); obtain ⟨y3, e3⟩ := get_of_lenF (i := 3) hlen (by decide); have f0 : DataW.trod enc Tryz.prog W 0 sp true n 9 (([c0, c1, c2, c3, c4, c5, c6].drop 0).take (Tryz.prog.cellsOf 9)) = some y0 := (hf 0 _ rfl).trans e0; have f1 : DataW.trod enc Tryz.prog W 0 sp true n 37 (([c0, c1, c2, c3, c4, c5, c6].drop 1).take (Tryz.prog.cellsOf 37)) = some y1 := (hf 1 _ rfl).trans e1; have f2 : DataW.trod enc Tryz.prog W 0 sp true n 4 (([c0, c1, c2, c3, c4, c5, c6].drop 2).take (Tryz.prog.cellsOf 4)) = some y2 := (hf 2 _ rfl).trans e2; have f3 : DataW.trod enc Tryz.prog W 0 sp true n 40 (([c0, c1, c2, c3, c4, c5, c6].drop 3).take (Tryz.prog.cellsOf 40)) = some y3 := (hf 3 _ rfl).trans e3; simp only [cFPs, cBool, cells9, cellsNode, List.drop_zero, List.drop_succ_cons, List.take_succ_cons, List.take_zero] at f0 f1 f2 f3; obtain ⟨s, hs, -, ws⟩ := DataW.trod_string underStr f0; obtain ⟨l, pa, pc, hc, hll, hlw, hls⟩ := fps_of_trod enc W sp f1; obtain ⟨q, hq, -⟩ := DataW.trod_bool Tryz.underlying4 f2; obtain ⟨t, ba, bc, hcs, hw, hsit⟩ := node_of_trod enc W sp (n + 1) n (by omega) _ _ f3; simp only [List.cons.injEq, and_true] at hs hcs hq; obtain ⟨rfl, rfl, rfl, rfl⟩ := hcs; subst hs hc hq
 have ws' : s.data.toList.length ≤ 9223372036854775807 := by
  have : s.data.toList.length = s.size := by rw [Array.length_toList]; rfl
  unfold maxLen at ws; omega
 exact ⟨⟨s.data.toList, l, q, t⟩, ⟨pa, pc, ba, bc, rfl, hls, hsit⟩, ws', hll, hlw, hw⟩
set_option maxRecDepth 100000 in
theorem lib_of_trod {r : Reach} {b0 : Nat} {v : Value} {d : DataW H} {ps : List MemPlace} {sp : Nat → Bool} (hval : Value.okWide Tryz.prog W r b0 22 v) (h : DataW.Trod enc Tryz.prog W 0 sp true 22 v d ps) :
 ∃ (l : List FD) (a : Option Addr) (c : Nat), v = .slice a l.length c ∧ l.length ≤ 9223372036854775807 ∧ l.length ≤ c ∧ (∀ f ∈ l, f.wfA) ∧ FDs AllB W l a := by
 obtain ⟨a0, len, cap, rfl⟩ := Go.WideShapes.okWide_slice Tryz.underlying22 hval; obtain ⟨fuel, hf⟩ := h; obtain ⟨l, a, c, h1, h2, h3, h4⟩ := arr_of_trodC (α := FD) enc W sp Tryz.underlying22 cFD (by decide) (fun cs f => (∃ pa pc ba bc, cs = f.cells pa pc ba bc ∧ FPs AllB W f.params pa ∧ f.body.sits AllB W ba) ∧ f.wfA) (fun n cs x _ hx => fd_of_trod enc W sp hx) hf; refine ⟨l, a, c, h1, h2, h3, fun f hf => ?_, ?_⟩
 · rcases h4 with rfl | ⟨b, o, -, -, hh⟩
   · cases hf
   · obtain ⟨i, hi, rfl⟩ := List.mem_iff_getElem.1 hf
     obtain ⟨cs, -, -, hw⟩ := hh i _ (List.getElem?_eq_getElem hi)
     exact hw
 · refine h4.mono (fun _ h => h) (fun b o p _ _ ⟨cs, r, ⟨pa, pc, ba, bc, e, h1, h2⟩, _⟩ => ?_)
   subst e
   exact ⟨pa, pc, ba, bc, r, h1, h2⟩
end
end Bk
namespace Bk
open Go Go.RowKit Go.Proofs
theorem FuntextPrint_d (lib : List FD) (a : Option Addr) (c : Nat) (w : World) (hl : lib.length ≤ 9223372036854775807) (hc : lib.length ≤ c) (hw : ∀ f ∈ lib, f.wfA) (hs : FDs AllB w lib a) (ht : TabsF w) (hE : Errs w) :
 Calls Tryz.prog 3 #[.slice a lib.length c] w fun e w' => e = .returned (.bool true) ∧ Ext w w' := print36_c lib AllB a c w hl hw hs ht hE
end Bk
namespace Bk
open Go Go.RowKit Go.Proofs Go.Lib
theorem cells_of_strs {H : Type} {enc : TypeId × Value → H} {P : Program} {w : World} {base : Nat} {sp : Nat → Bool} {held : Bool} {fuel : Nat} {t e : TypeId} {n : Nat} {cs : List Value} {zs : List (List UInt8)} {p : List MemPlace}
 (ht : P.underlying t = some (.array n e)) (he : P.underlying e = some .string) (hce : P.cellsOf e = 1) (hct : P.cellsOf t = n)
 (h : DataW.trod enc P w base sp held fuel t cs = some (.agg (zs.map fun z => .lit (.string z)), p)) : cs = zs.map str := by
 cases fuel with
 | zero => simp [DataW.trod] at h
 | succ fuel =>
  simp only [DataW.trod, ht, hce, hct, Nat.mul_one] at h
  split at h
  · rename_i hl
    obtain ⟨xs, hm, hx⟩ := Option.map_eq_some_iff.1 h
    have hxs : xs.map (·.1) = zs.map fun z => (DataW.lit (.string z) : DataW H) := by
     have := congrArg Prod.fst hx
     simpa using this
    have hxl : xs.length = n := by simpa using mapM_length hm
    have hzl : zs.length = n := by
     have := congrArg List.length hxs
     simp at this
     omega
    apply List.ext_getElem?
    intro i
    by_cases hi : i < n
    · obtain ⟨b, hb, hf⟩ := mapM_at hm i i (by simp [hi])
      obtain ⟨z, hc, rfl, _⟩ := DataW.trod_string he hf
      have h1 : cs[i]? = some (.string z) := by
       have := congrArg (·[0]?) hc
       simpa [List.getElem?_take, List.getElem?_drop] using this
      have h2 : (xs.map (·.1))[i]? = some (DataW.lit (.string z.data.toList) : DataW H) := by simp [hb]
      rw [hxs] at h2; simp only [List.getElem?_map, Option.map_eq_some_iff, DataW.lit.injEq, Lit.string.injEq] at h2; obtain ⟨z', hz', rfl⟩ := h2
      simp [h1, hz']
    · rw [List.getElem?_eq_none (by omega), List.getElem?_eq_none (by simp; omega)]
  · cases h
end Bk
namespace Bk
open Go Go.RowKit Go.Proofs Go.Lib
theorem gSym4 : Tryz.prog.globalNamed "backstep/arith.symbols" = some 0 := by kernel_rfl
theorem gSymT4 : (Tryz.prog.globals[0]?).map (·.type) = some 102 := by kernel_rfl
theorem uSymT4 : Tryz.prog.underlying 102 = some (.array 43 9) := by kernel_rfl
theorem cSymT4 : Tryz.prog.cellsOf 102 = 43 := by kernel_rfl
theorem uStr4 : Tryz.prog.underlying 9 = some .string := by kernel_rfl
theorem cStr4 : Tryz.prog.cellsOf 9 = 1 := by kernel_rfl
theorem gErr4 : Tryz.prog.globalNamed "strconv.ErrRange" = some 6 := by kernel_rfl
theorem gErrT4 : (Tryz.prog.globals[6]?).map (·.type) = some 55 := by kernel_rfl
theorem uErr4 : ∃ ms, Tryz.prog.underlying 55 = some (.interface ms) := ⟨_, Tryz.underlying55⟩
theorem symData4 : (YthfjhbdgdaebnaaGreatDoor.Rows.laid_backstep_arith_symbols : DataW Unit) = .agg (symbols.map fun z => .lit (.string z)) := rfl
abbrev laid4 : List (String × DataW Unit) := [("backstep/arith.symbols", YthfjhbdgdaebnaaGreatDoor.Rows.laid_backstep_arith_symbols), ("math/bits.deBruijn32tab", YthfjhbdgdaebnaaGreatDoor.Rows.laid_math_bits_deBruijn32tab), ("math/bits.deBruijn64tab", YthfjhbdgdaebnaaGreatDoor.Rows.laid_math_bits_deBruijn64tab), ("internal/strconv.uint64pow10", YthfjhbdgdaebnaaGreatDoor.Rows.laid_internal_strconv_uint64pow10), ("strconv.ErrRange", YthfjhbdgdaebnaaGreatDoor.Rows.laid_strconv_ErrRange), ("strconv.ErrSyntax", YthfjhbdgdaebnaaGreatDoor.Rows.laid_strconv_ErrSyntax)]
theorem syms_of_laid {W : World} (h : laidMetH Tryz.prog laid4 W) : Syms W ∧ Errs W := by
 have h' : laidMet Tryz.prog laid4 W := h; obtain ⟨ps, ⟨g1, t1, cs1, f1, p1, q1, hg1, ht1, hv1, hd1, ⟨g2, t2, cs2, f2, p2, q2, hg2, ht2, hv2, hd2, ⟨g3, t3, cs3, f3, p3, q3, hg3, ht3, hv3, hd3, ⟨g4, t4, cs4, f4, p4, q4, hg4, ht4, hv4, hd4, ⟨g5, t5, cs5, f5, p5, q5, hg5, ht5, hv5, hd5, -, -⟩, -⟩, -⟩, -⟩, -⟩, -⟩ := h'; obtain rfl := Option.some.inj (gSym4.symm.trans hg1); obtain rfl := Option.some.inj (gSymT4.symm.trans ht1); obtain rfl := Option.some.inj (gErr4.symm.trans hg5); obtain rfl := Option.some.inj (gErrT4.symm.trans ht5); rw [symData4] at hd1; have e1 := cells_of_strs uSymT4 uStr4 cStr4 cSymT4 hd1; refine ⟨⟨fun i hi => ?_⟩, ?_⟩
 · rw [World.var?_cell gSym4 hv1 i, ← Array.getElem?_toList, e1, List.getElem?_map]
   have : symbols[i]? = some (symbols.getD i []) := by
    rw [List.getD_eq_getElem?_getD, List.getElem?_eq_getElem (show i < symbols.length from hi)]; rfl
   rw [this]; rfl
 · obtain ⟨ms, hu⟩ := uErr4
   obtain ⟨f, u, v, hc, -, -⟩ := iface_of_trod hu hd5; refine ⟨⟨u, v, ?_⟩⟩; rw [World.var?_cell gErr4 hv5 0, ← Array.getElem?_toList, hc]
   rfl
end Bk
namespace Bk
open Go Go.RowKit Go.Proofs Go.Lib
theorem gPow36 : Tryz.prog.globalNamed "internal/strconv.uint64pow10" = some 2 := by kernel_rfl
theorem gPowT36 : (Tryz.prog.globals[2]?).map (·.type) = some 144 := by kernel_rfl
theorem uPowT36 : Tryz.prog.underlying 144 = some (.array 20 137) := by kernel_rfl
theorem uU6436 : Tryz.prog.underlying 137 = some (.int .u64) := by kernel_rfl
theorem cU6436 : Tryz.prog.cellsOf 137 = 1 := by kernel_rfl
theorem cPowT36 : Tryz.prog.cellsOf 144 = 20 := by kernel_rfl
theorem powData36 : (YthfjhbdgdaebnaaGreatDoor.Rows.laid_internal_strconv_uint64pow10 : DataW Unit) = tabData .u64 pow10Tab := rfl
theorem heap36_of_laid {W : World} (h : laidMetH Tryz.prog laid4 W) : Tryz.prog.globals.size ≤ W.heap.size := by
 have h' : laidMet Tryz.prog laid4 W := h; obtain ⟨ps, ⟨g1, t1, cs1, f1, p1, q1, hg1, ht1, hv1, hd1, ⟨g2, t2, cs2, f2, p2, q2, hg2, ht2, hv2, hd2, ⟨g3, t3, cs3, f3, p3, q3, hg3, ht3, hv3, hd3, ⟨g4, t4, cs4, f4, p4, q4, hg4, ht4, hv4, hd4, ⟨g5, t5, cs5, f5, p5, q5, hg5, ht5, hv5, hd5, ⟨g6, t6, cs6, f6, p6, q6, hg6, ht6, hv6, hd6, -, -⟩, -⟩, -⟩, -⟩, -⟩, -⟩, -⟩ := h'
 have key : ∀ (nm : String) (g : Nat) (v : _), Tryz.prog.globalNamed nm = some g → W.var? Tryz.prog nm = some v → g < W.heap.size := by
  intro nm g v hg hv
  rcases Nat.lt_or_ge g W.heap.size with hlt | hge
  · exact hlt
  · unfold World.var? at hv
    rw [hg] at hv
    simp [Array.getElem?_eq_none hge] at hv
 have k5 := key _ 6 _ (by kernel_rfl) hv5; have k6 := key _ 5 _ (by kernel_rfl) hv6; have k4 := key _ 2 _ (by kernel_rfl) hv4; have k3 := key _ 4 _ (by kernel_rfl) hv3; have hn : Tryz.prog.globals.size ≤ max (max 6 5) (max 2 4) + 1 := of_decide_eq_true (by kernel_rfl)
 omega
theorem tabs36_of_laid {W : World} (h : laidMetH Tryz.prog laid4 W) : TabsF W ∧ Errs W := by
 obtain ⟨hS, hE⟩ := syms_of_laid h; have hg := heap36_of_laid h; have h' : laidMet Tryz.prog laid4 W := h; obtain ⟨ps, ⟨g1, t1, cs1, f1, p1, q1, hg1, ht1, hv1, hd1, ⟨g2, t2, cs2, f2, p2, q2, hg2, ht2, hv2, hd2, ⟨g3, t3, cs3, f3, p3, q3, hg3, ht3, hv3, hd3, ⟨g4, t4, cs4, f4, p4, q4, hg4, ht4, hv4, hd4, -, -⟩, -⟩, -⟩, -⟩, -⟩ := h'; obtain rfl := Option.some.inj (gPow36.symm.trans hg4); obtain rfl := Option.some.inj (gPowT36.symm.trans ht4); rw [powData36] at hd4; have e4 := cells_of_tab uPowT36 uU6436 cU6436 cPowT36 hd4; refine ⟨⟨⟨hS.sym, ?_⟩, hg⟩, hE⟩
 unfold TabIs
 rw [hv4, ← e4]
end Bk
