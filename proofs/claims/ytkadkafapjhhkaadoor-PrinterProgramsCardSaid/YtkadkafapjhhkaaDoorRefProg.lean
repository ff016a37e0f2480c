/- Contracts of the reference's Decl and Program (layer 5). -/
import Derived.Test.YtkadkafapjhhkaaDoorSpecP
import Derived.Test.YtkadkafapjhhkaaDoorRefLines
namespace Bk
open Go Go.RowKit Go.Proofs
set_option maxRecDepth 100000 in
set_option maxHeartbeats 1000000 in
theorem rDecl_c (v : VD) (w : World) (h : v.ok = true) : Calls Tryd.prog 42 #[v.val] w fun e w' => e = .returned (str v.text) ∧ Ext w w' := by
  have hok := h
  simp only [VD.ok, Bool.and_eq_true] at h
  have hnl := isName_len h.1
  have h2 := h.2
  clear h
  refine calls_in Tryd.func42 Tryd.ntmps42 rfl rfl ?_
  (refine cw_seq ?_; refine cw_region ?_)
  refine lw_box rfl rfl rfl ?_
  intro b1 w1 hn1
  have h1 := hn1.blk
  have x1 := hn1.ext
  by_cases c1 : v.kind = 1
  · ((refine lw_is ?_; refine lw_pure (by exact pur_assign rfl) rfl ?_); refine lw_nil ?_; refine qw_then ?_; refine cw_seq ?_; refine cw_seq ?_; refine cw_region ?_; (refine lw_is ?_; refine lw_pure (by exact pur_fieldAddr tabOk rfl rfl rfl) rfl ?_); (refine lw_is ?_; refine lw_pure (by exact pur_load tabOk rfl rfl rfl (by exact fun wz hz => by (try subst hz); exact (Blk.cell (by assumption) (by rfl)))) rfl ?_); refine lw_nil ?_; refine qw_then ?_; refine cw_block ?_; refine cw_seq ?_; refine cw_region ?_; (refine lw_is ?_; refine lw_pure (by exact pur_eql rfl rfl) rfl ?_); (refine lw_is ?_; refine lw_pure (by exact pur_assign rfl) rfl ?_); refine lw_nil ?_; refine qw_then ?_; (refine cw_is ?_; refine cw_yes rfl (by assumption) ?_); refine cw_seq ?_; refine cw_region ?_; (refine lw_is ?_; refine lw_pure (by exact pur_fieldAddr0 tabOk rfl rfl rfl) rfl ?_); (refine lw_is ?_; refine lw_pure (by exact pur_load tabOk rfl rfl rfl (by exact fun wz hz => by (try subst hz); exact (Blk.cell (by assumption) (by rfl)))) rfl ?_); (refine lw_is ?_; refine lw_pure (by exact pur_sadd rfl rfl (by (simp only [List.length_cons, List.length_nil]; omega))) rfl ?_); (refine lw_is ?_; refine lw_pure (by exact pur_assign rfl) rfl ?_); refine lw_nil ?_; refine qw_then ?_; refine cw_ret ?_; refine qw_block_ret ?_; refine qw_then_ret ?_)
    refine qw_ret1 Tryd.results42 rfl ?_
    exact ⟨ret_str (by simp [VD.text, c1]), x1⟩
  by_cases c2 : v.kind = 2
  · rw [if_neg (by omega), if_pos c2] at h2
    simp only [Bool.and_eq_true, decide_eq_true_eq] at h2
    obtain ⟨hl0, hl1⟩ := h2
    have hit : Lib.itoa v.len = Lib.decDigits v.len.toNat := by unfold Lib.itoa; rw [if_neg (by omega)]
    have hil := itoa_len16 v.len hl0 hl1
    rw [hit] at hil
    have HI := Lib.hid hit
    clear hit
    ((refine lw_is ?_; refine lw_pure (by exact pur_assign rfl) rfl ?_); refine lw_nil ?_; refine qw_then ?_; refine cw_seq ?_; refine cw_seq ?_; refine cw_region ?_; (refine lw_is ?_; refine lw_pure (by exact pur_fieldAddr tabOk rfl rfl rfl) rfl ?_); (refine lw_is ?_; refine lw_pure (by exact pur_load tabOk rfl rfl rfl (by exact fun wz hz => by (try subst hz); exact (Blk.cell (by assumption) (by rfl)))) rfl ?_); refine lw_nil ?_; refine qw_then ?_; refine cw_block ?_; refine cw_seq ?_; refine cw_region ?_; (refine lw_is ?_; refine lw_pure (by exact pur_eql rfl rfl) rfl ?_); (refine lw_is ?_; refine lw_pure (by exact pur_assign rfl) rfl ?_); refine lw_nil ?_; refine qw_then ?_; (refine cw_is ?_; refine cw_no rfl (by assumption) ?_); refine cw_seq ?_; refine cw_region ?_; (refine lw_is ?_; refine lw_pure (by exact pur_eql rfl rfl) rfl ?_); (refine lw_is ?_; refine lw_pure (by exact pur_assign rfl) rfl ?_); refine lw_nil ?_; refine qw_then ?_; (refine cw_is ?_; refine cw_yes rfl (by assumption) ?_); refine cw_seq ?_)
    refine cw_draw (fun w' => Ext w1 w') (.pure 0 (.pure 1 (.pure 2 (.pure 3 (.pure 4 (.pure 5 (.fork 6 (.pure 7 (.pure 8 (.pure 9 .done))) .none))))))) mixed (by kernel_rfl) (by refine panicOk_then ?_; refine panicOk_block ?_; refine panicOk_then ?_; exact panicOk_body) ?_
    intro w2 x2 _
    refine ⟨x2, ?_⟩
    (refine dw_pure rfl (by exact pur_fieldAddr0 tabOk rfl rfl rfl) rfl ?_; refine dw_pure rfl (by exact pur_load tabOk rfl rfl rfl (by exact fun wz hz => by (try subst hz); exact (Ext.keep (by assumption) (Blk.cell (by assumption) (by rfl))))) rfl ?_; refine dw_pure rfl (by exact pur_sadd rfl rfl (by (simp only [List.length_cons, List.length_nil]; omega))) rfl ?_; refine dw_pure rfl (by exact pur_sadd rfl rfl (by (simp only [List.length_append, List.length_cons, List.length_nil]; omega))) rfl ?_; refine dw_pure rfl (by exact pur_fieldAddr tabOk rfl rfl rfl) rfl ?_; refine dw_pure rfl (by exact pur_load tabOk rfl rfl rfl (by exact fun wz hz => by (try subst hz); exact (Ext.keep (by assumption) (Blk.cell (by assumption) (by rfl))))) rfl ?_)
    refine dw_does rfl (does_call (by kernel_rfl) rfl (Decimal_c (v.len.toNat + 1) v.len _ (by omega) (by omega) (by omega)) (fun _ _ h => ⟨_, h.1⟩)) rfl ?_ (fun _ h => h) dw_none
    rintro _ w3 ⟨⟨⟩, x3⟩
    refine ⟨(by refine Ext.trans ?_ (by assumption); assumption), ?_⟩
    (refine dw_pure rfl (by exact pur_sadd rfl rfl (by (simp only [List.length_append, List.length_cons, List.length_nil]; omega))) rfl ?_; refine dw_pure rfl (by exact pur_sadd rfl rfl (by (simp only [List.length_append, List.length_cons, List.length_nil]; omega))) rfl ?_; refine dw_pure rfl (by exact pur_assign rfl) rfl ?_; refine dw_done ?_)
    (refine qw_then ?_; refine cw_ret ?_; refine qw_block_ret ?_; refine qw_then_ret ?_)
    refine qw_ret1 Tryd.results42 rfl ?_
    exact ⟨ret_str (by simp [VD.text, c2, HI.out]), (by refine Ext.trans ?_ (by assumption); refine Ext.trans ?_ (by assumption); assumption)⟩
  · ((refine lw_is ?_; refine lw_pure (by exact pur_assign rfl) rfl ?_); refine lw_nil ?_; refine qw_then ?_; refine cw_seq ?_; refine cw_seq ?_; refine cw_region ?_; (refine lw_is ?_; refine lw_pure (by exact pur_fieldAddr tabOk rfl rfl rfl) rfl ?_); (refine lw_is ?_; refine lw_pure (by exact pur_load tabOk rfl rfl rfl (by exact fun wz hz => by (try subst hz); exact (Blk.cell (by assumption) (by rfl)))) rfl ?_); refine lw_nil ?_; refine qw_then ?_; refine cw_block ?_; refine cw_seq ?_; refine cw_region ?_; (refine lw_is ?_; refine lw_pure (by exact pur_eql rfl rfl) rfl ?_); (refine lw_is ?_; refine lw_pure (by exact pur_assign rfl) rfl ?_); refine lw_nil ?_; refine qw_then ?_; (refine cw_is ?_; refine cw_no rfl (by assumption) ?_); refine cw_seq ?_; refine cw_region ?_; (refine lw_is ?_; refine lw_pure (by exact pur_eql rfl rfl) rfl ?_); (refine lw_is ?_; refine lw_pure (by exact pur_assign rfl) rfl ?_); refine lw_nil ?_; refine qw_then ?_; (refine cw_is ?_; refine cw_no rfl (by assumption) ?_); refine cw_skip ?_; refine qw_block_norm ?_; refine qw_then ?_; refine cw_seq ?_; refine cw_region ?_; (refine lw_is ?_; refine lw_pure (by exact pur_fieldAddr0 tabOk rfl rfl rfl) rfl ?_); (refine lw_is ?_; refine lw_pure (by exact pur_load tabOk rfl rfl rfl (by exact fun wz hz => by (try subst hz); exact (Blk.cell (by assumption) (by rfl)))) rfl ?_); (refine lw_is ?_; refine lw_pure (by exact pur_sadd rfl rfl (by (simp only [List.length_cons, List.length_nil]; omega))) rfl ?_); (refine lw_is ?_; refine lw_pure (by exact pur_assign rfl) rfl ?_); refine lw_nil ?_; refine qw_then ?_; refine cw_ret ?_)
    refine qw_ret1 Tryd.results42 rfl ?_
    exact ⟨ret_str (by simp [VD.text, c1, c2]), x1⟩
set_option maxRecDepth 100000 in
set_option maxHeartbeats 1000000 in
theorem rProgram_c (g : PG) (S : Nat → Prop) (va : Option Addr) (vc : Nat) (pa : Option Addr) (pc : Nat) (ma : Option Addr) (mc : Nat) (w : World) (hwf : g.wf) (hok : g.ok = true) (hs : g.sits S w va pa ma) :
    Calls Tryd.prog 17 #[.agg (g.cells va vc pa pc ma mc).toArray] w fun e w' => e = .returned (str g.text) ∧ Ext w w' := by
  have hlen := PG.text_len g hwf hok
  have hnv := hwf.nv
  have hnp := hwf.np
  have HK := Lib.hid hok
  simp only [PG.ok, Bool.and_eq_true, decide_eq_true_eq] at hok
  obtain ⟨⟨⟨⟨o1, o2⟩, o3⟩, o4⟩, o5⟩ := hok
  obtain ⟨m1, m2, m3⟩ := body_len g.main hwf.main o5
  have O3 := Lib.hid o3; clear o3
  have O4 := Lib.hid o4; clear o4
  simp only [PG.text, List.length_append, List.length_cons, List.length_nil] at hlen
  refine calls_in Tryd.func17 Tryd.ntmps17 rfl rfl ?_
  (refine cw_seq ?_; refine cw_region ?_)
  refine lw_box rfl rfl rfl ?_
  intro b1 w1 hn1
  have h1 := hn1.blk
  have x1 := hn1.ext
  ((refine lw_is ?_; refine lw_pure (by exact pur_assign rfl) rfl ?_); refine lw_nil ?_; refine qw_then ?_; refine cw_seq ?_; refine cw_region ?_; (refine lw_is ?_; refine lw_pure (by exact pur_assign rfl) rfl ?_); refine lw_nil ?_; refine qw_then ?_; refine cw_seq ?_; refine cw_seq ?_; refine cw_region ?_; (refine lw_is ?_; refine lw_pure (by exact pur_assign rfl) rfl ?_); refine lw_nil ?_; refine qw_then ?_; refine cw_block ?_)
  refine cw_loop (ι := Nat) (fun j => [(4, .int .i64 j), (3, str (cat VD.line (g.vars.take j))), (1, .pointer (some ⟨b1, 0, none⟩))]) (fun j w' => Ext w1 w' ∧ j ≤ g.vars.length) (fun j => g.vars.length - j) 0 (by (refine sub_cons rfl ?_; refine sub_cons rfl ?_; refine sub_cons rfl ?_; exact sub_nil)) ⟨Ext.refl _, by omega⟩ ?_
  rintro j w2 ⟨x2, hj⟩
  have h2 := h1.ext x2
  have xx2 : Ext w w2 := x1.trans x2
  have hcl := cat_le VD.line g.vars j
  by_cases hlt : j < g.vars.length
  · obtain ⟨kb, ko, rfl, -, hkid⟩ := Arr.get (hs.vars.ext xx2) (by omega)
    have rx : Row w2 ⟨kb, ko + j * 3, none⟩ g.vars[j].cells := hkid j g.vars[j] (List.getElem?_eq_getElem hlt)
    have hvo : g.vars[j].ok = true := by have := O3.out; unfold allOk at this; exact List.all_eq_true.1 this _ (List.getElem_mem hlt)
    have hcs := cat_snoc VD.line g.vars j hlt
    have hc2 := cat_le VD.line g.vars (j + 1)
    rw [hcs] at hc2
    simp only [VD.line, List.length_append, List.length_cons, List.length_nil] at hc2 hcs hcl
    have HC := Lib.hid hcs
    clear hcs hkid
    generalize g.vars[j] = v at *
    (refine cw_seq ?_; refine cw_seq ?_; refine cw_region ?_; (refine lw_is ?_; refine lw_pure (by exact pur_move rfl) rfl ?_); (refine lw_is ?_; refine lw_pure (by exact pur_fieldAddr0 tabOk rfl rfl rfl) rfl ?_); (refine lw_is ?_; refine lw_pure (by exact pur_load tabOk rfl rfl rfl (by exact fun wz hz => by (try subst hz); exact (Blk.cell (by assumption) (by rfl)))) rfl ?_); (refine lw_is ?_; refine lw_pure (by exact pur_len_slice tabOk rfl rfl) rfl ?_); (refine lw_is ?_; refine lw_pure (by exact pur_lss rfl rfl) rfl ?_); refine lw_nil ?_; refine qw_then ?_; (refine cw_is ?_; refine cw_yes rfl (by omega) ?_); refine cw_skip ?_; refine qw_then ?_; refine cw_seq ?_; refine cw_block ?_; refine cw_region ?_; (refine lw_is ?_; refine lw_pure (by exact pur_move rfl) rfl ?_); (refine lw_is ?_; refine lw_pure (by exact pur_fieldAddr0 tabOk rfl rfl rfl) rfl ?_); (refine lw_is ?_; refine lw_pure (by exact pur_load tabOk rfl rfl rfl (by exact fun wz hz => by (try subst hz); exact (Blk.cell (by assumption) (by rfl)))) rfl ?_); (refine lw_is ?_; refine lw_pure (by exact pur_move rfl) rfl ?_); (refine lw_is ?_; refine lw_pure (by exact pur_indexAddr tabOk rfl rfl rfl rfl (by omega) (by omega)) rfl ?_); (refine lw_is ?_; refine lw_pure (by exact pur_loads' tabOk rfl rfl rfl (by exact fun wz hz => by (try subst hz); exact (by assumption)) (by rfl)) rfl ?_))
    refine lw_does (does_call (by kernel_rfl) rfl (rDecl_c v _ hvo) (fun _ _ h => ⟨_, h.1⟩)) rfl ?_ (fun _ h => h)
    rintro _ w3 ⟨⟨⟩, x3⟩
    ((refine lw_is ?_; refine lw_pure (by exact pur_sadd rfl rfl (by omega)) rfl ?_); (refine lw_is ?_; refine lw_pure (by exact pur_sadd rfl rfl (by (simp only [List.length_append, List.length_cons, List.length_nil]; omega))) rfl ?_); (refine lw_is ?_; refine lw_pure (by exact pur_assign rfl) rfl ?_); refine lw_nil ?_; refine qw_block_norm ?_; refine qw_then ?_; refine cw_region ?_; (refine lw_is ?_; refine lw_pure (by exact pur_move rfl) rfl ?_); (refine lw_is ?_; refine lw_pure (by exact pur_add rfl rfl (IntWalk.i64_in _ (by omega))) rfl ?_); (refine lw_is ?_; refine lw_pure (by exact pur_assign rfl) rfl ?_); refine lw_nil ?_)
    refine qw_round (j + 1) ?_ ⟨x2.trans x3, by omega⟩ (by omega)
    refine sub_cons rfl (sub_cons' rfl ?_ (sub_cons rfl sub_nil))
    rw [HC.out]; simp
  obtain rfl : j = g.vars.length := by omega
  rw [List.take_length] at hcl
  clear hj
  simp only [List.take_length]
  (refine cw_seq ?_; refine cw_seq ?_; refine cw_region ?_; (refine lw_is ?_; refine lw_pure (by exact pur_move rfl) rfl ?_); (refine lw_is ?_; refine lw_pure (by exact pur_fieldAddr0 tabOk rfl rfl rfl) rfl ?_); (refine lw_is ?_; refine lw_pure (by exact pur_load tabOk rfl rfl rfl (by exact fun wz hz => by (try subst hz); exact (Blk.cell (by assumption) (by rfl)))) rfl ?_); (refine lw_is ?_; refine lw_pure (by exact pur_len_slice tabOk rfl rfl) rfl ?_); (refine lw_is ?_; refine lw_pure (by exact pur_lss rfl rfl) rfl ?_); refine lw_nil ?_; refine qw_then ?_; (refine cw_is ?_; refine cw_no rfl (by omega) ?_); refine cw_exit ?_; refine qw_then_exit ?_; refine qw_then_exit ?_; refine qw_block_exit ?_; refine qw_then ?_; refine cw_seq ?_; refine cw_seq ?_; refine cw_region ?_; (refine lw_is ?_; refine lw_pure (by exact pur_assign rfl) rfl ?_); refine lw_nil ?_; refine qw_then ?_; refine cw_block ?_)
  refine cw_loop (ι := Nat) (fun j => [(5, .int .i64 j), (3, str (cat VD.line g.vars ++ cat PD.text (g.procs.take j))), (1, .pointer (some ⟨b1, 0, none⟩))]) (fun j w' => Ext w2 w' ∧ j ≤ g.procs.length) (fun j => g.procs.length - j) 0 ?_ ⟨Ext.refl _, by omega⟩ ?_
  · refine sub_cons rfl (sub_cons' rfl ?_ (sub_cons rfl sub_nil))
    simp [cat]
  rintro j w3 ⟨x3, hj⟩
  have h3 := h2.ext x3
  have xx3 : Ext w w3 := xx2.trans x3
  have hpl := cat_le PD.text g.procs j
  by_cases hlt2 : j < g.procs.length
  · obtain ⟨kb, ko, rfl, -, hkid⟩ := Arr.get (hs.procs.ext xx3) (by omega)
    obtain ⟨qa, qc, ba, bc, rx, sv, sb⟩ := hkid j g.procs[j] (List.getElem?_eq_getElem hlt2)
    have hpo : g.procs[j].ok = true := List.all_eq_true.1 O4.out _ (List.getElem_mem hlt2)
    have hpw := hwf.procs g.procs[j] (List.getElem_mem hlt2)
    have hcs := cat_snoc PD.text g.procs j hlt2
    have hc2 := cat_le PD.text g.procs (j + 1)
    rw [hcs] at hc2
    have HC := Lib.hid hcs
    clear hcs hkid
    generalize g.procs[j] = p at *
    simp only [PD.ok, Bool.and_eq_true, decide_eq_true_eq] at hpo
    obtain ⟨⟨⟨q1, q2⟩, q3⟩, q4⟩ := hpo
    obtain ⟨n1, n2, n3⟩ := body_len p.body hpw.body q4
    have hpn := hpw.len
    have Q3 := Lib.hid q3; clear q3
    simp only [PD.text, List.length_append, List.length_cons, List.length_nil] at hc2
    (refine cw_seq ?_; refine cw_seq ?_; refine cw_region ?_; (refine lw_is ?_; refine lw_pure (by exact pur_move rfl) rfl ?_); (refine lw_is ?_; refine lw_pure (by exact pur_fieldAddr tabOk rfl rfl rfl) rfl ?_); (refine lw_is ?_; refine lw_pure (by exact pur_load tabOk rfl rfl rfl (by exact fun wz hz => by (try subst hz); exact (Blk.cell (by assumption) (by rfl)))) rfl ?_); (refine lw_is ?_; refine lw_pure (by exact pur_len_slice tabOk rfl rfl) rfl ?_); (refine lw_is ?_; refine lw_pure (by exact pur_lss rfl rfl) rfl ?_); refine lw_nil ?_; refine qw_then ?_; (refine cw_is ?_; refine cw_yes rfl (by omega) ?_); refine cw_skip ?_; refine qw_then ?_; refine cw_seq ?_; refine cw_block ?_; refine cw_seq ?_; refine cw_region ?_; (refine lw_is ?_; refine lw_pure (by exact pur_move rfl) rfl ?_); (refine lw_is ?_; refine lw_pure (by exact pur_sadd rfl rfl (by (simp only [List.length_append, List.length_cons, List.length_nil]; omega))) rfl ?_); (refine lw_is ?_; refine lw_pure (by exact pur_fieldAddr tabOk rfl rfl rfl) rfl ?_); (refine lw_is ?_; refine lw_pure (by exact pur_load tabOk rfl rfl rfl (by exact fun wz hz => by (try subst hz); exact (Blk.cell (by assumption) (by rfl)))) rfl ?_); (refine lw_is ?_; refine lw_pure (by exact pur_move rfl) rfl ?_); (refine lw_is ?_; refine lw_pure (by exact pur_indexAddr tabOk rfl rfl rfl rfl (by omega) (by omega)) rfl ?_); (refine lw_is ?_; refine lw_pure (by exact pur_fieldAddr0 tabOk rfl rfl rfl) rfl ?_); (refine lw_is ?_; refine lw_pure (by exact pur_load tabOk rfl rfl rfl (by exact fun wz hz => by (try subst hz); exact (Row.at0 (by assumption) (by rfl)))) rfl ?_); (refine lw_is ?_; refine lw_pure (by exact pur_sadd rfl rfl (by (simp only [List.length_append, List.length_cons, List.length_nil]; omega))) rfl ?_); (refine lw_is ?_; refine lw_pure (by exact pur_sadd rfl rfl (by (simp only [List.length_append, List.length_cons, List.length_nil]; omega))) rfl ?_); (refine lw_is ?_; refine lw_pure (by exact pur_assign rfl) rfl ?_); refine lw_nil ?_; refine qw_then ?_; refine cw_seq ?_; refine cw_seq ?_; refine cw_region ?_; (refine lw_is ?_; refine lw_pure (by exact pur_assign rfl) rfl ?_); refine lw_nil ?_; refine qw_then ?_; refine cw_block ?_)
    refine cw_loop (ι := Nat) (fun i => [(6, .int .i64 i), (3, str (cat VD.line g.vars ++ cat PD.text (g.procs.take j) ++ [112, 114, 111, 99, 32] ++ p.name ++ [40] ++ commas VD.text true (p.params.take i))), (5, .int .i64 j), (1, .pointer (some ⟨b1, 0, none⟩))]) (fun i w' => Ext w3 w' ∧ i ≤ p.params.length) (fun i => p.params.length - i) 0 ?_ ⟨Ext.refl _, by omega⟩ ?_
    · refine sub_cons rfl (sub_cons' rfl ?_ (sub_cons rfl (sub_cons rfl sub_nil)))
      simp [commas]
    rintro i w4 ⟨x4, hi⟩
    have h4 := h3.ext x4
    have r4 := rx.ext x4
    have xx4 : Ext w w4 := xx3.trans x4
    have hml := commas_le VD.text p.params i
    by_cases hlt3 : i < p.params.length
    · obtain ⟨vb, vo, rfl, -, hvid⟩ := Arr.get (sv.ext x4) (by omega)
      have rv : Row w4 ⟨vb, vo + i * 3, none⟩ p.params[i].cells := hvid i p.params[i] (List.getElem?_eq_getElem hlt3)
      have hvo : p.params[i].ok = true := by have := Q3.out; unfold allOk at this; exact List.all_eq_true.1 this _ (List.getElem_mem hlt3)
      have hms := commas_snoc VD.text p.params i hlt3
      have hm2 := commas_le VD.text p.params (i + 1)
      rw [hms] at hm2
      have HM := Lib.hid hms
      clear hms hvid
      generalize p.params[i] = v at *
      by_cases hi0 : i = 0
      · subst hi0
        simp only [if_true, List.length_append, List.length_nil] at hm2
        (refine cw_seq ?_; refine cw_seq ?_; refine cw_region ?_; (refine lw_is ?_; refine lw_pure (by exact pur_move rfl) rfl ?_); (refine lw_is ?_; refine lw_pure (by exact pur_fieldAddr tabOk rfl rfl rfl) rfl ?_); (refine lw_is ?_; refine lw_pure (by exact pur_load tabOk rfl rfl rfl (by exact fun wz hz => by (try subst hz); exact (Blk.cell (by assumption) (by rfl)))) rfl ?_); (refine lw_is ?_; refine lw_pure (by exact pur_move rfl) rfl ?_); (refine lw_is ?_; refine lw_pure (by exact pur_indexAddr tabOk rfl rfl rfl rfl (by omega) (by omega)) rfl ?_); (refine lw_is ?_; refine lw_pure (by exact pur_fieldAddr tabOk rfl rfl rfl) rfl ?_); (refine lw_is ?_; refine lw_pure (by exact pur_load tabOk rfl rfl rfl (by exact fun wz hz => by (try subst hz); exact (Row.at (by assumption) (by rfl)))) rfl ?_); (refine lw_is ?_; refine lw_pure (by exact pur_len_slice tabOk rfl rfl) rfl ?_); (refine lw_is ?_; refine lw_pure (by exact pur_lss rfl rfl) rfl ?_); refine lw_nil ?_; refine qw_then ?_; (refine cw_is ?_; refine cw_yes rfl (by omega) ?_); refine cw_skip ?_; refine qw_then ?_; refine cw_seq ?_; refine cw_block ?_; refine cw_seq ?_; refine cw_seq ?_; refine cw_region ?_; (refine lw_is ?_; refine lw_pure (by exact pur_move rfl) rfl ?_); (refine lw_is ?_; refine lw_pure (by exact pur_gtr rfl rfl) rfl ?_); refine lw_nil ?_; refine qw_then ?_; (refine cw_is ?_; refine cw_no rfl (by omega) ?_); refine cw_skip ?_; refine qw_then ?_; refine cw_region ?_; (refine lw_is ?_; refine lw_pure (by exact pur_move rfl) rfl ?_); (refine lw_is ?_; refine lw_pure (by exact pur_fieldAddr tabOk rfl rfl rfl) rfl ?_); (refine lw_is ?_; refine lw_pure (by exact pur_load tabOk rfl rfl rfl (by exact fun wz hz => by (try subst hz); exact (Blk.cell (by assumption) (by rfl)))) rfl ?_); (refine lw_is ?_; refine lw_pure (by exact pur_move rfl) rfl ?_); (refine lw_is ?_; refine lw_pure (by exact pur_indexAddr tabOk rfl rfl rfl rfl (by omega) (by omega)) rfl ?_); (refine lw_is ?_; refine lw_pure (by exact pur_fieldAddr tabOk rfl rfl rfl) rfl ?_); (refine lw_is ?_; refine lw_pure (by exact pur_load tabOk rfl rfl rfl (by exact fun wz hz => by (try subst hz); exact (Row.at (by assumption) (by rfl)))) rfl ?_); (refine lw_is ?_; refine lw_pure (by exact pur_move rfl) rfl ?_); (refine lw_is ?_; refine lw_pure (by exact pur_indexAddr tabOk rfl rfl rfl rfl (by omega) (by omega)) rfl ?_); (refine lw_is ?_; refine lw_pure (by exact pur_loads' tabOk rfl rfl rfl (by exact fun wz hz => by (try subst hz); exact (by assumption)) (by rfl)) rfl ?_))
        refine lw_does (does_call (by kernel_rfl) rfl (rDecl_c v _ hvo) (fun _ _ h => ⟨_, h.1⟩)) rfl ?_ (fun _ h => h)
        rintro _ w5 ⟨⟨⟩, x5⟩
        ((refine lw_is ?_; refine lw_pure (by exact pur_sadd rfl rfl (by (simp only [List.length_append, List.length_cons, List.length_nil]; omega))) rfl ?_); (refine lw_is ?_; refine lw_pure (by exact pur_assign rfl) rfl ?_); refine lw_nil ?_; refine qw_block_norm ?_; refine qw_then ?_; refine cw_region ?_; (refine lw_is ?_; refine lw_pure (by exact pur_move rfl) rfl ?_); (refine lw_is ?_; refine lw_pure (by exact pur_add rfl rfl (IntWalk.i64_in _ (by omega))) rfl ?_); (refine lw_is ?_; refine lw_pure (by exact pur_assign rfl) rfl ?_); refine lw_nil ?_)
        refine qw_round (1 : Nat) ?_ ⟨x4.trans x5, by omega⟩ (by simp; omega)
        refine sub_cons rfl (sub_cons' rfl ?_ (sub_cons rfl (sub_cons rfl sub_nil)))
        rw [HM.out]; simp
      · simp only [if_neg hi0, List.length_append, List.length_cons, List.length_nil] at hm2
        (refine cw_seq ?_; refine cw_seq ?_; refine cw_region ?_; (refine lw_is ?_; refine lw_pure (by exact pur_move rfl) rfl ?_); (refine lw_is ?_; refine lw_pure (by exact pur_fieldAddr tabOk rfl rfl rfl) rfl ?_); (refine lw_is ?_; refine lw_pure (by exact pur_load tabOk rfl rfl rfl (by exact fun wz hz => by (try subst hz); exact (Blk.cell (by assumption) (by rfl)))) rfl ?_); (refine lw_is ?_; refine lw_pure (by exact pur_move rfl) rfl ?_); (refine lw_is ?_; refine lw_pure (by exact pur_indexAddr tabOk rfl rfl rfl rfl (by omega) (by omega)) rfl ?_); (refine lw_is ?_; refine lw_pure (by exact pur_fieldAddr tabOk rfl rfl rfl) rfl ?_); (refine lw_is ?_; refine lw_pure (by exact pur_load tabOk rfl rfl rfl (by exact fun wz hz => by (try subst hz); exact (Row.at (by assumption) (by rfl)))) rfl ?_); (refine lw_is ?_; refine lw_pure (by exact pur_len_slice tabOk rfl rfl) rfl ?_); (refine lw_is ?_; refine lw_pure (by exact pur_lss rfl rfl) rfl ?_); refine lw_nil ?_; refine qw_then ?_; (refine cw_is ?_; refine cw_yes rfl (by omega) ?_); refine cw_skip ?_; refine qw_then ?_; refine cw_seq ?_; refine cw_block ?_; refine cw_seq ?_; refine cw_seq ?_; refine cw_region ?_; (refine lw_is ?_; refine lw_pure (by exact pur_move rfl) rfl ?_); (refine lw_is ?_; refine lw_pure (by exact pur_gtr rfl rfl) rfl ?_); refine lw_nil ?_; refine qw_then ?_; (refine cw_is ?_; refine cw_yes rfl (by omega) ?_); refine cw_region ?_; (refine lw_is ?_; refine lw_pure (by exact pur_move rfl) rfl ?_); (refine lw_is ?_; refine lw_pure (by exact pur_sadd rfl rfl (by (simp only [List.length_append, List.length_cons, List.length_nil]; omega))) rfl ?_); (refine lw_is ?_; refine lw_pure (by exact pur_assign rfl) rfl ?_); refine lw_nil ?_; refine qw_then ?_; refine cw_region ?_; (refine lw_is ?_; refine lw_pure (by exact pur_move rfl) rfl ?_); (refine lw_is ?_; refine lw_pure (by exact pur_fieldAddr tabOk rfl rfl rfl) rfl ?_); (refine lw_is ?_; refine lw_pure (by exact pur_load tabOk rfl rfl rfl (by exact fun wz hz => by (try subst hz); exact (Blk.cell (by assumption) (by rfl)))) rfl ?_); (refine lw_is ?_; refine lw_pure (by exact pur_move rfl) rfl ?_); (refine lw_is ?_; refine lw_pure (by exact pur_indexAddr tabOk rfl rfl rfl rfl (by omega) (by omega)) rfl ?_); (refine lw_is ?_; refine lw_pure (by exact pur_fieldAddr tabOk rfl rfl rfl) rfl ?_); (refine lw_is ?_; refine lw_pure (by exact pur_load tabOk rfl rfl rfl (by exact fun wz hz => by (try subst hz); exact (Row.at (by assumption) (by rfl)))) rfl ?_); (refine lw_is ?_; refine lw_pure (by exact pur_move rfl) rfl ?_); (refine lw_is ?_; refine lw_pure (by exact pur_indexAddr tabOk rfl rfl rfl rfl (by omega) (by omega)) rfl ?_); (refine lw_is ?_; refine lw_pure (by exact pur_loads' tabOk rfl rfl rfl (by exact fun wz hz => by (try subst hz); exact (by assumption)) (by rfl)) rfl ?_))
        refine lw_does (does_call (by kernel_rfl) rfl (rDecl_c v _ hvo) (fun _ _ h => ⟨_, h.1⟩)) rfl ?_ (fun _ h => h)
        rintro _ w5 ⟨⟨⟩, x5⟩
        ((refine lw_is ?_; refine lw_pure (by exact pur_sadd rfl rfl (by (simp only [List.length_append, List.length_cons, List.length_nil]; omega))) rfl ?_); (refine lw_is ?_; refine lw_pure (by exact pur_assign rfl) rfl ?_); refine lw_nil ?_; refine qw_block_norm ?_; refine qw_then ?_; refine cw_region ?_; (refine lw_is ?_; refine lw_pure (by exact pur_move rfl) rfl ?_); (refine lw_is ?_; refine lw_pure (by exact pur_add rfl rfl (IntWalk.i64_in _ (by omega))) rfl ?_); (refine lw_is ?_; refine lw_pure (by exact pur_assign rfl) rfl ?_); refine lw_nil ?_)
        refine qw_round (i + 1) ?_ ⟨x4.trans x5, by omega⟩ (by omega)
        refine sub_cons rfl (sub_cons' rfl ?_ (sub_cons rfl (sub_cons rfl sub_nil)))
        rw [HM.out]; simp [hi0]
    · obtain rfl : i = p.params.length := by omega
      simp only [List.take_length] at hml ⊢
      (refine cw_seq ?_; refine cw_seq ?_; refine cw_region ?_; (refine lw_is ?_; refine lw_pure (by exact pur_move rfl) rfl ?_); (refine lw_is ?_; refine lw_pure (by exact pur_fieldAddr tabOk rfl rfl rfl) rfl ?_); (refine lw_is ?_; refine lw_pure (by exact pur_load tabOk rfl rfl rfl (by exact fun wz hz => by (try subst hz); exact (Blk.cell (by assumption) (by rfl)))) rfl ?_); (refine lw_is ?_; refine lw_pure (by exact pur_move rfl) rfl ?_); (refine lw_is ?_; refine lw_pure (by exact pur_indexAddr tabOk rfl rfl rfl rfl (by omega) (by omega)) rfl ?_); (refine lw_is ?_; refine lw_pure (by exact pur_fieldAddr tabOk rfl rfl rfl) rfl ?_); (refine lw_is ?_; refine lw_pure (by exact pur_load tabOk rfl rfl rfl (by exact fun wz hz => by (try subst hz); exact (Row.at (by assumption) (by rfl)))) rfl ?_); (refine lw_is ?_; refine lw_pure (by exact pur_len_slice tabOk rfl rfl) rfl ?_); (refine lw_is ?_; refine lw_pure (by exact pur_lss rfl rfl) rfl ?_); refine lw_nil ?_; refine qw_then ?_; (refine cw_is ?_; refine cw_no rfl (by omega) ?_); refine cw_exit ?_; refine qw_then_exit ?_; refine qw_then_exit ?_; refine qw_block_exit ?_; refine qw_then ?_; refine cw_region ?_; (refine lw_is ?_; refine lw_pure (by exact pur_move rfl) rfl ?_); (refine lw_is ?_; refine lw_pure (by exact pur_sadd rfl rfl (by (simp only [List.length_append, List.length_cons, List.length_nil]; omega))) rfl ?_); (refine lw_is ?_; refine lw_pure (by exact pur_fieldAddr tabOk rfl rfl rfl) rfl ?_); (refine lw_is ?_; refine lw_pure (by exact pur_load tabOk rfl rfl rfl (by exact fun wz hz => by (try subst hz); exact (Blk.cell (by assumption) (by rfl)))) rfl ?_); (refine lw_is ?_; refine lw_pure (by exact pur_move rfl) rfl ?_); (refine lw_is ?_; refine lw_pure (by exact pur_indexAddr tabOk rfl rfl rfl rfl (by omega) (by omega)) rfl ?_); (refine lw_is ?_; refine lw_pure (by exact pur_fieldAddr tabOk rfl rfl rfl) rfl ?_); (refine lw_is ?_; refine lw_pure (by exact pur_loads_row tabOk rfl rfl rfl (by exact fun wz hz => by (try subst hz); exact (by assumption)) (by rfl)) rfl ?_))
      refine lw_does (does_call (by kernel_rfl) rfl (refLines_t S p.body (by omega) hpw.body n2 ba bc 1 _ (by omega) (by omega) (sb.ext x4)) (fun _ _ h => ⟨_, h.1⟩)) rfl ?_ (fun _ h => h)
      rintro _ w5 ⟨⟨⟩, x5⟩
      ((refine lw_is ?_; refine lw_pure (by exact pur_sadd rfl rfl (by (simp only [List.length_append, List.length_cons, List.length_nil]; omega))) rfl ?_); (refine lw_is ?_; refine lw_pure (by exact pur_sadd rfl rfl (by (simp only [List.length_append, List.length_cons, List.length_nil]; omega))) rfl ?_); (refine lw_is ?_; refine lw_pure (by exact pur_assign rfl) rfl ?_); refine lw_nil ?_; refine qw_block_norm ?_; refine qw_then ?_; refine cw_region ?_; (refine lw_is ?_; refine lw_pure (by exact pur_move rfl) rfl ?_); (refine lw_is ?_; refine lw_pure (by exact pur_add rfl rfl (IntWalk.i64_in _ (by omega))) rfl ?_); (refine lw_is ?_; refine lw_pure (by exact pur_assign rfl) rfl ?_); refine lw_nil ?_)
      refine qw_round (j + 1) ?_ ⟨x3.trans (x4.trans x5), by omega⟩ (by omega)
      refine sub_cons rfl (sub_cons' rfl ?_ (sub_cons rfl sub_nil))
      rw [HC.out]; simp [PD.text]
  · obtain rfl : j = g.procs.length := by omega
    simp only [List.take_length] at hpl ⊢
    (refine cw_seq ?_; refine cw_seq ?_; refine cw_region ?_; (refine lw_is ?_; refine lw_pure (by exact pur_move rfl) rfl ?_); (refine lw_is ?_; refine lw_pure (by exact pur_fieldAddr tabOk rfl rfl rfl) rfl ?_); (refine lw_is ?_; refine lw_pure (by exact pur_load tabOk rfl rfl rfl (by exact fun wz hz => by (try subst hz); exact (Blk.cell (by assumption) (by rfl)))) rfl ?_); (refine lw_is ?_; refine lw_pure (by exact pur_len_slice tabOk rfl rfl) rfl ?_); (refine lw_is ?_; refine lw_pure (by exact pur_lss rfl rfl) rfl ?_); refine lw_nil ?_; refine qw_then ?_; (refine cw_is ?_; refine cw_no rfl (by omega) ?_); refine cw_exit ?_; refine qw_then_exit ?_; refine qw_then_exit ?_; refine qw_block_exit ?_; refine qw_then ?_; refine cw_seq ?_; refine cw_region ?_; (refine lw_is ?_; refine lw_pure (by exact pur_move rfl) rfl ?_); (refine lw_is ?_; refine lw_pure (by exact pur_sadd rfl rfl (by (simp only [List.length_append, List.length_cons, List.length_nil]; omega))) rfl ?_); (refine lw_is ?_; refine lw_pure (by exact pur_fieldAddr tabOk rfl rfl rfl) rfl ?_); (refine lw_is ?_; refine lw_pure (by exact pur_loads_blk tabOk rfl rfl rfl (by exact fun wz hz => by (try subst hz); exact (by assumption)) (by rfl)) rfl ?_))
    refine lw_does (does_call (by kernel_rfl) rfl (refLines_t S g.main (by omega) hwf.main m2 ma mc 1 _ (by omega) (by omega) (hs.main.ext xx3)) (fun _ _ h => ⟨_, h.1⟩)) rfl ?_ (fun _ h => h)
    rintro _ w4 ⟨⟨⟩, x4⟩
    ((refine lw_is ?_; refine lw_pure (by exact pur_sadd rfl rfl (by (simp only [List.length_append, List.length_cons, List.length_nil]; omega))) rfl ?_); (refine lw_is ?_; refine lw_pure (by exact pur_sadd rfl rfl (by (simp only [List.length_append, List.length_cons, List.length_nil]; omega))) rfl ?_); (refine lw_is ?_; refine lw_pure (by exact pur_assign rfl) rfl ?_); refine lw_nil ?_; refine qw_then ?_; refine cw_ret ?_)
    refine qw_ret1 Tryd.results17 rfl ?_
    exact ⟨ret_str (by simp [PG.text]), xx3.trans x4⟩
end Bk
