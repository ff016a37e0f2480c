/- Texts that the proofs of InverterPrograms, InverterTwice need. No condition. (Part 7 of 7.) -/
import Derived.Test.YtgiikljkekpenaaGreatDoorPInc6
set_option linter.unusedSimpArgs false
set_option linter.unusedVariables false
namespace Bk
open Go Go.RowKit Go.Proofs
structure Few5 (g : PG) : Prop where
 nv : g.vars.length ≤ 8
 np : g.procs.length ≤ 5
 main : (g.main.small 24 200).1 = true
 procs : ∀ p ∈ g.procs, (p.body.small 24 200).1 = true
set_option maxRecDepth 100000 in
set_option maxHeartbeats 1000000 in
theorem Great_s (g : PG) (S : Nat → Prop) (va : Option Addr) (vc : Nat) (pa : Option Addr) (pc : Nat) (ma : Option Addr) (mc : Nat) (w : World) (hwf : g.wf) (hs : g.sits S w va pa ma) :
 Calls Tryz.prog 8 #[.agg (g.cells va vc pa pc ma mc).toArray] w fun e w' => ∃ q : Int, e = .returned (.int .i64 q) ∧ (q = 1 ∨ (q = 0 ∧ Few5 g)) ∧ Ext w w' := by
 have hnv := hwf.nv; have hnp := hwf.np; refine calls_in Tryz.func8 Tryz.ntmps8 rfl rfl ?_; (refine cw_seq ?_; refine cw_region ?_); refine lw_box rfl rfl rfl ?_; intro b1 w1 hn1; have h1 := hn1.blk; have x1 := hn1.ext
 by_cases c1 : 8 < g.vars.length
 · ((refine lw_is ?_; refine lw_pure (by exact pur_assign rfl) rfl ?_); refine lw_nil ?_; refine qw_then ?_; refine cw_seq ?_; refine cw_seq ?_; refine cw_region ?_; (refine lw_is ?_; refine lw_pure (by exact pur_fieldAddr0 tabOk rfl rfl rfl) rfl ?_); (refine lw_is ?_; refine lw_pure (by exact pur_load tabOk rfl rfl rfl (by exact fun wz hz => by (try subst hz); exact (Blk.cell (by assumption) (by rfl)))) rfl ?_); (refine lw_is ?_; refine lw_pure (by exact pur_len_slice tabOk rfl rfl) rfl ?_); (refine lw_is ?_; refine lw_pure (by exact pur_gtr rfl rfl) rfl ?_); (refine lw_is ?_; refine lw_pure (by exact pur_move rfl) rfl ?_); (refine lw_isg ?_; refine lw_off_yes rfl rfl rfl (by omega) rfl ?_); (refine lw_isg ?_; refine lw_off_yes rfl rfl rfl (by omega) rfl ?_); (refine lw_isg ?_; refine lw_off_yes rfl rfl rfl (by omega) rfl ?_); (refine lw_isg ?_; refine lw_off_yes rfl rfl rfl (by omega) rfl ?_); (refine lw_is ?_; refine lw_pure (by exact pur_pick_yes rfl rfl (by omega)) rfl ?_); (refine lw_is ?_; refine lw_pure (by exact pur_move rfl) rfl ?_); (refine lw_isg ?_; refine lw_off rfl rfl rfl (by rfl) rfl ?_); (refine lw_isg ?_; refine lw_off rfl rfl rfl (by rfl) rfl ?_); (refine lw_isg ?_; refine lw_off rfl rfl rfl (by rfl) rfl ?_); (refine lw_is ?_; refine lw_pure (by exact pur_pick_t rfl rfl (by rfl)) rfl ?_); refine lw_nil ?_; refine qw_then ?_; (refine cw_is ?_; refine cw_bt rfl (by rfl) ?_); refine cw_seq ?_; refine cw_region ?_; (refine lw_is ?_; refine lw_pure (by exact pur_assign rfl) rfl ?_); refine lw_nil ?_; refine qw_then ?_; refine cw_ret ?_; refine qw_then_ret ?_)
   refine qw_ret1 Tryz.results8 rfl ?_
   exact ⟨1, rfl, Or.inl rfl, x1⟩
 by_cases c2 : 5 < g.procs.length
 · ((refine lw_is ?_; refine lw_pure (by exact pur_assign rfl) rfl ?_); refine lw_nil ?_; refine qw_then ?_; refine cw_seq ?_; refine cw_seq ?_; refine cw_region ?_; (refine lw_is ?_; refine lw_pure (by exact pur_fieldAddr0 tabOk rfl rfl rfl) rfl ?_); (refine lw_is ?_; refine lw_pure (by exact pur_load tabOk rfl rfl rfl (by exact fun wz hz => by (try subst hz); exact (Blk.cell (by assumption) (by rfl)))) rfl ?_); (refine lw_is ?_; refine lw_pure (by exact pur_len_slice tabOk rfl rfl) rfl ?_); (refine lw_is ?_; refine lw_pure (by exact pur_gtr rfl rfl) rfl ?_); (refine lw_is ?_; refine lw_pure (by exact pur_move rfl) rfl ?_); (refine lw_isg ?_; refine lw_on_no rfl rfl rfl (by omega) ?_); (refine lw_is ?_; refine lw_pure (by exact pur_fieldAddr tabOk rfl rfl rfl) rfl ?_); (refine lw_isg ?_; refine lw_on_no rfl rfl rfl (by omega) ?_); (refine lw_is ?_; refine lw_pure (by exact pur_load tabOk rfl rfl rfl (by exact fun wz hz => by (try subst hz); exact (Blk.cell (by assumption) (by rfl)))) rfl ?_); (refine lw_isg ?_; refine lw_on_no rfl rfl rfl (by omega) ?_); (refine lw_is ?_; refine lw_pure (by exact pur_len_slice tabOk rfl rfl) rfl ?_); (refine lw_isg ?_; refine lw_on_no rfl rfl rfl (by omega) ?_); (refine lw_is ?_; refine lw_pure (by exact pur_gtr rfl rfl) rfl ?_); (refine lw_is ?_; refine lw_pure (by exact pur_pick_no rfl rfl (by omega)) rfl ?_); (refine lw_is ?_; refine lw_pure (by exact pur_move rfl) rfl ?_); (refine lw_isg ?_; refine lw_off_yes rfl rfl rfl (by omega) rfl ?_); (refine lw_isg ?_; refine lw_off_yes rfl rfl rfl (by omega) rfl ?_); (refine lw_isg ?_; refine lw_off_yes rfl rfl rfl (by omega) rfl ?_); (refine lw_is ?_; refine lw_pure (by exact pur_pick_yes rfl rfl (by omega)) rfl ?_); refine lw_nil ?_; refine qw_then ?_; (refine cw_is ?_; refine cw_bt rfl (by rfl) ?_); refine cw_seq ?_; refine cw_region ?_; (refine lw_is ?_; refine lw_pure (by exact pur_assign rfl) rfl ?_); refine lw_nil ?_; refine qw_then ?_; refine cw_ret ?_; refine qw_then_ret ?_)
   refine qw_ret1 Tryz.results8 rfl ?_
   exact ⟨1, rfl, Or.inl rfl, x1⟩
 ((refine lw_is ?_; refine lw_pure (by exact pur_assign rfl) rfl ?_); refine lw_nil ?_; refine qw_then ?_; refine cw_seq ?_; refine cw_seq ?_; refine cw_region ?_; (refine lw_is ?_; refine lw_pure (by exact pur_fieldAddr0 tabOk rfl rfl rfl) rfl ?_); (refine lw_is ?_; refine lw_pure (by exact pur_load tabOk rfl rfl rfl (by exact fun wz hz => by (try subst hz); exact (Blk.cell (by assumption) (by rfl)))) rfl ?_); (refine lw_is ?_; refine lw_pure (by exact pur_len_slice tabOk rfl rfl) rfl ?_); (refine lw_is ?_; refine lw_pure (by exact pur_gtr rfl rfl) rfl ?_); (refine lw_is ?_; refine lw_pure (by exact pur_move rfl) rfl ?_); (refine lw_isg ?_; refine lw_on_no rfl rfl rfl (by omega) ?_); (refine lw_is ?_; refine lw_pure (by exact pur_fieldAddr tabOk rfl rfl rfl) rfl ?_); (refine lw_isg ?_; refine lw_on_no rfl rfl rfl (by omega) ?_); (refine lw_is ?_; refine lw_pure (by exact pur_load tabOk rfl rfl rfl (by exact fun wz hz => by (try subst hz); exact (Blk.cell (by assumption) (by rfl)))) rfl ?_); (refine lw_isg ?_; refine lw_on_no rfl rfl rfl (by omega) ?_); (refine lw_is ?_; refine lw_pure (by exact pur_len_slice tabOk rfl rfl) rfl ?_); (refine lw_isg ?_; refine lw_on_no rfl rfl rfl (by omega) ?_); (refine lw_is ?_; refine lw_pure (by exact pur_gtr rfl rfl) rfl ?_); (refine lw_is ?_; refine lw_pure (by exact pur_pick_no rfl rfl (by omega)) rfl ?_); (refine lw_is ?_; refine lw_pure (by exact pur_move rfl) rfl ?_); (refine lw_isg ?_; refine lw_on_no rfl rfl rfl (by omega) ?_); (refine lw_is ?_; refine lw_pure (by exact pur_fieldAddr tabOk rfl rfl rfl) rfl ?_); (refine lw_isg ?_; refine lw_on_no rfl rfl rfl (by omega) ?_); (refine lw_is ?_; refine lw_pure (by exact pur_loads_blk tabOk rfl rfl rfl (by exact fun wz hz => by (try subst hz); exact (by assumption)) (by rfl)) rfl ?_); (refine lw_isg ?_; refine lw_on_no rfl rfl rfl (by omega) ?_))
 refine cC (by kernel_rfl) rfl (great_c g.main hwf.main S ma mc _ (hs.main.ext x1)) rfl ?_; rintro _ w2 ⟨⟨⟩, x2⟩
 cases hq : (g.main.small 24 200).1
 · try rw [hq]
   ((refine lw_is ?_; refine lw_pure (by exact pur_pick_no rfl rfl (by omega)) rfl ?_); refine lw_nil ?_; refine qw_then ?_; (refine cw_is ?_; refine cw_bt rfl (by rfl) ?_); refine cw_seq ?_; refine cw_region ?_; (refine lw_is ?_; refine lw_pure (by exact pur_assign rfl) rfl ?_); refine lw_nil ?_; refine qw_then ?_; refine cw_ret ?_; refine qw_then_ret ?_)
   refine qw_ret1 Tryz.results8 rfl ?_
   exact ⟨1, rfl, Or.inl rfl, x1.trans x2⟩
 try rw [hq]
 have h2 := h1.ext x2; have x12 : Ext w w2 := x1.trans x2
 ((refine lw_is ?_; refine lw_pure (by exact pur_pick_no rfl rfl (by omega)) rfl ?_); refine lw_nil ?_; refine qw_then ?_; (refine cw_is ?_; refine cw_bf rfl (by rfl) ?_); refine cw_skip ?_; refine qw_then ?_; refine cw_seq ?_; refine cw_seq ?_; refine cw_region ?_; (refine lw_is ?_; refine lw_pure (by exact pur_fieldAddr0 tabOk rfl rfl rfl) rfl ?_); (refine lw_is ?_; refine lw_pure (by exact pur_load tabOk rfl rfl rfl (by exact fun wz hz => by (try subst hz); exact (Blk.cell (by assumption) (by rfl)))) rfl ?_); (refine lw_is ?_; refine lw_pure (by exact pur_len_slice tabOk rfl rfl) rfl ?_); (refine lw_is ?_; refine lw_pure (by exact pur_move rfl) rfl ?_); refine lw_nil ?_; refine qw_then ?_; refine cw_block ?_)
 refine cw_loop (ι := Nat) (fun j => [(27, .int .i64 j), (26, .int .i64 g.vars.length), (25, .slice va g.vars.length vc), (1, .pointer (some ⟨b1, 0, none⟩))]) (fun j w' => Ext w2 w' ∧ j ≤ g.vars.length) (fun j => g.vars.length - j) 0 (by (refine sub_cons rfl ?_; refine sub_cons rfl ?_; refine sub_cons rfl ?_; refine sub_cons rfl ?_; exact sub_nil)) ⟨Ext.refl _, by omega⟩ ?_; rintro j w3 ⟨x3, hj⟩; have h3 := h2.ext x3; have x13 : Ext w w3 := x12.trans x3
 by_cases hlt : j < g.vars.length
 · obtain ⟨kb, ko, rfl, -, hkid⟩ := Arr.get (hs.vars.ext x13) (by omega)
   have rx : Row w3 ⟨kb, ko + j * 3, none⟩ g.vars[j].cells := hkid j g.vars[j] (List.getElem?_eq_getElem hlt); clear hkid
   generalize g.vars[j] = v at *
   (refine cw_seq ?_; refine cw_region ?_; (refine lw_is ?_; refine lw_pure (by exact pur_lss rfl rfl) rfl ?_); refine lw_nil ?_; refine qw_then ?_; refine cw_seq ?_; (refine cw_is ?_; refine cw_yes rfl (by omega) ?_); refine cw_skip ?_; refine qw_then ?_; refine cw_seq ?_; refine cw_block ?_; refine cw_seq ?_; refine cw_region ?_; (refine lw_is ?_; refine lw_pure (by exact pur_indexAddr tabOk rfl rfl rfl rfl (by omega) (by omega)) rfl ?_); (refine lw_is ?_; refine lw_pure (by exact pur_loads' tabOk rfl rfl rfl (by exact fun wz hz => by (try subst hz); exact (by assumption)) (by rfl)) rfl ?_)); refine lw_alloc zOk rfl rfl ?_; intro b5 w5 hn5; refine lw_init tabOk rfl rfl rfl rfl rfl rfl (hn5) rfl ?_; clear hn5 w5; intro w5 hn5; have h5 := hn5.blk; have x5 := hn5.ext
   by_cases c3 : 40 < v.name.length
   · (refine lw_nil ?_; refine qw_then ?_; refine cw_seq ?_; refine cw_region ?_; (refine lw_is ?_; refine lw_pure (by exact pur_fieldAddr0 tabOk rfl rfl rfl) rfl ?_); (refine lw_is ?_; refine lw_pure (by exact pur_load tabOk rfl rfl rfl (by exact fun wz hz => by (try subst hz); exact (Blk.cell (by assumption) (by rfl)))) rfl ?_); (refine lw_is ?_; refine lw_pure (by exact pur_len_s tabOk rfl rfl) rfl ?_); (refine lw_is ?_; refine lw_pure (by exact pur_gtr rfl rfl) rfl ?_); refine lw_nil ?_; refine qw_then ?_; (refine cw_is ?_; refine cw_yes rfl (by omega) ?_); refine cw_seq ?_; refine cw_region ?_; (refine lw_is ?_; refine lw_pure (by exact pur_assign rfl) rfl ?_); refine lw_nil ?_; refine qw_then ?_; refine cw_ret ?_; refine qw_block_ret ?_; refine qw_then_ret ?_; refine qw_then_ret ?_; refine qw_block_ret ?_; refine qw_then_ret ?_)
     refine qw_ret1 Tryz.results8 rfl ?_
     exact ⟨1, rfl, Or.inl rfl, x13.trans x5⟩
   · (refine lw_nil ?_; refine qw_then ?_; refine cw_seq ?_; refine cw_region ?_; (refine lw_is ?_; refine lw_pure (by exact pur_fieldAddr0 tabOk rfl rfl rfl) rfl ?_); (refine lw_is ?_; refine lw_pure (by exact pur_load tabOk rfl rfl rfl (by exact fun wz hz => by (try subst hz); exact (Blk.cell (by assumption) (by rfl)))) rfl ?_); (refine lw_is ?_; refine lw_pure (by exact pur_len_s tabOk rfl rfl) rfl ?_); (refine lw_is ?_; refine lw_pure (by exact pur_gtr rfl rfl) rfl ?_); refine lw_nil ?_; refine qw_then ?_; (refine cw_is ?_; refine cw_no rfl (by omega) ?_); refine cw_skip ?_; refine qw_block_norm ?_; refine qw_then ?_; refine cw_region ?_; (refine lw_is ?_; refine lw_pure (by exact pur_add rfl rfl (IntWalk.i64_in _ (by omega))) rfl ?_); (refine lw_is ?_; refine lw_pure (by exact pur_move rfl) rfl ?_); refine lw_nil ?_)
     exact qw_round (j + 1) (by (refine sub_cons rfl ?_; refine sub_cons rfl ?_; refine sub_cons rfl ?_; refine sub_cons rfl ?_; exact sub_nil)) ⟨x3.trans x5, by omega⟩ (by omega)
 (refine cw_seq ?_; refine cw_region ?_; (refine lw_is ?_; refine lw_pure (by exact pur_lss rfl rfl) rfl ?_); refine lw_nil ?_; refine qw_then ?_; refine cw_seq ?_; (refine cw_is ?_; refine cw_no rfl (by omega) ?_); refine cw_exit ?_; refine qw_then_exit ?_; refine qw_then_exit ?_; refine qw_block_exit ?_; refine qw_then ?_; refine cw_seq ?_; refine cw_seq ?_; refine cw_region ?_; (refine lw_is ?_; refine lw_pure (by exact pur_fieldAddr tabOk rfl rfl rfl) rfl ?_); (refine lw_is ?_; refine lw_pure (by exact pur_load tabOk rfl rfl rfl (by exact fun wz hz => by (try subst hz); exact (Blk.cell (by assumption) (by rfl)))) rfl ?_); (refine lw_is ?_; refine lw_pure (by exact pur_len_slice tabOk rfl rfl) rfl ?_); (refine lw_is ?_; refine lw_pure (by exact pur_move rfl) rfl ?_); refine lw_nil ?_; refine qw_then ?_; refine cw_block ?_); refine cw_loop (ι := Nat) (fun j => [(39, .int .i64 j), (38, .int .i64 g.procs.length), (37, .slice pa g.procs.length pc)]) (fun j w' => Ext w3 w' ∧ j ≤ g.procs.length ∧ ∀ i p, g.procs[i]? = some p → i < j → (p.body.small 24 200).1 = true) (fun j => g.procs.length - j) 0 (by (refine sub_cons rfl ?_; refine sub_cons rfl ?_; refine sub_cons rfl ?_; exact sub_nil)) ⟨Ext.refl _, by omega, fun i p _ h => absurd h (by omega)⟩ ?_; rintro j w4 ⟨x4, hj2, hall⟩; have x14 : Ext w w4 := x13.trans x4
 by_cases hlt2 : j < g.procs.length
 · obtain ⟨kb, ko, rfl, -, hkid⟩ := Arr.get (hs.procs.ext x14) (by omega)
   obtain ⟨qa, qc, ba, bc, rx, sv, sb⟩ := hkid j g.procs[j] (List.getElem?_eq_getElem hlt2); have hpw := hwf.procs g.procs[j] (List.getElem_mem hlt2); clear hkid; have hpj : g.procs[j]? = some g.procs[j] := List.getElem?_eq_getElem hlt2
   generalize g.procs[j] = p at *
   have hpn := hpw.len; (refine cw_seq ?_; refine cw_region ?_; (refine lw_is ?_; refine lw_pure (by exact pur_lss rfl rfl) rfl ?_); refine lw_nil ?_; refine qw_then ?_; refine cw_seq ?_; (refine cw_is ?_; refine cw_yes rfl (by omega) ?_); refine cw_skip ?_; refine qw_then ?_; refine cw_seq ?_; refine cw_block ?_; refine cw_seq ?_; refine cw_region ?_; (refine lw_is ?_; refine lw_pure (by exact pur_indexAddr tabOk rfl rfl rfl rfl (by omega) (by omega)) rfl ?_); (refine lw_is ?_; refine lw_pure (by exact pur_loads' tabOk rfl rfl rfl (by exact fun wz hz => by (try subst hz); exact (by assumption)) (by rfl)) rfl ?_)); refine lw_alloc zOk rfl rfl ?_; intro b5 w5 hn5; refine lw_init tabOk rfl rfl rfl rfl rfl rfl (hn5) rfl ?_; clear hn5 w5; intro w5 hn5; have h5 := hn5.blk; have x5 := hn5.ext
   by_cases c3 : 10 < p.params.length
   · (refine lw_nil ?_; refine qw_then ?_; refine cw_seq ?_; refine cw_seq ?_; refine cw_region ?_; (refine lw_is ?_; refine lw_pure (by exact pur_fieldAddr tabOk rfl rfl rfl) rfl ?_); (refine lw_is ?_; refine lw_pure (by exact pur_load tabOk rfl rfl rfl (by exact fun wz hz => by (try subst hz); exact (Blk.cell (by assumption) (by rfl)))) rfl ?_); (refine lw_is ?_; refine lw_pure (by exact pur_len_slice tabOk rfl rfl) rfl ?_); (refine lw_is ?_; refine lw_pure (by exact pur_gtr rfl rfl) rfl ?_); (refine lw_is ?_; refine lw_pure (by exact pur_move rfl) rfl ?_); (refine lw_isg ?_; refine lw_off_yes rfl rfl rfl (by omega) rfl ?_); (refine lw_isg ?_; refine lw_off_yes rfl rfl rfl (by omega) rfl ?_); (refine lw_isg ?_; refine lw_off_yes rfl rfl rfl (by omega) rfl ?_); (refine lw_isg ?_; refine lw_off_yes rfl rfl rfl (by omega) rfl ?_); (refine lw_is ?_; refine lw_pure (by exact pur_pick_yes rfl rfl (by omega)) rfl ?_); (refine lw_is ?_; refine lw_pure (by exact pur_move rfl) rfl ?_); (refine lw_isg ?_; refine lw_off rfl rfl rfl (by rfl) rfl ?_); (refine lw_isg ?_; refine lw_off rfl rfl rfl (by rfl) rfl ?_); (refine lw_isg ?_; refine lw_off rfl rfl rfl (by rfl) rfl ?_); (refine lw_is ?_; refine lw_pure (by exact pur_pick_t rfl rfl (by rfl)) rfl ?_); refine lw_nil ?_; refine qw_then ?_; (refine cw_is ?_; refine cw_bt rfl (by rfl) ?_); refine cw_seq ?_; refine cw_region ?_; (refine lw_is ?_; refine lw_pure (by exact pur_assign rfl) rfl ?_); refine lw_nil ?_; refine qw_then ?_; refine cw_ret ?_; refine qw_then_ret ?_; refine qw_block_ret ?_; refine qw_then_ret ?_; refine qw_then_ret ?_; refine qw_block_ret ?_; refine qw_then_ret ?_)
     refine qw_ret1 Tryz.results8 rfl ?_
     exact ⟨1, rfl, Or.inl rfl, x14.trans x5⟩
   by_cases c4 : 40 < p.name.length
   · (refine lw_nil ?_; refine qw_then ?_; refine cw_seq ?_; refine cw_seq ?_; refine cw_region ?_; (refine lw_is ?_; refine lw_pure (by exact pur_fieldAddr tabOk rfl rfl rfl) rfl ?_); (refine lw_is ?_; refine lw_pure (by exact pur_load tabOk rfl rfl rfl (by exact fun wz hz => by (try subst hz); exact (Blk.cell (by assumption) (by rfl)))) rfl ?_); (refine lw_is ?_; refine lw_pure (by exact pur_len_slice tabOk rfl rfl) rfl ?_); (refine lw_is ?_; refine lw_pure (by exact pur_gtr rfl rfl) rfl ?_); (refine lw_is ?_; refine lw_pure (by exact pur_move rfl) rfl ?_); (refine lw_isg ?_; refine lw_on_no rfl rfl rfl (by omega) ?_); (refine lw_is ?_; refine lw_pure (by exact pur_fieldAddr0 tabOk rfl rfl rfl) rfl ?_); (refine lw_isg ?_; refine lw_on_no rfl rfl rfl (by omega) ?_); (refine lw_is ?_; refine lw_pure (by exact pur_load tabOk rfl rfl rfl (by exact fun wz hz => by (try subst hz); exact (Blk.cell (by assumption) (by rfl)))) rfl ?_); (refine lw_isg ?_; refine lw_on_no rfl rfl rfl (by omega) ?_); (refine lw_is ?_; refine lw_pure (by exact pur_len_s tabOk rfl rfl) rfl ?_); (refine lw_isg ?_; refine lw_on_no rfl rfl rfl (by omega) ?_); (refine lw_is ?_; refine lw_pure (by exact pur_gtr rfl rfl) rfl ?_); (refine lw_is ?_; refine lw_pure (by exact pur_pick_no rfl rfl (by omega)) rfl ?_); (refine lw_is ?_; refine lw_pure (by exact pur_move rfl) rfl ?_); (refine lw_isg ?_; refine lw_off_yes rfl rfl rfl (by omega) rfl ?_); (refine lw_isg ?_; refine lw_off_yes rfl rfl rfl (by omega) rfl ?_); (refine lw_isg ?_; refine lw_off_yes rfl rfl rfl (by omega) rfl ?_); (refine lw_is ?_; refine lw_pure (by exact pur_pick_yes rfl rfl (by omega)) rfl ?_); refine lw_nil ?_; refine qw_then ?_; (refine cw_is ?_; refine cw_bt rfl (by rfl) ?_); refine cw_seq ?_; refine cw_region ?_; (refine lw_is ?_; refine lw_pure (by exact pur_assign rfl) rfl ?_); refine lw_nil ?_; refine qw_then ?_; refine cw_ret ?_; refine qw_then_ret ?_; refine qw_block_ret ?_; refine qw_then_ret ?_; refine qw_then_ret ?_; refine qw_block_ret ?_; refine qw_then_ret ?_)
     refine qw_ret1 Tryz.results8 rfl ?_
     exact ⟨1, rfl, Or.inl rfl, x14.trans x5⟩
   (refine lw_nil ?_; refine qw_then ?_; refine cw_seq ?_; refine cw_seq ?_; refine cw_region ?_; (refine lw_is ?_; refine lw_pure (by exact pur_fieldAddr tabOk rfl rfl rfl) rfl ?_); (refine lw_is ?_; refine lw_pure (by exact pur_load tabOk rfl rfl rfl (by exact fun wz hz => by (try subst hz); exact (Blk.cell (by assumption) (by rfl)))) rfl ?_); (refine lw_is ?_; refine lw_pure (by exact pur_len_slice tabOk rfl rfl) rfl ?_); (refine lw_is ?_; refine lw_pure (by exact pur_gtr rfl rfl) rfl ?_); (refine lw_is ?_; refine lw_pure (by exact pur_move rfl) rfl ?_); (refine lw_isg ?_; refine lw_on_no rfl rfl rfl (by omega) ?_); (refine lw_is ?_; refine lw_pure (by exact pur_fieldAddr0 tabOk rfl rfl rfl) rfl ?_); (refine lw_isg ?_; refine lw_on_no rfl rfl rfl (by omega) ?_); (refine lw_is ?_; refine lw_pure (by exact pur_load tabOk rfl rfl rfl (by exact fun wz hz => by (try subst hz); exact (Blk.cell (by assumption) (by rfl)))) rfl ?_); (refine lw_isg ?_; refine lw_on_no rfl rfl rfl (by omega) ?_); (refine lw_is ?_; refine lw_pure (by exact pur_len_s tabOk rfl rfl) rfl ?_); (refine lw_isg ?_; refine lw_on_no rfl rfl rfl (by omega) ?_); (refine lw_is ?_; refine lw_pure (by exact pur_gtr rfl rfl) rfl ?_); (refine lw_is ?_; refine lw_pure (by exact pur_pick_no rfl rfl (by omega)) rfl ?_); (refine lw_is ?_; refine lw_pure (by exact pur_move rfl) rfl ?_); (refine lw_isg ?_; refine lw_on_no rfl rfl rfl (by omega) ?_); (refine lw_is ?_; refine lw_pure (by exact pur_fieldAddr tabOk rfl rfl rfl) rfl ?_); (refine lw_isg ?_; refine lw_on_no rfl rfl rfl (by omega) ?_); (refine lw_is ?_; refine lw_pure (by exact pur_loads_blk tabOk rfl rfl rfl (by exact fun wz hz => by (try subst hz); exact (by assumption)) (by rfl)) rfl ?_); (refine lw_isg ?_; refine lw_on_no rfl rfl rfl (by omega) ?_))
   refine cC (by kernel_rfl) rfl (great_c p.body hpw.body S ba bc _ (sb.ext x5)) rfl ?_; rintro _ w6 ⟨⟨⟩, x6⟩
   cases hq2 : (p.body.small 24 200).1
   · try rw [hq2]
     ((refine lw_is ?_; refine lw_pure (by exact pur_pick_no rfl rfl (by omega)) rfl ?_); refine lw_nil ?_; refine qw_then ?_; (refine cw_is ?_; refine cw_bt rfl (by rfl) ?_); refine cw_seq ?_; refine cw_region ?_; (refine lw_is ?_; refine lw_pure (by exact pur_assign rfl) rfl ?_); refine lw_nil ?_; refine qw_then ?_; refine cw_ret ?_; refine qw_then_ret ?_; refine qw_block_ret ?_; refine qw_then_ret ?_; refine qw_then_ret ?_; refine qw_block_ret ?_; refine qw_then_ret ?_)
     refine qw_ret1 Tryz.results8 rfl ?_
     exact ⟨1, rfl, Or.inl rfl, x14.trans (x5.trans x6)⟩
   try rw [hq2]
   have h6 := h5.ext x6; have x56 : Ext w4 w6 := x5.trans x6
   ((refine lw_is ?_; refine lw_pure (by exact pur_pick_no rfl rfl (by omega)) rfl ?_); refine lw_nil ?_; refine qw_then ?_; (refine cw_is ?_; refine cw_bf rfl (by rfl) ?_); refine cw_skip ?_; refine qw_then ?_; refine cw_seq ?_; refine cw_region ?_; (refine lw_is ?_; refine lw_pure (by exact pur_fieldAddr tabOk rfl rfl rfl) rfl ?_); (refine lw_is ?_; refine lw_pure (by exact pur_load tabOk rfl rfl rfl (by exact fun wz hz => by (try subst hz); exact (Blk.cell (by assumption) (by rfl)))) rfl ?_); (refine lw_is ?_; refine lw_pure (by exact pur_len_slice tabOk rfl rfl) rfl ?_); (refine lw_is ?_; refine lw_pure (by exact pur_move rfl) rfl ?_); refine lw_nil ?_; refine qw_then ?_; refine cw_block ?_)
   refine cw_loop (ι := Nat) (fun i => [(61, .int .i64 i), (60, .int .i64 p.params.length), (59, .slice qa p.params.length qc), (39, .int .i64 j), (38, .int .i64 g.procs.length), (37, .slice (some ⟨kb, ko, none⟩) g.procs.length pc)]) (fun i w' => Ext w6 w' ∧ i ≤ p.params.length) (fun i => p.params.length - i) 0 (by (refine sub_cons rfl ?_; refine sub_cons rfl ?_; refine sub_cons rfl ?_; refine sub_cons rfl ?_; refine sub_cons rfl ?_; refine sub_cons rfl ?_; exact sub_nil)) ⟨Ext.refl _, by omega⟩ ?_; rintro i w7 ⟨x7, hi⟩; have x47 : Ext w4 w7 := x56.trans x7
   by_cases hlt3 : i < p.params.length
   · obtain ⟨vb, vo, rfl, -, hvid⟩ := Arr.get (sv.ext x47) (by omega)
     have rv : Row w7 ⟨vb, vo + i * 3, none⟩ p.params[i].cells := hvid i p.params[i] (List.getElem?_eq_getElem hlt3); clear hvid
     generalize p.params[i] = v at *
     (refine cw_seq ?_; refine cw_region ?_; (refine lw_is ?_; refine lw_pure (by exact pur_lss rfl rfl) rfl ?_); refine lw_nil ?_; refine qw_then ?_; refine cw_seq ?_; (refine cw_is ?_; refine cw_yes rfl (by omega) ?_); refine cw_skip ?_; refine qw_then ?_; refine cw_seq ?_; refine cw_block ?_; refine cw_seq ?_; refine cw_region ?_; (refine lw_is ?_; refine lw_pure (by exact pur_indexAddr tabOk rfl rfl rfl rfl (by omega) (by omega)) rfl ?_); (refine lw_is ?_; refine lw_pure (by exact pur_loads' tabOk rfl rfl rfl (by exact fun wz hz => by (try subst hz); exact (by assumption)) (by rfl)) rfl ?_)); refine lw_alloc zOk rfl rfl ?_; intro b8 w8 hn8; refine lw_init tabOk rfl rfl rfl rfl rfl rfl (hn8) rfl ?_; clear hn8 w8; intro w8 hn8; have h8 := hn8.blk; have x8 := hn8.ext
     by_cases c5 : 40 < v.name.length
     · (refine lw_nil ?_; refine qw_then ?_; refine cw_seq ?_; refine cw_region ?_; (refine lw_is ?_; refine lw_pure (by exact pur_fieldAddr0 tabOk rfl rfl rfl) rfl ?_); (refine lw_is ?_; refine lw_pure (by exact pur_load tabOk rfl rfl rfl (by exact fun wz hz => by (try subst hz); exact (Blk.cell (by assumption) (by rfl)))) rfl ?_); (refine lw_is ?_; refine lw_pure (by exact pur_len_s tabOk rfl rfl) rfl ?_); (refine lw_is ?_; refine lw_pure (by exact pur_gtr rfl rfl) rfl ?_); refine lw_nil ?_; refine qw_then ?_; (refine cw_is ?_; refine cw_yes rfl (by omega) ?_); refine cw_seq ?_; refine cw_region ?_; (refine lw_is ?_; refine lw_pure (by exact pur_assign rfl) rfl ?_); refine lw_nil ?_; refine qw_then ?_; refine cw_ret ?_; refine qw_block_ret ?_; refine qw_then_ret ?_; refine qw_then_ret ?_; refine qw_block_ret ?_; refine qw_block_ret ?_; refine qw_then_ret ?_; refine qw_then_ret ?_; refine qw_block_ret ?_; refine qw_then_ret ?_)
       refine qw_ret1 Tryz.results8 rfl ?_
       exact ⟨1, rfl, Or.inl rfl, x14.trans (x47.trans x8)⟩
     · (refine lw_nil ?_; refine qw_then ?_; refine cw_seq ?_; refine cw_region ?_; (refine lw_is ?_; refine lw_pure (by exact pur_fieldAddr0 tabOk rfl rfl rfl) rfl ?_); (refine lw_is ?_; refine lw_pure (by exact pur_load tabOk rfl rfl rfl (by exact fun wz hz => by (try subst hz); exact (Blk.cell (by assumption) (by rfl)))) rfl ?_); (refine lw_is ?_; refine lw_pure (by exact pur_len_s tabOk rfl rfl) rfl ?_); (refine lw_is ?_; refine lw_pure (by exact pur_gtr rfl rfl) rfl ?_); refine lw_nil ?_; refine qw_then ?_; (refine cw_is ?_; refine cw_no rfl (by omega) ?_); refine cw_skip ?_; refine qw_block_norm ?_; refine qw_then ?_; refine cw_region ?_; (refine lw_is ?_; refine lw_pure (by exact pur_add rfl rfl (IntWalk.i64_in _ (by omega))) rfl ?_); (refine lw_is ?_; refine lw_pure (by exact pur_move rfl) rfl ?_); refine lw_nil ?_)
       exact qw_round (i + 1) (by (refine sub_cons rfl ?_; refine sub_cons rfl ?_; refine sub_cons rfl ?_; refine sub_cons rfl ?_; refine sub_cons rfl ?_; refine sub_cons rfl ?_; exact sub_nil)) ⟨x7.trans x8, by omega⟩ (by omega)
   · (refine cw_seq ?_; refine cw_region ?_; (refine lw_is ?_; refine lw_pure (by exact pur_lss rfl rfl) rfl ?_); refine lw_nil ?_; refine qw_then ?_; refine cw_seq ?_; (refine cw_is ?_; refine cw_no rfl (by omega) ?_); refine cw_exit ?_; refine qw_then_exit ?_; refine qw_then_exit ?_; refine qw_block_exit ?_; refine qw_block_norm ?_; refine qw_then ?_; refine cw_region ?_; (refine lw_is ?_; refine lw_pure (by exact pur_add rfl rfl (IntWalk.i64_in _ (by omega))) rfl ?_); (refine lw_is ?_; refine lw_pure (by exact pur_move rfl) rfl ?_); refine lw_nil ?_)
     exact qw_round (j + 1) (by (refine sub_cons rfl ?_; refine sub_cons rfl ?_; refine sub_cons rfl ?_; exact sub_nil)) ⟨x4.trans x47, by omega, fun i q hi hij => by
      by_cases h : i < j
      · exact hall i q hi h
      · obtain rfl : i = j := by omega
        rw [hpj] at hi
        rw [← Option.some.inj hi]; exact hq2⟩ (by omega)
 · (refine cw_seq ?_; refine cw_region ?_; (refine lw_is ?_; refine lw_pure (by exact pur_lss rfl rfl) rfl ?_); refine lw_nil ?_; refine qw_then ?_; refine cw_seq ?_; (refine cw_is ?_; refine cw_no rfl (by omega) ?_); refine cw_exit ?_; refine qw_then_exit ?_; refine qw_then_exit ?_; refine qw_block_exit ?_; refine qw_then ?_; refine cw_seq ?_; refine cw_region ?_; (refine lw_is ?_; refine lw_pure (by exact pur_assign rfl) rfl ?_); refine lw_nil ?_; refine qw_then ?_; refine cw_ret ?_)
   refine qw_ret1 Tryz.results8 rfl ?_; refine ⟨0, rfl, Or.inr ⟨rfl, ⟨by omega, by omega, hq, fun p hp => ?_⟩⟩, x14⟩; obtain ⟨i, hi, rfl⟩ := List.mem_iff_getElem.1 hp
   exact hall i _ (List.getElem?_eq_getElem hi) (by omega)
end Bk
namespace Bk
open Go Go.RowKit Go.Proofs
attribute [local irreducible] Go.Calls
theorem same_v {g : PG} (hg : g.few) (S S' : Nat → Prop) (va pa ma va' pa' ma' : Option Addr) (vc pc mc vc' pc' mc' : Nat) (w : World) (hs : g.sits S w va pa ma) (hs' : g.sits S' w va' pa' ma') :
 Calls Tryz.prog 19 #[.agg (g.cells va vc pa pc ma mc).toArray, .agg (g.cells va' vc' pa' pc' ma' mc').toArray] w fun e w' => e = .returned (.bool true) ∧ Ext w w' := SameA_t g S S' va pa ma va' pa' ma' vc pc mc vc' pc' mc' w hg hs hs'
theorem same_w {g : PG} {M : Nd} (hg : (⟨g.vars, g.procs, M⟩ : PG).few) (S S1 S2 : Nat → Prop) (va pa ma va' pa' ma' mx : Option Addr) (vc pc mc vc' pc' mc' : Nat) (w : World) (hs : (⟨g.vars, g.procs, M⟩ : PG).sits S w va pa ma) (hs1 : g.sits S1 w va' pa' mx) (hm : M.sits S2 w ma') :
 Calls Tryz.prog 19 #[.agg ((⟨g.vars, g.procs, M⟩ : PG).cells va vc pa pc ma mc).toArray, .agg ((⟨g.vars, g.procs, M⟩ : PG).cells va' vc' pa' pc' ma' mc').toArray] w fun e w' => e = .returned (.bool true) ∧ Ext w w' :=
 SameA_t _ S (fun _ => True) va pa ma va' pa' ma' vc pc mc vc' pc' mc' w hg hs ⟨hs1.vars.wide fun _ _ => trivial, PDs.wide hs1.procs fun _ _ => trivial, Nd.sits.wide hm fun _ _ => trivial⟩
theorem zero_few : zeroPG.few := ⟨by simp [zeroPG], by simp [zeroPG], by decide, by simp [zeroPG]⟩
theorem zero_same (w : World) (S : Nat → Prop) (va pa ma : Option Addr) (vc pc mc : Nat) (hs : zeroPG.sits S w va pa ma) :
 Calls Tryz.prog 19 #[.agg (zeroPG.cells va vc pa pc ma mc).toArray, .agg #[.slice none 0 0, .slice none 0 0, .int .u8 0, .int .i64 0, .string ⟨#[]⟩, .slice none 0 0]] w fun e w' => e = .returned (.bool true) ∧ Ext w w' :=
 SameA_t zeroPG S (fun _ => True) va pa ma none none none vc pc mc 0 0 0 w zero_few hs zeroPG_sits
theorem great_v {g : PG} (hwf : g.wf) (S : Nat → Prop) (va : Option Addr) (vc : Nat) (pa : Option Addr) (pc : Nat) (ma : Option Addr) (mc : Nat) (w : World) (hs : g.sits S w va pa ma) :
 Calls Tryz.prog 8 #[.agg (g.cells va vc pa pc ma mc).toArray] w fun e w' => ∃ q : Int, e = .returned (.int .i64 q) ∧ Ext w w' := (Great_s g S va vc pa pc ma mc w hwf hs).mono fun _ _ ⟨q, h, _, x⟩ => ⟨q, h, x⟩
set_option maxRecDepth 100000 in
set_option maxHeartbeats 4000000 in
theorem InverterPrograms_c (g : PG) (hwf : g.wf) (S : Nat → Prop) (va : Option Addr) (vc : Nat) (pa : Option Addr) (pc : Nat) (ma : Option Addr) (mc : Nat) (w : World) (hs : g.sits S w va pa ma) (hS : Syms w) (hE : Errs w) :
 Calls Tryz.prog 5 #[.agg (g.cells va vc pa pc ma mc).toArray] w fun e w' => e = .returned (.bool true) ∧ Ext w w' := by
 have X := Ext.refl w; replace hs := hs.ltA; have HG := Lib.hid (great_v hwf)
 cases hok : g.ok
 · have HV := Lib.hid (valid_v hwf hok)
   have HP := Lib.hid (iProgram_n hwf hok); have HD := Lib.hid (iDeep_n hwf hok); clear hwf hok; refine calls_in Tryz.func5 Tryz.ntmps5 rfl rfl ?_
   focus
    refine cS ?_; (refine lw_box' [_, _, _, _, _, _] rfl rfl rfl ?_; intro b1 w2 n3); have h4 := n3.blk; have x5 := n3.ext; have p6 := n3.pos; have z7 := n3.size; clear n3; replace hS := hS.ext x5; replace hE := hE.ext x5; replace X := X.ext x5; replace hs := PG.sits.ext hs x5; clear x5; refine cA rfl rfl (cT (cw_seq (cS ?_))); refine cC (by kernel_rfl) rfl (awake17_c _ (by assumption) (by assumption)) rfl ?_; rintro _ w9 ⟨⟨⟩, x8⟩; have z10 := x8.size; replace h4 := h4.ext x8; replace hS := hS.ext x8; replace hE := hE.ext x8; replace X := X.ext x8; replace hs := PG.sits.ext hs x8; clear x8; refine lw_pure (pur_not rfl) rfl (cT (cw_cond_f rfl (cw_skip (qw_then (cw_seq (cS (lw_loads_b' [_, _, _, _, _, _] tabOk rfl rfl rfl h4 rfl rfl rfl ?_))))))); refine lw_does (does_call (by kernel_rfl) rfl (HG.out _ _ _ _ _ _ _ _ (by assumption)) (fun _ _ ⟨_, h⟩ => ⟨_, h.1⟩)) rfl ?_ (fun _ h => h); rintro _ w13 ⟨q11, ⟨⟨⟩, x12⟩⟩; have z14 := x12.size; replace h4 := h4.ext x12; replace hS := hS.ext x12; replace hE := hE.ext x12; replace X := X.ext x12; replace hs := PG.sits.ext hs x12; clear x12; refine lw_pure (pur_eql rfl rfl) rfl (cT ?_); refine cw_dec rfl (fun c15 => ?_) (fun c15 => ?_); refine cS (cA rfl rfl (cT (cw_ret (qw_then_ret (qw_ret1 rfl rfl ?_))))); rotate_left 1; refine cw_skip (qw_then (cS (lw_loads_b' [_, _, _, _, _, _] tabOk rfl rfl rfl h4 rfl rfl rfl ?_))); refine cR (by kernel_rfl) rfl (HP.out _ _ _ _ _ _ _ _ (by assumption)) (fun _ _ h => h.ret) rfl ?_; rintro _ w24 ⟨va16, ⟨vc17, ⟨pa18, ⟨pc19, ⟨ma20, ⟨mc21, ⟨⟨⟩, ⟨h22, x23⟩⟩⟩⟩⟩⟩⟩⟩
    have z25 := x23.size; replace h4 := h4.ext x23; replace hS := hS.ext x23; replace hE := hE.ext x23; replace X := X.ext x23; replace hs := PG.sits.ext hs x23; clear x23; refine cM rfl rfl (lw_pure (pur_extract rfl rfl) rfl (lw_pure (pur_extract rfl rfl) rfl ?_)); (refine lw_alloc' [_, _, _, _, _, _] zOk rfl rfl ?_; intro b26 w27 n28); (refine lw_init' [_, _, _, _, _, _] tabOk rfl rfl rfl rfl rfl rfl n28 rfl ?_; clear n28; clear w27; intro w29 n28); have h30 := n28.blk; have x31 := n28.ext; have p32 := n28.pos; have z33 := n28.size; clear n28; replace h22 := PG.sits.ext h22 x31; replace h4 := h4.ext x31; replace hS := hS.ext x31; replace hE := hE.ext x31; replace X := X.ext x31; replace hs := PG.sits.ext hs x31; clear x31; refine cA rfl rfl (cN (lw_loads_b' [_, _, _, _, _, _] tabOk rfl rfl rfl h4 rfl rfl rfl ?_)); refine cR (by kernel_rfl) rfl (HD.out _ _ _ _ _ _ _ _ (by assumption)) (fun _ _ h => h.ret) rfl ?_; rintro _ w42 ⟨va34, ⟨vc35, ⟨pa36, ⟨pc37, ⟨ma38, ⟨mc39, ⟨⟨⟩, ⟨h40, x41⟩⟩⟩⟩⟩⟩⟩⟩; have z43 := x41.size; replace h30 := h30.ext x41; replace h22 := PG.sits.ext h22 x41; replace h4 := h4.ext x41; replace hS := hS.ext x41; replace hE := hE.ext x41; replace X := X.ext x41; replace hs := PG.sits.ext hs x41; clear x41; refine cM rfl rfl (lw_pure (pur_extract rfl rfl) rfl (lw_pure (pur_extract rfl rfl) rfl ?_)); (refine lw_alloc' [_, _, _, _, _, _] zOk rfl rfl ?_; intro b44 w45 n46); (refine lw_init' [_, _, _, _, _, _] tabOk rfl rfl rfl rfl rfl rfl n46 rfl ?_; clear n46; clear w45; intro w47 n46)
    have h48 := n46.blk; have x49 := n46.ext; have p50 := n46.pos; have z51 := n46.size; clear n46; replace h40 := PG.sits.ext h40 x49; replace h30 := h30.ext x49; replace h22 := PG.sits.ext h22 x49; replace h4 := h4.ext x49; replace hS := hS.ext x49; replace hE := hE.ext x49; replace X := X.ext x49; replace hs := PG.sits.ext hs x49; clear x49; refine cA rfl rfl (cT (cw_seq (cS (lw_loads_b' [_, _, _, _, _, _] tabOk rfl rfl rfl h4 rfl rfl rfl ?_)))); refine cC (by kernel_rfl) rfl (HV.out _ _ _ _ _ _ _ _ (by assumption)) rfl ?_; rintro _ w53 ⟨⟨⟩, x52⟩; have z54 := x52.size; replace h48 := h48.ext x52; replace h40 := PG.sits.ext h40 x52; replace h30 := h30.ext x52; replace h22 := PG.sits.ext h22 x52; replace h4 := h4.ext x52; replace hS := hS.ext x52; replace hE := hE.ext x52; replace X := X.ext x52; replace hs := PG.sits.ext hs x52; clear x52; refine lw_pure (pur_not rfl) rfl (cT (cw_cond_t rfl (cS (cM rfl rfl (lw_pure (pur_eql rfl rfl) rfl (cM rfl rfl ?_)))))); refine lw_on rfl rfl rfl (gd_tt (by decide)) ?_; refine cM rfl rfl ?_; refine lw_on rfl rfl rfl (gd_tt (by decide)) ?_; refine lw_pure (pur_eql rfl rfl) rfl ?_; refine lw_pure (pur_pick_yes rfl rfl (by decide)) rfl ?_; refine cM rfl rfl ?_; refine lw_on rfl rfl rfl (gd_tt (by decide)) ?_; refine lw_loads_b' [_, _, _, _, _, _] tabOk rfl rfl rfl h30 rfl rfl rfl ?_; refine lw_on rfl rfl rfl (gd_tt (by decide)) ?_; refine lw_pure (pur_build' [_, _, _, _, _, _] tabOk zOk rfl rfl rfl rfl) rfl ?_; refine lw_on rfl rfl rfl (gd_tt (by decide)) ?_
    refine cC (by kernel_rfl) rfl (zero_same _ _ _ _ _ _ _ _ (by assumption)) rfl ?_; rintro _ w56 ⟨⟨⟩, x55⟩; have z57 := x55.size; replace h48 := h48.ext x55; replace h40 := PG.sits.ext h40 x55; replace h30 := h30.ext x55; replace h22 := PG.sits.ext h22 x55; replace h4 := h4.ext x55; replace hS := hS.ext x55; replace hE := hE.ext x55; replace X := X.ext x55; replace hs := PG.sits.ext hs x55; clear x55; refine lw_pure (pur_pick_yes rfl rfl (by decide)) rfl ?_; refine cM rfl rfl (lw_on rfl rfl rfl (rfl) (lw_loads_b' [_, _, _, _, _, _] tabOk rfl rfl rfl h48 rfl rfl rfl (lw_on rfl rfl rfl (rfl) (lw_pure (pur_build' [_, _, _, _, _, _] tabOk zOk rfl rfl rfl rfl) rfl (lw_on rfl rfl rfl (rfl) ?_))))); refine cC (by kernel_rfl) rfl (zero_same _ _ _ _ _ _ _ _ (by assumption)) rfl ?_; rintro _ w59 ⟨⟨⟩, x58⟩; have z60 := x58.size; replace h48 := h48.ext x58; replace h40 := PG.sits.ext h40 x58; replace h30 := h30.ext x58; replace h22 := PG.sits.ext h22 x58; replace h4 := h4.ext x58; replace hS := hS.ext x58; replace hE := hE.ext x58; replace X := X.ext x58; replace hs := PG.sits.ext hs x58; clear x58; refine lw_pure (pur_pick_t rfl rfl rfl) rfl (cA rfl rfl (cT (cw_ret (qw_then_ret (qw_ret1 rfl rfl ?_))))); rotate_left 1
   · exact ⟨rfl, X⟩
   · exact ⟨rfl, X⟩
 · have HV := Lib.hid (valid_v hwf hok)
   have HP := Lib.hid (iProgram_v hwf hok); have HD := Lib.hid (iDeep_v hwf hok); rw [PG.inv_id] at HP; have hmb := ok_mainB hok; have hf1 := few_okI (g := g.inv id false) (inv_pg_ok false hok (fun p hp => (pok_parts ((ok_parts hok).2.2.2.1 p hp)).2.2.2)); rw [PG.inv_id] at hf1; have hf2 := few_okI (g := g.inv (·.inv true) true) (inv_pg_ok true hok (fun p hp => inv_body true (pok_parts ((ok_parts hok).2.2.2.1 p hp)).2.2.2)); have H1 := Lib.hid (same_w hf1); have H2 := Lib.hid (same_v hf2); have HR := Lib.hid (rStmt_w (t := g.main) (by have := (few_okI hok).main; omega) hmb); have HQ := Lib.hid (rDeep_c g hok); have hmm := hs.main; clear hwf hok hmb hf1 hf2; refine calls_in Tryz.func5 Tryz.ntmps5 rfl rfl ?_
   focus
    refine cS ?_; (refine lw_box' [_, _, _, _, _, _] rfl rfl rfl ?_; intro ba1 wa2 na3); have ha4 := na3.blk; have xa5 := na3.ext; have pa6 := na3.pos; have za7 := na3.size; clear na3; replace hS := hS.ext xa5; replace hE := hE.ext xa5; replace X := X.ext xa5; replace hs := PG.sits.ext hs xa5; replace hmm := Nd.sits.ext hmm xa5; clear xa5; refine cA rfl rfl (cT (cw_seq (cS ?_))); refine cC (by kernel_rfl) rfl (awake17_c _ (by assumption) (by assumption)) rfl ?_; rintro _ wa9 ⟨⟨⟩, xa8⟩; have za10 := xa8.size; replace ha4 := ha4.ext xa8; replace hS := hS.ext xa8; replace hE := hE.ext xa8; replace X := X.ext xa8; replace hs := PG.sits.ext hs xa8; replace hmm := Nd.sits.ext hmm xa8; clear xa8; refine lw_pure (pur_not rfl) rfl (cT (cw_cond_f rfl (cw_skip (qw_then (cw_seq (cS (lw_loads_b' [_, _, _, _, _, _] tabOk rfl rfl rfl ha4 rfl rfl rfl ?_))))))); refine lw_does (does_call (by kernel_rfl) rfl (HG.out _ _ _ _ _ _ _ _ (by assumption)) (fun _ _ ⟨_, h⟩ => ⟨_, h.1⟩)) rfl ?_ (fun _ h => h); rintro _ wa13 ⟨qa11, ⟨⟨⟩, xa12⟩⟩; have za14 := xa12.size; replace ha4 := ha4.ext xa12; replace hS := hS.ext xa12; replace hE := hE.ext xa12; replace X := X.ext xa12; replace hs := PG.sits.ext hs xa12; replace hmm := Nd.sits.ext hmm xa12; clear xa12; refine lw_pure (pur_eql rfl rfl) rfl (cT ?_); refine cw_dec rfl (fun ca15 => ?_) (fun ca15 => ?_); refine cS (cA rfl rfl (cT (cw_ret (qw_then_ret (qw_ret1 rfl rfl ?_))))); rotate_left 1; refine cw_skip (qw_then (cS (lw_loads_b' [_, _, _, _, _, _] tabOk rfl rfl rfl ha4 rfl rfl rfl ?_)))
    refine cR (by kernel_rfl) rfl (HP.out _ _ _ _ _ _ _ _ (by assumption)) (fun _ _ h => h.ret) rfl ?_; rintro _ wa24 ⟨vaa16, ⟨vca17, ⟨paa18, ⟨pca19, ⟨maa20, ⟨mca21, ⟨⟨⟩, ⟨ha22, xa23⟩⟩⟩⟩⟩⟩⟩⟩; have za25 := xa23.size; replace ha4 := ha4.ext xa23; replace hS := hS.ext xa23; replace hE := hE.ext xa23; replace X := X.ext xa23; replace hs := PG.sits.ext hs xa23; replace hmm := Nd.sits.ext hmm xa23; clear xa23; refine cM rfl rfl (lw_pure (pur_extract rfl rfl) rfl (lw_pure (pur_extract rfl rfl) rfl ?_)); (refine lw_alloc' [_, _, _, _, _, _] zOk rfl rfl ?_; intro ba26 wa27 na28); (refine lw_init' [_, _, _, _, _, _] tabOk rfl rfl rfl rfl rfl rfl na28 rfl ?_; clear na28; clear wa27; intro wa29 na28); have ha30 := na28.blk; dsimp only at ha30; have xa31 := na28.ext; have pa32 := na28.pos; have za33 := na28.size; clear na28; replace ha22 := PG.sits.ext ha22 xa31; replace ha4 := ha4.ext xa31; replace hS := hS.ext xa31; replace hE := hE.ext xa31; replace X := X.ext xa31; replace hs := PG.sits.ext hs xa31; replace hmm := Nd.sits.ext hmm xa31; clear xa31; refine cA rfl rfl (cN (lw_loads_b' [_, _, _, _, _, _] tabOk rfl rfl rfl ha4 rfl rfl rfl ?_)); refine cR (by kernel_rfl) rfl (HD.out _ _ _ _ _ _ _ _ (by assumption)) (fun _ _ h => h.ret) rfl ?_; rintro _ wa42 ⟨vaa34, ⟨vca35, ⟨paa36, ⟨pca37, ⟨maa38, ⟨mca39, ⟨⟨⟩, ⟨ha40, xa41⟩⟩⟩⟩⟩⟩⟩⟩; have za43 := xa41.size; replace ha30 := ha30.ext xa41; replace ha22 := PG.sits.ext ha22 xa41; replace ha4 := ha4.ext xa41; replace hS := hS.ext xa41; replace hE := hE.ext xa41
    replace X := X.ext xa41; replace hs := PG.sits.ext hs xa41; replace hmm := Nd.sits.ext hmm xa41; clear xa41; refine cM rfl rfl (lw_pure (pur_extract rfl rfl) rfl (lw_pure (pur_extract rfl rfl) rfl ?_)); (refine lw_alloc' [_, _, _, _, _, _] zOk rfl rfl ?_; intro ba44 wa45 na46); (refine lw_init' [_, _, _, _, _, _] tabOk rfl rfl rfl rfl rfl rfl na46 rfl ?_; clear na46; clear wa45; intro wa47 na46); have ha48 := na46.blk; have xa49 := na46.ext; have pa50 := na46.pos; have za51 := na46.size; clear na46; replace ha40 := PG.sits.ext ha40 xa49; replace ha30 := ha30.ext xa49; replace ha22 := PG.sits.ext ha22 xa49; replace ha4 := ha4.ext xa49; replace hS := hS.ext xa49; replace hE := hE.ext xa49; replace X := X.ext xa49; replace hs := PG.sits.ext hs xa49; replace hmm := Nd.sits.ext hmm xa49; clear xa49; refine cA rfl rfl (cT (cw_seq (cS (lw_loads_b' [_, _, _, _, _, _] tabOk rfl rfl rfl ha4 rfl rfl rfl ?_)))); refine cC (by kernel_rfl) rfl (HV.out _ _ _ _ _ _ _ _ (by assumption)) rfl ?_; rintro _ wa53 ⟨⟨⟩, xa52⟩; have za54 := xa52.size; replace ha48 := ha48.ext xa52; replace ha40 := PG.sits.ext ha40 xa52; replace ha30 := ha30.ext xa52; replace ha22 := PG.sits.ext ha22 xa52; replace ha4 := ha4.ext xa52; replace hS := hS.ext xa52; replace hE := hE.ext xa52; replace X := X.ext xa52; replace hs := PG.sits.ext hs xa52; replace hmm := Nd.sits.ext hmm xa52; clear xa52; refine lw_pure (pur_not rfl) rfl (cT (cw_cond_f rfl (cw_skip (qw_then (cS (lw_loads_b' [_, _, _, _, _, _] tabOk rfl rfl rfl ha4 rfl rfl rfl ?_))))))
    (refine lw_alloc' [_, _, _, _, _, _] zOk rfl rfl ?_; intro ba55 wa56 na57); (refine lw_init' [_, _, _, _, _, _] tabOk rfl rfl rfl rfl rfl rfl na57 rfl ?_; clear na57; clear wa56; intro wa58 na57); have ha59 := na57.blk; have xa60 := na57.ext; have pa61 := na57.pos; have za62 := na57.size; clear na57; replace ha48 := ha48.ext xa60; replace ha40 := PG.sits.ext ha40 xa60; replace ha30 := ha30.ext xa60; replace ha22 := PG.sits.ext ha22 xa60; replace ha4 := ha4.ext xa60; replace hS := hS.ext xa60; replace hE := hE.ext xa60; replace X := X.ext xa60; replace hs := PG.sits.ext hs xa60; replace hmm := Nd.sits.ext hmm xa60; clear xa60; refine cN (lw_pure (pur_fieldAddr tabOk rfl rfl rfl) rfl (lw_loads_b' [_, _, _, _] tabOk rfl rfl rfl ha4 rfl rfl rfl ?_)); refine cR (by kernel_rfl) rfl (HR.out _ _ _ _ (by assumption)) (fun _ _ h => h.ret) rfl ?_; rintro _ wa67 ⟨aa63, ⟨ca64, ⟨⟨⟩, ⟨ha65, xa66⟩⟩⟩⟩; have za68 := xa66.size; replace ha59 := ha59.ext xa66; replace ha48 := ha48.ext xa66; replace ha40 := PG.sits.ext ha40 xa66; replace ha30 := ha30.ext xa66; replace ha22 := PG.sits.ext ha22 xa66; replace ha4 := ha4.ext xa66; replace hS := hS.ext xa66; replace hE := hE.ext xa66; replace X := X.ext xa66; replace hs := PG.sits.ext hs xa66; replace hmm := Nd.sits.ext hmm xa66; clear xa66; refine lw_pure (pur_fieldAddr tabOk rfl rfl rfl) rfl ?_; (refine lw_store' [_, _, _, _] [_, _, _, _, _, _] tabOk rfl rfl rfl rfl rfl rfl ha59 rfl rfl ?_; intro wa69 na70); have ha73 := na70.blk; have fa71 := na70.fr
    have za72 := na70.size; clear na70 ha59; replace ha65 := Nd.sits.fr ha65 fa71 (by omega); replace ha48 := ha48.fr fa71 (by omega); replace ha40 := PG.sits.fr ha40 fa71 (by omega); replace ha30 := ha30.fr fa71 (by omega); replace ha22 := PG.sits.fr ha22 fa71 (by omega); replace ha4 := ha4.fr fa71 (by omega); replace hS := hS.fr fa71 (by omega); clear hE; replace X := X.fr fa71 (by omega); replace hs := PG.sits.fr hs fa71 (by omega); replace hmm := Nd.sits.fr hmm fa71 (by omega); clear fa71; refine cT (cw_seq ?_); (refine cw_tdraw (fun wz => Ext wa69 wz) 15 (.pure 0 (.pure 1 (.pure 2 (.pure 3 (.pure 4 (.pure 5 (.pure 6 (.pure 7 (.pure 8 (.fork 9 (.pure 10 (.pure 11 (.pure 12 (.pure 13 (.fork 14 .tail .none))))) .none)))))))))) mixed (by kernel_rfl) (panicOk_then panicOk_body) ?_; intro wa74 xa75 _); have qsa76 : (fun wz => Ext wa69 wz) wa74 := xa75; simp only at qsa76; have d_ha73 := ha73; have d_ha65 := ha65; have d_ha48 := ha48; have d_ha40 := ha40; have d_ha30 := ha30; have d_ha22 := ha22; have d_ha4 := ha4; have d_hS := hS; have d_hs := hs; have d_hmm := hmm; have za77 := xa75.size; replace ha73 := ha73.ext xa75; replace ha65 := Nd.sits.ext ha65 xa75; replace ha48 := ha48.ext xa75; replace ha40 := PG.sits.ext ha40 xa75; replace ha30 := ha30.ext xa75; replace ha22 := PG.sits.ext ha22 xa75; replace ha4 := ha4.ext xa75; replace hS := hS.ext xa75; replace X := X.ext xa75; replace hs := PG.sits.ext hs xa75; replace hmm := Nd.sits.ext hmm xa75; clear xa75; refine ⟨qsa76, ?_⟩; refine tw_pure rfl (pur_move rfl) rfl (tw_pure rfl (pur_eql rfl rfl) rfl (tw_pure rfl (pur_move rfl) rfl ?_))
    refine tw_on rfl rfl rfl rfl (gd_tt (by decide)) (pur_move rfl) rfl ?_; refine tw_on rfl rfl rfl rfl (gd_tt (by decide)) (pur_eql rfl rfl) rfl ?_; refine tw_pure rfl (pur_pick_yes rfl rfl (by decide)) rfl ?_; refine tw_pure rfl (pur_move rfl) rfl ?_; refine tw_on rfl rfl rfl rfl (gd_tt (by decide)) (pur_loads_blk' [_, _, _, _, _, _] tabOk rfl rfl rfl (fun wz hz => (Blk.ext d_ha30 hz)) rfl rfl) rfl ?_; refine tw_on rfl rfl rfl rfl (gd_tt (by decide)) (pur_loads_blk' [_, _, _, _, _, _] tabOk rfl rfl rfl (fun wz hz => (Blk.ext d_ha73 hz)) rfl rfl) rfl ?_; refine tw_does_on rfl rfl rfl rfl (gd_tt (by decide)) (does_call (by kernel_rfl) rfl (H1.out _ _ _ _ _ _ _ _ _ _ _ _ _ _ _ _ _ (by assumption) (by assumption) (by assumption)) (fun _ _ h => ⟨_, h.1⟩)) rfl ?_ (fun _ h => h) tw_none; rintro _ wa80 ⟨⟨⟩, xa79⟩; have za81 := xa79.size; replace qsa76 := qsa76.ext xa79; replace ha73 := ha73.ext xa79; replace ha65 := Nd.sits.ext ha65 xa79; replace ha48 := ha48.ext xa79; replace ha40 := PG.sits.ext ha40 xa79; replace ha30 := ha30.ext xa79; replace ha22 := PG.sits.ext ha22 xa79; replace ha4 := ha4.ext xa79; replace hS := hS.ext xa79; replace X := X.ext xa79; replace hs := PG.sits.ext hs xa79; replace hmm := Nd.sits.ext hmm xa79; clear xa79; refine ⟨qsa76, ?_⟩; refine tw_pure rfl (pur_pick_yes rfl rfl (by decide)) rfl ?_; refine tw_pure rfl (pur_move rfl) rfl (tw_on rfl rfl rfl rfl (rfl) (pur_loads_blk' [_, _, _, _, _, _] tabOk rfl rfl rfl (fun wz hz => (Blk.ext d_ha48 hz)) rfl rfl) rfl (tw_on rfl rfl rfl rfl (rfl) (pur_loads_blk' [_, _, _, _, _, _] tabOk rfl rfl rfl (fun wz hz => (Blk.ext d_ha4 hz)) rfl rfl) rfl ?_))
    refine tw_does_on rfl rfl rfl rfl (rfl) (does_call (by kernel_rfl) rfl (HQ.out _ _ _ _ _ _ _ _ (by assumption)) (fun _ _ h => h.ret)) rfl ?_ (fun _ h => h) tw_none; rintro _ wa91 ⟨vaa83, ⟨vca84, ⟨paa85, ⟨pca86, ⟨maa87, ⟨mca88, ⟨⟨⟩, ⟨ha89, xa90⟩⟩⟩⟩⟩⟩⟩⟩; have za92 := xa90.size; replace qsa76 := qsa76.ext xa90; replace ha73 := ha73.ext xa90; replace ha65 := Nd.sits.ext ha65 xa90; replace ha48 := ha48.ext xa90; replace ha40 := PG.sits.ext ha40 xa90; replace ha30 := ha30.ext xa90; replace ha22 := PG.sits.ext ha22 xa90; replace ha4 := ha4.ext xa90; replace hS := hS.ext xa90; replace X := X.ext xa90; replace hs := PG.sits.ext hs xa90; replace hmm := Nd.sits.ext hmm xa90; clear xa90; refine ⟨qsa76, ?_⟩; clear d_ha73 d_ha65 d_ha48 d_ha40 d_ha30 d_ha22 d_ha4 d_hS d_hs d_hmm qsa76; refine tw_tail rfl (lw_on rfl rfl rfl (rfl) ?_); refine cC (by kernel_rfl) rfl (H2.out _ _ _ _ _ _ _ _ _ _ _ _ _ _ _ (by assumption) (by assumption)) rfl ?_; rintro _ wa94 ⟨⟨⟩, xa93⟩; have za95 := xa93.size; replace ha89 := PG.sits.ext ha89 xa93; replace ha73 := ha73.ext xa93; replace ha65 := Nd.sits.ext ha65 xa93; replace ha48 := ha48.ext xa93; replace ha40 := PG.sits.ext ha40 xa93; replace ha30 := ha30.ext xa93; replace ha22 := PG.sits.ext ha22 xa93; replace ha4 := ha4.ext xa93; replace hS := hS.ext xa93; replace X := X.ext xa93; replace hs := PG.sits.ext hs xa93; replace hmm := Nd.sits.ext hmm xa93; clear xa93; refine lw_pure (pur_pick_t rfl rfl rfl) rfl (cA rfl rfl (cT (cw_ret (qw_ret1 rfl rfl ?_)))); rotate_left 1
   · exact ⟨rfl, X⟩
   · exact ⟨rfl, X⟩
end Bk
namespace Bk
open Go Go.RowKit Go.Proofs
attribute [local irreducible] Go.Calls
theorem equalS_v (t : Nd) (hz : t.size ≤ 1000000) (S S' : Nat → Prop) (a a' : Option Addr) (c c' : Nat) (w : World) (hs : t.sits S w a) (hs' : t.sits S' w a') : Calls Tryz.prog 12 #[t.val a c, t.val a' c'] w fun e w' => e = .returned (.bool true) ∧ Ext w w' := by
 have := equalI_v t hz t S S' a a' c c' w hs hs'
 rw [(eqb_iff t t).2 rfl] at this; exact this
end Bk
namespace Bk
open Go Go.RowKit Go.Proofs
attribute [local irreducible] Go.Calls
theorem kids17 {S : Nat → Prop} {w : World} {t : Nd} {a : Option Addr} (h : t.sits S w a) : rowSits S w t.kids a := by
 obtain ⟨k, n, s, l⟩ := t
 exact h
theorem back_f (q : Bool) {t : Nd} (h : t.isBlock = true) : (t.inv q).inv q = t := (inv_ok q (t.size + 1) t (by omega) (Or.inr h)).back
set_option maxRecDepth 100000 in
set_option maxHeartbeats 4000000 in
theorem InverterTwice_c (g : PG) (hwf : g.wf) (S : Nat → Prop) (va : Option Addr) (vc : Nat) (pa : Option Addr) (pc : Nat) (ma : Option Addr) (mc : Nat) (w : World) (hs : g.sits S w va pa ma) (hS : Syms w) (hE : Errs w) :
 Calls Tryz.prog 6 #[.agg (g.cells va vc pa pc ma mc).toArray] w fun e w' => e = .returned (.bool true) ∧ Ext w w' := by
 have X := Ext.refl w; replace hs := hs.ltA; have HG := Lib.hid (great_v hwf)
 cases hok : g.ok
 · have HV := Lib.hid (valid_v hwf hok)
   clear hwf hok; refine calls_in Tryz.func6 Tryz.ntmps6 rfl rfl ?_
   focus
    refine cS ?_; (refine lw_box' [_, _, _, _, _, _] rfl rfl rfl ?_; intro b1 w2 n3); have h4 := n3.blk; have x5 := n3.ext; have p6 := n3.pos; have z7 := n3.size; clear n3; replace hS := hS.ext x5; replace hE := hE.ext x5; replace X := X.ext x5; replace hs := PG.sits.ext hs x5; clear x5; refine cA rfl rfl (cT (cw_seq (cS ?_))); refine cC (by kernel_rfl) rfl (awake17_c _ (by assumption) (by assumption)) rfl ?_; rintro _ w9 ⟨⟨⟩, x8⟩; have z10 := x8.size; replace h4 := h4.ext x8; replace hS := hS.ext x8; replace hE := hE.ext x8; replace X := X.ext x8; replace hs := PG.sits.ext hs x8; clear x8; refine lw_pure (pur_not rfl) rfl (cT (cw_cond_f rfl (cw_skip (qw_then (cw_seq (cS (lw_loads_b' [_, _, _, _, _, _] tabOk rfl rfl rfl h4 rfl rfl rfl ?_))))))); refine lw_does (does_call (by kernel_rfl) rfl (HG.out _ _ _ _ _ _ _ _ (by assumption)) (fun _ _ ⟨_, h⟩ => ⟨_, h.1⟩)) rfl ?_ (fun _ h => h); rintro _ w13 ⟨q11, ⟨⟨⟩, x12⟩⟩; have z14 := x12.size; replace h4 := h4.ext x12; replace hS := hS.ext x12; replace hE := hE.ext x12; replace X := X.ext x12; replace hs := PG.sits.ext hs x12; clear x12; refine lw_pure (pur_eql rfl rfl) rfl (cM rfl rfl ?_); refine lw_dec rfl rfl rfl (fun c15 => ?_) (fun c15 => ?_); refine lw_off rfl rfl rfl (gd_ft (by assumption)) rfl ?_; refine lw_off rfl rfl rfl (gd_ft (by assumption)) rfl ?_; refine lw_off rfl rfl rfl (gd_ft (by assumption)) rfl ?_; refine lw_pure (pur_pick_yes rfl rfl (by assumption)) rfl ?_; refine cT (cw_cond_t rfl (cS (cA rfl rfl (cT (cw_ret (qw_then_ret (qw_ret1 rfl rfl ?_)))))))
    rotate_left 1; refine lw_on rfl rfl rfl (gd_ff (by assumption)) ?_; refine lw_loads_b' [_, _, _, _, _, _] tabOk rfl rfl rfl h4 rfl rfl rfl ?_; refine lw_on rfl rfl rfl (gd_ff (by assumption)) ?_; refine cC (by kernel_rfl) rfl (HV.out _ _ _ _ _ _ _ _ (by assumption)) rfl ?_; rintro _ w17 ⟨⟨⟩, x16⟩; have z18 := x16.size; replace h4 := h4.ext x16; replace hS := hS.ext x16; replace hE := hE.ext x16; replace X := X.ext x16; replace hs := PG.sits.ext hs x16; clear x16; refine lw_on rfl rfl rfl (gd_ff (by assumption)) ?_; refine lw_pure (pur_not rfl) rfl ?_; refine lw_pure (pur_pick_no rfl rfl (by assumption)) rfl ?_; refine cT (cw_cond_t rfl (cS (cA rfl rfl (cT (cw_ret (qw_then_ret (qw_ret1 rfl rfl ?_))))))); rotate_left 1
   · exact ⟨rfl, X⟩
   · exact ⟨rfl, X⟩
 · have HV := Lib.hid (valid_v hwf hok)
   have hbo := fun p hp => (pok_parts ((ok_parts hok).2.2.2.1 p hp)).2.2.2
   have hmb := ok_mainB hok; have HP := Lib.hid (iProgram_v hwf hok); have HD := Lib.hid (iDeep_v hwf hok); have HP2 := Lib.hid (iProgram_v (inv_pg_wf (f := id) false hwf hok (fun p hp => (hwf.procs p hp).body)) (inv_pg_ok (f := id) false hok hbo)); have HD2 := Lib.hid (iDeep_v (inv_pg_wf (f := (·.inv true)) true hwf hok (fun p hp => (inv_ok true (p.body.size + 1) p.body (by omega) (Or.inr (ok_bodyB hok p hp))).wf (hwf.procs p hp).body)) (inv_pg_ok (f := (·.inv true)) true hok (fun p hp => inv_body true (hbo p hp)))); rw [inv_pg_back false hok (fun p hp => rfl)] at HP2; rw [inv_pg_back true hok (fun p hp => back_f true (ok_bodyB hok p hp))] at HD2; have H1 := Lib.hid (same_v (few_okI hok)); have hz := (few_okI hok).main
   have hst : ∀ x ∈ g.main.kids, x.isStmt = true ∧ x.wf ∧ x.size ≤ 1000000 := fun x hx => by
    have hm := hwf.main; clear HV HP HD HP2 HD2 H1 hs HG
    generalize g.main = m at *
    obtain ⟨k, n, s, l⟩ := m; obtain ⟨-, h2⟩ := block_kind hmb; have := size_memA (x := x) (l := l) hx; simp only [Nd.size] at hz; simp only [Nd.wf] at hm
    exact ⟨rowStmt_iff.1 h2 x hx, rowWf_iff.1 hm.2.2.2.2.2.2 x hx, by omega⟩
   have hlen : g.main.kids.length ≤ 1000000 := by
    clear HV HP HD HP2 HD2 H1 hs HG hmb hst
    generalize g.main = m at *
    obtain ⟨k, n, s, l⟩ := m; have := length_rowA l; simp only [Nd.size] at hz; simp only [Nd.kids]
    omega
   have HK := Lib.hid hst; clear hwf hok hbo hmb hst
   generalize g.inv id false = u1 at *
   generalize g.inv (·.inv true) true = u2 at *
   refine calls_in Tryz.func6 Tryz.ntmps6 rfl rfl ?_
   focus
    refine cS ?_; (refine lw_box' [_, _, _, _, _, _] rfl rfl rfl ?_; intro ba1 wa2 na3); have ha4 := na3.blk; have xa5 := na3.ext; have pa6 := na3.pos; have za7 := na3.size; clear na3; replace hS := hS.ext xa5; replace hE := hE.ext xa5; replace X := X.ext xa5; replace hs := PG.sits.ext hs xa5; clear xa5; refine cA rfl rfl (cT (cw_seq (cS ?_))); refine cC (by kernel_rfl) rfl (awake17_c _ (by assumption) (by assumption)) rfl ?_; rintro _ wa9 ⟨⟨⟩, xa8⟩; have za10 := xa8.size; replace ha4 := ha4.ext xa8; replace hS := hS.ext xa8; replace hE := hE.ext xa8; replace X := X.ext xa8; replace hs := PG.sits.ext hs xa8; clear xa8; refine lw_pure (pur_not rfl) rfl (cT (cw_cond_f rfl (cw_skip (qw_then (cw_seq (cS (lw_loads_b' [_, _, _, _, _, _] tabOk rfl rfl rfl ha4 rfl rfl rfl ?_))))))); refine lw_does (does_call (by kernel_rfl) rfl (HG.out _ _ _ _ _ _ _ _ (by assumption)) (fun _ _ ⟨_, h⟩ => ⟨_, h.1⟩)) rfl ?_ (fun _ h => h); rintro _ wa13 ⟨qa11, ⟨⟨⟩, xa12⟩⟩; have za14 := xa12.size; replace ha4 := ha4.ext xa12; replace hS := hS.ext xa12; replace hE := hE.ext xa12; replace X := X.ext xa12; replace hs := PG.sits.ext hs xa12; clear xa12; refine lw_pure (pur_eql rfl rfl) rfl (cM rfl rfl ?_); refine lw_dec rfl rfl rfl (fun ca15 => ?_) (fun ca15 => ?_); refine lw_off rfl rfl rfl (gd_ft (by assumption)) rfl ?_; refine lw_off rfl rfl rfl (gd_ft (by assumption)) rfl ?_; refine lw_off rfl rfl rfl (gd_ft (by assumption)) rfl ?_; refine lw_pure (pur_pick_yes rfl rfl (by assumption)) rfl ?_; refine cT (cw_cond_t rfl (cS (cA rfl rfl (cT (cw_ret (qw_then_ret (qw_ret1 rfl rfl ?_)))))))
    rotate_left 1; refine lw_on rfl rfl rfl (gd_ff (by assumption)) ?_; refine lw_loads_b' [_, _, _, _, _, _] tabOk rfl rfl rfl ha4 rfl rfl rfl ?_; refine lw_on rfl rfl rfl (gd_ff (by assumption)) ?_; refine cC (by kernel_rfl) rfl (HV.out _ _ _ _ _ _ _ _ (by assumption)) rfl ?_; rintro _ wa17 ⟨⟨⟩, xa16⟩; have za18 := xa16.size; replace ha4 := ha4.ext xa16; replace hS := hS.ext xa16; replace hE := hE.ext xa16; replace X := X.ext xa16; replace hs := PG.sits.ext hs xa16; clear xa16; refine lw_on rfl rfl rfl (gd_ff (by assumption)) ?_; refine lw_pure (pur_not rfl) rfl ?_; refine lw_pure (pur_pick_no rfl rfl (by assumption)) rfl ?_; refine cT (cw_cond_f rfl (cw_skip (qw_then (cS (lw_loads_b' [_, _, _, _, _, _] tabOk rfl rfl rfl ha4 rfl rfl rfl ?_))))); refine cR (by kernel_rfl) rfl (HP.out _ _ _ _ _ _ _ _ (by assumption)) (fun _ _ h => h.ret) rfl ?_; rintro _ wa27 ⟨vaa19, ⟨vca20, ⟨paa21, ⟨pca22, ⟨maa23, ⟨mca24, ⟨⟨⟩, ⟨ha25, xa26⟩⟩⟩⟩⟩⟩⟩⟩; have za28 := xa26.size; replace ha4 := ha4.ext xa26; replace hS := hS.ext xa26; replace hE := hE.ext xa26; replace X := X.ext xa26; replace hs := PG.sits.ext hs xa26; clear xa26; refine cM rfl rfl (lw_pure (pur_extract rfl rfl) rfl (lw_pure (pur_extract rfl rfl) rfl ?_)); (refine lw_alloc' [_, _, _, _, _, _] zOk rfl rfl ?_; intro ba29 wa30 na31); (refine lw_init' [_, _, _, _, _, _] tabOk rfl rfl rfl rfl rfl rfl na31 rfl ?_; clear na31; clear wa30; intro wa32 na31); have ha33 := na31.blk; have xa34 := na31.ext; have pa35 := na31.pos; have za36 := na31.size
    clear na31; replace ha25 := PG.sits.ext ha25 xa34; replace ha4 := ha4.ext xa34; replace hS := hS.ext xa34; replace hE := hE.ext xa34; replace X := X.ext xa34; replace hs := PG.sits.ext hs xa34; clear xa34; refine cA rfl rfl (cN (lw_loads_b' [_, _, _, _, _, _] tabOk rfl rfl rfl ha33 rfl rfl rfl ?_)); refine cR (by kernel_rfl) rfl (HP2.out _ _ _ _ _ _ _ _ (by assumption)) (fun _ _ h => h.ret) rfl ?_; rintro _ wa45 ⟨vaa37, ⟨vca38, ⟨paa39, ⟨pca40, ⟨maa41, ⟨mca42, ⟨⟨⟩, ⟨ha43, xa44⟩⟩⟩⟩⟩⟩⟩⟩; have za46 := xa44.size; replace ha33 := ha33.ext xa44; replace ha25 := PG.sits.ext ha25 xa44; replace ha4 := ha4.ext xa44; replace hS := hS.ext xa44; replace hE := hE.ext xa44; replace X := X.ext xa44; replace hs := PG.sits.ext hs xa44; clear xa44; refine cM rfl rfl (lw_pure (pur_extract rfl rfl) rfl (lw_pure (pur_extract rfl rfl) rfl ?_)); (refine lw_alloc' [_, _, _, _, _, _] zOk rfl rfl ?_; intro ba47 wa48 na49); (refine lw_init' [_, _, _, _, _, _] tabOk rfl rfl rfl rfl rfl rfl na49 rfl ?_; clear na49; clear wa48; intro wa50 na49); have ha51 := na49.blk; have xa52 := na49.ext; have pa53 := na49.pos; have za54 := na49.size; clear na49; replace ha43 := PG.sits.ext ha43 xa52; replace ha33 := ha33.ext xa52; replace ha25 := PG.sits.ext ha25 xa52; replace ha4 := ha4.ext xa52; replace hS := hS.ext xa52; replace hE := hE.ext xa52; replace X := X.ext xa52; replace hs := PG.sits.ext hs xa52; clear xa52; refine cA rfl rfl (cN (lw_loads_b' [_, _, _, _, _, _] tabOk rfl rfl rfl ha4 rfl rfl rfl ?_)); refine cR (by kernel_rfl) rfl (HD.out _ _ _ _ _ _ _ _ (by assumption)) (fun _ _ h => h.ret) rfl ?_
    rintro _ wa63 ⟨vaa55, ⟨vca56, ⟨paa57, ⟨pca58, ⟨maa59, ⟨mca60, ⟨⟨⟩, ⟨ha61, xa62⟩⟩⟩⟩⟩⟩⟩⟩; have za64 := xa62.size; replace ha51 := ha51.ext xa62; replace ha43 := PG.sits.ext ha43 xa62; replace ha33 := ha33.ext xa62; replace ha25 := PG.sits.ext ha25 xa62; replace ha4 := ha4.ext xa62; replace hS := hS.ext xa62; replace hE := hE.ext xa62; replace X := X.ext xa62; replace hs := PG.sits.ext hs xa62; clear xa62; refine cM rfl rfl (lw_pure (pur_extract rfl rfl) rfl (lw_pure (pur_extract rfl rfl) rfl ?_)); (refine lw_alloc' [_, _, _, _, _, _] zOk rfl rfl ?_; intro ba65 wa66 na67); (refine lw_init' [_, _, _, _, _, _] tabOk rfl rfl rfl rfl rfl rfl na67 rfl ?_; clear na67; clear wa66; intro wa68 na67); have ha69 := na67.blk; have xa70 := na67.ext; have pa71 := na67.pos; have za72 := na67.size; clear na67; replace ha61 := PG.sits.ext ha61 xa70; replace ha51 := ha51.ext xa70; replace ha43 := PG.sits.ext ha43 xa70; replace ha33 := ha33.ext xa70; replace ha25 := PG.sits.ext ha25 xa70; replace ha4 := ha4.ext xa70; replace hS := hS.ext xa70; replace hE := hE.ext xa70; replace X := X.ext xa70; replace hs := PG.sits.ext hs xa70; clear xa70; refine cA rfl rfl (cN (lw_loads_b' [_, _, _, _, _, _] tabOk rfl rfl rfl ha69 rfl rfl rfl ?_)); refine cR (by kernel_rfl) rfl (HD2.out _ _ _ _ _ _ _ _ (by assumption)) (fun _ _ h => h.ret) rfl ?_; rintro _ wa81 ⟨vaa73, ⟨vca74, ⟨paa75, ⟨pca76, ⟨maa77, ⟨mca78, ⟨⟨⟩, ⟨ha79, xa80⟩⟩⟩⟩⟩⟩⟩⟩; have za82 := xa80.size; replace ha69 := ha69.ext xa80; replace ha61 := PG.sits.ext ha61 xa80
    replace ha51 := ha51.ext xa80; replace ha43 := PG.sits.ext ha43 xa80; replace ha33 := ha33.ext xa80; replace ha25 := PG.sits.ext ha25 xa80; replace ha4 := ha4.ext xa80; replace hS := hS.ext xa80; replace hE := hE.ext xa80; replace X := X.ext xa80; replace hs := PG.sits.ext hs xa80; clear xa80; refine cM rfl rfl (lw_pure (pur_extract rfl rfl) rfl (lw_pure (pur_extract rfl rfl) rfl ?_)); (refine lw_alloc' [_, _, _, _, _, _] zOk rfl rfl ?_; intro ba83 wa84 na85); (refine lw_init' [_, _, _, _, _, _] tabOk rfl rfl rfl rfl rfl rfl na85 rfl ?_; clear na85; clear wa84; intro wa86 na85); have ha87 := na85.blk; have xa88 := na85.ext; have pa89 := na85.pos; have za90 := na85.size; clear na85; replace ha79 := PG.sits.ext ha79 xa88; replace ha69 := ha69.ext xa88; replace ha61 := PG.sits.ext ha61 xa88; replace ha51 := ha51.ext xa88; replace ha43 := PG.sits.ext ha43 xa88; replace ha33 := ha33.ext xa88; replace ha25 := PG.sits.ext ha25 xa88; replace ha4 := ha4.ext xa88; replace hS := hS.ext xa88; replace hE := hE.ext xa88; replace X := X.ext xa88; replace hs := PG.sits.ext hs xa88; clear xa88; refine cA rfl rfl (cT (cw_seq (cS (cM rfl rfl (lw_pure (pur_neq rfl rfl) rfl (cM rfl rfl ?_)))))); refine lw_on rfl rfl rfl (gd_ff (by decide)) ?_; refine cM rfl rfl ?_; refine lw_on rfl rfl rfl (gd_ff (by decide)) ?_; refine lw_pure (pur_neq rfl rfl) rfl ?_; refine lw_pure (pur_pick_no rfl rfl (by decide)) rfl ?_; refine cM rfl rfl ?_; refine lw_on rfl rfl rfl (gd_ff (by decide)) ?_; refine cM rfl rfl ?_
    refine lw_on rfl rfl rfl (gd_ff (by decide)) ?_; refine lw_pure (pur_neq rfl rfl) rfl ?_; refine lw_pure (pur_pick_no rfl rfl (by decide)) rfl ?_; refine cM rfl rfl ?_; refine lw_on rfl rfl rfl (gd_ff (by decide)) ?_; refine cM rfl rfl ?_; refine lw_on rfl rfl rfl (gd_ff (by decide)) ?_; refine lw_pure (pur_neq rfl rfl) rfl ?_; refine lw_pure (pur_pick_no rfl rfl (by decide)) rfl ?_; refine cM rfl rfl ?_; refine lw_on rfl rfl rfl (gd_ff (by decide)) ?_; refine lw_loads_b' [_, _, _, _, _, _] tabOk rfl rfl rfl ha4 rfl rfl rfl ?_; refine lw_on rfl rfl rfl (gd_ff (by decide)) ?_; refine lw_loads_b' [_, _, _, _, _, _] tabOk rfl rfl rfl ha51 rfl rfl rfl ?_; refine lw_on rfl rfl rfl (gd_ff (by decide)) ?_; refine cC (by kernel_rfl) rfl (H1.out _ _ _ _ _ _ _ _ _ _ _ _ _ _ _ (by assumption) (by assumption)) rfl ?_; rintro _ wa92 ⟨⟨⟩, xa91⟩; have za93 := xa91.size; replace ha87 := ha87.ext xa91; replace ha79 := PG.sits.ext ha79 xa91; replace ha69 := ha69.ext xa91; replace ha61 := PG.sits.ext ha61 xa91; replace ha51 := ha51.ext xa91; replace ha43 := PG.sits.ext ha43 xa91; replace ha33 := ha33.ext xa91; replace ha25 := PG.sits.ext ha25 xa91; replace ha4 := ha4.ext xa91; replace hS := hS.ext xa91; replace hE := hE.ext xa91; replace X := X.ext xa91; replace hs := PG.sits.ext hs xa91; clear xa91; refine lw_on rfl rfl rfl (gd_ff (by decide)) ?_; refine lw_pure (pur_not rfl) rfl ?_; refine lw_pure (pur_pick_no rfl rfl (by decide)) rfl ?_; refine cM rfl rfl (lw_on rfl rfl rfl (rfl) (lw_loads_b' [_, _, _, _, _, _] tabOk rfl rfl rfl ha4 rfl rfl rfl (lw_on rfl rfl rfl (rfl) (lw_loads_b' [_, _, _, _, _, _] tabOk rfl rfl rfl ha87 rfl rfl rfl (lw_on rfl rfl rfl (rfl) ?_)))))
    refine cC (by kernel_rfl) rfl (H1.out _ _ _ _ _ _ _ _ _ _ _ _ _ _ _ (by assumption) (by assumption)) rfl ?_; rintro _ wa95 ⟨⟨⟩, xa94⟩; have za96 := xa94.size; replace ha87 := ha87.ext xa94; replace ha79 := PG.sits.ext ha79 xa94; replace ha69 := ha69.ext xa94; replace ha61 := PG.sits.ext ha61 xa94; replace ha51 := ha51.ext xa94; replace ha43 := PG.sits.ext ha43 xa94; replace ha33 := ha33.ext xa94; replace ha25 := PG.sits.ext ha25 xa94; replace ha4 := ha4.ext xa94; replace hS := hS.ext xa94; replace hE := hE.ext xa94; replace X := X.ext xa94; replace hs := PG.sits.ext hs xa94; clear xa94; refine lw_on rfl rfl rfl (rfl) (lw_pure (pur_not rfl) rfl (lw_pure (pur_pick_f rfl rfl rfl) rfl (cT (cw_cond_f rfl (cw_skip (qw_then (cw_seq (cS (lw_pure (pur_fieldAddr tabOk rfl rfl rfl) rfl (lw_pure (pur_fieldAddr tabOk rfl rfl rfl) rfl (lw_load_b tabOk rfl rfl rfl ha4 rfl rfl ?_))))))))))); refine lw_pure (pur_len_slice tabOk rfl rfl) rfl (cM rfl rfl (cT (cw_block ?_))); rotate_left 1
   · exact ⟨rfl, X⟩
   have hk := kids17 hs.main; clear ha87 ha79 ha69 ha61 ha51 ha43 ha33 ha25 ha4 hS hE hs HG HV H1 HP HP2 HD HD2; refine cw_loop (ι := Nat) (fun j => [(75, .slice ma g.main.kids.length mc), (76, .int .i64 g.main.kids.length), (77, .int .i64 j)]) (fun j w' => j ≤ g.main.kids.length ∧ rowSits (· < w.heap.size) w' g.main.kids ma ∧ Ext w w') (fun j => g.main.kids.length - j) 0 (by (refine sub_cons rfl ?_; refine sub_cons rfl ?_; refine sub_cons rfl ?_; exact sub_nil)) ⟨Nat.zero_le _, hk, X⟩ ?_; clear hk X; rintro j w3 ⟨hj, hk, X⟩
   by_cases hlt : j < g.main.kids.length
   · obtain ⟨kb, ko, rfl, kS, hkid⟩ := kidRows hk (by intro e; rw [e] at hlt; simp at hlt)
     obtain ⟨xa, xc, rx, sx⟩ := hkid j _ (List.getElem?_eq_getElem hlt); obtain ⟨k1, k2, k3⟩ := HK.out _ (List.getElem_mem hlt); have io := inv_ok false (g.main.kids[j].size + 1) g.main.kids[j] (by omega) (Or.inl k1); have HI := Lib.hid (iStmt_v k2 k3 (Or.inl k1)); have HJ := Lib.hid (iStmt_v (io.wf k2) (by rw [io.size]; exact k3) (Or.inl (io.st k1))); rw [io.back] at HJ; have HE := Lib.hid (equalS_v g.main.kids[j] k3); clear hkid HK io k1 k2 k3
     generalize g.main.kids[j] = x at *
     generalize x.inv false = y at *
     focus
      refine cS (lw_pure (pur_lss rfl rfl) rfl (cT (cw_seq ?_))); refine cw_yes rfl (by omega) ?_; refine cw_skip (qw_then (cw_seq (cw_block (cS ?_)))); refine lw_pure (pur_indexAddr tabOk rfl rfl rfl rfl (by omega) (by omega)) rfl ?_; refine lw_loads_r0 tabOk rfl rfl rfl rx rfl rfl ?_; (refine lw_alloc' [_, _, _, _] zOk rfl rfl ?_; intro bb1 wb2 nb3); (refine lw_init' [_, _, _, _] tabOk rfl rfl rfl rfl rfl rfl nb3 rfl ?_; clear nb3; clear wb2; intro wb4 nb3); have hb5 := nb3.blk; have xb6 := nb3.ext; have pb7 := nb3.pos; have zb8 := nb3.size; clear nb3; replace X := X.ext xb6; replace hk := Bk.rowSits.ext hk xb6; replace rx := rx.ext xb6; replace sx := Nd.sits.ext sx xb6; clear xb6; refine cN (lw_loads_b' [_, _, _, _] tabOk rfl rfl rfl hb5 rfl rfl rfl ?_); refine cR (by kernel_rfl) rfl (HI.out _ _ _ _ (by assumption)) (fun _ _ h => h.ret) rfl ?_; rintro _ wb13 ⟨ab9, ⟨cb10, ⟨⟨⟩, ⟨hb11, xb12⟩⟩⟩⟩; have zb14 := xb12.size; replace hb5 := hb5.ext xb12; replace X := X.ext xb12; replace hk := Bk.rowSits.ext hk xb12; replace rx := rx.ext xb12; replace sx := Nd.sits.ext sx xb12; clear xb12; refine cM rfl rfl (lw_pure (pur_extract rfl rfl) rfl (lw_pure (pur_extract rfl rfl) rfl ?_)); (refine lw_alloc' [_, _, _, _] zOk rfl rfl ?_; intro bb15 wb16 nb17); (refine lw_init' [_, _, _, _] tabOk rfl rfl rfl rfl rfl rfl nb17 rfl ?_; clear nb17; clear wb16; intro wb18 nb17); have hb19 := nb17.blk; have xb20 := nb17.ext; have pb21 := nb17.pos; have zb22 := nb17.size; clear nb17; replace hb11 := Nd.sits.ext hb11 xb20
      replace hb5 := hb5.ext xb20; replace X := X.ext xb20; replace hk := Bk.rowSits.ext hk xb20; replace rx := rx.ext xb20; replace sx := Nd.sits.ext sx xb20; clear xb20; refine cA rfl rfl (cN (lw_loads_b' [_, _, _, _] tabOk rfl rfl rfl hb19 rfl rfl rfl ?_)); refine cR (by kernel_rfl) rfl (HJ.out _ _ _ _ (by assumption)) (fun _ _ h => h.ret) rfl ?_; rintro _ wb27 ⟨ab23, ⟨cb24, ⟨⟨⟩, ⟨hb25, xb26⟩⟩⟩⟩; have zb28 := xb26.size; replace hb19 := hb19.ext xb26; replace hb11 := Nd.sits.ext hb11 xb26; replace hb5 := hb5.ext xb26; replace X := X.ext xb26; replace hk := Bk.rowSits.ext hk xb26; replace rx := rx.ext xb26; replace sx := Nd.sits.ext sx xb26; clear xb26; refine cM rfl rfl (lw_pure (pur_extract rfl rfl) rfl (lw_pure (pur_extract rfl rfl) rfl ?_)); (refine lw_alloc' [_, _, _, _] zOk rfl rfl ?_; intro bb29 wb30 nb31); (refine lw_init' [_, _, _, _] tabOk rfl rfl rfl rfl rfl rfl nb31 rfl ?_; clear nb31; clear wb30; intro wb32 nb31); have hb33 := nb31.blk; have xb34 := nb31.ext; have pb35 := nb31.pos; have zb36 := nb31.size; clear nb31; replace hb25 := Nd.sits.ext hb25 xb34; replace hb19 := hb19.ext xb34; replace hb11 := Nd.sits.ext hb11 xb34; replace hb5 := hb5.ext xb34; replace X := X.ext xb34; replace hk := Bk.rowSits.ext hk xb34; replace rx := rx.ext xb34; replace sx := Nd.sits.ext sx xb34; clear xb34; refine cA rfl rfl (cN (cM rfl rfl (lw_pure (pur_neq rfl rfl) rfl (cM rfl rfl ?_)))); refine lw_on rfl rfl rfl (gd_ff (by decide)) ?_; refine cM rfl rfl ?_; refine lw_on rfl rfl rfl (gd_ff (by decide)) ?_
      refine lw_pure (pur_neq rfl rfl) rfl ?_; refine lw_pure (pur_pick_no rfl rfl (by decide)) rfl ?_; refine cM rfl rfl ?_; refine lw_on rfl rfl rfl (gd_ff (by decide)) ?_; refine lw_loads_b' [_, _, _, _] tabOk rfl rfl rfl hb33 rfl rfl rfl ?_; refine lw_on rfl rfl rfl (gd_ff (by decide)) ?_; refine lw_loads_b' [_, _, _, _] tabOk rfl rfl rfl hb5 rfl rfl rfl ?_; refine lw_on rfl rfl rfl (gd_ff (by decide)) ?_; refine cC (by kernel_rfl) rfl (HE.out _ _ _ _ _ _ _ (by assumption) (by assumption)) rfl ?_; rintro _ wb38 ⟨⟨⟩, xb37⟩; have zb39 := xb37.size; replace hb33 := hb33.ext xb37; replace hb25 := Nd.sits.ext hb25 xb37; replace hb19 := hb19.ext xb37; replace hb11 := Nd.sits.ext hb11 xb37; replace hb5 := hb5.ext xb37; replace X := X.ext xb37; replace hk := Bk.rowSits.ext hk xb37; replace rx := rx.ext xb37; replace sx := Nd.sits.ext sx xb37; clear xb37; refine lw_on rfl rfl rfl (gd_ff (by decide)) ?_; refine lw_pure (pur_not rfl) rfl ?_; refine lw_pure (pur_pick_no rfl rfl (by decide)) rfl ?_; refine cT (cw_cond_f rfl (cw_skip (qw_block_norm (qw_then (cw_region ?_))))); refine lw_pure (pur_add rfl rfl (IntWalk.i64_in _ (by omega))) rfl ?_; refine cM rfl rfl (lw_nil ?_); rotate_left 1
     exact qw_round (j + 1) (by (refine sub_cons rfl ?_; refine sub_cons rfl ?_; refine sub_cons rfl ?_; exact sub_nil)) ⟨by omega, hk, X⟩ (by omega)
   · focus
      refine cS (lw_pure (pur_lss rfl rfl) rfl (cT (cw_seq ?_))); refine cw_no rfl (by omega) ?_; refine cw_exit (qw_then_exit (qw_then_exit (qw_block_exit (qw_then (cS (cA rfl rfl (cT (cw_ret (qw_ret1 rfl rfl ?_))))))))); rotate_left 1
     exact ⟨rfl, X⟩
end Bk
namespace Bk
open Go Go.RowKit Go.Proofs
def AllB : Nat → Prop := fun _ => True
theorem row_build (W : World) (b o : Nat) : ∀ (len i0 : Nat), (∀ i, i < len → ∃ (t : Nd) (a' : Option Addr) (c' : Nat), t.wf ∧ W.cell? ⟨b, o + (i0 + i) * 4, none⟩ = some (.int .u8 t.kind) ∧ W.cell? ⟨b, o + (i0 + i) * 4 + 1, none⟩ = some (.int .i64 t.num) ∧ W.cell? ⟨b, o + (i0 + i) * 4 + 2, none⟩ = some (str t.name) ∧ W.cell? ⟨b, o + (i0 + i) * 4 + 3, none⟩ = some (.slice a' t.kids.length c') ∧ t.sits AllB W a') →
 ∃ l : List Nd, l.length = len ∧ rowWf l ∧ rowSits AllB W l (some ⟨b, o + i0 * 4, none⟩)
 | 0, _, _ => ⟨[], rfl, by simp [rowWf], by simp [rowSits]⟩
 | len + 1, i0, h => by
  obtain ⟨l, hl, hw, hs⟩ := row_build W b o len (i0 + 1) (fun i hi => by
   have := h (i + 1) (by omega)
   rwa [show i0 + (i + 1) = i0 + 1 + i from by omega] at this)
  obtain ⟨t, a', c', hwf, h0, h1, h2, h3, hsk⟩ := h 0 (by omega); rw [Nat.add_zero] at h0 h1 h2 h3; refine ⟨t :: l, by simp [hl], by simp [rowWf, hwf, hw], ?_⟩; simp only [rowSits]; refine ⟨b, o + i0 * 4, a', c', rfl, trivial, h0, h1, h2, h3, hsk, ?_⟩
  rwa [show o + i0 * 4 + 4 = o + (i0 + 1) * 4 from by omega]
theorem cells4 {W : World} {a : Addr} {cs : List Value} (h : W.cells? 0 a 4 = some cs) : ∃ c0 c1 c2 c3, cs = [c0, c1, c2, c3] ∧ W.cell? (a.add 0) = some c0 ∧ W.cell? (a.add 1) = some c1 ∧ W.cell? (a.add 2) = some c2 ∧ W.cell? (a.add 3) = some c3 := by
 unfold World.cells? at h
 rw [if_pos (Nat.zero_le _)] at h; rw [show List.range 4 = [0, 1, 2, 3] from rfl] at h
 cases e0 : W.cell? (a.add 0) <;> simp [e0] at h
 cases e1 : W.cell? (a.add 1) <;> simp [e1] at h
 cases e2 : W.cell? (a.add 2) <;> simp [e2] at h
 cases e3 : W.cell? (a.add 3) <;> simp [e3] at h
 exact ⟨_, _, _, _, h.symm, rfl, rfl, rfl, rfl⟩
theorem addr_add2 (b o n m : Nat) : ((⟨b, o, none⟩ : Addr).add n).add m = ⟨b, o + n + m, none⟩ := by
 unfold Addr.add
 by_cases hn : n = 0 <;> by_cases hm : m = 0 <;> simp [hn, hm]
theorem cellsNode : Tryz.prog.cellsOf 24 = 4 := by kernel_rfl
theorem cells5 : Tryz.prog.cellsOf 5 = 1 := by kernel_rfl
theorem cells3 : Tryz.prog.cellsOf 3 = 1 := by kernel_rfl
theorem cells9 : Tryz.prog.cellsOf 9 = 1 := by kernel_rfl
theorem cells22 : Tryz.prog.cellsOf 22 = 1 := by kernel_rfl
theorem node_of_trod {H : Type} (enc : TypeId × Value → H) (W : World) (sp : Nat → Bool) (N : Nat) : ∀ (fuel : Nat), fuel < N → ∀ (cs : List Value) (x : DataW H × List MemPlace), DataW.trod enc Tryz.prog W 0 sp true fuel 24 cs = some x →
 ∃ (t : Nd) (a : Option Addr) (c : Nat), cs = [.int .u8 t.kind, .int .i64 t.num, str t.name, .slice a t.kids.length c] ∧ t.wf ∧ t.sits AllB W a := by
 induction N with
 | zero => intro fuel h; omega
 | succ N ih =>
  intro fuel hN cs x h; obtain ⟨xs, n, rfl, -, hl, hlen, hf⟩ := DataW.trod_struct Tryz.underlying24 h; rw [cellsNode] at hl
  obtain ⟨c0, c1, c2, c3, rfl⟩ : ∃ c0 c1 c2 c3, cs = [c0, c1, c2, c3] := by
   rcases cs with _ | ⟨c0, _ | ⟨c1, _ | ⟨c2, _ | ⟨c3, _ | ⟨c4, cs⟩⟩⟩⟩⟩
   · simp at hl
   · simp at hl
   · simp at hl
   · simp at hl
   · exact ⟨_, _, _, _, rfl⟩
   · simp at hl
  obtain ⟨y0, y1, y2, y3, rfl⟩ : ∃ y0 y1 y2 y3, xs = [y0, y1, y2, y3] := by
   have hlen' : xs.length = 4 := hlen
   rcases xs with _ | ⟨c0, _ | ⟨c1, _ | ⟨c2, _ | ⟨c3, _ | ⟨c4, cs⟩⟩⟩⟩⟩
   · simp at hlen'
   · simp at hlen'
   · simp at hlen'
   · simp at hlen'
   · exact ⟨_, _, _, _, rfl⟩
   · simp at hlen'
  · have f0 : DataW.trod enc Tryz.prog W 0 sp true n 5 (([c0, c1, c2, c3].drop 0).take (Tryz.prog.cellsOf 5)) = some y0 := hf 0 _ rfl
    have f1 : DataW.trod enc Tryz.prog W 0 sp true n 3 (([c0, c1, c2, c3].drop 1).take (Tryz.prog.cellsOf 3)) = some y1 := hf 1 _ rfl; have f2 : DataW.trod enc Tryz.prog W 0 sp true n 9 (([c0, c1, c2, c3].drop 2).take (Tryz.prog.cellsOf 9)) = some y2 := hf 2 _ rfl; have f3 : DataW.trod enc Tryz.prog W 0 sp true n 22 (([c0, c1, c2, c3].drop 3).take (Tryz.prog.cellsOf 22)) = some y3 := hf 3 _ rfl; simp only [cells5, cells3, cells9, cells22, List.drop_zero, List.drop_succ_cons, List.take_succ_cons, List.take_zero] at f0 f1 f2 f3; obtain ⟨k, hk, -, wk⟩ := DataW.trod_int (show Tryz.prog.underlying 5 = some (.int .u8) by kernel_rfl) f0; obtain ⟨m, hm, -, wm⟩ := DataW.trod_int Tryz.underlying3 f1; obtain ⟨s, hs, -, ws⟩ := DataW.trod_string (show Tryz.prog.underlying 9 = some .string by kernel_rfl) f2; simp only [List.cons.injEq, and_true] at hk hm hs; subst hk hm hs
    have wk' : 0 ≤ k ∧ k ≤ 255 := by simpa [Lit.wf, IntKind.min, IntKind.max, IntKind.signed, IntKind.bits] using wk
    have wm' : -9223372036854775808 ≤ m ∧ m ≤ 9223372036854775807 := by simpa [Lit.wf, IntKind.min, IntKind.max, IntKind.signed, IntKind.bits] using wm
    have ws' : s.data.toList.length ≤ 9223372036854775807 := by
     have : s.data.toList.length = s.size := by rw [Array.length_toList]; rfl
     unfold maxLen at ws; omega
    rcases DataW.trod_slice Tryz.underlying22 f3 with ⟨hc, -⟩ | ⟨a, len, cap, elems, rest, n', hn', hc, -, -, hle, hcm, hel, hE, -⟩
    · simp only [List.cons.injEq, and_true] at hc
      subst hc
      exact ⟨.mk k m s.data.toList [], none, 0, rfl, ⟨wk'.1, wk'.2, wm'.1, wm'.2, ws', by simp, by simp [rowWf]⟩, by simp [Nd.sits, rowSits]⟩
    · simp only [List.cons.injEq, and_true] at hc
      subst hc; rw [cellsNode] at hE
      rcases Nat.eq_zero_or_pos len with h0 | hpos
      · subst h0
        exact ⟨.mk k m s.data.toList [], some a, cap, rfl, ⟨wk'.1, wk'.2, wm'.1, wm'.2, ws', by simp, by simp [rowWf]⟩, by simp [Nd.sits, rowSits]⟩
      · have step : ∀ i, i < len → ∃ (t : Nd) (a' : Option Addr) (c' : Nat), t.wf ∧ W.cell? ((a.add (i * 4)).add 0) = some (.int .u8 t.kind) ∧ W.cell? ((a.add (i * 4)).add 1) = some (.int .i64 t.num) ∧ W.cell? ((a.add (i * 4)).add 2) = some (str t.name) ∧ W.cell? ((a.add (i * 4)).add 3) = some (.slice a' t.kids.length c') ∧ t.sits AllB W a' := by
         intro i hi; have hEi := hE i hi
         cases hc4 : W.cells? 0 (a.add (i * 4)) 4 with
         | none =>
          rw [hc4] at hEi; have hh : elems[i]? = some elems[i] := List.getElem?_eq_getElem (by omega); rw [hh] at hEi
          simp at hEi
         | some cs4 =>
          rw [hc4, List.getElem?_eq_getElem (by omega)] at hEi; obtain ⟨d0, d1, d2, d3, rfl, e0, e1, e2, e3⟩ := cells4 hc4; obtain ⟨t, a', c', hcs, hw, hs⟩ := ih n' (by omega) _ _ hEi; simp only [List.cons.injEq, and_true] at hcs; obtain ⟨rfl, rfl, rfl, rfl⟩ := hcs
          exact ⟨t, a', c', hw, e0, e1, e2, e3, hs⟩
        obtain ⟨b, o, spot⟩ := a
        have hspot : spot = none := by
         obtain ⟨t, a', c', -, e0, -⟩ := step 0 hpos; simp only [Nat.zero_mul, Addr.add, if_true] at e0
         unfold World.cell? at e0
         cases spot with
         | none => rfl
         | some q => simp at e0; split at e0 <;> simp at e0
        subst hspot
        obtain ⟨l, hl', hw', hs'⟩ := row_build W b o len 0 (fun i hi => by
         obtain ⟨t, a', c', hw, e0, e1, e2, e3, hs⟩ := step i hi; rw [addr_add2] at e0 e1 e2 e3; rw [Nat.zero_add]
         exact ⟨t, a', c', hw, e0, e1, e2, e3, hs⟩)
        subst hl'; refine ⟨.mk k m s.data.toList l, some ⟨b, o, none⟩, cap, rfl, ⟨wk'.1, wk'.2, wm'.1, wm'.2, ws', by unfold maxLen at hcm; omega, hw'⟩, ?_⟩
        simpa [Nd.sits] using hs'
end Bk
namespace Bk
open Go Go.RowKit Go.Proofs
theorem cells_row {W : World} {p : Addr} {k : Nat} {cs : List Value} (h : W.cells? 0 p k = some cs) : Row W p cs ∧ cs.length = k := by
 unfold World.cells? at h
 rw [if_pos (Nat.zero_le _)] at h; refine ⟨fun i v hi => ?_, by simpa using mapM_some_length h⟩
 have hl : cs.length = k := by simpa using mapM_some_length h
 have hik : i < k := by
  rcases Nat.lt_or_ge i cs.length with h' | h'
  · omega
  · rw [List.getElem?_eq_none h'] at hi; cases hi
 have := mapM_some_get h i i (by simp [hik]); rw [hi] at this
 exact this
theorem addr_add (b o i : Nat) : (⟨b, o, none⟩ : Addr).add i = ⟨b, o + i, none⟩ := by unfold Addr.add; by_cases h0 : i = 0 <;> simp [h0]
theorem arr_of_trod {α H : Type} (enc : TypeId × Value → H) (W : World) (sp : Nat → Bool) {t e k : Nat} (ht : Tryz.prog.underlying t = some (.slice e)) (hk : Tryz.prog.cellsOf e = k) (hk0 : 0 < k) (G : List Value → α → Prop)
 {fuel : Nat} (hG : ∀ (n : Nat) (cs : List Value) (x : DataW H × List MemPlace), n < fuel → DataW.trod enc Tryz.prog W 0 sp true n e cs = some x → ∃ y, G cs y) {c : Value} {x : DataW H × List MemPlace} (h : DataW.trod enc Tryz.prog W 0 sp true fuel t [c] = some x) :
 ∃ (l : List α) (a : Option Addr) (cap : Nat), c = .slice a l.length cap ∧ l.length ≤ 9223372036854775807 ∧ Arr AllB k (fun w b o y => ∃ cs, Row w ⟨b, o, none⟩ cs ∧ G cs y) W l a := by
 rcases DataW.trod_slice ht h with ⟨hc, -⟩ | ⟨a, len, cap, elems, rest, n', hn', hc, -, -, hle, hcm, hel, hE, -⟩
 · simp only [List.cons.injEq, and_true] at hc
   exact ⟨[], none, 0, hc, by simp, Or.inl rfl⟩
 · simp only [List.cons.injEq, and_true] at hc
   rw [hk] at hE
   unfold maxLen at hcm
   rcases Nat.eq_zero_or_pos len with h0 | hpos
   · subst h0
     exact ⟨[], some a, cap, hc, by simp, Or.inl rfl⟩
   · have step : ∀ i, i < len → ∃ y cs, Row W (a.add (i * k)) cs ∧ cs.length = k ∧ G cs y := fun i hi => by
      have hEi := hE i hi
      cases hc4 : W.cells? 0 (a.add (i * k)) k with
      | none =>
       rw [hc4, List.getElem?_eq_getElem (by omega)] at hEi
       simp at hEi
      | some cs =>
       rw [hc4, List.getElem?_eq_getElem (by omega)] at hEi; obtain ⟨r1, r2⟩ := cells_row hc4; obtain ⟨y, hy⟩ := hG n' cs _ (by omega) hEi
       exact ⟨y, cs, r1, r2, hy⟩
     obtain ⟨b, o, spot⟩ := a
     have hspot : spot = none := by
      obtain ⟨y, cs, r, hl, -⟩ := step 0 hpos; simp only [Nat.zero_mul, Addr.add, if_true] at r
      cases cs with
      | nil => simp at hl; omega
      | cons v vs =>
       have := r 0 v rfl; simp only [Addr.add, if_true] at this
       exact cell_spot this
     subst hspot
     have hl : ∃ l : List α, l.length = len ∧ ∀ i y, l[i]? = some y → ∃ cs, Row W ⟨b, o + i * k, none⟩ cs ∧ G cs y := by
      have key : ∀ m, m ≤ len → ∃ l : List α, l.length = m ∧ ∀ i y, l[i]? = some y → ∃ cs, Row W ⟨b, o + i * k, none⟩ cs ∧ G cs y := by
       intro m
       induction m with
       | zero => intro _; exact ⟨[], rfl, by simp⟩
       | succ m ih =>
        intro hm; obtain ⟨l, h1, h2⟩ := ih (by omega); obtain ⟨y, cs, r, -, hg⟩ := step m (by omega); rw [addr_add] at r; refine ⟨l ++ [y], by simp [h1], fun i z hz => ?_⟩
        rcases Nat.lt_or_ge i m with hi | hi
        · rw [List.getElem?_append_left (by omega)] at hz; exact h2 i z hz
        · rw [List.getElem?_append_right (by omega)] at hz
          obtain rfl : i = m := by
           rcases Nat.lt_or_ge m i with h' | h'
           · rw [List.getElem?_eq_none (by simp; omega)] at hz; cases hz
           · omega
          simp [h1] at hz
          subst hz
          exact ⟨cs, r, hg⟩
      exact key len (Nat.le_refl _)
     obtain ⟨l, h1, h2⟩ := hl; subst h1
     exact ⟨l, some ⟨b, o, none⟩, cap, hc, by omega, Or.inr ⟨b, o, rfl, trivial, h2⟩⟩
theorem len3 {cs : List Value} (h : cs.length = 3) : ∃ a b c, cs = [a, b, c] := by
 rcases cs with _ | ⟨a, _ | ⟨b, _ | ⟨c, _ | ⟨d, r⟩⟩⟩⟩ <;> simp at h; exact ⟨a, b, c, rfl⟩
theorem len6 {cs : List Value} (h : cs.length = 6) : ∃ a b c d e f, cs = [a, b, c, d, e, f] := by
 rcases cs with _ | ⟨a, _ | ⟨b, _ | ⟨c, _ | ⟨d, _ | ⟨e, _ | ⟨f, _ | ⟨g, r⟩⟩⟩⟩⟩⟩⟩ <;> simp at h; exact ⟨a, b, c, d, e, f, rfl⟩
theorem get_of_len {α : Type} {xs : List α} {n i : Nat} (h : xs.length = n) (hi : i < n) : ∃ y, xs[i]? = some y := ⟨xs[i], List.getElem?_eq_getElem (by omega)⟩
theorem cVD : Tryz.prog.cellsOf 46 = 3 := by kernel_rfl
theorem cVDs : Tryz.prog.cellsOf 27 = 1 := by kernel_rfl
theorem cPD : Tryz.prog.cellsOf 48 = 6 := by kernel_rfl
theorem cPDs : Tryz.prog.cellsOf 28 = 1 := by kernel_rfl
theorem cPG : Tryz.prog.cellsOf 30 = 6 := by kernel_rfl
section
variable {H : Type} (enc : TypeId × Value → H) (W : World) (sp : Nat → Bool)
theorem vd_of_trod {fuel : Nat} {cs : List Value} {x : DataW H × List MemPlace} (h : DataW.trod enc Tryz.prog W 0 sp true fuel 46 cs = some x) : ∃ v : VD, cs = v.cells ∧ v.wf := by
 obtain ⟨xs, n, rfl, -, hl, hlen, hf⟩ := DataW.trod_struct Tryz.underlying46 h; rw [cVD] at hl; obtain ⟨c0, c1, c2, rfl⟩ := len3 hl; obtain ⟨y0, e0⟩ := get_of_len (i := 0) hlen (by decide); obtain ⟨y1, e1⟩ := get_of_len (i := 1) hlen (by decide); obtain ⟨y2, e2⟩ := get_of_len (i := 2) hlen (by decide); have f0 : DataW.trod enc Tryz.prog W 0 sp true n 9 (([c0, c1, c2].drop 0).take (Tryz.prog.cellsOf 9)) = some y0 := (hf 0 _ rfl).trans e0; have f1 : DataW.trod enc Tryz.prog W 0 sp true n 5 (([c0, c1, c2].drop 1).take (Tryz.prog.cellsOf 5)) = some y1 := (hf 1 _ rfl).trans e1; have f2 : DataW.trod enc Tryz.prog W 0 sp true n 3 (([c0, c1, c2].drop 2).take (Tryz.prog.cellsOf 3)) = some y2 := (hf 2 _ rfl).trans e2; simp only [cells5, cells3, cells9, List.drop_zero, List.drop_succ_cons, List.take_succ_cons, List.take_zero] at f0 f1 f2; obtain ⟨s, hs, -, ws⟩ := DataW.trod_string underStr f0; obtain ⟨k, hk, -, wk⟩ := DataW.trod_int (show Tryz.prog.underlying 5 = some (.int .u8) by kernel_rfl) f1; obtain ⟨m, hm, -, wm⟩ := DataW.trod_int Tryz.underlying3 f2; simp only [List.cons.injEq, and_true] at hk hm hs; subst hk hm hs
 have wk' : 0 ≤ k ∧ k ≤ 255 := by simpa [Lit.wf, IntKind.min, IntKind.max, IntKind.signed, IntKind.bits] using wk
 have wm' : -9223372036854775808 ≤ m ∧ m ≤ 9223372036854775807 := by simpa [Lit.wf, IntKind.min, IntKind.max, IntKind.signed, IntKind.bits] using wm
 have ws' : s.data.toList.length ≤ 9223372036854775807 := by
  have : s.data.toList.length = s.size := by rw [Array.length_toList]; rfl
  unfold maxLen at ws; omega
 exact ⟨⟨s.data.toList, k, m⟩, rfl, ws', wk'.1, wk'.2, wm'.1, wm'.2⟩
theorem vds_of_trod {fuel : Nat} {c : Value} {x : DataW H × List MemPlace} (h : DataW.trod enc Tryz.prog W 0 sp true fuel 27 [c] = some x) :
 ∃ (l : List VD) (a : Option Addr) (cap : Nat), c = .slice a l.length cap ∧ l.length ≤ 9223372036854775807 ∧ (∀ v ∈ l, v.wf) ∧ VDs AllB W l a := by
 obtain ⟨l, a, cap, h1, h2, h3⟩ := arr_of_trod (α := VD) enc W sp Tryz.underlying27 cVD (by decide) (fun cs v => cs = v.cells ∧ v.wf) (fun n cs x _ hx => vd_of_trod enc W sp hx) h; refine ⟨l, a, cap, h1, h2, fun v hv => ?_, h3.mono (fun _ h => h) (fun b o v _ _ ⟨cs, r, e, _⟩ => by subst e; exact r)⟩
 rcases h3 with rfl | ⟨b, o, -, -, hh⟩
 · cases hv
 · obtain ⟨i, hi, rfl⟩ := List.mem_iff_getElem.1 hv
   obtain ⟨cs, -, -, hw⟩ := hh i _ (List.getElem?_eq_getElem hi)
   exact hw
theorem pd_of_trod {fuel : Nat} {cs : List Value} {x : DataW H × List MemPlace} (h : DataW.trod enc Tryz.prog W 0 sp true fuel 48 cs = some x) : ∃ p : PD, (∃ pa pc ba bc, cs = p.cells pa pc ba bc ∧ VDs AllB W p.params pa ∧ p.body.sits AllB W ba) ∧ p.wf := by
 obtain ⟨xs, n, rfl, -, hl, hlen, hf⟩ := DataW.trod_struct Tryz.underlying48 h; rw [cPD] at hl; obtain ⟨c0, c1, c2, c3, c4, c5, rfl⟩ := len6 hl; obtain ⟨y0, e0⟩ := get_of_len (i := 0) hlen (by decide); obtain ⟨y1, e1⟩ := get_of_len (i := 1) hlen (by decide); obtain ⟨y2, e2⟩ := get_of_len (i := 2) hlen (by decide); have f0 : DataW.trod enc Tryz.prog W 0 sp true n 9 (([c0, c1, c2, c3, c4, c5].drop 0).take (Tryz.prog.cellsOf 9)) = some y0 := (hf 0 _ rfl).trans e0; have f1 : DataW.trod enc Tryz.prog W 0 sp true n 27 (([c0, c1, c2, c3, c4, c5].drop 1).take (Tryz.prog.cellsOf 27)) = some y1 := (hf 1 _ rfl).trans e1; have f2 : DataW.trod enc Tryz.prog W 0 sp true n 24 (([c0, c1, c2, c3, c4, c5].drop 2).take (Tryz.prog.cellsOf 24)) = some y2 := (hf 2 _ rfl).trans e2; simp only [cVDs, cells9, cellsNode, List.drop_zero, List.drop_succ_cons, List.take_succ_cons, List.take_zero] at f0 f1 f2; obtain ⟨s, hs, -, ws⟩ := DataW.trod_string underStr f0; obtain ⟨l, pa, pc, hc, hll, hlw, hls⟩ := vds_of_trod enc W sp f1; obtain ⟨t, ba, bc, hcs, hw, hsit⟩ := node_of_trod enc W sp (n + 1) n (by omega) _ _ f2; simp only [List.cons.injEq, and_true] at hs hcs; obtain ⟨rfl, rfl, rfl, rfl⟩ := hcs; subst hs hc
 have ws' : s.data.toList.length ≤ 9223372036854775807 := by
  have : s.data.toList.length = s.size := by rw [Array.length_toList]; rfl
  unfold maxLen at ws; omega
 exact ⟨⟨s.data.toList, l, t⟩, ⟨pa, pc, ba, bc, rfl, hls, hsit⟩, ws', hll, hlw, hw⟩
theorem pg_of_trod {fuel : Nat} {cs : List Value} {x : DataW H × List MemPlace} (h : DataW.trod enc Tryz.prog W 0 sp true fuel 30 cs = some x) : ∃ (g : PG) (va : Option Addr) (vc : Nat) (pa : Option Addr) (pc : Nat) (ma : Option Addr) (mc : Nat), cs = g.cells va vc pa pc ma mc ∧ g.wf ∧ g.sits AllB W va pa ma := by
 obtain ⟨xs, n, rfl, -, hl, hlen, hf⟩ := DataW.trod_struct Tryz.underlying30 h; rw [cPG] at hl; obtain ⟨c0, c1, c2, c3, c4, c5, rfl⟩ := len6 hl; obtain ⟨y0, e0⟩ := get_of_len (i := 0) hlen (by decide); obtain ⟨y1, e1⟩ := get_of_len (i := 1) hlen (by decide); obtain ⟨y2, e2⟩ := get_of_len (i := 2) hlen (by decide); have f0 : DataW.trod enc Tryz.prog W 0 sp true n 27 (([c0, c1, c2, c3, c4, c5].drop 0).take (Tryz.prog.cellsOf 27)) = some y0 := (hf 0 _ rfl).trans e0; have f1 : DataW.trod enc Tryz.prog W 0 sp true n 28 (([c0, c1, c2, c3, c4, c5].drop 1).take (Tryz.prog.cellsOf 28)) = some y1 := (hf 1 _ rfl).trans e1; have f2 : DataW.trod enc Tryz.prog W 0 sp true n 24 (([c0, c1, c2, c3, c4, c5].drop 2).take (Tryz.prog.cellsOf 24)) = some y2 := (hf 2 _ rfl).trans e2; simp only [cVDs, cPDs, cellsNode, List.drop_zero, List.drop_succ_cons, List.take_succ_cons, List.take_zero] at f0 f1 f2; obtain ⟨l, va, vc, hc, hll, hlw, hls⟩ := vds_of_trod enc W sp f0; obtain ⟨ps, pa, pc, hp, hpl, hps⟩ := arr_of_trod (α := PD) enc W sp Tryz.underlying28 cPD (by decide) (fun cs p => (∃ pa pc ba bc, cs = p.cells pa pc ba bc ∧ VDs AllB W p.params pa ∧ p.body.sits AllB W ba) ∧ p.wf) (fun n cs x _ hx => pd_of_trod enc W sp hx) f1; obtain ⟨t, ba, bc, hcs, hw, hsit⟩ := node_of_trod enc W sp (n + 1) n (by omega) _ _ f2; simp only [List.cons.injEq, and_true] at hcs; obtain ⟨rfl, rfl, rfl, rfl⟩ := hcs; subst hc hp; refine ⟨⟨l, ps, t⟩, va, vc, pa, pc, ba, bc, rfl, ⟨hll, hpl, hlw, fun p hp => ?_, hw⟩, ⟨hls, ?_, hsit⟩⟩
 · rcases hps with rfl | ⟨b, o, -, -, hh⟩
   · cases hp
   · obtain ⟨i, hi, rfl⟩ := List.mem_iff_getElem.1 hp
     obtain ⟨cs, -, -, hw⟩ := hh i _ (List.getElem?_eq_getElem hi)
     exact hw
 · refine hps.mono (fun _ h => h) (fun b o p _ _ ⟨cs, r, ⟨pa, pc, ba, bc, e, h1, h2⟩, _⟩ => ?_)
   subst e
   exact ⟨pa, pc, ba, bc, r, h1, h2⟩
end
end Bk
namespace Bk
open Go Go.RowKit Go.Proofs
theorem InverterPrograms_d (g : PG) (va : Option Addr) (vc : Nat) (pa : Option Addr) (pc : Nat) (ma : Option Addr) (mc : Nat) (w : World) (hwf : g.wf) (hs : g.sits AllB w va pa ma) (hS : Syms w) (hE : Errs w) :
 Calls Tryz.prog 5 #[.agg (g.cells va vc pa pc ma mc).toArray] w fun e w' => e = .returned (.bool true) ∧ Ext w w' := InverterPrograms_c g hwf AllB va vc pa pc ma mc w hs hS hE
theorem InverterTwice_d (g : PG) (va : Option Addr) (vc : Nat) (pa : Option Addr) (pc : Nat) (ma : Option Addr) (mc : Nat) (w : World) (hwf : g.wf) (hs : g.sits AllB w va pa ma) (hS : Syms w) (hE : Errs w) :
 Calls Tryz.prog 6 #[.agg (g.cells va vc pa pc ma mc).toArray] w fun e w' => e = .returned (.bool true) ∧ Ext w w' := InverterTwice_c g hwf AllB va vc pa pc ma mc w hs hS hE
end Bk
namespace Bk
open Go Go.RowKit Go.Proofs Go.Lib
theorem cells_of_strs {H : Type} {enc : TypeId × Value → H} {P : Program} {w : World} {base : Nat} {sp : Nat → Bool} {held : Bool} {fuel : Nat} {t e : TypeId} {n : Nat} {cs : List Value} {zs : List (List UInt8)} {p : List MemPlace}
 (ht : P.underlying t = some (.array n e)) (he : P.underlying e = some .string) (hce : P.cellsOf e = 1) (hct : P.cellsOf t = n)
 (h : DataW.trod enc P w base sp held fuel t cs = some (.agg (zs.map fun z => .lit (.string z)), p)) : cs = zs.map str := by
 cases fuel with
 | zero => simp [DataW.trod] at h
 | succ fuel =>
  simp only [DataW.trod, ht, hce, hct, Nat.mul_one] at h
  split at h
  · rename_i hl
    obtain ⟨xs, hm, hx⟩ := Option.map_eq_some_iff.1 h
    have hxs : xs.map (·.1) = zs.map fun z => (DataW.lit (.string z) : DataW H) := by
     have := congrArg Prod.fst hx
     simpa using this
    have hxl : xs.length = n := by simpa using mapM_length hm
    have hzl : zs.length = n := by
     have := congrArg List.length hxs
     simp at this
     omega
    apply List.ext_getElem?
    intro i
    by_cases hi : i < n
    · obtain ⟨b, hb, hf⟩ := mapM_at hm i i (by simp [hi])
      obtain ⟨z, hc, rfl, _⟩ := DataW.trod_string he hf
      have h1 : cs[i]? = some (.string z) := by
       have := congrArg (·[0]?) hc
       simpa [List.getElem?_take, List.getElem?_drop] using this
      have h2 : (xs.map (·.1))[i]? = some (DataW.lit (.string z.data.toList) : DataW H) := by simp [hb]
      rw [hxs] at h2; simp only [List.getElem?_map, Option.map_eq_some_iff, DataW.lit.injEq, Lit.string.injEq] at h2; obtain ⟨z', hz', rfl⟩ := h2
      simp [h1, hz']
    · rw [List.getElem?_eq_none (by omega), List.getElem?_eq_none (by simp; omega)]
  · cases h
end Bk
namespace Bk
open Go Go.RowKit Go.Proofs Go.Lib
theorem gSym4 : Tryz.prog.globalNamed "backstep/arith.symbols" = some 0 := by kernel_rfl
theorem gSymT4 : (Tryz.prog.globals[0]?).map (·.type) = some 92 := by kernel_rfl
theorem uSymT4 : Tryz.prog.underlying 92 = some (.array 43 9) := by kernel_rfl
theorem cSymT4 : Tryz.prog.cellsOf 92 = 43 := by kernel_rfl
theorem uStr4 : Tryz.prog.underlying 9 = some .string := by kernel_rfl
theorem cStr4 : Tryz.prog.cellsOf 9 = 1 := by kernel_rfl
theorem gErr4 : Tryz.prog.globalNamed "strconv.ErrRange" = some 3 := by kernel_rfl
theorem gErrT4 : (Tryz.prog.globals[3]?).map (·.type) = some 103 := by kernel_rfl
theorem uErr4 : ∃ ms, Tryz.prog.underlying 103 = some (.interface ms) := ⟨_, Tryz.underlying103⟩
theorem symData4 : (YtgiikljkekpenaaGreatDoor.Rows.laid_backstep_arith_symbols : DataW Unit) = .agg (symbols.map fun z => .lit (.string z)) := rfl
abbrev laid4 : List (String × DataW Unit) := [("backstep/arith.symbols", YtgiikljkekpenaaGreatDoor.Rows.laid_backstep_arith_symbols), ("math/bits.deBruijn32tab", YtgiikljkekpenaaGreatDoor.Rows.laid_math_bits_deBruijn32tab), ("math/bits.deBruijn64tab", YtgiikljkekpenaaGreatDoor.Rows.laid_math_bits_deBruijn64tab), ("internal/strconv.uint64pow10", YtgiikljkekpenaaGreatDoor.Rows.laid_internal_strconv_uint64pow10), ("strconv.ErrRange", YtgiikljkekpenaaGreatDoor.Rows.laid_strconv_ErrRange), ("strconv.ErrSyntax", YtgiikljkekpenaaGreatDoor.Rows.laid_strconv_ErrSyntax)]
theorem syms_of_laid {W : World} (h : laidMetH Tryz.prog laid4 W) : Syms W ∧ Errs W := by
 have h' : laidMet Tryz.prog laid4 W := h; obtain ⟨ps, ⟨g1, t1, cs1, f1, p1, q1, hg1, ht1, hv1, hd1, ⟨g2, t2, cs2, f2, p2, q2, hg2, ht2, hv2, hd2, ⟨g3, t3, cs3, f3, p3, q3, hg3, ht3, hv3, hd3, ⟨g4, t4, cs4, f4, p4, q4, hg4, ht4, hv4, hd4, ⟨g5, t5, cs5, f5, p5, q5, hg5, ht5, hv5, hd5, -, -⟩, -⟩, -⟩, -⟩, -⟩, -⟩ := h'; obtain rfl := Option.some.inj (gSym4.symm.trans hg1); obtain rfl := Option.some.inj (gSymT4.symm.trans ht1); obtain rfl := Option.some.inj (gErr4.symm.trans hg5); obtain rfl := Option.some.inj (gErrT4.symm.trans ht5); rw [symData4] at hd1; have e1 := cells_of_strs uSymT4 uStr4 cStr4 cSymT4 hd1; refine ⟨⟨fun i hi => ?_⟩, ?_⟩
 · rw [World.var?_cell gSym4 hv1 i, ← Array.getElem?_toList, e1, List.getElem?_map]
   have : symbols[i]? = some (symbols.getD i []) := by
    rw [List.getD_eq_getElem?_getD, List.getElem?_eq_getElem (show i < symbols.length from hi)]; rfl
   rw [this]; rfl
 · obtain ⟨ms, hu⟩ := uErr4
   obtain ⟨f, u, v, hc, -, -⟩ := iface_of_trod hu hd5; refine ⟨⟨u, v, ?_⟩⟩; rw [World.var?_cell gErr4 hv5 0, ← Array.getElem?_toList, hc]
   rfl
end Bk
