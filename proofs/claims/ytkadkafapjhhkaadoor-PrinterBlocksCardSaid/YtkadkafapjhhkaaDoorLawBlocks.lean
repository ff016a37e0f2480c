/- The statement PrinterBlocks, as a walk: it returns true for every tree. -/
import Derived.Test.YtkadkafapjhhkaaDoorRefLines
namespace Bk
open Go Go.RowKit Go.Proofs
set_option maxRecDepth 100000 in
set_option maxHeartbeats 1000000 in
theorem PrinterBlocks_w (t : Nd) (hwf : t.wf) (S : Nat → Prop) (a : Option Addr) (c : Nat) (w : World) (ht : Tabs w) (hg : Tryd.prog.globals.size ≤ w.heap.size) (hs : t.sits S w a) :
    Calls Tryd.prog 4 #[t.val a c] w fun e w' => e = .returned (.bool true) ∧ Ext w w' := by
  refine calls_in Tryd.func4 Tryd.ntmps4 rfl rfl ?_
  (refine cw_seq ?_; refine cw_region ?_)
  refine lw_does (does_box rfl rfl) rfl ?_ (fun _ h => h)
  rintro _ w1 ⟨b1, rfl, hn1⟩
  have h1 := hn1.blk
  have x1 := hn1.ext
  ((refine lw_is ?_; refine lw_pure (by exact pur_assign rfl) rfl ?_); refine lw_nil ?_; refine qw_then ?_; refine cw_seq ?_; refine cw_seq ?_; refine cw_region ?_)
  refine lw_does (does_call (by kernel_rfl) rfl (awake5_c _ (ht.ext x1 hg) (Nat.le_trans hg x1.size)) (fun _ _ h => ⟨_, h.1⟩)) rfl ?_ (fun _ h => h)
  rintro _ w2 ⟨⟨⟩, x2⟩
  ((refine lw_is ?_; refine lw_pure (by exact pur_not rfl) rfl ?_); refine lw_nil ?_; refine qw_then ?_; (refine cw_is ?_; refine cw_bf rfl (by rfl) ?_); refine cw_skip ?_; refine qw_then ?_; refine cw_seq ?_; refine cw_seq ?_; refine cw_region ?_; (refine lw_is ?_; refine lw_pure (by exact pur_loads' tabOk rfl rfl rfl (by exact fun wz hz => by (try subst hz); exact (Row.ext (Blk.row (by assumption)) (by assumption))) (by rfl)) rfl ?_))
  refine lw_does (does_call (by kernel_rfl) rfl (great_c t hwf S a c _ (hs.ext (by refine Ext.trans ?_ (by assumption); assumption))) (fun _ _ h => ⟨_, h.1⟩)) rfl ?_ (fun _ h => h)
  rintro _ w3 ⟨⟨⟩, x3⟩
  cases hgr : (t.small 24 200).1
  · try rw [hgr]
    (refine lw_nil ?_; refine qw_then ?_; (refine cw_is ?_; refine cw_bt rfl (by rfl) ?_); refine cw_seq ?_; refine cw_region ?_; (refine lw_is ?_; refine lw_pure (by exact pur_assign rfl) rfl ?_); refine lw_nil ?_; refine qw_then ?_; refine cw_ret ?_; refine qw_then_ret ?_)
    exact qw_ret1 Tryd.results4 rfl ⟨rfl, (by refine Ext.trans ?_ (by assumption); refine Ext.trans ?_ (by assumption); assumption)⟩
  · have hsz := small_size t 24 200 (by omega) hgr
    have hle := small_le t 24 200 (by omega) hgr
    have hM : t.size ≤ 200 := by omega
    have hx3 : Ext w w3 := (by refine Ext.trans ?_ (by assumption); refine Ext.trans ?_ (by assumption); assumption)
    try rw [hgr]
    (refine lw_nil ?_; refine qw_then ?_; (refine cw_is ?_; refine cw_bf rfl (by rfl) ?_); refine cw_skip ?_; refine qw_then ?_; refine cw_seq ?_; refine cw_region ?_; (refine lw_is ?_; refine lw_pure (by exact pur_loads' tabOk rfl rfl rfl (by exact fun wz hz => by (try subst hz); exact (Row.ext (Row.ext (Blk.row (by assumption)) (by assumption)) (by assumption))) (by rfl)) rfl ?_))
    refine lw_does (does_call (by kernel_rfl) rfl (Block_c t hwf (by omega) S a c _ (ht.ext hx3 hg) (Nat.le_trans hg hx3.size) (hs.ext hx3)) (fun _ _ h => ⟨_, h.1⟩)) rfl ?_ (fun _ h => h)
    rintro _ w4 ⟨⟨⟩, x4⟩
    have hx4 : Ext w w4 := hx3.trans x4
    ((refine lw_is ?_; refine lw_pure (by exact pur_move rfl) rfl ?_); (refine lw_is ?_; refine lw_pure (by exact pur_extract rfl rfl) rfl ?_); (refine lw_is ?_; refine lw_pure (by exact pur_extract rfl rfl) rfl ?_); (refine lw_is ?_; refine lw_pure (by exact pur_assign rfl) rfl ?_); (refine lw_is ?_; refine lw_pure (by exact pur_assign rfl) rfl ?_); refine lw_nil ?_; refine qw_then ?_; refine cw_seq ?_; refine cw_seq ?_; refine cw_region ?_; (refine lw_is ?_; refine lw_pure (by exact pur_loads' tabOk rfl rfl rfl (by exact fun wz hz => by (try subst hz); exact (Row.ext (Row.ext (Row.ext (Blk.row (by assumption)) (by assumption)) (by assumption)) (by assumption))) (by rfl)) rfl ?_))
    refine lw_does (does_call (by kernel_rfl) rfl (IsBlock_t S t hwf a c _ (hs.ext hx4)) (fun _ _ h => ⟨_, h.1⟩)) rfl ?_ (fun _ h => h)
    rintro _ w5 ⟨⟨⟩, x5⟩
    have hx5 : Ext w w5 := hx4.trans x5
    cases he : t.isBlock
    · try rw [he]
      ((refine lw_is ?_; refine lw_pure (by exact pur_not rfl) rfl ?_); refine lw_nil ?_; refine qw_then ?_; (refine cw_is ?_; refine cw_bt rfl (by rfl) ?_); refine cw_seq ?_; refine cw_region ?_; (refine lw_is ?_; refine lw_pure (by exact pur_move rfl) rfl ?_); (refine lw_is ?_; refine lw_pure (by exact pur_seql rfl rfl) rfl ?_); (refine lw_is ?_; refine lw_pure (by exact pur_move rfl) rfl ?_); (refine lw_isg ?_; refine lw_on rfl rfl rfl (by rfl) ?_); (refine lw_is ?_; refine lw_pure (by exact pur_move rfl) rfl ?_); (refine lw_isg ?_; refine lw_on rfl rfl rfl (by rfl) ?_); (refine lw_is ?_; refine lw_pure (by exact pur_eql rfl rfl) rfl ?_); (refine lw_is ?_; refine lw_pure (by exact pur_pick_t rfl rfl (by rfl)) rfl ?_); (refine lw_is ?_; refine lw_pure (by exact pur_assign rfl) rfl ?_); refine lw_nil ?_; refine qw_then ?_; refine cw_ret ?_; refine qw_then_ret ?_)
      exact qw_ret1 Tryd.results4 rfl ⟨ret_bool (by simp), (by assumption)⟩
    · have hl := linesLen t 0 hwf he (by omega)
      try rw [he]
      ((refine lw_is ?_; refine lw_pure (by exact pur_not rfl) rfl ?_); refine lw_nil ?_; refine qw_then ?_; (refine cw_is ?_; refine cw_bf rfl (by rfl) ?_); refine cw_skip ?_; refine qw_then ?_; refine cw_seq ?_; refine cw_region ?_; (refine lw_is ?_; refine lw_pure (by exact pur_move rfl) rfl ?_); (refine lw_is ?_; refine lw_pure (by exact pur_loads' tabOk rfl rfl rfl (by exact fun wz hz => by (try subst hz); exact (Row.ext (Row.ext (Row.ext (Row.ext (Blk.row (by assumption)) (by assumption)) (by assumption)) (by assumption)) (by assumption))) (by rfl)) rfl ?_))
      refine lw_does (does_call (by kernel_rfl) rfl (refLines_t S t (by omega) hwf he a c 0 _ (by omega) (by omega) (hs.ext hx5)) (fun _ _ h => ⟨_, h.1⟩)) rfl ?_ (fun _ h => h)
      rintro _ w6 ⟨⟨⟩, x6⟩
      ((refine lw_is ?_; refine lw_pure (by exact pur_seql rfl rfl) rfl ?_); (refine lw_is ?_; refine lw_pure (by exact pur_move rfl) rfl ?_); (refine lw_isg ?_; refine lw_on_yes rfl rfl rfl (by exact rfl) ?_); (refine lw_is ?_; refine lw_pure (by exact pur_move rfl) rfl ?_); (refine lw_isg ?_; refine lw_on_yes rfl rfl rfl (by exact rfl) ?_); (refine lw_is ?_; refine lw_pure (by exact pur_eql rfl rfl) rfl ?_); (refine lw_is ?_; refine lw_pure (by exact pur_pick_yes rfl rfl (by exact rfl)) rfl ?_); (refine lw_is ?_; refine lw_pure (by exact pur_assign rfl) rfl ?_); refine lw_nil ?_; refine qw_then ?_; refine cw_ret ?_)
      exact qw_ret1 Tryd.results4 rfl ⟨ret_bool (by simp), (by refine Ext.trans ?_ (by assumption); assumption)⟩
end Bk
