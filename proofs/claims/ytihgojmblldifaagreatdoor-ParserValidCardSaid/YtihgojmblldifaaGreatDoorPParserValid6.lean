/- The statement ParserValid holds: texts that its proof needs. No condition beyond the row's own. (Part 6 of 7.) -/
import Derived.Test.YtihgojmblldifaaGreatDoorPParserValid5
set_option linter.unusedSimpArgs false
set_option linter.unusedVariables false
namespace Bk
open Go Go.RowKit Go.Proofs
mutual
theorem lim_le : ∀ (t : Nd) (d m : Int), 0 ≤ m → 0 ≤ (t.lim d m).2 ∧ (t.lim d m).2 ≤ m
 | .mk _ _ s l, d, m, hm => by
  simp only [Nd.lim]
  split
  · exact ⟨hm, Int.le_refl _⟩
  · have := rowLim_le l (d - 1) (m - 1) (by omega)
    omega
theorem rowLim_le : ∀ (l : List Nd) (d m : Int), 0 ≤ m → 0 ≤ (rowLim l d m).2 ∧ (rowLim l d m).2 ≤ m
 | [], d, m, hm => by simp only [rowLim]; omega
 | t :: r, d, m, hm => by
  have h1 := lim_le t d m hm; simp only [rowLim]
  split
  · have := rowLim_le r d (t.lim d m).2 h1.1
    omega
  · omega
end
theorem rowLim_drop (l : List Nd) (j : Nat) (h : j < l.length) (d m : Int) : rowLim (l.drop j) d m = if (l[j].lim d m).1 then rowLim (l.drop (j + 1)) d (l[j].lim d m).2 else (false, (l[j].lim d m).2) := by
 rw [List.drop_eq_getElem_cons h, rowLim]
set_option maxRecDepth 100000 in
set_option maxHeartbeats 1000000 in
theorem limited_c (N : Nat) : ∀ (t : Nd) (S : Nat → Prop) (a : Option Addr) (c : Nat) (d m : Int) (lb : Nat) (w : World), t.size < N → t.wf → 0 ≤ d → d ≤ 1000000 → 0 ≤ m → m ≤ 1000000 → t.sits S w a → ¬ S lb → Blk w lb [.int .i64 m] →
 Calls Tryz.prog 102 #[t.val a c, .int .i64 d, .pointer (some ⟨lb, 0, none⟩)] w fun e w' => e = .returned (.bool (t.lim d m).1) ∧ Blk w' lb [.int .i64 (t.lim d m).2] ∧ Fr (· = lb) w w' := by
 induction N with
 | zero => intro t S a c d m lb w h; omega
 | succ N ih =>
  intro t S a c d m lb w hN hwf hd0 hd1 hm0 hm1 hs hS hb
  have IH := Lib.hid ih; clear ih
  obtain ⟨k, n, s, l⟩ := t; simp only [Nd.wf, Nd.size] at hwf hN; simp only [Nd.val, Nd.kind, Nd.num, Nd.name, Nd.kids, Nd.lim]; simp only [Nd.sits] at hs; obtain ⟨-, -, -, -, -, hll, hrw⟩ := hwf; have hlbw := hb.lt
  by_cases hq : d = 0 ∨ m = 0
  · rw [if_pos hq]
    refine calls_in Tryz.func102 Tryz.ntmps102 rfl rfl ?_; (refine cw_seq ?_; refine cw_region ?_); refine lw_box rfl rfl rfl ?_; intro b1 w1 hn1; have h1 := hn1.blk; have x1 := hn1.ext; have hb1 := hb.ext x1
    by_cases hd : d = 0
    · ((refine lw_is ?_; refine lw_pure (by exact pur_assign rfl) rfl ?_); refine lw_nil ?_; refine qw_then ?_; refine cw_seq ?_; refine cw_seq ?_; refine cw_region ?_; (refine lw_is ?_; refine lw_pure (by exact pur_move rfl) rfl ?_); (refine lw_is ?_; refine lw_pure (by exact pur_eql rfl rfl) rfl ?_); (refine lw_is ?_; refine lw_pure (by exact pur_move rfl) rfl ?_); (refine lw_isg ?_; refine lw_off_yes rfl rfl rfl (by assumption) rfl ?_); (refine lw_isg ?_; refine lw_off_yes rfl rfl rfl (by assumption) rfl ?_); (refine lw_isg ?_; refine lw_off_yes rfl rfl rfl (by assumption) rfl ?_); (refine lw_isg ?_; refine lw_off_yes rfl rfl rfl (by assumption) rfl ?_); (refine lw_is ?_; refine lw_pure (by exact pur_pick_yes rfl rfl (by assumption)) rfl ?_); refine lw_nil ?_; refine qw_then ?_; (refine cw_is ?_; refine cw_bt rfl (by rfl) ?_); refine cw_seq ?_; refine cw_region ?_; (refine lw_is ?_; refine lw_pure (by exact pur_assign rfl) rfl ?_); refine lw_nil ?_; refine qw_then ?_; refine cw_ret ?_; refine qw_then_ret ?_)
      refine qw_ret1 Tryz.results102 rfl ?_
      exact ⟨rfl, hb1, .of_ext x1⟩
    · have hm : m = 0 := by omega
      ((refine lw_is ?_; refine lw_pure (by exact pur_assign rfl) rfl ?_); refine lw_nil ?_; refine qw_then ?_; refine cw_seq ?_; refine cw_seq ?_; refine cw_region ?_; (refine lw_is ?_; refine lw_pure (by exact pur_move rfl) rfl ?_); (refine lw_is ?_; refine lw_pure (by exact pur_eql rfl rfl) rfl ?_); (refine lw_is ?_; refine lw_pure (by exact pur_move rfl) rfl ?_); (refine lw_isg ?_; refine lw_on_no rfl rfl rfl (by assumption) ?_); (refine lw_is ?_; refine lw_pure (by exact pur_move rfl) rfl ?_); (refine lw_isg ?_; refine lw_on_no rfl rfl rfl (by assumption) ?_); (refine lw_is ?_; refine lw_pure (by exact pur_nilCheck rfl) rfl ?_); (refine lw_isg ?_; refine lw_on_no rfl rfl rfl (by assumption) ?_); (refine lw_is ?_; refine lw_pure (by exact pur_load tabOk rfl rfl rfl (by exact fun wz hz => by (try subst hz); exact (Blk.cell (by assumption) (by rfl)))) rfl ?_); (refine lw_isg ?_; refine lw_on_no rfl rfl rfl (by assumption) ?_); (refine lw_is ?_; refine lw_pure (by exact pur_eql rfl rfl) rfl ?_); (refine lw_is ?_; refine lw_pure (by exact pur_pick_no rfl rfl (by assumption)) rfl ?_); refine lw_nil ?_; refine qw_then ?_; (refine cw_is ?_; refine cw_yes rfl (by assumption) ?_); refine cw_seq ?_; refine cw_region ?_; (refine lw_is ?_; refine lw_pure (by exact pur_assign rfl) rfl ?_); refine lw_nil ?_; refine qw_then ?_; refine cw_ret ?_; refine qw_then_ret ?_)
      refine qw_ret1 Tryz.results102 rfl ?_
      exact ⟨rfl, hb1, .of_ext x1⟩
  · rw [if_neg hq]
    have hd : d ≠ 0 := fun e => hq (Or.inl e)
    have hm : m ≠ 0 := fun e => hq (Or.inr e)
    clear hq; refine calls_in Tryz.func102 Tryz.ntmps102 rfl rfl ?_; (refine cw_seq ?_; refine cw_region ?_); refine lw_box rfl rfl rfl ?_; intro b1 w1 hn1; have h1 := hn1.blk; have x1 := hn1.ext; have p1 := hn1.pos; have hb1 := hb.ext x1; have hs1 := hs.ext x1
    ((refine lw_is ?_; refine lw_pure (by exact pur_assign rfl) rfl ?_); refine lw_nil ?_; refine qw_then ?_; refine cw_seq ?_; refine cw_seq ?_; refine cw_region ?_; (refine lw_is ?_; refine lw_pure (by exact pur_move rfl) rfl ?_); (refine lw_is ?_; refine lw_pure (by exact pur_eql rfl rfl) rfl ?_); (refine lw_is ?_; refine lw_pure (by exact pur_move rfl) rfl ?_); (refine lw_isg ?_; refine lw_on_no rfl rfl rfl (by assumption) ?_); (refine lw_is ?_; refine lw_pure (by exact pur_move rfl) rfl ?_); (refine lw_isg ?_; refine lw_on_no rfl rfl rfl (by assumption) ?_); (refine lw_is ?_; refine lw_pure (by exact pur_nilCheck rfl) rfl ?_); (refine lw_isg ?_; refine lw_on_no rfl rfl rfl (by assumption) ?_); (refine lw_is ?_; refine lw_pure (by exact pur_load tabOk rfl rfl rfl (by exact fun wz hz => by (try subst hz); exact (Blk.cell (by assumption) (by rfl)))) rfl ?_); (refine lw_isg ?_; refine lw_on_no rfl rfl rfl (by assumption) ?_); (refine lw_is ?_; refine lw_pure (by exact pur_eql rfl rfl) rfl ?_); (refine lw_is ?_; refine lw_pure (by exact pur_pick_no rfl rfl (by assumption)) rfl ?_); refine lw_nil ?_; refine qw_then ?_; (refine cw_is ?_; refine cw_no rfl (by assumption) ?_); refine cw_skip ?_; refine qw_then ?_; refine cw_seq ?_; refine cw_region ?_; (refine lw_is ?_; refine lw_pure (by exact pur_move rfl) rfl ?_); (refine lw_is ?_; refine lw_pure (by exact pur_nilCheck rfl) rfl ?_); (refine lw_is ?_; refine lw_pure (by exact pur_load tabOk rfl rfl rfl (by exact fun wz hz => by (try subst hz); exact (Blk.cell (by assumption) (by rfl)))) rfl ?_); (refine lw_is ?_; refine lw_pure (by exact pur_sub rfl rfl (IntWalk.i64_in _ (by omega))) rfl ?_); (refine lw_is ?_; refine lw_pure (by exact pur_nilCheck rfl) rfl ?_))
    refine lw_store tabOk rfl rfl rfl rfl rfl rfl (hb1) rfl ?_; intro w2 hp2; have hb2 : Blk w2 lb [.int .i64 (m - 1)] := hp2.blk; have h2 := h1.put hp2 (by omega); have hs2 : rowSits S w2 l a := hs1.fr hp2.fr (fun b hb e => hS (e ▸ hb)); have f2 : Fr (· = lb) w w2 := (Fr.of_ext x1).trans hp2.fr
    have hz2 : w2.heap.size = b1 + 1 := by rw [hp2.size, hn1.size]
    clear hp2 hn1
    have HS2 := Lib.hid hs2; clear hs2
    (refine lw_nil ?_; refine qw_then ?_; refine cw_seq ?_; refine cw_seq ?_; refine cw_region ?_; (refine lw_is ?_; refine lw_pure (by exact pur_fieldAddr tabOk rfl rfl rfl) rfl ?_); (refine lw_is ?_; refine lw_pure (by exact pur_load tabOk rfl rfl rfl (by exact fun wz hz => by (try subst hz); exact (Blk.cell (by assumption) (by rfl)))) rfl ?_); (refine lw_is ?_; refine lw_pure (by exact pur_len_slice tabOk rfl rfl) rfl ?_); (refine lw_is ?_; refine lw_pure (by exact pur_move rfl) rfl ?_); refine lw_nil ?_; refine qw_then ?_; refine cw_block ?_); refine cw_loop (ι := Nat) (fun x => [(25, .int .i64 x), (24, .int .i64 l.length), (23, .slice a l.length c), (2, .pointer (some ⟨lb, 0, none⟩)), (1, .int .i64 d)]) (fun x w' => Fr (· = lb) w2 w' ∧ x ≤ l.length ∧ ∃ mj, Blk w' lb [.int .i64 mj] ∧ 0 ≤ mj ∧ mj ≤ 1000000 ∧ rowLim l (d - 1) (m - 1) = rowLim (l.drop x) (d - 1) mj) (fun x => l.length - x) 0 (by (refine sub_cons rfl ?_; refine sub_cons rfl ?_; refine sub_cons rfl ?_; refine sub_cons rfl ?_; refine sub_cons rfl ?_; exact sub_nil)) ⟨Fr.refl _ _, Nat.zero_le _, m - 1, hb2, by omega, by omega, rfl⟩ ?_; rintro j w3 ⟨f3, hj, mj, hb3, hmj0, hmj1, hrl⟩
    have HR := Lib.hid hrl; clear hrl
    by_cases hlt : j < l.length
    · have hs3 : rowSits S w3 l a := HS2.out.fr f3 (fun b hb e => hS (e ▸ hb))
      obtain ⟨kb, ko, rfl, hkS, hkid⟩ := kidRows hs3 (by intro e; subst e; simp at hlt); obtain ⟨xa, xc, rx, sx⟩ := hkid j l[j] (List.getElem?_eq_getElem hlt); have hxw := rowWf_get hrw l[j] (List.getElem_mem hlt); have hxs := size_mem (List.getElem_mem hlt); have HD := Lib.hid (rowLim_drop l j hlt (d - 1) mj); clear hkid
      generalize l[j] = x at *
      have hml := lim_le x (d - 1) mj hmj0; (refine cw_seq ?_; refine cw_region ?_; (refine lw_is ?_; refine lw_pure (by exact pur_lss rfl rfl) rfl ?_); refine lw_nil ?_; refine qw_then ?_; refine cw_seq ?_; (refine cw_is ?_; refine cw_yes rfl (by omega) ?_); refine cw_skip ?_; refine qw_then ?_; refine cw_seq ?_; refine cw_block ?_; refine cw_seq ?_; refine cw_region ?_; (refine lw_is ?_; refine lw_pure (by exact pur_indexAddr tabOk rfl rfl rfl rfl (by omega) (by omega)) rfl ?_); (refine lw_is ?_; refine lw_pure (by exact pur_loads' tabOk rfl rfl rfl (by exact fun wz hz => by (try subst hz); exact (by assumption)) (by rfl)) rfl ?_)); refine lw_alloc zOk rfl rfl ?_; intro b4 w4 hn4; refine lw_init tabOk rfl rfl rfl rfl rfl rfl (hn4) rfl ?_; clear hn4 w4; intro w4 hn4; have h4 := hn4.blk; have x4 := hn4.ext; have hb4 := hb3.ext x4; (refine lw_nil ?_; refine qw_then ?_; refine cw_seq ?_; refine cw_region ?_; (refine lw_is ?_; refine lw_pure (by exact pur_loads' tabOk rfl rfl rfl (by exact fun wz hz => by (try subst hz); exact (Blk.row (by assumption))) (by rfl)) rfl ?_); (refine lw_is ?_; refine lw_pure (by exact pur_move rfl) rfl ?_); (refine lw_is ?_; refine lw_pure (by exact pur_sub rfl rfl (IntWalk.i64_in _ (by omega))) rfl ?_); (refine lw_is ?_; refine lw_pure (by exact pur_move rfl) rfl ?_)); refine cC (by kernel_rfl) rfl (IH.out x S xa xc (d - 1) mj lb _ (by omega) hxw (by omega) (by omega) hmj0 hmj1 (sx.ext x4) hS hb4) rfl ?_; rintro _ w5 ⟨⟨⟩, hb5, f5⟩; have f35 : Fr (· = lb) w2 w5 := f3.trans ((Fr.of_ext x4).trans f5)
      cases hq : (x.lim (d - 1) mj).1
      · try rw [hq]
        ((refine lw_is ?_; refine lw_pure (by exact pur_not rfl) rfl ?_); refine lw_nil ?_; refine qw_then ?_; (refine cw_is ?_; refine cw_bt rfl (by rfl) ?_); refine cw_seq ?_; refine cw_region ?_; (refine lw_is ?_; refine lw_pure (by exact pur_assign rfl) rfl ?_); refine lw_nil ?_; refine qw_then ?_; refine cw_ret ?_; refine qw_block_ret ?_; refine qw_then_ret ?_; refine qw_then_ret ?_; refine qw_block_ret ?_; refine qw_then_ret ?_)
        refine qw_ret1 Tryz.results102 rfl ?_; rw [HR.out, HD.out, hq]
        exact ⟨rfl, hb5, f2.trans f35⟩
      · try rw [hq]
        ((refine lw_is ?_; refine lw_pure (by exact pur_not rfl) rfl ?_); refine lw_nil ?_; refine qw_then ?_; (refine cw_is ?_; refine cw_bf rfl (by rfl) ?_); refine cw_skip ?_; refine qw_block_norm ?_; refine qw_then ?_; refine cw_region ?_; (refine lw_is ?_; refine lw_pure (by exact pur_add rfl rfl (IntWalk.i64_in _ (by omega))) rfl ?_); (refine lw_is ?_; refine lw_pure (by exact pur_move rfl) rfl ?_); refine lw_nil ?_)
        refine qw_round (j + 1) (by (refine sub_cons rfl ?_; refine sub_cons rfl ?_; refine sub_cons rfl ?_; refine sub_cons rfl ?_; refine sub_cons rfl ?_; exact sub_nil)) ⟨f35, by omega, (x.lim (d - 1) mj).2, hb5, hml.1, by omega, ?_⟩ (by omega)
        rw [HR.out, HD.out, hq]; rfl
    · (refine cw_seq ?_; refine cw_region ?_; (refine lw_is ?_; refine lw_pure (by exact pur_lss rfl rfl) rfl ?_); refine lw_nil ?_; refine qw_then ?_; refine cw_seq ?_; (refine cw_is ?_; refine cw_no rfl (by omega) ?_); refine cw_exit ?_; refine qw_then_exit ?_; refine qw_then_exit ?_; refine qw_block_exit ?_; refine qw_then ?_; refine cw_seq ?_; refine cw_region ?_; (refine lw_is ?_; refine lw_pure (by exact pur_assign rfl) rfl ?_); refine lw_nil ?_; refine qw_then ?_; refine cw_ret ?_)
      refine qw_ret1 Tryz.results102 rfl ?_; have : l.drop j = [] := List.drop_eq_nil_of_le (by omega); rw [HR.out, this]
      exact ⟨rfl, hb3, f2.trans f3⟩
theorem Ext.fr1 {a b c : World} {lb : Nat} (h : Ext a b) (k : Fr (· = lb) b c) (hl : a.heap.size ≤ lb) : Ext a c :=
 ⟨k.os.trans (Below.os h), k.tape.trans (Below.tape h), k.output.trans (Below.output h), Nat.le_trans h.size k.size, fun i hi => (k.block i (Nat.lt_of_lt_of_le hi h.size) (by omega)).trans (h.block hi)⟩
theorem sits_lt' {S : Nat → Prop} {w : World} (t : Nd) (a : Option Addr) (h : t.sits S w a) : t.sits (fun b => S b ∧ b < w.heap.size) w a := by
 have key : ∀ N : Nat, (∀ (l : List Nd) (a : Option Addr), rowSize l < N → rowSits S w l a → rowSits (fun b => S b ∧ b < w.heap.size) w l a) := by
  intro N
  induction N with
  | zero => intro l a h; omega
  | succ N ih =>
   intro l a hN h
   cases l with
   | nil => simp [rowSits]
   | cons x r =>
    simp only [rowSits] at h ⊢; obtain ⟨b, o, a', c, rfl, hS, h0, h1, h2, h3, hs, hr⟩ := h; have hb := cell_lt h0; simp only [rowSize] at hN; have hx := Nd.size_pos x; obtain ⟨k, n, s, l⟩ := x; simp only [Nd.size] at hN; refine ⟨b, o, a', c, rfl, ⟨hS, hb⟩, h0, h1, h2, h3, ?_, ih r _ (by omega) hr⟩; simp only [Nd.sits] at hs ⊢
    exact ih l a' (by omega) hs
 obtain ⟨k, n, s, l⟩ := t; simp only [Nd.sits] at h ⊢
 exact key (rowSize l + 1) l a (by omega) h
set_option maxRecDepth 100000 in
set_option maxHeartbeats 1000000 in
theorem isBody_c (t : Nd) (S : Nat → Prop) (a : Option Addr) (c : Nat) (w : World) (hwf : t.wf) (hs : t.sits S w a) :
 Calls Tryz.prog 60 #[t.val a c] w fun e w' => e = .returned (.bool (bodyOk t)) ∧ Ext w w' := by
 have hsl := sits_lt' t a hs; refine calls_in Tryz.func60 Tryz.ntmps60 rfl rfl ?_; (refine cw_seq ?_; refine cw_region ?_); refine lw_box rfl rfl rfl ?_; intro b1 w1 hn1; have h1 := hn1.blk; have x1 := hn1.ext; have p1 := hn1.pos; have z1 := hn1.size
 ((refine lw_is ?_; refine lw_pure (by exact pur_assign rfl) rfl ?_); refine lw_nil ?_; refine qw_then ?_; refine cw_seq ?_; refine cw_region ?_)
 refine lw_alloc zOk rfl rfl ?_; intro b2 w2 hn2; refine lw_init tabOk rfl rfl rfl rfl rfl rfl (hn2) rfl ?_; clear hn2 w2; intro w2 hn2; have x2 := hn2.ext; have h2 := h1.ext x2; have b2p := hn2.pos; (refine lw_nil ?_; refine qw_then ?_; refine cw_seq ?_; refine cw_region ?_; (refine lw_is ?_; refine lw_pure (by exact pur_loads' tabOk rfl rfl rfl (by exact fun wz hz => by (try subst hz); exact (Blk.row (by assumption))) (by rfl)) rfl ?_)); refine cC (by kernel_rfl) rfl (limited_c (t.size + 1) t _ a c 80 2000 b2 _ (by omega) hwf (by omega) (by omega) (by omega) (by omega) (hsl.ext (by refine Ext.trans ?_ (by assumption); assumption)) (fun h => by omega) hn2.blk) rfl ?_; rintro _ w3 ⟨⟨⟩, -, f3⟩; have x3 : Ext w w3 := Ext.fr1 (b := w2) (by refine Ext.trans ?_ (by assumption); assumption) f3 (by omega); have h3 := h2.fr f3 (by omega)
 cases hq : (t.lim 80 2000).1
 · try rw [hq]
   ((refine lw_is ?_; refine lw_pure (by exact pur_move rfl) rfl ?_); (refine lw_isg ?_; refine lw_off rfl rfl rfl (by rfl) rfl ?_); (refine lw_isg ?_; refine lw_off rfl rfl rfl (by rfl) rfl ?_); (refine lw_is ?_; refine lw_pure (by exact pur_pick_f rfl rfl (by rfl)) rfl ?_); (refine lw_is ?_; refine lw_pure (by exact pur_assign rfl) rfl ?_); refine lw_nil ?_; refine qw_then ?_; refine cw_ret ?_)
   refine qw_ret1 Tryz.results60 rfl ?_
   exact ⟨ret_bool (by simp [bodyOk, hq]), x3⟩
 · try rw [hq]
   ((refine lw_is ?_; refine lw_pure (by exact pur_move rfl) rfl ?_); (refine lw_isg ?_; refine lw_on rfl rfl rfl (by rfl) ?_); (refine lw_is ?_; refine lw_pure (by exact pur_loads' tabOk rfl rfl rfl (by exact fun wz hz => by (try subst hz); exact (Blk.row (by assumption))) (by rfl)) rfl ?_); (refine lw_isg ?_; refine lw_on rfl rfl rfl (by rfl) ?_))
   refine cC (by kernel_rfl) rfl (IsBlock_t S t hwf a c _ (hs.ext x3)) rfl ?_; rintro _ w4 ⟨⟨⟩, x4⟩
   ((refine lw_is ?_; refine lw_pure (by exact pur_pick_t rfl rfl (by rfl)) rfl ?_); (refine lw_is ?_; refine lw_pure (by exact pur_assign rfl) rfl ?_); refine lw_nil ?_; refine qw_then ?_; refine cw_ret ?_)
   refine qw_ret1 Tryz.results60 rfl ?_
   exact ⟨ret_bool (by simp [bodyOk, hq]), x3.trans x4⟩
end Bk
namespace Bk
open Go Go.RowKit Go.Proofs
structure PD.wf (p : PD) : Prop where
 name : p.name.length ≤ 9223372036854775807
 len : p.params.length ≤ 9223372036854775807
 params : ∀ v ∈ p.params, v.wf
 body : p.body.wf
structure PG.wf (g : PG) : Prop where
 nv : g.vars.length ≤ 9223372036854775807
 np : g.procs.length ≤ 9223372036854775807
 vars : ∀ v ∈ g.vars, v.wf
 procs : ∀ p ∈ g.procs, p.wf
 main : g.main.wf
theorem procs_false {l : List PD} {j : Nat} (h : j < l.length) (hk : l[j].ok = false) : l.all PD.ok = false := by
 rw [List.all_eq_false]
 exact ⟨l[j], List.getElem_mem h, by simp [hk]⟩
theorem procs_true {l : List PD} (h : ∀ j (hj : j < l.length), l[j].ok = true) : l.all PD.ok = true := by
 rw [List.all_eq_true]; intro x hx; obtain ⟨i, hi, rfl⟩ := List.mem_iff_getElem.1 hx
 exact h i hi
set_option maxRecDepth 100000 in
set_option maxHeartbeats 1000000 in
theorem Valid_c (g : PG) (S : Nat → Prop) (va : Option Addr) (vc : Nat) (pa : Option Addr) (pc : Nat) (ma : Option Addr) (mc : Nat) (w : World) (hwf : g.wf) (hs : g.sits S w va pa ma) :
 Calls Tryz.prog 22 #[.agg (g.cells va vc pa pc ma mc).toArray] w fun e w' => e = .returned (.bool g.ok) ∧ Ext w w' := by
 have hnv := hwf.nv; have hnp := hwf.np; refine calls_in Tryz.func22 Tryz.ntmps22 rfl rfl ?_; (refine cw_seq ?_; refine cw_region ?_); refine lw_box rfl rfl rfl ?_; intro b1 w1 hn1; have h1 := hn1.blk; have x1 := hn1.ext
 by_cases c1 : 32 < g.vars.length
 · ((refine lw_is ?_; refine lw_pure (by exact pur_assign rfl) rfl ?_); refine lw_nil ?_; refine qw_then ?_; refine cw_seq ?_; refine cw_seq ?_; refine cw_region ?_; (refine lw_is ?_; refine lw_pure (by exact pur_fieldAddr0 tabOk rfl rfl rfl) rfl ?_); (refine lw_is ?_; refine lw_pure (by exact pur_load tabOk rfl rfl rfl (by exact fun wz hz => by (try subst hz); exact (Blk.cell (by assumption) (by rfl)))) rfl ?_); (refine lw_is ?_; refine lw_pure (by exact pur_len_slice tabOk rfl rfl) rfl ?_); (refine lw_is ?_; refine lw_pure (by exact pur_gtr rfl rfl) rfl ?_); (refine lw_is ?_; refine lw_pure (by exact pur_move rfl) rfl ?_); (refine lw_isg ?_; refine lw_off_yes rfl rfl rfl (by omega) rfl ?_); (refine lw_isg ?_; refine lw_off_yes rfl rfl rfl (by omega) rfl ?_); (refine lw_isg ?_; refine lw_off_yes rfl rfl rfl (by omega) rfl ?_); (refine lw_isg ?_; refine lw_off_yes rfl rfl rfl (by omega) rfl ?_); (refine lw_is ?_; refine lw_pure (by exact pur_pick_yes rfl rfl (by omega)) rfl ?_); (refine lw_is ?_; refine lw_pure (by exact pur_move rfl) rfl ?_); (refine lw_isg ?_; refine lw_off rfl rfl rfl (by rfl) rfl ?_); (refine lw_isg ?_; refine lw_off rfl rfl rfl (by rfl) rfl ?_); (refine lw_isg ?_; refine lw_off rfl rfl rfl (by rfl) rfl ?_); (refine lw_isg ?_; refine lw_off rfl rfl rfl (by rfl) rfl ?_); (refine lw_is ?_; refine lw_pure (by exact pur_pick_t rfl rfl (by rfl)) rfl ?_); refine lw_nil ?_; refine qw_then ?_; (refine cw_is ?_; refine cw_bt rfl (by rfl) ?_); refine cw_seq ?_; refine cw_region ?_; (refine lw_is ?_; refine lw_pure (by exact pur_assign rfl) rfl ?_); refine lw_nil ?_; refine qw_then ?_; refine cw_ret ?_; refine qw_then_ret ?_)
   refine qw_ret1 Tryz.results22 rfl ?_
   exact ⟨ret_bool (by simp [PG.ok]; omega), x1⟩
 by_cases c2 : 64 < g.procs.length
 · ((refine lw_is ?_; refine lw_pure (by exact pur_assign rfl) rfl ?_); refine lw_nil ?_; refine qw_then ?_; refine cw_seq ?_; refine cw_seq ?_; refine cw_region ?_; (refine lw_is ?_; refine lw_pure (by exact pur_fieldAddr0 tabOk rfl rfl rfl) rfl ?_); (refine lw_is ?_; refine lw_pure (by exact pur_load tabOk rfl rfl rfl (by exact fun wz hz => by (try subst hz); exact (Blk.cell (by assumption) (by rfl)))) rfl ?_); (refine lw_is ?_; refine lw_pure (by exact pur_len_slice tabOk rfl rfl) rfl ?_); (refine lw_is ?_; refine lw_pure (by exact pur_gtr rfl rfl) rfl ?_); (refine lw_is ?_; refine lw_pure (by exact pur_move rfl) rfl ?_); (refine lw_isg ?_; refine lw_on_no rfl rfl rfl (by omega) ?_); (refine lw_is ?_; refine lw_pure (by exact pur_fieldAddr tabOk rfl rfl rfl) rfl ?_); (refine lw_isg ?_; refine lw_on_no rfl rfl rfl (by omega) ?_); (refine lw_is ?_; refine lw_pure (by exact pur_load tabOk rfl rfl rfl (by exact fun wz hz => by (try subst hz); exact (Blk.cell (by assumption) (by rfl)))) rfl ?_); (refine lw_isg ?_; refine lw_on_no rfl rfl rfl (by omega) ?_); (refine lw_is ?_; refine lw_pure (by exact pur_len_slice tabOk rfl rfl) rfl ?_); (refine lw_isg ?_; refine lw_on_no rfl rfl rfl (by omega) ?_); (refine lw_is ?_; refine lw_pure (by exact pur_gtr rfl rfl) rfl ?_); (refine lw_is ?_; refine lw_pure (by exact pur_pick_no rfl rfl (by omega)) rfl ?_); (refine lw_is ?_; refine lw_pure (by exact pur_move rfl) rfl ?_); (refine lw_isg ?_; refine lw_off_yes rfl rfl rfl (by omega) rfl ?_); (refine lw_isg ?_; refine lw_off_yes rfl rfl rfl (by omega) rfl ?_); (refine lw_isg ?_; refine lw_off_yes rfl rfl rfl (by omega) rfl ?_); (refine lw_isg ?_; refine lw_off_yes rfl rfl rfl (by omega) rfl ?_); (refine lw_is ?_; refine lw_pure (by exact pur_pick_yes rfl rfl (by omega)) rfl ?_); refine lw_nil ?_; refine qw_then ?_; (refine cw_is ?_; refine cw_bt rfl (by rfl) ?_); refine cw_seq ?_; refine cw_region ?_; (refine lw_is ?_; refine lw_pure (by exact pur_assign rfl) rfl ?_); refine lw_nil ?_; refine qw_then ?_; refine cw_ret ?_; refine qw_then_ret ?_)
   refine qw_ret1 Tryz.results22 rfl ?_
   exact ⟨ret_bool (by simp [PG.ok]; omega), x1⟩
 ((refine lw_is ?_; refine lw_pure (by exact pur_assign rfl) rfl ?_); refine lw_nil ?_; refine qw_then ?_; refine cw_seq ?_; refine cw_seq ?_; refine cw_region ?_; (refine lw_is ?_; refine lw_pure (by exact pur_fieldAddr0 tabOk rfl rfl rfl) rfl ?_); (refine lw_is ?_; refine lw_pure (by exact pur_load tabOk rfl rfl rfl (by exact fun wz hz => by (try subst hz); exact (Blk.cell (by assumption) (by rfl)))) rfl ?_); (refine lw_is ?_; refine lw_pure (by exact pur_len_slice tabOk rfl rfl) rfl ?_); (refine lw_is ?_; refine lw_pure (by exact pur_gtr rfl rfl) rfl ?_); (refine lw_is ?_; refine lw_pure (by exact pur_move rfl) rfl ?_); (refine lw_isg ?_; refine lw_on_no rfl rfl rfl (by omega) ?_); (refine lw_is ?_; refine lw_pure (by exact pur_fieldAddr tabOk rfl rfl rfl) rfl ?_); (refine lw_isg ?_; refine lw_on_no rfl rfl rfl (by omega) ?_); (refine lw_is ?_; refine lw_pure (by exact pur_load tabOk rfl rfl rfl (by exact fun wz hz => by (try subst hz); exact (Blk.cell (by assumption) (by rfl)))) rfl ?_); (refine lw_isg ?_; refine lw_on_no rfl rfl rfl (by omega) ?_); (refine lw_is ?_; refine lw_pure (by exact pur_len_slice tabOk rfl rfl) rfl ?_); (refine lw_isg ?_; refine lw_on_no rfl rfl rfl (by omega) ?_); (refine lw_is ?_; refine lw_pure (by exact pur_gtr rfl rfl) rfl ?_); (refine lw_is ?_; refine lw_pure (by exact pur_pick_no rfl rfl (by omega)) rfl ?_); (refine lw_is ?_; refine lw_pure (by exact pur_move rfl) rfl ?_); (refine lw_isg ?_; refine lw_on_no rfl rfl rfl (by omega) ?_); (refine lw_is ?_; refine lw_pure (by exact pur_fieldAddr0 tabOk rfl rfl rfl) rfl ?_); (refine lw_isg ?_; refine lw_on_no rfl rfl rfl (by omega) ?_); (refine lw_is ?_; refine lw_pure (by exact pur_load tabOk rfl rfl rfl (by exact fun wz hz => by (try subst hz); exact (Blk.cell (by assumption) (by rfl)))) rfl ?_); (refine lw_isg ?_; refine lw_on_no rfl rfl rfl (by omega) ?_))
 refine cC (by kernel_rfl) rfl (declared_c g.vars S va vc _ hnv hwf.vars (hs.vars.ext x1)) rfl ?_; rintro _ w2 ⟨⟨⟩, x2⟩
 cases hq : allOk g.vars
 · try rw [hq]
   ((refine lw_isg ?_; refine lw_on_no rfl rfl rfl (by omega) ?_); (refine lw_is ?_; refine lw_pure (by exact pur_not rfl) rfl ?_); (refine lw_is ?_; refine lw_pure (by exact pur_pick_no rfl rfl (by omega)) rfl ?_); refine lw_nil ?_; refine qw_then ?_; (refine cw_is ?_; refine cw_bt rfl (by rfl) ?_); refine cw_seq ?_; refine cw_region ?_; (refine lw_is ?_; refine lw_pure (by exact pur_assign rfl) rfl ?_); refine lw_nil ?_; refine qw_then ?_; refine cw_ret ?_; refine qw_then_ret ?_)
   refine qw_ret1 Tryz.results22 rfl ?_
   exact ⟨ret_bool (by simp [PG.ok, hq]), x1.trans x2⟩
 try rw [hq]
 have h2 := h1.ext x2
 ((refine lw_isg ?_; refine lw_on_no rfl rfl rfl (by omega) ?_); (refine lw_is ?_; refine lw_pure (by exact pur_not rfl) rfl ?_); (refine lw_is ?_; refine lw_pure (by exact pur_pick_no rfl rfl (by omega)) rfl ?_); refine lw_nil ?_; refine qw_then ?_; (refine cw_is ?_; refine cw_bf rfl (by rfl) ?_); refine cw_skip ?_; refine qw_then ?_; refine cw_seq ?_; refine cw_seq ?_; refine cw_region ?_; (refine lw_is ?_; refine lw_pure (by exact pur_fieldAddr tabOk rfl rfl rfl) rfl ?_); (refine lw_is ?_; refine lw_pure (by exact pur_load tabOk rfl rfl rfl (by exact fun wz hz => by (try subst hz); exact (Blk.cell (by assumption) (by rfl)))) rfl ?_); (refine lw_is ?_; refine lw_pure (by exact pur_len_slice tabOk rfl rfl) rfl ?_); (refine lw_is ?_; refine lw_pure (by exact pur_move rfl) rfl ?_); refine lw_nil ?_; refine qw_then ?_; refine cw_block ?_)
 refine cw_loop (ι := Nat) (fun j => [(24, .int .i64 j), (23, .int .i64 g.procs.length), (22, .slice pa g.procs.length pc), (1, .pointer (some ⟨b1, 0, none⟩))]) (fun j w' => Ext w2 w' ∧ j ≤ g.procs.length ∧ ∀ i (hi : i < g.procs.length), i < j → g.procs[i].ok = true) (fun j => g.procs.length - j) 0 (by (refine sub_cons rfl ?_; refine sub_cons rfl ?_; refine sub_cons rfl ?_; refine sub_cons rfl ?_; exact sub_nil)) ⟨Ext.refl _, by omega, by omega⟩ ?_; rintro j w3 ⟨x3, hj, hall⟩
 have HA := Lib.hid hall; clear hall
 have xx3 : Ext w w3 := (by refine Ext.trans ?_ (by assumption); refine Ext.trans ?_ (by assumption); assumption)
 by_cases hlt : j < g.procs.length
 · have hps : PDs S w3 g.procs pa := hs.procs.ext xx3
   obtain ⟨kb, ko, rfl, -, hkid⟩ := hps.get (by omega); obtain ⟨qa, qc, ba, bc, rx, sv, sb⟩ := hkid j g.procs[j] (List.getElem?_eq_getElem hlt); have wf := hwf.procs g.procs[j] (List.getElem_mem hlt); have wf1 := wf.name; have wf2 := wf.len; have HN := Lib.hid (procs_false hlt); clear hkid
   generalize hv : g.procs[j] = p at *
   have HE := Lib.hid hv; clear hv
   (refine cw_seq ?_; refine cw_region ?_; (refine lw_is ?_; refine lw_pure (by exact pur_lss rfl rfl) rfl ?_); refine lw_nil ?_; refine qw_then ?_; refine cw_seq ?_; (refine cw_is ?_; refine cw_yes rfl (by omega) ?_); refine cw_skip ?_; refine qw_then ?_; refine cw_seq ?_; refine cw_block ?_; refine cw_seq ?_; refine cw_region ?_; (refine lw_is ?_; refine lw_pure (by exact pur_indexAddr tabOk rfl rfl rfl rfl (by omega) (by omega)) rfl ?_); (refine lw_is ?_; refine lw_pure (by exact pur_loads' tabOk rfl rfl rfl (by exact fun wz hz => by (try subst hz); exact (by assumption)) (by rfl)) rfl ?_)); refine lw_alloc zOk rfl rfl ?_; intro b4 w4 hn4; refine lw_init tabOk rfl rfl rfl rfl rfl rfl (hn4) rfl ?_; clear hn4 w4; intro w4 hn4; have h4 := hn4.blk; have x4 := hn4.ext; (refine lw_nil ?_; refine qw_then ?_; refine cw_seq ?_; refine cw_region ?_; (refine lw_is ?_; refine lw_pure (by exact pur_fieldAddr0 tabOk rfl rfl rfl) rfl ?_); (refine lw_is ?_; refine lw_pure (by exact pur_load tabOk rfl rfl rfl (by exact fun wz hz => by (try subst hz); exact (Blk.cell (by assumption) (by rfl)))) rfl ?_)); refine cC (by kernel_rfl) rfl (Name_c p.name _ wf1) rfl ?_; rintro _ w5 ⟨⟨⟩, x5⟩; have xx5 : Ext w w5 := xx3.trans (x4.trans x5); have xx35 : Ext w3 w5 := x4.trans x5; have h5 := h4.ext x5
   cases hnm : isName p.name
   · try rw [hnm]
     ((refine lw_is ?_; refine lw_pure (by exact pur_not rfl) rfl ?_); (refine lw_is ?_; refine lw_pure (by exact pur_move rfl) rfl ?_); (refine lw_isg ?_; refine lw_off rfl rfl rfl (by rfl) rfl ?_); (refine lw_isg ?_; refine lw_off rfl rfl rfl (by rfl) rfl ?_); (refine lw_isg ?_; refine lw_off rfl rfl rfl (by rfl) rfl ?_); (refine lw_isg ?_; refine lw_off rfl rfl rfl (by rfl) rfl ?_); (refine lw_is ?_; refine lw_pure (by exact pur_pick_t rfl rfl (by rfl)) rfl ?_); (refine lw_is ?_; refine lw_pure (by exact pur_move rfl) rfl ?_); (refine lw_isg ?_; refine lw_off rfl rfl rfl (by rfl) rfl ?_); (refine lw_isg ?_; refine lw_off rfl rfl rfl (by rfl) rfl ?_); (refine lw_isg ?_; refine lw_off rfl rfl rfl (by rfl) rfl ?_); (refine lw_isg ?_; refine lw_off rfl rfl rfl (by rfl) rfl ?_); (refine lw_is ?_; refine lw_pure (by exact pur_pick_t rfl rfl (by rfl)) rfl ?_); (refine lw_is ?_; refine lw_pure (by exact pur_move rfl) rfl ?_); (refine lw_isg ?_; refine lw_off rfl rfl rfl (by rfl) rfl ?_); (refine lw_isg ?_; refine lw_off rfl rfl rfl (by rfl) rfl ?_); (refine lw_isg ?_; refine lw_off rfl rfl rfl (by rfl) rfl ?_); (refine lw_isg ?_; refine lw_off rfl rfl rfl (by rfl) rfl ?_); (refine lw_is ?_; refine lw_pure (by exact pur_pick_t rfl rfl (by rfl)) rfl ?_); refine lw_nil ?_; refine qw_then ?_; (refine cw_is ?_; refine cw_bt rfl (by rfl) ?_); refine cw_seq ?_; refine cw_region ?_; (refine lw_is ?_; refine lw_pure (by exact pur_assign rfl) rfl ?_); refine lw_nil ?_; refine qw_then ?_; refine cw_ret ?_; refine qw_block_ret ?_; refine qw_then_ret ?_; refine qw_then_ret ?_; refine qw_block_ret ?_; refine qw_then_ret ?_)
     refine qw_ret1 Tryz.results22 rfl ?_
     exact ⟨ret_bool (by simp [PG.ok, HN.out (by simp [PD.ok, hnm])]), xx5⟩
   try rw [hnm]
   by_cases c3 : 8 < p.params.length
   · ((refine lw_is ?_; refine lw_pure (by exact pur_not rfl) rfl ?_); (refine lw_is ?_; refine lw_pure (by exact pur_move rfl) rfl ?_); (refine lw_isg ?_; refine lw_on rfl rfl rfl (by rfl) ?_); (refine lw_is ?_; refine lw_pure (by exact pur_fieldAddr tabOk rfl rfl rfl) rfl ?_); (refine lw_isg ?_; refine lw_on rfl rfl rfl (by rfl) ?_); (refine lw_is ?_; refine lw_pure (by exact pur_load tabOk rfl rfl rfl (by exact fun wz hz => by (try subst hz); exact (Blk.cell (by assumption) (by rfl)))) rfl ?_); (refine lw_isg ?_; refine lw_on rfl rfl rfl (by rfl) ?_); (refine lw_is ?_; refine lw_pure (by exact pur_len_slice tabOk rfl rfl) rfl ?_); (refine lw_isg ?_; refine lw_on rfl rfl rfl (by rfl) ?_); (refine lw_is ?_; refine lw_pure (by exact pur_gtr rfl rfl) rfl ?_); (refine lw_is ?_; refine lw_pure (by exact pur_pick_f rfl rfl (by rfl)) rfl ?_); (refine lw_is ?_; refine lw_pure (by exact pur_move rfl) rfl ?_); (refine lw_isg ?_; refine lw_off_yes rfl rfl rfl (by omega) rfl ?_); (refine lw_isg ?_; refine lw_off_yes rfl rfl rfl (by omega) rfl ?_); (refine lw_isg ?_; refine lw_off_yes rfl rfl rfl (by omega) rfl ?_); (refine lw_isg ?_; refine lw_off_yes rfl rfl rfl (by omega) rfl ?_); (refine lw_is ?_; refine lw_pure (by exact pur_pick_yes rfl rfl (by omega)) rfl ?_); (refine lw_is ?_; refine lw_pure (by exact pur_move rfl) rfl ?_); (refine lw_isg ?_; refine lw_off rfl rfl rfl (by rfl) rfl ?_); (refine lw_isg ?_; refine lw_off rfl rfl rfl (by rfl) rfl ?_); (refine lw_isg ?_; refine lw_off rfl rfl rfl (by rfl) rfl ?_); (refine lw_isg ?_; refine lw_off rfl rfl rfl (by rfl) rfl ?_); (refine lw_is ?_; refine lw_pure (by exact pur_pick_t rfl rfl (by rfl)) rfl ?_); refine lw_nil ?_; refine qw_then ?_; (refine cw_is ?_; refine cw_bt rfl (by rfl) ?_); refine cw_seq ?_; refine cw_region ?_; (refine lw_is ?_; refine lw_pure (by exact pur_assign rfl) rfl ?_); refine lw_nil ?_; refine qw_then ?_; refine cw_ret ?_; refine qw_block_ret ?_; refine qw_then_ret ?_; refine qw_then_ret ?_; refine qw_block_ret ?_; refine qw_then_ret ?_)
     refine qw_ret1 Tryz.results22 rfl ?_
     exact ⟨ret_bool (by simp [PG.ok, HN.out (by simp [PD.ok, hnm]; omega)]), xx5⟩
   ((refine lw_is ?_; refine lw_pure (by exact pur_not rfl) rfl ?_); (refine lw_is ?_; refine lw_pure (by exact pur_move rfl) rfl ?_); (refine lw_isg ?_; refine lw_on rfl rfl rfl (by rfl) ?_); (refine lw_is ?_; refine lw_pure (by exact pur_fieldAddr tabOk rfl rfl rfl) rfl ?_); (refine lw_isg ?_; refine lw_on rfl rfl rfl (by rfl) ?_); (refine lw_is ?_; refine lw_pure (by exact pur_load tabOk rfl rfl rfl (by exact fun wz hz => by (try subst hz); exact (Blk.cell (by assumption) (by rfl)))) rfl ?_); (refine lw_isg ?_; refine lw_on rfl rfl rfl (by rfl) ?_); (refine lw_is ?_; refine lw_pure (by exact pur_len_slice tabOk rfl rfl) rfl ?_); (refine lw_isg ?_; refine lw_on rfl rfl rfl (by rfl) ?_); (refine lw_is ?_; refine lw_pure (by exact pur_gtr rfl rfl) rfl ?_); (refine lw_is ?_; refine lw_pure (by exact pur_pick_f rfl rfl (by rfl)) rfl ?_); (refine lw_is ?_; refine lw_pure (by exact pur_move rfl) rfl ?_); (refine lw_isg ?_; refine lw_on_no rfl rfl rfl (by omega) ?_); (refine lw_is ?_; refine lw_pure (by exact pur_fieldAddr tabOk rfl rfl rfl) rfl ?_); (refine lw_isg ?_; refine lw_on_no rfl rfl rfl (by omega) ?_); (refine lw_is ?_; refine lw_pure (by exact pur_load tabOk rfl rfl rfl (by exact fun wz hz => by (try subst hz); exact (Blk.cell (by assumption) (by rfl)))) rfl ?_); (refine lw_isg ?_; refine lw_on_no rfl rfl rfl (by omega) ?_))
   refine cC (by kernel_rfl) rfl (declared_c p.params S qa qc _ wf2 wf.params (sv.ext xx35)) rfl ?_; rintro _ w6 ⟨⟨⟩, x6⟩; have xx6 : Ext w w6 := xx5.trans x6; have xx36 : Ext w3 w6 := xx35.trans x6; have h6 := h5.ext x6
   cases hq2 : allOk p.params
   · try rw [hq2]
     ((refine lw_isg ?_; refine lw_on_no rfl rfl rfl (by omega) ?_); (refine lw_is ?_; refine lw_pure (by exact pur_not rfl) rfl ?_); (refine lw_is ?_; refine lw_pure (by exact pur_pick_no rfl rfl (by omega)) rfl ?_); (refine lw_is ?_; refine lw_pure (by exact pur_move rfl) rfl ?_); (refine lw_isg ?_; refine lw_off rfl rfl rfl (by rfl) rfl ?_); (refine lw_isg ?_; refine lw_off rfl rfl rfl (by rfl) rfl ?_); (refine lw_isg ?_; refine lw_off rfl rfl rfl (by rfl) rfl ?_); (refine lw_isg ?_; refine lw_off rfl rfl rfl (by rfl) rfl ?_); (refine lw_is ?_; refine lw_pure (by exact pur_pick_t rfl rfl (by rfl)) rfl ?_); refine lw_nil ?_; refine qw_then ?_; (refine cw_is ?_; refine cw_bt rfl (by rfl) ?_); refine cw_seq ?_; refine cw_region ?_; (refine lw_is ?_; refine lw_pure (by exact pur_assign rfl) rfl ?_); refine lw_nil ?_; refine qw_then ?_; refine cw_ret ?_; refine qw_block_ret ?_; refine qw_then_ret ?_; refine qw_then_ret ?_; refine qw_block_ret ?_; refine qw_then_ret ?_)
     refine qw_ret1 Tryz.results22 rfl ?_
     exact ⟨ret_bool (by simp [PG.ok, HN.out (by simp [PD.ok, hq2])]), xx6⟩
   try rw [hq2]
   ((refine lw_isg ?_; refine lw_on_no rfl rfl rfl (by omega) ?_); (refine lw_is ?_; refine lw_pure (by exact pur_not rfl) rfl ?_); (refine lw_is ?_; refine lw_pure (by exact pur_pick_no rfl rfl (by omega)) rfl ?_); (refine lw_is ?_; refine lw_pure (by exact pur_move rfl) rfl ?_); (refine lw_isg ?_; refine lw_on rfl rfl rfl (by rfl) ?_); (refine lw_is ?_; refine lw_pure (by exact pur_fieldAddr tabOk rfl rfl rfl) rfl ?_); (refine lw_isg ?_; refine lw_on rfl rfl rfl (by rfl) ?_); (refine lw_is ?_; refine lw_pure (by exact pur_loads_blk tabOk rfl rfl rfl (by exact fun wz hz => by (try subst hz); exact (by assumption)) (by rfl)) rfl ?_); (refine lw_isg ?_; refine lw_on rfl rfl rfl (by rfl) ?_))
   refine cC (by kernel_rfl) rfl (isBody_c p.body S ba bc _ wf.body (sb.ext xx36)) rfl ?_; rintro _ w7 ⟨⟨⟩, x7⟩; have xx7 : Ext w w7 := xx6.trans x7
   cases hq3 : bodyOk p.body
   · try rw [hq3]
     ((refine lw_isg ?_; refine lw_on rfl rfl rfl (by rfl) ?_); (refine lw_is ?_; refine lw_pure (by exact pur_not rfl) rfl ?_); (refine lw_is ?_; refine lw_pure (by exact pur_pick_f rfl rfl (by rfl)) rfl ?_); refine lw_nil ?_; refine qw_then ?_; (refine cw_is ?_; refine cw_bt rfl (by rfl) ?_); refine cw_seq ?_; refine cw_region ?_; (refine lw_is ?_; refine lw_pure (by exact pur_assign rfl) rfl ?_); refine lw_nil ?_; refine qw_then ?_; refine cw_ret ?_; refine qw_block_ret ?_; refine qw_then_ret ?_; refine qw_then_ret ?_; refine qw_block_ret ?_; refine qw_then_ret ?_)
     refine qw_ret1 Tryz.results22 rfl ?_
     exact ⟨ret_bool (by simp [PG.ok, HN.out (by simp [PD.ok, hq3])]), xx7⟩
   try rw [hq3]
   have hok : p.ok = true := by simp [PD.ok, hnm, hq2, hq3]; omega
   ((refine lw_isg ?_; refine lw_on rfl rfl rfl (by rfl) ?_); (refine lw_is ?_; refine lw_pure (by exact pur_not rfl) rfl ?_); (refine lw_is ?_; refine lw_pure (by exact pur_pick_f rfl rfl (by rfl)) rfl ?_); refine lw_nil ?_; refine qw_then ?_; (refine cw_is ?_; refine cw_bf rfl (by rfl) ?_); refine cw_skip ?_; refine qw_block_norm ?_; refine qw_then ?_; refine cw_region ?_; (refine lw_is ?_; refine lw_pure (by exact pur_add rfl rfl (IntWalk.i64_in _ (by omega))) rfl ?_); (refine lw_is ?_; refine lw_pure (by exact pur_move rfl) rfl ?_); refine lw_nil ?_)
   refine qw_round (j + 1) (by (refine sub_cons rfl ?_; refine sub_cons rfl ?_; refine sub_cons rfl ?_; refine sub_cons rfl ?_; exact sub_nil)) ⟨x3.trans (xx36.trans x7), by omega, fun i hi hij => ?_⟩ (by omega)
   by_cases e : i = j
   · subst e; exact HE.out ▸ hok
   · exact HA.out i hi (by omega)
 · have h3 := h2.ext x3
   (refine cw_seq ?_; refine cw_region ?_; (refine lw_is ?_; refine lw_pure (by exact pur_lss rfl rfl) rfl ?_); refine lw_nil ?_; refine qw_then ?_; refine cw_seq ?_; (refine cw_is ?_; refine cw_no rfl (by omega) ?_); refine cw_exit ?_; refine qw_then_exit ?_; refine qw_then_exit ?_; refine qw_block_exit ?_; refine qw_then ?_; refine cw_seq ?_; refine cw_region ?_; (refine lw_is ?_; refine lw_pure (by exact pur_fieldAddr tabOk rfl rfl rfl) rfl ?_); (refine lw_is ?_; refine lw_pure (by exact pur_loads_blk tabOk rfl rfl rfl (by exact fun wz hz => by (try subst hz); exact (by assumption)) (by rfl)) rfl ?_)); refine cC (by kernel_rfl) rfl (isBody_c g.main S ma mc _ hwf.main (hs.main.ext xx3)) rfl ?_; rintro _ w4 ⟨⟨⟩, x4⟩
   ((refine lw_is ?_; refine lw_pure (by exact pur_assign rfl) rfl ?_); refine lw_nil ?_; refine qw_then ?_; refine cw_ret ?_)
   refine qw_ret1 Tryz.results22 rfl ?_; refine ⟨ret_bool ?_, xx3.trans x4⟩; have := procs_true (fun i hi => HA.out i hi (by omega))
   simp [PG.ok, hq, this]; omega
end Bk
namespace Bk
open Go
theorem name_wf {m : List UInt8} (h : isName m = true) : m.length ≤ 16 := by
 simp only [isName, Bool.and_eq_true, decide_eq_true_eq] at h
 exact h.1.1.1.2
theorem G.wf {nt : Nt} {a : Txt} {x : Nd} (h : G nt a x) : match nt with
 | .cl _ y => y.wf → x.wf
 | _ => x.wf := by
 induction h with
 | ex _ _ i1 i2 => exact i2 i1
 | cl0 => exact fun h => h
 | @cl1 lv op t a b x y z h1 h2 h3 h4 h5 i3 i5 =>
  intro hx; obtain ⟨-, h8, h23, -⟩ := binOf_ne h1; refine i5 ?_
  exact ⟨by omega, by omega, by omega, by omega, by simp, by simp, hx, i3, trivial⟩
 | neg _ i => exact ⟨by omega, by omega, by omega, by omega, by simp, by simp, i, trivial⟩
 | not _ i => exact ⟨by omega, by omega, by omega, by omega, by simp, by simp, i, trivial⟩
 | num h1 h2 => exact ⟨by omega, by omega, by omega, by omega, by simp, by simp, trivial⟩
 | top h => have := name_wf h; exact ⟨by omega, by omega, by omega, by omega, by omega, by simp, trivial⟩
 | size h => have := name_wf h; exact ⟨by omega, by omega, by omega, by omega, by omega, by simp, trivial⟩
 | par _ i => exact i
 | place _ i => exact i
 | var h => have := name_wf h; exact ⟨by omega, by omega, by omega, by omega, by omega, by simp, trivial⟩
 | item h _ i => have := name_wf h; exact ⟨by omega, by omega, by omega, by omega, by omega, by simp, i, trivial⟩
theorem row_var_wf (l : Txt) (h : ∀ v ∈ l, isName v = true) : rowWf (l.map varN) := by
 induction l with
 | nil => trivial
 | cons v r ih =>
  have := name_wf (h v (by simp))
  exact ⟨⟨by omega, by omega, by omega, by omega, by omega, by simp, trivial⟩, ih (fun u hu => h u (by simp [hu]))⟩
theorem upd_range (t : List UInt8) : 0 ≤ updKind t ∧ updKind t ≤ 255 := by
 unfold updKind
 split
 · decide
 split
 · decide
 split
 · decide
 split
 · decide
 · decide
theorem GS.wf {nt : NtS} {a : Txt} {l : List Nd} (h : GS nt a l) (ha : a.length ≤ 9223372036854775807) : match nt with
 | .ls => rowWf l ∧ l.length ≤ a.length
 | _ => rowWf l := by
 induction h with
 | stack h1 h2 h3 =>
  have := name_wf h3; have v := h2.wf; simp only [stackKw, List.mem_cons, Prod.mk.injEq, List.not_mem_nil, or_false] at h1
  rcases h1 with ⟨-, rfl⟩ | ⟨-, rfl⟩ <;> exact ⟨⟨by omega, by omega, by omega, by omega, by omega, by simp, v, trivial⟩, trivial⟩
 | tape h1 h2 =>
  have v := h2.wf; simp only [tapeKw, List.mem_cons, Prod.mk.injEq, List.not_mem_nil, or_false] at h1
  rcases h1 with ⟨-, rfl⟩ | ⟨-, rfl⟩ | ⟨-, rfl⟩ | ⟨-, rfl⟩ <;> exact ⟨⟨by omega, by omega, by omega, by omega, by simp, by simp, v, trivial⟩, trivial⟩
 | call0 h1 h2 =>
  have := name_wf h2; simp only [callKw, List.mem_cons, Prod.mk.injEq, List.not_mem_nil, or_false] at h1
  rcases h1 with ⟨-, rfl⟩ | ⟨-, rfl⟩ <;> exact ⟨⟨by omega, by omega, by omega, by omega, by omega, by simp, trivial⟩, trivial⟩
 | @call1 kw m u kd l h1 h2 h3 h4 h5 =>
  have := name_wf h2; have v := row_var_wf (u :: l) (fun v hv => by rcases List.mem_cons.1 hv with rfl | hv; exact h3; exact h4 v hv)
  have hl : ((u :: l).map varN).length ≤ 9223372036854775807 := by simp only [List.length_map, List.length_cons]; omega
  simp only [callKw, List.mem_cons, Prod.mk.injEq, List.not_mem_nil, or_false] at h1
  rcases h1 with ⟨-, rfl⟩ | ⟨-, rfl⟩ <;> exact ⟨⟨by omega, by omega, by omega, by omega, by omega, hl, v⟩, trivial⟩
 | branch h1 h2 h3 h4 h5 i3 i4 =>
  simp only [List.length_cons, List.length_append] at ha; have v2 := h2.wf; have v5 := h5.wf; have v3 := (i3 (by omega)).1; have v4 := (i4 (by omega)).1; simp only [branchKw, List.mem_cons, Prod.mk.injEq, List.not_mem_nil, or_false] at h1
  rcases h1 with ⟨-, rfl, -⟩ | ⟨-, rfl, -⟩ <;> exact ⟨⟨by omega, by omega, by omega, by omega, by simp, by simp, v2, v3, v4, v5, trivial⟩, trivial⟩
 | lstack h1 h2 i2 =>
  simp only [List.length_cons] at ha; have := name_wf h1
  exact ⟨⟨by omega, by omega, by omega, by omega, by omega, by simp, (i2 (by omega)).1, trivial⟩, trivial⟩
 | local_ h1 h2 h3 h4 i3 =>
  simp only [List.length_cons, List.length_append] at ha; have := name_wf h1
  exact ⟨⟨by omega, by omega, by omega, by omega, by omega, by simp, h2.wf, (i3 (by omega)).1, h4.wf, trivial⟩, trivial⟩
 | @upd t a b x y h1 h2 h3 => exact ⟨⟨(upd_range t).1, (upd_range t).2, by omega, by omega, by simp, by simp, h1.wf, h3.wf, trivial⟩, trivial⟩
 | swap h1 h2 => exact ⟨⟨by omega, by omega, by omega, by omega, by simp, by simp, h1.wf, h2.wf, trivial⟩, trivial⟩
 | bl h1 i1 =>
  simp only [List.length_cons, List.length_append, List.length_nil] at ha; obtain ⟨v, hl⟩ := i1 (by omega)
  exact ⟨⟨by omega, by omega, by omega, by omega, by simp, by omega, v⟩, trivial⟩
 | ls0 => exact ⟨trivial, Nat.le_refl _⟩
 | ls1 h1 h2 i1 i2 =>
  simp only [List.length_cons, List.length_append] at ha; obtain ⟨v, hl⟩ := i2 (by omega); refine ⟨⟨(i1 (by omega)).1, v⟩, ?_⟩
  simp only [List.length_cons, List.length_append]; omega
theorem VD.wf_ok {v : VD} (h : v.ok = true) : v.wf := by
 simp only [VD.ok, Bool.and_eq_true] at h; obtain ⟨h1, h2⟩ := h; have := name_wf h1
 split at h2
 · rename_i hk
   have : v.len = 0 := by simpa using h2
   exact ⟨by omega, by omega, by omega, by omega, by omega⟩
 · split at h2
   · simp only [Bool.and_eq_true, decide_eq_true_eq] at h2
     exact ⟨by omega, by omega, by omega, by omega, by omega⟩
   · cases h2
theorem allOk_mem {l : List VD} (h : allOk l = true) : ∀ v ∈ l, v.wf := fun v hv => VD.wf_ok (List.all_eq_true.1 h v hv)
section
variable {ts : List Tok} {n : Int}
theorem seg_len {σ σ' : PS} {a : Txt} (h : Seg ts σ σ' a) : a.length ≤ ts.length := by
 have h1 := rem_len (ts := ts) σ; have h2 : rem ts σ = a ++ rem ts σ' := h; rw [h2, List.length_append] at h1
 omega
theorem body_wf (hd : DigitKinds ts) (hl : ts.length ≤ 1000000) {k : Nat} {σ : PS} (h : σ.at_ ≤ ts.length) (hk : 4 * mS ts σ + 8 ≤ k) (he : (bodyP ts n k σ).2.err = 0) : (bodyP ts n k σ).1.wf := by
 unfold bodyP at he ⊢
 simp only at he ⊢; obtain ⟨e1, -, -⟩ := limit_ok he; obtain ⟨a, sa, ga⟩ := (stmt_sound hd k).2.2.2.1 σ h hk e1; have := seg_len sa
 exact (ga.wf (by omega)).1
theorem proc_wf (hd : DigitKinds ts) (hl : ts.length ≤ 1000000) {k : Nat} {σ : PS} (h : σ.at_ ≤ ts.length) (hk : 4 * mS ts σ + 8 ≤ k) (he : (procP ts n k σ).2.err = 0) : (procP ts n k σ).1.wf := by
 have hok := proc_ok hd h hk he; simp only [PD.ok, Bool.and_eq_true, decide_eq_true_eq] at hok; have := name_wf hok.1.1.1; refine ⟨by omega, by omega, allOk_mem hok.1.2, ?_⟩; rw [procP_at] at he ⊢; simp only at he ⊢; have l1 := expect_le (n := n) (t := [112, 114, 111, 99]) h (by decide); have l2 := name_le (n := n) l1.wf; have l3 := expect_le (n := n) (t := [40]) l2.wf (by decide); have lq := procQ_le (n := n) (k := k) l3.wf; have m := mS_le (((l1.trans l2).trans l3).trans lq)
 exact body_wf hd hl lq.wf (by omega) he
theorem procs_wf (hd : DigitKinds ts) (hl : ts.length ≤ 1000000) (k : Nat) : ∀ (acc : List PD) (σ : PS), σ.at_ ≤ ts.length → (σ.err = 0 → 4 * mS ts σ + 9 ≤ k) → (procsP ts n k acc σ).2.err = 0 → (∀ p ∈ acc, p.wf) → ∀ p ∈ (procsP ts n k acc σ).1, p.wf := by
 induction k with
 | zero => intro acc σ h hk he ha; rw [procsP]; exact ha
 | succ k ih =>
  intro acc σ h hk he ha; rw [procsP] at he ⊢
  split at he
  · rename_i hh
    rw [if_pos hh]; simp only at he ⊢; have h0 := (has_in h hh (by decide)).1; have hk0 := hk h0
    by_cases c : acc.length = 64
    · rw [if_pos c] at he
      exfalso
      have l0 := fail_le (ts := ts) h (peekP ts σ).pos 5; have l1 := procP_le (n := n) (k := k) l0.wf
      exact absurd ((l1.trans (procs_le k _ _ l1.wf)).ok he) (fail_err (by decide))
    · rw [if_neg c] at he ⊢
      have l1 := procP_le (n := n) (k := k) h; have e1 := (procs_le k (acc ++ [(procP ts n k σ).1]) _ l1.wf).ok he; have m1 := mS_dec l1 (procP_lt h) e1; refine ih _ _ l1.wf (fun _ => by omega) he (fun p hp => ?_)
      rcases List.mem_append.1 hp with hp | hp
      · exact ha p hp
      · have : p = (procP ts n k σ).1 := by simpa using hp
        rw [this]; exact proc_wf hd hl h (by omega) e1
  · rename_i hh
    rw [if_neg hh]; exact ha
theorem program_wf (hd : DigitKinds ts) (hl : ts.length ≤ 1000000) {k : Nat} {σ : PS} (h : σ.at_ ≤ ts.length) (hk : 4 * mS ts σ + 9 ≤ k) (he : (programP ts n k σ).2.err = 0) : (programP ts n k σ).1.wf := by
 obtain ⟨s1, s2, -, -⟩ := program_small h he
 unfold programP at he s1 s2 ⊢
 simp only at he s1 s2 ⊢; have l1 := vars_le (n := n) k [] σ h; have l2 := procs_le (n := n) k [] _ l1.wf; have l3 := expect_le (n := n) (t := [109, 97, 105, 110]) l2.wf (by decide); have l4 := bodyP_le (n := n) (k := k) l3.wf; have e3 := l4.ok he; have e2 := l3.ok e3; have e1 := l2.ok e2; have m1 := mS_le l1; have m3 := mS_le ((l1.trans l2).trans l3)
 exact ⟨by simp only; omega, by simp only; omega, allOk_mem (vars_ok hd k [] σ h e1 rfl), procs_wf hd hl k [] _ l1.wf (fun _ => by omega) e2 (by simp), body_wf hd hl l3.wf (by omega) he⟩
end
theorem parseProgram_wf (s : List UInt8) (hs : s.length ≤ 1000000) (he : (parseProgram s).2.2 = 0) : (parseProgram s).1.wf := by
 have hl := start_len s
 have hm : mS (startP s).1 (startP s).2 ≤ (startP s).1.length := by unfold mS; split <;> omega
 have hw : (startP s).2.at_ ≤ (startP s).1.length := Nat.zero_le _
 unfold parseProgram at he ⊢
 simp only at he ⊢
 split at he
 · rename_i h; exact absurd he h
 · rename_i h
   rw [if_neg h]
   exact program_wf (digitKinds_start s) (by omega) hw (by unfold fuelP; omega) (finish_ok (by simpa using h)).1
end Bk
namespace Bk
open Go Go.RowKit Go.Proofs
attribute [local irreducible] Go.Calls
theorem zero_small : (⟨[], [], zeroNd⟩ : PG).small := ⟨by simp, by simp, by decide, by simp⟩
theorem isBlock_main (g : PG) (S : Nat → Prop) (va pa ma : Option Addr) (k : Nat) (w : World) (hw : g.wf) (hs : g.sits S w va pa ma) : Calls Tryz.prog 23 #[g.main.val ma k] w fun e w' => e = .returned (.bool g.main.isBlock) ∧ Ext w w' := IsBlock_t S g.main hw.main ma k w hs.main
theorem Same_z (S : Nat → Prop) (va pa ma : Option Addr) (vc pc mc : Nat) (w : World) (hs : (⟨[], [], zeroNd⟩ : PG).sits S w va pa ma) :
 Calls Tryz.prog 11 #[.agg ((⟨[], [], zeroNd⟩ : PG).cells va vc pa pc ma mc).toArray, .agg #[.slice none 0 0, .slice none 0 0, .int .u8 0, .int .i64 0, .string ⟨#[]⟩, .slice none 0 0]] w fun e w' => e = .returned (.bool true) ∧ Ext w w' :=
 Same_t ⟨[], [], zeroNd⟩ S (fun _ => True) va pa ma none none none vc pc mc 0 0 0 w zero_small hs ⟨Or.inl rfl, Or.inl rfl, sits_nil⟩
theorem ok_block {g : PG} (h : g.ok = true) : g.main.isBlock = true := by
 simp only [PG.ok, bodyOk, Bool.and_eq_true] at h
 exact h.2.2
set_option maxRecDepth 100000 in
set_option maxHeartbeats 4000000 in
theorem ParserValid_c (s : List UInt8) (w : World) (hs : s.length ≤ 9223372036854775807) (hS : Syms w) (hE : Errs w) : Calls Tryz.prog 7 #[str s] w fun e w' => e = .returned (.bool true) ∧ Ext w w' := by
 have X := Ext.refl w
 by_cases h : 600 < s.length
 · refine calls_in Tryz.func7 Tryz.ntmps7 rfl rfl ?_
   focus
    refine cS (cA rfl rfl (cT (cw_seq (cS ?_)))); refine cC (by kernel_rfl) rfl (awake4_c _ (by assumption) (by assumption)) rfl ?_; rintro _ w2 ⟨⟨⟩, x1⟩; have z3 := x1.size; replace hS := hS.ext x1; replace hE := hE.ext x1; replace X := X.ext x1; clear x1; refine lw_pure (pur_not rfl) rfl (cM rfl rfl (lw_on rfl rfl rfl (rfl) (cM rfl rfl (lw_on rfl rfl rfl (rfl) (lw_pure (pur_len_s tabOk rfl rfl) rfl (lw_on rfl rfl rfl (rfl) (lw_pure (pur_gtr rfl rfl) rfl (lw_pure (pur_pick_f rfl rfl rfl) rfl (cT ?_))))))))); refine cw_yes rfl (by omega) ?_; refine cS ?_; refine cC (by kernel_rfl) rfl (awake4_c _ (by assumption) (by assumption)) rfl ?_; rintro _ w5 ⟨⟨⟩, x4⟩; have z6 := x4.size; replace hS := hS.ext x4; replace hE := hE.ext x4; replace X := X.ext x4; clear x4; refine cA rfl rfl (cT (cw_ret (qw_then_ret (qw_ret1 rfl rfl ?_)))); rotate_left 1
   exact ⟨rfl, X⟩
 · have hE1 : ∀ w, Syms w → Errs w → Calls Tryz.prog 9 #[str s] w (ParsePR w (parseProgram s)) := fun w => Program_p s w (by omega)
   obtain ⟨hok, hbad⟩ := parseProgram_ok s; have hwf := parseProgram_wf s (by omega)
   generalize parseProgram s = r at *
   have H1 := Lib.hid hE1; clear hE1
   by_cases he : r.2.2 = 0
   · obtain ⟨ho, ha⟩ := hok he
     have hw := hwf he; have hb := ok_block ho; clear hok hbad hwf; obtain ⟨g, off, err⟩ := r; simp only at he ho ha hw hb; subst he ha; refine calls_in Tryz.func7 Tryz.ntmps7 rfl rfl ?_
     focus
      refine cS (cA rfl rfl (cT (cw_seq (cS ?_)))); refine cC (by kernel_rfl) rfl (awake4_c _ (by assumption) (by assumption)) rfl ?_; rintro _ wa2 ⟨⟨⟩, xa1⟩; have za3 := xa1.size; replace hS := hS.ext xa1; replace hE := hE.ext xa1; replace X := X.ext xa1; clear xa1; refine lw_pure (pur_not rfl) rfl (cM rfl rfl (lw_on rfl rfl rfl (rfl) (cM rfl rfl (lw_on rfl rfl rfl (rfl) (lw_pure (pur_len_s tabOk rfl rfl) rfl (lw_on rfl rfl rfl (rfl) (lw_pure (pur_gtr rfl rfl) rfl (lw_pure (pur_pick_f rfl rfl rfl) rfl (cT ?_))))))))); refine cw_no rfl (by omega) ?_; refine cw_skip (qw_then (cS (cM rfl rfl ?_))); refine cR (by kernel_rfl) rfl (H1.out _ (by assumption) (by assumption)) (fun _ _ h => h.ret) rfl ?_; rintro _ wa12 ⟨vaa4, ⟨vca5, ⟨paa6, ⟨pca7, ⟨maa8, ⟨mca9, ⟨⟨⟩, ⟨ha10, xa11⟩⟩⟩⟩⟩⟩⟩⟩; have za13 := xa11.size; replace hS := hS.ext xa11; replace hE := hE.ext xa11; replace X := X.ext xa11; clear xa11; refine cM rfl rfl (lw_pure (pur_extract rfl rfl) rfl (lw_pure (pur_extract rfl rfl) rfl (lw_pure (pur_extract rfl rfl) rfl ?_))); (refine lw_alloc' [_, _, _, _, _, _] zOk rfl rfl ?_; intro ba14 wa15 na16); (refine lw_init' [_, _, _, _, _, _] tabOk rfl rfl rfl rfl rfl rfl na16 rfl ?_; clear na16; clear wa15; intro wa17 na16); have ha18 := na16.blk; dsimp only at ha18; have xa19 := na16.ext; have pa20 := na16.pos; have za21 := na16.size; clear na16; replace ha10 := PG.sits.ext ha10 xa19; replace hS := hS.ext xa19; replace hE := hE.ext xa19; replace X := X.ext xa19; clear xa19; refine cA rfl rfl (cA rfl rfl (cT (cw_seq (cS (cM rfl rfl (lw_pure (pur_neq rfl rfl) rfl (cT (cw_no rfl (not_not_intro rfl) (cw_skip (qw_then (cS ?_)))))))))))
      refine cM rfl rfl (lw_pure (pur_eql rfl rfl) rfl (cM rfl rfl (lw_on rfl rfl rfl (gd_tt (rfl)) (lw_loads_b' [_, _, _, _, _, _] tabOk rfl rfl rfl ha18 rfl rfl rfl (lw_on rfl rfl rfl (gd_tt (rfl)) ?_))))); refine cC (by kernel_rfl) rfl (Valid_c g _ _ _ _ _ _ _ _ hw (by assumption)) rfl ?_; rintro _ wa23 ⟨⟨⟩, xa22⟩; have za24 := xa22.size; replace ha18 := ha18.ext xa22; replace ha10 := PG.sits.ext ha10 xa22; replace hS := hS.ext xa22; replace hE := hE.ext xa22; replace X := X.ext xa22; clear xa22; refine lw_pure (pur_pick_yes rfl rfl (rfl)) rfl (cM rfl rfl ?_); refine lw_on rfl rfl rfl (gb_tt (by assumption)) ?_; refine lw_pure (pur_fieldAddr tabOk rfl rfl rfl) rfl ?_; refine lw_on rfl rfl rfl (gb_tt (by assumption)) ?_; refine lw_loads_b' [_, _, _, _] tabOk rfl rfl rfl ha18 rfl rfl rfl ?_; refine lw_on rfl rfl rfl (gb_tt (by assumption)) ?_; refine cC (by kernel_rfl) rfl (isBlock_main g _ _ _ _ _ _ hw (by assumption)) rfl ?_; rintro _ wa26 ⟨⟨⟩, xa25⟩; have za27 := xa25.size; replace ha18 := ha18.ext xa25; replace ha10 := PG.sits.ext ha10 xa25; replace hS := hS.ext xa25; replace hE := hE.ext xa25; replace X := X.ext xa25; clear xa25; refine lw_pure (pur_pick_t rfl rfl (by assumption)) rfl ?_; refine cA rfl rfl (cT (cw_ret (qw_ret1 rfl rfl ?_))); rotate_left 1
     exact ⟨by rw [hb], X⟩
   · obtain ⟨hz, h1, h2⟩ := hbad he
     clear hok hbad hwf; obtain ⟨g, off, err⟩ := r; simp only at he hz h1 h2; subst hz; refine calls_in Tryz.func7 Tryz.ntmps7 rfl rfl ?_
     focus
      refine cS (cA rfl rfl (cT (cw_seq (cS ?_)))); refine cC (by kernel_rfl) rfl (awake4_c _ (by assumption) (by assumption)) rfl ?_; rintro _ wb2 ⟨⟨⟩, xb1⟩; have zb3 := xb1.size; replace hS := hS.ext xb1; replace hE := hE.ext xb1; replace X := X.ext xb1; clear xb1; refine lw_pure (pur_not rfl) rfl (cM rfl rfl (lw_on rfl rfl rfl (rfl) (cM rfl rfl (lw_on rfl rfl rfl (rfl) (lw_pure (pur_len_s tabOk rfl rfl) rfl (lw_on rfl rfl rfl (rfl) (lw_pure (pur_gtr rfl rfl) rfl (lw_pure (pur_pick_f rfl rfl rfl) rfl (cT ?_))))))))); refine cw_no rfl (by omega) ?_; refine cw_skip (qw_then (cS (cM rfl rfl ?_))); refine cR (by kernel_rfl) rfl (H1.out _ (by assumption) (by assumption)) (fun _ _ h => h.ret) rfl ?_; rintro _ wb12 ⟨vab4, ⟨vcb5, ⟨pab6, ⟨pcb7, ⟨mab8, ⟨mcb9, ⟨⟨⟩, ⟨hb10, xb11⟩⟩⟩⟩⟩⟩⟩⟩; have zb13 := xb11.size; replace hS := hS.ext xb11; replace hE := hE.ext xb11; replace X := X.ext xb11; clear xb11; refine cM rfl rfl (lw_pure (pur_extract rfl rfl) rfl (lw_pure (pur_extract rfl rfl) rfl (lw_pure (pur_extract rfl rfl) rfl ?_))); (refine lw_alloc' [_, _, _, _, _, _] zOk rfl rfl ?_; intro bb14 wb15 nb16); (refine lw_init' [_, _, _, _, _, _] tabOk rfl rfl rfl rfl rfl rfl nb16 rfl ?_; clear nb16; clear wb15; intro wb17 nb16); have hb18 := nb16.blk; dsimp only at hb18; have xb19 := nb16.ext; have pb20 := nb16.pos; have zb21 := nb16.size; clear nb16; replace hb10 := PG.sits.ext hb10 xb19; replace hS := hS.ext xb19; replace hE := hE.ext xb19; replace X := X.ext xb19; clear xb19; refine cA rfl rfl (cA rfl rfl (cT (cw_seq (cS (cM rfl rfl (lw_pure (pur_neq rfl rfl) rfl (cT ?_)))))))
      refine cw_yes rfl (by assumption) ?_; refine cS (cM rfl rfl (lw_pure (pur_geq rfl rfl) rfl (cM rfl rfl ?_))); refine lw_on rfl rfl rfl (gd_tt (by assumption)) ?_; refine cM rfl rfl ?_; refine lw_on rfl rfl rfl (gd_tt (by assumption)) ?_; refine cM rfl rfl ?_; refine lw_on rfl rfl rfl (gd_tt (by assumption)) ?_; refine lw_pure (pur_len_s tabOk rfl rfl) rfl ?_; refine lw_on rfl rfl rfl (gd_tt (by assumption)) ?_; refine lw_pure (pur_leq rfl rfl) rfl ?_; refine lw_pure (pur_pick_yes rfl rfl (by assumption)) rfl ?_; refine cM rfl rfl ?_; refine lw_on rfl rfl rfl (gd_tt (by assumption)) ?_; refine lw_loads_b' [_, _, _, _, _, _] tabOk rfl rfl rfl hb18 rfl rfl rfl ?_; refine lw_on rfl rfl rfl (gd_tt (by assumption)) ?_; refine lw_pure (pur_build' [_, _, _, _, _, _] tabOk zOk rfl rfl rfl rfl) rfl ?_; refine lw_on rfl rfl rfl (gd_tt (by assumption)) ?_; refine cC (by kernel_rfl) rfl (Same_z _ _ _ _ _ _ _ _ (by assumption)) rfl ?_; rintro _ wb23 ⟨⟨⟩, xb22⟩; have zb24 := xb22.size; replace hb18 := hb18.ext xb22; replace hb10 := PG.sits.ext hb10 xb22; replace hS := hS.ext xb22; replace hE := hE.ext xb22; replace X := X.ext xb22; clear xb22; refine lw_pure (pur_pick_yes rfl rfl (by assumption)) rfl ?_; refine cA rfl rfl (cT (cw_ret (qw_then_ret (qw_ret1 rfl rfl ?_)))); rotate_left 1
     exact ⟨rfl, X⟩
end Bk
namespace Bk
open Go Go.RowKit Go.Proofs Go.Lib
theorem cells_of_strs {H : Type} {enc : TypeId × Value → H} {P : Program} {w : World} {base : Nat} {sp : Nat → Bool} {held : Bool} {fuel : Nat} {t e : TypeId} {n : Nat} {cs : List Value} {zs : List (List UInt8)} {p : List MemPlace}
 (ht : P.underlying t = some (.array n e)) (he : P.underlying e = some .string) (hce : P.cellsOf e = 1) (hct : P.cellsOf t = n)
 (h : DataW.trod enc P w base sp held fuel t cs = some (.agg (zs.map fun z => .lit (.string z)), p)) : cs = zs.map str := by
 cases fuel with
 | zero => simp [DataW.trod] at h
 | succ fuel =>
  simp only [DataW.trod, ht, hce, hct, Nat.mul_one] at h
  split at h
  · rename_i hl
    obtain ⟨xs, hm, hx⟩ := Option.map_eq_some_iff.1 h
    have hxs : xs.map (·.1) = zs.map fun z => (DataW.lit (.string z) : DataW H) := by
     have := congrArg Prod.fst hx
     simpa using this
    have hxl : xs.length = n := by simpa using mapM_length hm
    have hzl : zs.length = n := by
     have := congrArg List.length hxs
     simp at this
     omega
    apply List.ext_getElem?
    intro i
    by_cases hi : i < n
    · obtain ⟨b, hb, hf⟩ := mapM_at hm i i (by simp [hi])
      obtain ⟨z, hc, rfl, _⟩ := DataW.trod_string he hf
      have h1 : cs[i]? = some (.string z) := by
       have := congrArg (·[0]?) hc
       simpa [List.getElem?_take, List.getElem?_drop] using this
      have h2 : (xs.map (·.1))[i]? = some (DataW.lit (.string z.data.toList) : DataW H) := by simp [hb]
      rw [hxs] at h2; simp only [List.getElem?_map, Option.map_eq_some_iff, DataW.lit.injEq, Lit.string.injEq] at h2; obtain ⟨z', hz', rfl⟩ := h2
      simp [h1, hz']
    · rw [List.getElem?_eq_none (by omega), List.getElem?_eq_none (by simp; omega)]
  · cases h
end Bk
namespace Bk
open Go Go.RowKit Go.Proofs Go.Lib
theorem gSym4 : Tryz.prog.globalNamed "backstep/arith.symbols" = some 0 := by kernel_rfl
theorem gSymT4 : (Tryz.prog.globals[0]?).map (·.type) = some 120 := by kernel_rfl
theorem uSymT4 : Tryz.prog.underlying 120 = some (.array 43 9) := by kernel_rfl
theorem cSymT4 : Tryz.prog.cellsOf 120 = 43 := by kernel_rfl
theorem uStr4 : Tryz.prog.underlying 9 = some .string := by kernel_rfl
theorem cStr4 : Tryz.prog.cellsOf 9 = 1 := by kernel_rfl
theorem gErr4 : Tryz.prog.globalNamed "strconv.ErrRange" = some 3 := by kernel_rfl
theorem gErrT4 : (Tryz.prog.globals[3]?).map (·.type) = some 129 := by kernel_rfl
theorem uErr4 : ∃ ms, Tryz.prog.underlying 129 = some (.interface ms) := ⟨_, Tryz.underlying129⟩
theorem symData4 : (YtihgojmblldifaaGreatDoor.Rows.laid_backstep_arith_symbols : DataW Unit) = .agg (symbols.map fun z => .lit (.string z)) := rfl
abbrev laid4 : List (String × DataW Unit) := [("backstep/arith.symbols", YtihgojmblldifaaGreatDoor.Rows.laid_backstep_arith_symbols), ("math/bits.deBruijn32tab", YtihgojmblldifaaGreatDoor.Rows.laid_math_bits_deBruijn32tab), ("math/bits.deBruijn64tab", YtihgojmblldifaaGreatDoor.Rows.laid_math_bits_deBruijn64tab), ("internal/strconv.uint64pow10", YtihgojmblldifaaGreatDoor.Rows.laid_internal_strconv_uint64pow10), ("strconv.ErrRange", YtihgojmblldifaaGreatDoor.Rows.laid_strconv_ErrRange), ("strconv.ErrSyntax", YtihgojmblldifaaGreatDoor.Rows.laid_strconv_ErrSyntax)]
theorem syms_of_laid {W : World} (h : laidMetH Tryz.prog laid4 W) : Syms W ∧ Errs W := by
 have h' : laidMet Tryz.prog laid4 W := h; obtain ⟨ps, ⟨g1, t1, cs1, f1, p1, q1, hg1, ht1, hv1, hd1, ⟨g2, t2, cs2, f2, p2, q2, hg2, ht2, hv2, hd2, ⟨g3, t3, cs3, f3, p3, q3, hg3, ht3, hv3, hd3, ⟨g4, t4, cs4, f4, p4, q4, hg4, ht4, hv4, hd4, ⟨g5, t5, cs5, f5, p5, q5, hg5, ht5, hv5, hd5, -, -⟩, -⟩, -⟩, -⟩, -⟩, -⟩ := h'; obtain rfl := Option.some.inj (gSym4.symm.trans hg1); obtain rfl := Option.some.inj (gSymT4.symm.trans ht1); obtain rfl := Option.some.inj (gErr4.symm.trans hg5); obtain rfl := Option.some.inj (gErrT4.symm.trans ht5); rw [symData4] at hd1; have e1 := cells_of_strs uSymT4 uStr4 cStr4 cSymT4 hd1; refine ⟨⟨fun i hi => ?_⟩, ?_⟩
 · rw [World.var?_cell gSym4 hv1 i, ← Array.getElem?_toList, e1, List.getElem?_map]
   have : symbols[i]? = some (symbols.getD i []) := by
    rw [List.getD_eq_getElem?_getD, List.getElem?_eq_getElem (show i < symbols.length from hi)]; rfl
   rw [this]; rfl
 · obtain ⟨ms, hu⟩ := uErr4
   obtain ⟨f, u, v, hc, -, -⟩ := iface_of_trod hu hd5; refine ⟨⟨u, v, ?_⟩⟩; rw [World.var?_cell gErr4 hv5 0, ← Array.getElem?_toList, hc]
   rfl
end Bk
