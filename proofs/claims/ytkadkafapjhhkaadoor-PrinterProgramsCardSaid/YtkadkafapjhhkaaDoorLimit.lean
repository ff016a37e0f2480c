/- Contracts of ast.limited and isBody. -/
import Derived.Test.YtkadkafapjhhkaaDoorDecl
import Derived.Test.YtkadkafapjhhkaaDoorRefStmt
namespace Bk
open Go Go.RowKit Go.Proofs
mutual
/-- ast.limited: whether the tree is within the depth d and the m nodes that are left, and how many are left then. -/
def Nd.lim : Nd → Int → Int → Bool × Int
  | .mk _ _ _ l, d, m => if d = 0 ∨ m = 0 then (false, m) else rowLim l (d - 1) (m - 1)
def rowLim : List Nd → Int → Int → Bool × Int
  | [], _, m => (true, m)
  | t :: r, d, m => if (t.lim d m).1 then rowLim r d (t.lim d m).2 else (false, (t.lim d m).2)
end
mutual
theorem lim_le : ∀ (t : Nd) (d m : Int), 0 ≤ m → 0 ≤ (t.lim d m).2 ∧ (t.lim d m).2 ≤ m
  | .mk _ _ s l, d, m, hm => by
    simp only [Nd.lim]
    split
    · exact ⟨hm, Int.le_refl _⟩
    · have := rowLim_le l (d - 1) (m - 1) (by omega)
      omega
theorem rowLim_le : ∀ (l : List Nd) (d m : Int), 0 ≤ m → 0 ≤ (rowLim l d m).2 ∧ (rowLim l d m).2 ≤ m
  | [], d, m, hm => by simp only [rowLim]; omega
  | t :: r, d, m, hm => by
    have h1 := lim_le t d m hm
    simp only [rowLim]
    split
    · have := rowLim_le r d (t.lim d m).2 h1.1
      omega
    · omega
end
theorem rowLim_drop (l : List Nd) (j : Nat) (h : j < l.length) (d m : Int) : rowLim (l.drop j) d m = if (l[j].lim d m).1 then rowLim (l.drop (j + 1)) d (l[j].lim d m).2 else (false, (l[j].lim d m).2) := by
  rw [List.drop_eq_getElem_cons h, rowLim]
theorem Blk.row4 {w : World} {b : Nat} {vs : List Value} (h : Blk w b vs) : Row w ⟨b, 0, none⟩ vs := h.row
set_option maxRecDepth 100000 in
set_option maxHeartbeats 1000000 in
theorem limited_c (N : Nat) : ∀ (t : Nd) (S : Nat → Prop) (a : Option Addr) (c : Nat) (d m : Int) (lb : Nat) (w : World), t.size < N → t.wf → 0 ≤ d → d ≤ 1000000 → 0 ≤ m → m ≤ 1000000 → t.sits S w a → ¬ S lb → Blk w lb [.int .i64 m] →
    Calls Tryd.prog 57 #[t.val a c, .int .i64 d, .pointer (some ⟨lb, 0, none⟩)] w fun e w' => e = .returned (.bool (t.lim d m).1) ∧ Blk w' lb [.int .i64 (t.lim d m).2] ∧ Fr (· = lb) w w' := by
  induction N with
  | zero => intro t S a c d m lb w h; omega
  | succ N ih =>
    intro t S a c d m lb w hN hwf hd0 hd1 hm0 hm1 hs hS hb
    have IH := Lib.hid ih; clear ih
    obtain ⟨k, n, s, l⟩ := t
    simp only [Nd.wf, Nd.size] at hwf hN
    simp only [Nd.val, Nd.kind, Nd.num, Nd.name, Nd.kids, Nd.lim]
    simp only [Nd.sits] at hs
    obtain ⟨-, -, -, -, -, hll, hrw⟩ := hwf
    have hlbw := hb.lt
    by_cases hq : d = 0 ∨ m = 0
    · rw [if_pos hq]
      refine calls_in Tryd.func57 Tryd.ntmps57 rfl rfl ?_
      (refine cw_seq ?_; refine cw_region ?_)
      refine lw_box rfl rfl rfl ?_
      intro b1 w1 hn1
      have h1 := hn1.blk
      have x1 := hn1.ext
      have hb1 := hb.ext x1
      by_cases hd : d = 0
      · ((refine lw_is ?_; refine lw_pure (by exact pur_assign rfl) rfl ?_); refine lw_nil ?_; refine qw_then ?_; refine cw_seq ?_; refine cw_seq ?_; refine cw_region ?_; (refine lw_is ?_; refine lw_pure (by exact pur_move rfl) rfl ?_); (refine lw_is ?_; refine lw_pure (by exact pur_eql rfl rfl) rfl ?_); (refine lw_is ?_; refine lw_pure (by exact pur_move rfl) rfl ?_); (refine lw_isg ?_; refine lw_off_yes rfl rfl rfl (by assumption) rfl ?_); (refine lw_isg ?_; refine lw_off_yes rfl rfl rfl (by assumption) rfl ?_); (refine lw_isg ?_; refine lw_off_yes rfl rfl rfl (by assumption) rfl ?_); (refine lw_isg ?_; refine lw_off_yes rfl rfl rfl (by assumption) rfl ?_); (refine lw_is ?_; refine lw_pure (by exact pur_pick_yes rfl rfl (by assumption)) rfl ?_); refine lw_nil ?_; refine qw_then ?_; (refine cw_is ?_; refine cw_bt rfl (by rfl) ?_); refine cw_seq ?_; refine cw_region ?_; (refine lw_is ?_; refine lw_pure (by exact pur_assign rfl) rfl ?_); refine lw_nil ?_; refine qw_then ?_; refine cw_ret ?_; refine qw_then_ret ?_)
        refine qw_ret1 Tryd.results57 rfl ?_
        exact ⟨rfl, hb1, .of_ext x1⟩
      · have hm : m = 0 := by omega
        ((refine lw_is ?_; refine lw_pure (by exact pur_assign rfl) rfl ?_); refine lw_nil ?_; refine qw_then ?_; refine cw_seq ?_; refine cw_seq ?_; refine cw_region ?_; (refine lw_is ?_; refine lw_pure (by exact pur_move rfl) rfl ?_); (refine lw_is ?_; refine lw_pure (by exact pur_eql rfl rfl) rfl ?_); (refine lw_is ?_; refine lw_pure (by exact pur_move rfl) rfl ?_); (refine lw_isg ?_; refine lw_on_no rfl rfl rfl (by assumption) ?_); (refine lw_is ?_; refine lw_pure (by exact pur_move rfl) rfl ?_); (refine lw_isg ?_; refine lw_on_no rfl rfl rfl (by assumption) ?_); (refine lw_is ?_; refine lw_pure (by exact pur_nilCheck rfl) rfl ?_); (refine lw_isg ?_; refine lw_on_no rfl rfl rfl (by assumption) ?_); (refine lw_is ?_; refine lw_pure (by exact pur_load tabOk rfl rfl rfl (by exact fun wz hz => by (try subst hz); exact (Blk.cell (by assumption) (by rfl)))) rfl ?_); (refine lw_isg ?_; refine lw_on_no rfl rfl rfl (by assumption) ?_); (refine lw_is ?_; refine lw_pure (by exact pur_eql rfl rfl) rfl ?_); (refine lw_is ?_; refine lw_pure (by exact pur_pick_no rfl rfl (by assumption)) rfl ?_); refine lw_nil ?_; refine qw_then ?_; (refine cw_is ?_; refine cw_yes rfl (by assumption) ?_); refine cw_seq ?_; refine cw_region ?_; (refine lw_is ?_; refine lw_pure (by exact pur_assign rfl) rfl ?_); refine lw_nil ?_; refine qw_then ?_; refine cw_ret ?_; refine qw_then_ret ?_)
        refine qw_ret1 Tryd.results57 rfl ?_
        exact ⟨rfl, hb1, .of_ext x1⟩
    · rw [if_neg hq]
      have hd : d ≠ 0 := fun e => hq (Or.inl e)
      have hm : m ≠ 0 := fun e => hq (Or.inr e)
      clear hq
      refine calls_in Tryd.func57 Tryd.ntmps57 rfl rfl ?_
      (refine cw_seq ?_; refine cw_region ?_)
      refine lw_box rfl rfl rfl ?_
      intro b1 w1 hn1
      have h1 := hn1.blk
      have x1 := hn1.ext
      have p1 := hn1.pos
      have hb1 := hb.ext x1
      have hs1 := hs.ext x1
      ((refine lw_is ?_; refine lw_pure (by exact pur_assign rfl) rfl ?_); refine lw_nil ?_; refine qw_then ?_; refine cw_seq ?_; refine cw_seq ?_; refine cw_region ?_; (refine lw_is ?_; refine lw_pure (by exact pur_move rfl) rfl ?_); (refine lw_is ?_; refine lw_pure (by exact pur_eql rfl rfl) rfl ?_); (refine lw_is ?_; refine lw_pure (by exact pur_move rfl) rfl ?_); (refine lw_isg ?_; refine lw_on_no rfl rfl rfl (by assumption) ?_); (refine lw_is ?_; refine lw_pure (by exact pur_move rfl) rfl ?_); (refine lw_isg ?_; refine lw_on_no rfl rfl rfl (by assumption) ?_); (refine lw_is ?_; refine lw_pure (by exact pur_nilCheck rfl) rfl ?_); (refine lw_isg ?_; refine lw_on_no rfl rfl rfl (by assumption) ?_); (refine lw_is ?_; refine lw_pure (by exact pur_load tabOk rfl rfl rfl (by exact fun wz hz => by (try subst hz); exact (Blk.cell (by assumption) (by rfl)))) rfl ?_); (refine lw_isg ?_; refine lw_on_no rfl rfl rfl (by assumption) ?_); (refine lw_is ?_; refine lw_pure (by exact pur_eql rfl rfl) rfl ?_); (refine lw_is ?_; refine lw_pure (by exact pur_pick_no rfl rfl (by assumption)) rfl ?_); refine lw_nil ?_; refine qw_then ?_; (refine cw_is ?_; refine cw_no rfl (by assumption) ?_); refine cw_skip ?_; refine qw_then ?_; refine cw_seq ?_; refine cw_region ?_; (refine lw_is ?_; refine lw_pure (by exact pur_move rfl) rfl ?_); (refine lw_is ?_; refine lw_pure (by exact pur_nilCheck rfl) rfl ?_); (refine lw_is ?_; refine lw_pure (by exact pur_load tabOk rfl rfl rfl (by exact fun wz hz => by (try subst hz); exact (Blk.cell (by assumption) (by rfl)))) rfl ?_); (refine lw_is ?_; refine lw_pure (by exact pur_sub rfl rfl (IntWalk.i64_in _ (by omega))) rfl ?_); (refine lw_is ?_; refine lw_pure (by exact pur_nilCheck rfl) rfl ?_))
      refine lw_store tabOk rfl rfl rfl rfl rfl rfl (hb1) rfl ?_
      intro w2 hp2
      have hb2 : Blk w2 lb [.int .i64 (m - 1)] := hp2.blk
      have h2 := h1.put hp2 (by omega)
      have hs2 : rowSits S w2 l a := hs1.fr hp2.fr (fun b hb e => hS (e ▸ hb))
      have f2 : Fr (· = lb) w w2 := (Fr.of_ext x1).trans hp2.fr
      have hz2 : w2.heap.size = b1 + 1 := by rw [hp2.size, hn1.size]
      clear hp2 hn1
      have HS2 := Lib.hid hs2; clear hs2
      (refine lw_nil ?_; refine qw_then ?_; refine cw_seq ?_; refine cw_seq ?_; refine cw_region ?_; (refine lw_is ?_; refine lw_pure (by exact pur_fieldAddr tabOk rfl rfl rfl) rfl ?_); (refine lw_is ?_; refine lw_pure (by exact pur_load tabOk rfl rfl rfl (by exact fun wz hz => by (try subst hz); exact (Blk.cell (by assumption) (by rfl)))) rfl ?_); (refine lw_is ?_; refine lw_pure (by exact pur_len_slice tabOk rfl rfl) rfl ?_); (refine lw_is ?_; refine lw_pure (by exact pur_move rfl) rfl ?_); refine lw_nil ?_; refine qw_then ?_; refine cw_block ?_)
      refine cw_loop (ι := Nat) (fun x => [(25, .int .i64 x), (24, .int .i64 l.length), (23, .slice a l.length c), (2, .pointer (some ⟨lb, 0, none⟩)), (1, .int .i64 d)]) (fun x w' => Fr (· = lb) w2 w' ∧ x ≤ l.length ∧ ∃ mj, Blk w' lb [.int .i64 mj] ∧ 0 ≤ mj ∧ mj ≤ 1000000 ∧ rowLim l (d - 1) (m - 1) = rowLim (l.drop x) (d - 1) mj) (fun x => l.length - x) 0 (by (refine sub_cons rfl ?_; refine sub_cons rfl ?_; refine sub_cons rfl ?_; refine sub_cons rfl ?_; refine sub_cons rfl ?_; exact sub_nil)) ⟨Fr.refl _ _, Nat.zero_le _, m - 1, hb2, by omega, by omega, rfl⟩ ?_
      rintro j w3 ⟨f3, hj, mj, hb3, hmj0, hmj1, hrl⟩
      have HR := Lib.hid hrl; clear hrl
      by_cases hlt : j < l.length
      · have hs3 : rowSits S w3 l a := HS2.out.fr f3 (fun b hb e => hS (e ▸ hb))
        obtain ⟨kb, ko, rfl, hkS, hkid⟩ := kidRows hs3 (by intro e; subst e; simp at hlt)
        obtain ⟨xa, xc, rx, sx⟩ := hkid j l[j] (List.getElem?_eq_getElem hlt)
        have hxw := rowWf_get hrw l[j] (List.getElem_mem hlt)
        have hxs := size_mem (List.getElem_mem hlt)
        have HD := Lib.hid (rowLim_drop l j hlt (d - 1) mj)
        clear hkid
        generalize l[j] = x at *
        have hml := lim_le x (d - 1) mj hmj0
        (refine cw_seq ?_; refine cw_region ?_; (refine lw_is ?_; refine lw_pure (by exact pur_lss rfl rfl) rfl ?_); refine lw_nil ?_; refine qw_then ?_; refine cw_seq ?_; (refine cw_is ?_; refine cw_yes rfl (by omega) ?_); refine cw_skip ?_; refine qw_then ?_; refine cw_seq ?_; refine cw_block ?_; refine cw_seq ?_; refine cw_region ?_; (refine lw_is ?_; refine lw_pure (by exact pur_indexAddr tabOk rfl rfl rfl rfl (by omega) (by omega)) rfl ?_); (refine lw_is ?_; refine lw_pure (by exact pur_loads' tabOk rfl rfl rfl (by exact fun wz hz => by (try subst hz); exact (by assumption)) (by rfl)) rfl ?_))
        refine lw_alloc zOk rfl rfl ?_
        intro b4 w4 hn4
        refine lw_init tabOk rfl rfl rfl rfl rfl rfl (hn4) rfl ?_
        clear hn4 w4
        intro w4 hn4
        have h4 := hn4.blk
        have x4 := hn4.ext
        have hb4 := hb3.ext x4
        (refine lw_nil ?_; refine qw_then ?_; refine cw_seq ?_; refine cw_region ?_; (refine lw_is ?_; refine lw_pure (by exact pur_loads' tabOk rfl rfl rfl (by exact fun wz hz => by (try subst hz); exact (Blk.row (by assumption))) (by rfl)) rfl ?_); (refine lw_is ?_; refine lw_pure (by exact pur_move rfl) rfl ?_); (refine lw_is ?_; refine lw_pure (by exact pur_sub rfl rfl (IntWalk.i64_in _ (by omega))) rfl ?_); (refine lw_is ?_; refine lw_pure (by exact pur_move rfl) rfl ?_))
        refine lw_does (does_call (by kernel_rfl) rfl (IH.out x S xa xc (d - 1) mj lb _ (by omega) hxw (by omega) (by omega) hmj0 hmj1 (sx.ext x4) hS hb4) (fun _ _ h => ⟨_, h.1⟩)) rfl ?_ (fun _ h => h)
        rintro _ w5 ⟨⟨⟩, hb5, f5⟩
        have f35 : Fr (· = lb) w2 w5 := f3.trans ((Fr.of_ext x4).trans f5)
        cases hq : (x.lim (d - 1) mj).1
        · try rw [hq]
          ((refine lw_is ?_; refine lw_pure (by exact pur_not rfl) rfl ?_); refine lw_nil ?_; refine qw_then ?_; (refine cw_is ?_; refine cw_bt rfl (by rfl) ?_); refine cw_seq ?_; refine cw_region ?_; (refine lw_is ?_; refine lw_pure (by exact pur_assign rfl) rfl ?_); refine lw_nil ?_; refine qw_then ?_; refine cw_ret ?_; refine qw_block_ret ?_; refine qw_then_ret ?_; refine qw_then_ret ?_; refine qw_block_ret ?_; refine qw_then_ret ?_)
          refine qw_ret1 Tryd.results57 rfl ?_
          rw [HR.out, HD.out, hq]
          exact ⟨rfl, hb5, f2.trans f35⟩
        · try rw [hq]
          ((refine lw_is ?_; refine lw_pure (by exact pur_not rfl) rfl ?_); refine lw_nil ?_; refine qw_then ?_; (refine cw_is ?_; refine cw_bf rfl (by rfl) ?_); refine cw_skip ?_; refine qw_block_norm ?_; refine qw_then ?_; refine cw_region ?_; (refine lw_is ?_; refine lw_pure (by exact pur_add rfl rfl (IntWalk.i64_in _ (by omega))) rfl ?_); (refine lw_is ?_; refine lw_pure (by exact pur_move rfl) rfl ?_); refine lw_nil ?_)
          refine qw_round (j + 1) (by (refine sub_cons rfl ?_; refine sub_cons rfl ?_; refine sub_cons rfl ?_; refine sub_cons rfl ?_; refine sub_cons rfl ?_; exact sub_nil)) ⟨f35, by omega, (x.lim (d - 1) mj).2, hb5, hml.1, by omega, ?_⟩ (by omega)
          rw [HR.out, HD.out, hq]; rfl
      · (refine cw_seq ?_; refine cw_region ?_; (refine lw_is ?_; refine lw_pure (by exact pur_lss rfl rfl) rfl ?_); refine lw_nil ?_; refine qw_then ?_; refine cw_seq ?_; (refine cw_is ?_; refine cw_no rfl (by omega) ?_); refine cw_exit ?_; refine qw_then_exit ?_; refine qw_then_exit ?_; refine qw_block_exit ?_; refine qw_then ?_; refine cw_seq ?_; refine cw_region ?_; (refine lw_is ?_; refine lw_pure (by exact pur_assign rfl) rfl ?_); refine lw_nil ?_; refine qw_then ?_; refine cw_ret ?_)
        refine qw_ret1 Tryd.results57 rfl ?_
        have : l.drop j = [] := List.drop_eq_nil_of_le (by omega)
        rw [HR.out, this]
        exact ⟨rfl, hb3, f2.trans f3⟩
theorem Ext.fr1 {a b c : World} {lb : Nat} (h : Ext a b) (k : Fr (· = lb) b c) (hl : a.heap.size ≤ lb) : Ext a c :=
  ⟨k.os.trans (Below.os h), k.tape.trans (Below.tape h), k.output.trans (Below.output h), Nat.le_trans h.size k.size, fun i hi => (k.block i (Nat.lt_of_lt_of_le hi h.size) (by omega)).trans (h.block hi)⟩
def bodyOk (t : Nd) : Bool := (t.lim 80 2000).1 && t.isBlock
theorem sits_lt' {S : Nat → Prop} {w : World} (t : Nd) (a : Option Addr) (h : t.sits S w a) : t.sits (fun b => S b ∧ b < w.heap.size) w a := by
  have key : ∀ N : Nat, (∀ (l : List Nd) (a : Option Addr), rowSize l < N → rowSits S w l a → rowSits (fun b => S b ∧ b < w.heap.size) w l a) := by
    intro N
    induction N with
    | zero => intro l a h; omega
    | succ N ih =>
      intro l a hN h
      cases l with
      | nil => simp [rowSits]
      | cons x r =>
        simp only [rowSits] at h ⊢
        obtain ⟨b, o, a', c, rfl, hS, h0, h1, h2, h3, hs, hr⟩ := h
        have hb := cell_lt h0
        simp only [rowSize] at hN
        have hx := Nd.size_pos x
        obtain ⟨k, n, s, l⟩ := x
        simp only [Nd.size] at hN
        refine ⟨b, o, a', c, rfl, ⟨hS, hb⟩, h0, h1, h2, h3, ?_, ih r _ (by omega) hr⟩
        simp only [Nd.sits] at hs ⊢
        exact ih l a' (by omega) hs
  obtain ⟨k, n, s, l⟩ := t
  simp only [Nd.sits] at h ⊢
  exact key (rowSize l + 1) l a (by omega) h
set_option maxRecDepth 100000 in
set_option maxHeartbeats 1000000 in
theorem isBody_c (t : Nd) (S : Nat → Prop) (a : Option Addr) (c : Nat) (w : World) (hwf : t.wf) (hs : t.sits S w a) :
    Calls Tryd.prog 41 #[t.val a c] w fun e w' => e = .returned (.bool (bodyOk t)) ∧ Ext w w' := by
  have hsl := sits_lt' t a hs
  refine calls_in Tryd.func41 Tryd.ntmps41 rfl rfl ?_
  (refine cw_seq ?_; refine cw_region ?_)
  refine lw_box rfl rfl rfl ?_
  intro b1 w1 hn1
  have h1 := hn1.blk
  have x1 := hn1.ext
  have p1 := hn1.pos
  have z1 := hn1.size
  ((refine lw_is ?_; refine lw_pure (by exact pur_assign rfl) rfl ?_); refine lw_nil ?_; refine qw_then ?_; refine cw_seq ?_; refine cw_region ?_)
  refine lw_alloc zOk rfl rfl ?_
  intro b2 w2 hn2
  refine lw_init tabOk rfl rfl rfl rfl rfl rfl (hn2) rfl ?_
  clear hn2 w2
  intro w2 hn2
  have x2 := hn2.ext
  have h2 := h1.ext x2
  have b2p := hn2.pos
  (refine lw_nil ?_; refine qw_then ?_; refine cw_seq ?_; refine cw_region ?_; (refine lw_is ?_; refine lw_pure (by exact pur_loads' tabOk rfl rfl rfl (by exact fun wz hz => by (try subst hz); exact (Blk.row (by assumption))) (by rfl)) rfl ?_))
  refine lw_does (does_call (by kernel_rfl) rfl (limited_c (t.size + 1) t _ a c 80 2000 b2 _ (by omega) hwf (by omega) (by omega) (by omega) (by omega) (hsl.ext (by refine Ext.trans ?_ (by assumption); assumption)) (fun h => by omega) hn2.blk) (fun _ _ h => ⟨_, h.1⟩)) rfl ?_ (fun _ h => h)
  rintro _ w3 ⟨⟨⟩, -, f3⟩
  have x3 : Ext w w3 := Ext.fr1 (b := w2) (by refine Ext.trans ?_ (by assumption); assumption) f3 (by omega)
  have h3 := h2.fr f3 (by omega)
  cases hq : (t.lim 80 2000).1
  · try rw [hq]
    ((refine lw_is ?_; refine lw_pure (by exact pur_move rfl) rfl ?_); (refine lw_isg ?_; refine lw_off rfl rfl rfl (by rfl) rfl ?_); (refine lw_isg ?_; refine lw_off rfl rfl rfl (by rfl) rfl ?_); (refine lw_is ?_; refine lw_pure (by exact pur_pick_f rfl rfl (by rfl)) rfl ?_); (refine lw_is ?_; refine lw_pure (by exact pur_assign rfl) rfl ?_); refine lw_nil ?_; refine qw_then ?_; refine cw_ret ?_)
    refine qw_ret1 Tryd.results41 rfl ?_
    exact ⟨ret_bool (by simp [bodyOk, hq]), x3⟩
  · try rw [hq]
    ((refine lw_is ?_; refine lw_pure (by exact pur_move rfl) rfl ?_); (refine lw_isg ?_; refine lw_on rfl rfl rfl (by rfl) ?_); (refine lw_is ?_; refine lw_pure (by exact pur_loads' tabOk rfl rfl rfl (by exact fun wz hz => by (try subst hz); exact (Blk.row (by assumption))) (by rfl)) rfl ?_); (refine lw_isg ?_; refine lw_on rfl rfl rfl (by rfl) ?_))
    refine lw_does (does_call (by kernel_rfl) rfl (IsBlock_t S t hwf a c _ (hs.ext x3)) (fun _ _ h => ⟨_, h.1⟩)) rfl ?_ (fun _ h => h)
    rintro _ w4 ⟨⟨⟩, x4⟩
    ((refine lw_is ?_; refine lw_pure (by exact pur_pick_t rfl rfl (by rfl)) rfl ?_); (refine lw_is ?_; refine lw_pure (by exact pur_assign rfl) rfl ?_); refine lw_nil ?_; refine qw_then ?_; refine cw_ret ?_)
    refine qw_ret1 Tryd.results41 rfl ?_
    exact ⟨ret_bool (by simp [bodyOk, hq]), x3.trans x4⟩
end Bk
