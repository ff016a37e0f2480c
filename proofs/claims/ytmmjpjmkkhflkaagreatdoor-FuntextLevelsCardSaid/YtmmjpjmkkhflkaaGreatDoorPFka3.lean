/- Texts that the proofs of FuntextBack, FuntextLevels need. No condition. (Part 3 of 7.) -/
import Derived.Test.YtmmjpjmkkhflkaaGreatDoorPFka2
set_option linter.unusedSimpArgs false
set_option linter.unusedVariables false
namespace Bk
open Go Go.RowKit Go.Proofs
attribute [local irreducible] Go.Calls
theorem retb {a b : Bool} {w w' : World} (h : a = b) (x : Ext w w') : Ending.returned (.bool a) = Ending.returned (.bool b) ∧ Ext w w' := ⟨by rw [h], x⟩
set_option maxRecDepth 100000 in
set_option maxHeartbeats 8000000 in
theorem form_c (k n : Int) (s : List UInt8) (a : Option Addr) (m c : Nat) (w : World) (hs : s.length ≤ 9223372036854775807) (hm : m ≤ 9223372036854775807) :
 Calls Tryz.prog 99 #[.agg #[.int .u8 k, .int .i64 n, str s, .slice a m c]] w fun e w' => e = .returned (.bool (formN k n s m)) ∧ Ext w w' := by
 have X := Ext.refl w; refine calls_in Tryz.func99 Tryz.ntmps99 rfl rfl ?_
 focus
  refine cS ?_; (refine lw_box' [_, _, _, _] rfl rfl rfl ?_; intro b1 w2 n3); have h4 := n3.blk; have x5 := n3.ext; have p6 := n3.pos; have z7 := n3.size; clear n3; replace X := X.ext x5; clear x5; refine cA rfl rfl (cN (lw_pure (pur_fieldAddr tabOk rfl rfl rfl) rfl (lw_load_b tabOk rfl rfl rfl h4 rfl rfl (lw_pure (pur_len_slice tabOk rfl rfl) rfl (cA rfl rfl (cT (cw_seq (cS (lw_pure (pur_fieldAddr0 tabOk rfl rfl rfl) rfl (lw_load_b tabOk rfl rfl rfl h4 rfl rfl (cT ?_))))))))))); refine cw_block (cS (lw_pure (pur_eql rfl rfl) rfl (cA rfl rfl (cT ?_)))); refine cw_dec rfl (fun c8 => ?_) (fun c8 => ?_); refine cS (lw_pure (pur_fieldAddr tabOk rfl rfl rfl) rfl (lw_load_b tabOk rfl rfl rfl h4 rfl rfl (lw_pure (pur_geq rfl rfl) rfl (cM rfl rfl ?_)))); refine lw_dec rfl rfl rfl (fun c9 => ?_) (fun c9 => ?_); refine lw_on rfl rfl rfl (gd_tt (by assumption)) ?_; refine lw_pure (pur_fieldAddr tabOk rfl rfl rfl) rfl ?_; refine lw_on rfl rfl rfl (gd_tt (by assumption)) ?_; refine lw_load_b tabOk rfl rfl rfl h4 rfl rfl ?_; refine lw_on rfl rfl rfl (gd_tt (by assumption)) ?_; refine lw_pure (pur_seql rfl rfl) rfl ?_; refine lw_pure (pur_pick_yes rfl rfl (by assumption)) rfl ?_; refine cM rfl rfl ?_; refine lw_dec rfl rfl rfl (fun c10 => ?_) (fun c10 => ?_); refine lw_on rfl rfl rfl (gd_tt (by assumption)) ?_; refine cM rfl rfl ?_; refine lw_on rfl rfl rfl (gd_tt (by assumption)) ?_; refine lw_pure (pur_eql rfl rfl) rfl ?_; refine lw_pure (pur_pick_yes rfl rfl (by assumption)) rfl ?_; refine cA rfl rfl (cT (cw_ret (qw_block_ret (qw_then_ret (qw_ret1 rfl rfl ?_)))))
  rotate_left 1; refine lw_off rfl rfl rfl (gd_tf (by assumption)) rfl ?_; refine lw_off rfl rfl rfl (gd_tf (by assumption)) rfl ?_; refine lw_pure (pur_pick_no rfl rfl (by assumption)) rfl ?_; refine cA rfl rfl (cT (cw_ret (qw_block_ret (qw_then_ret (qw_ret1 rfl rfl ?_))))); rotate_left 1; refine lw_off rfl rfl rfl (gd_tf (by assumption)) rfl ?_; refine lw_off rfl rfl rfl (gd_tf (by assumption)) rfl ?_; refine lw_off rfl rfl rfl (gd_tf (by assumption)) rfl ?_; refine lw_pure (pur_pick_no rfl rfl (by assumption)) rfl ?_; refine cM rfl rfl (lw_off rfl rfl rfl (rfl) rfl (lw_off rfl rfl rfl (rfl) rfl (lw_pure (pur_pick_f rfl rfl rfl) rfl (cA rfl rfl (cT (cw_ret (qw_block_ret (qw_then_ret (qw_ret1 rfl rfl ?_))))))))); rotate_left 1; refine cS (lw_pure (pur_eql rfl rfl) rfl (cA rfl rfl (cT ?_))); refine cw_dec rfl (fun c11 => ?_) (fun c11 => ?_); refine cS (lw_pure (pur_fieldAddr tabOk rfl rfl rfl) rfl (lw_load_b tabOk rfl rfl rfl h4 rfl rfl (lw_pure (pur_eql rfl rfl) rfl (cM rfl rfl ?_)))); refine lw_dec rfl rfl rfl (fun c12 => ?_) (fun c12 => ?_); refine lw_on rfl rfl rfl (gd_tt (by assumption)) ?_; refine cM rfl rfl ?_; refine lw_on rfl rfl rfl (gd_tt (by assumption)) ?_; refine lw_pure (pur_eql rfl rfl) rfl ?_; refine lw_pure (pur_pick_yes rfl rfl (by assumption)) rfl ?_; refine cA rfl rfl (cT (cw_ret (qw_block_ret (qw_then_ret (qw_ret1 rfl rfl ?_))))); rotate_left 1; refine lw_off rfl rfl rfl (gd_tf (by assumption)) rfl ?_; refine lw_off rfl rfl rfl (gd_tf (by assumption)) rfl ?_
  refine lw_pure (pur_pick_no rfl rfl (by assumption)) rfl ?_; refine cA rfl rfl (cT (cw_ret (qw_block_ret (qw_then_ret (qw_ret1 rfl rfl ?_))))); rotate_left 1; refine cS (lw_pure (pur_eql rfl rfl) rfl (cA rfl rfl (cT ?_))); refine cw_dec rfl (fun c13 => ?_) (fun c13 => ?_); refine cS (lw_pure (pur_fieldAddr tabOk rfl rfl rfl) rfl (lw_load_b tabOk rfl rfl rfl h4 rfl rfl (lw_pure (pur_geq rfl rfl) rfl (cM rfl rfl ?_)))); refine lw_dec rfl rfl rfl (fun c14 => ?_) (fun c14 => ?_); refine lw_on rfl rfl rfl (gd_tt (by assumption)) ?_; refine lw_pure (pur_fieldAddr tabOk rfl rfl rfl) rfl ?_; refine lw_on rfl rfl rfl (gd_tt (by assumption)) ?_; refine lw_load_b tabOk rfl rfl rfl h4 rfl rfl ?_; refine lw_on rfl rfl rfl (gd_tt (by assumption)) ?_; refine lw_pure (pur_leq rfl rfl) rfl ?_; refine lw_pure (pur_pick_yes rfl rfl (by assumption)) rfl ?_; refine cM rfl rfl ?_; refine lw_dec rfl rfl rfl (fun c15 => ?_) (fun c15 => ?_); refine lw_on rfl rfl rfl (gd_tt (by assumption)) ?_; refine lw_pure (pur_fieldAddr tabOk rfl rfl rfl) rfl ?_; refine lw_on rfl rfl rfl (gd_tt (by assumption)) ?_; refine lw_load_b tabOk rfl rfl rfl h4 rfl rfl ?_; refine lw_on rfl rfl rfl (gd_tt (by assumption)) ?_; refine lw_pure (pur_seql rfl rfl) rfl ?_; refine lw_pure (pur_pick_yes rfl rfl (by assumption)) rfl ?_; refine cM rfl rfl ?_; refine lw_dec rfl rfl rfl (fun c16 => ?_) (fun c16 => ?_); refine lw_on rfl rfl rfl (gd_tt (by assumption)) ?_; refine cM rfl rfl ?_; refine lw_on rfl rfl rfl (gd_tt (by assumption)) ?_
  refine lw_pure (pur_eql rfl rfl) rfl ?_; refine lw_pure (pur_pick_yes rfl rfl (by assumption)) rfl ?_; refine cA rfl rfl (cT (cw_ret (qw_block_ret (qw_then_ret (qw_ret1 rfl rfl ?_))))); rotate_left 1; refine lw_off rfl rfl rfl (gd_tf (by assumption)) rfl ?_; refine lw_off rfl rfl rfl (gd_tf (by assumption)) rfl ?_; refine lw_pure (pur_pick_no rfl rfl (by assumption)) rfl ?_; refine cA rfl rfl (cT (cw_ret (qw_block_ret (qw_then_ret (qw_ret1 rfl rfl ?_))))); rotate_left 1; refine lw_off rfl rfl rfl (gd_tf (by assumption)) rfl ?_; refine lw_off rfl rfl rfl (gd_tf (by assumption)) rfl ?_; refine lw_off rfl rfl rfl (gd_tf (by assumption)) rfl ?_; refine lw_pure (pur_pick_no rfl rfl (by assumption)) rfl ?_; refine cM rfl rfl (lw_off rfl rfl rfl (rfl) rfl (lw_off rfl rfl rfl (rfl) rfl (lw_pure (pur_pick_f rfl rfl rfl) rfl (cA rfl rfl (cT (cw_ret (qw_block_ret (qw_then_ret (qw_ret1 rfl rfl ?_))))))))); rotate_left 1; refine lw_off rfl rfl rfl (gd_tf (by assumption)) rfl ?_; refine lw_off rfl rfl rfl (gd_tf (by assumption)) rfl ?_; refine lw_off rfl rfl rfl (gd_tf (by assumption)) rfl ?_; refine lw_pure (pur_pick_no rfl rfl (by assumption)) rfl ?_; refine cM rfl rfl (lw_off rfl rfl rfl (rfl) rfl (lw_off rfl rfl rfl (rfl) rfl (lw_off rfl rfl rfl (rfl) rfl (lw_pure (pur_pick_f rfl rfl rfl) rfl (cM rfl rfl (lw_off rfl rfl rfl (rfl) rfl (lw_off rfl rfl rfl (rfl) rfl (lw_pure (pur_pick_f rfl rfl rfl) rfl (cA rfl rfl (cT (cw_ret ?_))))))))))); refine qw_block_ret (qw_then_ret (qw_ret1 rfl rfl ?_))
  rotate_left 1; refine cS (lw_pure (pur_eql rfl rfl) rfl (cA rfl rfl (cT ?_))); refine cw_dec rfl (fun c17 => ?_) (fun c17 => ?_); refine cS (lw_pure (pur_fieldAddr tabOk rfl rfl rfl) rfl (lw_load_b tabOk rfl rfl rfl h4 rfl rfl (lw_pure (pur_eql rfl rfl) rfl (cM rfl rfl ?_)))); refine lw_dec rfl rfl rfl (fun c18 => ?_) (fun c18 => ?_); refine lw_on rfl rfl rfl (gd_tt (by assumption)) ?_; refine lw_pure (pur_fieldAddr tabOk rfl rfl rfl) rfl ?_; refine lw_on rfl rfl rfl (gd_tt (by assumption)) ?_; refine lw_load_b tabOk rfl rfl rfl h4 rfl rfl ?_; refine lw_on rfl rfl rfl (gd_tt (by assumption)) ?_; refine cC (by kernel_rfl) rfl (funIsName_c _ _ (by omega)) rfl ?_; rintro _ w20 ⟨⟨⟩, x19⟩; have z21 := x19.size; replace h4 := h4.ext x19; replace X := X.ext x19; clear x19; refine lw_pure (pur_pick_yes rfl rfl (by assumption)) rfl ?_; refine cM rfl rfl ?_; refine lw_bool rfl rfl rfl (fun c22 => ?_) (fun c22 => ?_); refine lw_on rfl rfl rfl (gb_tt (by assumption)) ?_; refine cM rfl rfl ?_; refine lw_on rfl rfl rfl (gb_tt (by assumption)) ?_; refine lw_pure (pur_eql rfl rfl) rfl ?_; refine lw_pure (pur_pick_t rfl rfl (by assumption)) rfl ?_; refine cA rfl rfl (cT (cw_ret (qw_block_ret (qw_then_ret (qw_ret1 rfl rfl ?_))))); rotate_left 1; refine lw_off rfl rfl rfl (gb_tf (by assumption)) rfl ?_; refine lw_off rfl rfl rfl (gb_tf (by assumption)) rfl ?_; refine lw_pure (pur_pick_f rfl rfl (by assumption)) rfl ?_; refine cA rfl rfl (cT (cw_ret (qw_block_ret (qw_then_ret (qw_ret1 rfl rfl ?_)))))
  rotate_left 1; refine lw_off rfl rfl rfl (gd_tf (by assumption)) rfl ?_; refine lw_off rfl rfl rfl (gd_tf (by assumption)) rfl ?_; refine lw_off rfl rfl rfl (gd_tf (by assumption)) rfl ?_; refine lw_pure (pur_pick_no rfl rfl (by assumption)) rfl ?_; refine cM rfl rfl (lw_off rfl rfl rfl (rfl) rfl (lw_off rfl rfl rfl (rfl) rfl (lw_pure (pur_pick_f rfl rfl rfl) rfl (cA rfl rfl (cT (cw_ret (qw_block_ret (qw_then_ret (qw_ret1 rfl rfl ?_))))))))); rotate_left 1; refine cS (lw_pure (pur_eql rfl rfl) rfl (cA rfl rfl (cT ?_))); refine cw_dec rfl (fun c23 => ?_) (fun c23 => ?_); refine cS (lw_pure (pur_fieldAddr tabOk rfl rfl rfl) rfl (lw_load_b tabOk rfl rfl rfl h4 rfl rfl (lw_pure (pur_eql rfl rfl) rfl (cA rfl rfl (cT (cw_ret (qw_block_ret (qw_then_ret (qw_ret1 rfl rfl ?_))))))))); rotate_left 1; refine cw_skip (qw_block_norm (qw_then (cw_seq (cS (lw_pure (pur_fieldAddr tabOk rfl rfl rfl) rfl (lw_load_b tabOk rfl rfl rfl h4 rfl rfl (lw_pure (pur_neq rfl rfl) rfl (cM rfl rfl ?_)))))))); refine lw_dec rfl rfl rfl (fun c24 => ?_) (fun c24 => ?_); refine lw_off rfl rfl rfl (gd_ft (by assumption)) rfl ?_; refine lw_off rfl rfl rfl (gd_ft (by assumption)) rfl ?_; refine lw_off rfl rfl rfl (gd_ft (by assumption)) rfl ?_; refine lw_pure (pur_pick_yes rfl rfl (by assumption)) rfl ?_; refine cT (cw_cond_t rfl (cS (cA rfl rfl (cT (cw_ret (qw_then_ret (qw_ret1 rfl rfl ?_))))))); rotate_left 1; refine lw_on rfl rfl rfl (gd_ff (by assumption)) ?_; refine lw_pure (pur_fieldAddr tabOk rfl rfl rfl) rfl ?_
  refine lw_on rfl rfl rfl (gd_ff (by assumption)) ?_; refine lw_load_b tabOk rfl rfl rfl h4 rfl rfl ?_; refine lw_on rfl rfl rfl (gd_ff (by assumption)) ?_; refine lw_pure (pur_sneq rfl rfl) rfl ?_; refine lw_pure (pur_pick_no rfl rfl (by assumption)) rfl ?_; refine cT ?_; refine cw_decn rfl (fun c25 => ?_) (fun c25 => ?_); refine cS (cA rfl rfl (cT (cw_ret (qw_then_ret (qw_ret1 rfl rfl ?_))))); rotate_left 1; refine cw_skip (qw_then (cw_seq (cS (lw_pure (pur_fieldAddr0 tabOk rfl rfl rfl) rfl (lw_load_b tabOk rfl rfl rfl h4 rfl rfl (cT (cw_block (cS (lw_pure (pur_eql rfl rfl) rfl (cA rfl rfl (cT ?_))))))))))); refine cw_dec rfl (fun c26 => ?_) (fun c26 => ?_); refine cS (cM rfl rfl (lw_pure (pur_eql rfl rfl) rfl (cA rfl rfl (cT (cw_ret (qw_block_ret (qw_then_ret (qw_ret1 rfl rfl ?_)))))))); rotate_left 1; refine cw_seq (cS (lw_pure (pur_eql rfl rfl) rfl (cA rfl rfl (cT ?_)))); refine cw_dec rfl (fun c27 => ?_) (fun c27 => ?_); refine cw_skip (qw_then ?_); refine cw_yes rfl (by assumption) ?_; refine cS (cM rfl rfl (lw_pure (pur_eql rfl rfl) rfl (cA rfl rfl (cT (cw_ret (qw_block_ret (qw_then_ret (qw_ret1 rfl rfl ?_)))))))); rotate_left 1; refine cS (lw_pure (pur_eql rfl rfl) rfl (cA rfl rfl (cT ?_))); refine cw_dec rfl (fun c28 => ?_) (fun c28 => ?_); refine cw_skip (qw_then ?_); refine cw_yes rfl (by assumption) ?_; refine cS (cM rfl rfl (lw_pure (pur_eql rfl rfl) rfl (cA rfl rfl (cT (cw_ret (qw_block_ret (qw_then_ret (qw_ret1 rfl rfl ?_)))))))); rotate_left 1; refine cw_region (lw_pure (pur_eql rfl rfl) rfl (cA rfl rfl (cT ?_)))
  refine cw_dec rfl (fun c29 => ?_) (fun c29 => ?_); refine cS (cM rfl rfl (lw_pure (pur_eql rfl rfl) rfl (cA rfl rfl (cT (cw_ret (qw_block_ret (qw_then_ret (qw_ret1 rfl rfl ?_)))))))); rotate_left 1; refine cS (lw_pure (pur_eql rfl rfl) rfl (cA rfl rfl (cT ?_))); refine cw_dec rfl (fun c30 => ?_) (fun c30 => ?_); refine cS (cM rfl rfl (lw_pure (pur_eql rfl rfl) rfl (cA rfl rfl (cT (cw_ret (qw_block_ret (qw_then_ret (qw_ret1 rfl rfl ?_)))))))); rotate_left 1; refine cS (lw_pure (pur_eql rfl rfl) rfl (cA rfl rfl (cT ?_))); refine cw_dec rfl (fun c31 => ?_) (fun c31 => ?_); refine cS (cM rfl rfl (lw_pure (pur_eql rfl rfl) rfl (cA rfl rfl (cT (cw_ret (qw_block_ret (qw_then_ret (qw_ret1 rfl rfl ?_)))))))); rotate_left 1; refine cw_skip (qw_block_norm (qw_then (cS (cA rfl rfl (cT (cw_ret (qw_ret1 rfl rfl ?_))))))); rotate_left 1
 all_goals (refine retb ?_ X; unfold formN; (try subst_vars); simp [*] <;> first | omega | (rw [Bool.eq_iff_iff]; simp only [decide_eq_true_eq, beq_iff_eq, Bool.and_eq_true]; done) | (rw [Bool.eq_iff_iff]; simp only [decide_eq_true_eq, beq_iff_eq, Bool.and_eq_true]; omega))
theorem rowWf_iffF {l : List Nd} : rowWf l ↔ ∀ x ∈ l, x.wf := by
 induction l with
 | nil => simp [rowWf]
 | cons a r ih => simp [rowWf, ih]
theorem rowFormed_take {l : List Nd} {j : Nat} (hj : j < l.length) (h : rowFormed (l.take j) = true) (hc : (l[j]).formed = true) : rowFormed (l.take (j + 1)) = true := by
 have key : ∀ a b : List Nd, rowFormed (a ++ b) = (rowFormed a && rowFormed b) := by
  intro a b
  induction a with
  | nil => simp [rowFormed]
  | cons x r ih => simp only [List.cons_append, rowFormed, ih, Bool.and_assoc]
 rw [List.take_succ_eq_append_getElem hj, key, h]
 simp [rowFormed, hc]
theorem rowFormed_not {l : List Nd} {x : Nd} (h : x ∈ l) (hc : x.formed = false) : rowFormed l = false := by
 induction l with
 | nil => cases h
 | cons y r ih =>
  simp only [rowFormed]
  rcases List.mem_cons.1 h with rfl | h
  · simp [hc]
  · simp [ih h]
set_option maxRecDepth 100000 in
set_option maxHeartbeats 4000000 in
theorem formed_c (N : Nat) : ∀ (t : Nd) (S : Nat → Prop) (a : Option Addr) (c : Nat) (w : World), t.size < N → t.size ≤ 1000000000 → t.wf → t.sits S w a →
 Calls Tryz.prog 72 #[t.val a c] w fun e w' => e = .returned (.bool t.formed) ∧ Ext w w' := by
 induction N with
 | zero => intro t S a c w h; omega
 | succ N ih =>
  rintro ⟨k, n, s, l⟩ S a c w hN hM hwf hs
  have IH := Lib.hid ih; clear ih
  simp only [Nd.sits] at hs; simp only [Nd.size] at hN hM; have hwfl := hwf; simp only [Nd.wf] at hwfl; obtain ⟨-, -, -, -, q1, q2, q3⟩ := hwfl; have HW := Lib.hid (rowWf_iffF.1 q3); clear q3 hwf; have X := Ext.refl w; have hl := length_rowSize l; have HFm := Lib.hid (fun (w : World) => form_c k n s a l.length c w q1 q2)
  by_cases hf : formN k n s l.length = true
  · rw [hf] at HFm
    rw [show (Nd.mk k n s l).formed = rowFormed l from by simp [Nd.formed, hf]]; clear hf; refine calls_in Tryz.func72 Tryz.ntmps72 rfl rfl ?_
    focus
     refine cS ?_; (refine lw_box' [_, _, _, _] rfl rfl rfl ?_; intro b1 w2 n3); have h4 := n3.blk; have x5 := n3.ext; have p6 := n3.pos; have z7 := n3.size; clear n3; replace hs := Bk.rowSits.ext hs x5; replace X := X.ext x5; clear x5; refine cA rfl rfl (cT (cw_seq (cS (lw_loads_b' [_, _, _, _] tabOk rfl rfl rfl h4 rfl rfl rfl ?_)))); refine cC (by kernel_rfl) rfl (HFm.out _) rfl ?_; rintro _ w9 ⟨⟨⟩, x8⟩; have z10 := x8.size; replace h4 := h4.ext x8; replace hs := Bk.rowSits.ext hs x8; replace X := X.ext x8; clear x8; refine lw_pure (pur_not rfl) rfl (cT (cw_cond_f rfl (cw_skip (qw_then (cw_seq (cS (lw_pure (pur_fieldAddr tabOk rfl rfl rfl) rfl (lw_load_b tabOk rfl rfl rfl h4 rfl rfl (lw_pure (pur_len_slice tabOk rfl rfl) rfl (cM rfl rfl (cT ?_))))))))))); refine cw_block ?_; rotate_left 1
    refine cw_loop (ι := Nat) (fun j => [(1, .pointer (some ⟨b1, 0, none⟩)), (9, .slice a l.length c), (10, .int .i64 l.length), (11, .int .i64 j)]) (fun j w' => rowSits S w' l a ∧ Ext w w' ∧ j ≤ l.length ∧ rowFormed (l.take j) = true) (fun j => l.length - j) 0 (by (refine sub_cons rfl ?_; refine sub_cons rfl ?_; refine sub_cons rfl ?_; refine sub_cons rfl ?_; exact sub_nil)) ⟨hs, X, Nat.zero_le _, by simp [rowFormed]⟩ ?_; clear hs X h4; rintro j w1 ⟨hs, X, hj, hn⟩; have HN := Lib.hid hn; clear hn
    by_cases hlt : j < l.length
    · obtain ⟨kb, ko, rfl, hkS, hkid⟩ := kidRows hs (by intro e; subst e; simp at hlt)
      obtain ⟨xa, xc, rx, sx⟩ := hkid j l[j] (List.getElem?_eq_getElem hlt); have hsz := size_mem (List.getElem_mem hlt); have hxw := HW.out _ (List.getElem_mem hlt); have hnx := Lib.hid (rowFormed_take hlt HN.out); have hnt := Lib.hid (rowFormed_not (List.getElem_mem hlt)); clear hkid HN
      generalize l[j] = x at *
      have HX := Lib.hid (fun (S : Nat → Prop) (a : Option Addr) (c : Nat) (w : World) (hs : x.sits S w a) => IH.out x S a c w (by omega) (by omega) hxw hs); clear hxw
      by_cases hx : x.formed = true
      · rw [hx] at HX
        have hq := Lib.hid (hnx.out hx); clear hnx hnt hx
        focus
         refine cS (lw_pure (pur_lss rfl rfl) rfl (cT (cw_seq ?_))); refine cw_yes rfl (by omega) ?_; refine cw_skip (qw_then (cw_seq (cw_block (cS ?_)))); refine lw_pure (pur_indexAddr tabOk rfl rfl rfl rfl (by omega) (by omega)) rfl ?_; refine lw_loads_r0 tabOk rfl rfl rfl rx rfl rfl ?_; (refine lw_alloc' [_, _, _, _] zOk rfl rfl ?_; intro ba1 wa2 na3); (refine lw_init' [_, _, _, _] tabOk rfl rfl rfl rfl rfl rfl na3 rfl ?_; clear na3; clear wa2; intro wa4 na3); have ha5 := na3.blk; have xa6 := na3.ext; have pa7 := na3.pos; have za8 := na3.size; clear na3; replace X := X.ext xa6; replace hs := Bk.rowSits.ext hs xa6; replace rx := rx.ext xa6; replace sx := Nd.sits.ext sx xa6; clear xa6; refine cN (lw_loads_b' [_, _, _, _] tabOk rfl rfl rfl ha5 rfl rfl rfl ?_); refine cC (by kernel_rfl) rfl (HX.out _ _ _ _ (by assumption)) rfl ?_; rintro _ wa10 ⟨⟨⟩, xa9⟩; have za11 := xa9.size; replace ha5 := ha5.ext xa9; replace X := X.ext xa9; replace hs := Bk.rowSits.ext hs xa9; replace rx := rx.ext xa9; replace sx := Nd.sits.ext sx xa9; clear xa9; refine lw_pure (pur_not rfl) rfl (cT (cw_cond_f rfl (cw_skip (qw_block_norm (qw_then (cw_region ?_)))))); refine lw_pure (pur_add rfl rfl (IntWalk.i64_in _ (by omega))) rfl ?_; refine cM rfl rfl (lw_nil ?_); rotate_left 1
        exact qw_round (j + 1) (by (refine sub_cons rfl ?_; refine sub_cons rfl ?_; refine sub_cons rfl ?_; refine sub_cons rfl ?_; exact sub_nil)) ⟨hs, X, by omega, hq.out⟩ (by omega)
      · have hx : x.formed = false := by simpa using hx
        rw [hx] at HX; have hq := Lib.hid (hnt.out hx); clear hnx hnt hx
        focus
         refine cS (lw_pure (pur_lss rfl rfl) rfl (cT (cw_seq ?_))); refine cw_yes rfl (by omega) ?_; refine cw_skip (qw_then (cw_seq (cw_block (cS ?_)))); refine lw_pure (pur_indexAddr tabOk rfl rfl rfl rfl (by omega) (by omega)) rfl ?_; refine lw_loads_r0 tabOk rfl rfl rfl rx rfl rfl ?_; (refine lw_alloc' [_, _, _, _] zOk rfl rfl ?_; intro bb1 wb2 nb3); (refine lw_init' [_, _, _, _] tabOk rfl rfl rfl rfl rfl rfl nb3 rfl ?_; clear nb3; clear wb2; intro wb4 nb3); have hb5 := nb3.blk; have xb6 := nb3.ext; have pb7 := nb3.pos; have zb8 := nb3.size; clear nb3; replace X := X.ext xb6; replace hs := Bk.rowSits.ext hs xb6; replace rx := rx.ext xb6; replace sx := Nd.sits.ext sx xb6; clear xb6; refine cN (lw_loads_b' [_, _, _, _] tabOk rfl rfl rfl hb5 rfl rfl rfl ?_); refine cC (by kernel_rfl) rfl (HX.out _ _ _ _ (by assumption)) rfl ?_; rintro _ wb10 ⟨⟨⟩, xb9⟩; have zb11 := xb9.size; replace hb5 := hb5.ext xb9; replace X := X.ext xb9; replace hs := Bk.rowSits.ext hs xb9; replace rx := rx.ext xb9; replace sx := Nd.sits.ext sx xb9; clear xb9; refine lw_pure (pur_not rfl) rfl (cT (cw_cond_t rfl (cS (cA rfl rfl (cT (cw_ret (qw_block_ret (qw_then_ret (qw_then_ret (qw_block_ret (qw_then_ret ?_))))))))))); refine qw_ret1 rfl rfl ?_; rotate_left 1
        exact retb hq.out.symm X
    · have hje : j = l.length := by omega
      subst hje; have hn := HN.out; rw [List.take_length] at hn; have hq := Lib.hid hn; clear hn HN
      focus
       refine cS (lw_pure (pur_lss rfl rfl) rfl (cT (cw_seq ?_))); refine cw_no rfl (by omega) ?_; refine cw_exit (qw_then_exit (qw_then_exit (qw_block_exit (qw_then (cS (cA rfl rfl (cT (cw_ret (qw_ret1 rfl rfl ?_))))))))); rotate_left 1
      exact retb hq.out.symm X
  · have hf : formN k n s l.length = false := by simpa using hf
    rw [hf] at HFm; rw [show (Nd.mk k n s l).formed = false from by simp [Nd.formed, hf]]; clear hf; refine calls_in Tryz.func72 Tryz.ntmps72 rfl rfl ?_
    focus
     refine cS ?_; (refine lw_box' [_, _, _, _] rfl rfl rfl ?_; intro bd1 wd2 nd3); have hd4 := nd3.blk; have xd5 := nd3.ext; have pd6 := nd3.pos; have zd7 := nd3.size; clear nd3; replace hs := Bk.rowSits.ext hs xd5; replace X := X.ext xd5; clear xd5; refine cA rfl rfl (cT (cw_seq (cS (lw_loads_b' [_, _, _, _] tabOk rfl rfl rfl hd4 rfl rfl rfl ?_)))); refine cC (by kernel_rfl) rfl (HFm.out _) rfl ?_; rintro _ wd9 ⟨⟨⟩, xd8⟩; have zd10 := xd8.size; replace hd4 := hd4.ext xd8; replace hs := Bk.rowSits.ext hs xd8; replace X := X.ext xd8; clear xd8; refine lw_pure (pur_not rfl) rfl (cT (cw_cond_t rfl (cS (cA rfl rfl (cT (cw_ret (qw_then_ret (qw_ret1 rfl rfl ?_)))))))); rotate_left 1
    exact ⟨rfl, X⟩
end Bk
namespace Bk
open Go
section
variable {ts : List Tok} {n : Int}
structure Le (ts : List Tok) (σ σ' : PS) : Prop where
 le : σ.at_ ≤ σ'.at_
 wf : σ'.at_ ≤ ts.length
 err : σ.err ≠ 0 → σ' = σ
def Lt (σ σ' : PS) : Prop := σ'.err = 0 → σ.at_ < σ'.at_
theorem Le.refl {σ : PS} (h : σ.at_ ≤ ts.length) : Le ts σ σ := ⟨Nat.le_refl _, h, fun _ => rfl⟩
theorem Le.trans {a b c : PS} (h : Le ts a b) (k : Le ts b c) : Le ts a c := ⟨Nat.le_trans h.le k.le, k.wf, fun e => by rw [k.err (by rw [h.err e]; exact e), h.err e]⟩
theorem Le.ok {a b : PS} (h : Le ts a b) (e : b.err = 0) : a.err = 0 := by
 rcases Int.lt_trichotomy a.err 0 with h' | h' | h'
 · have := h.err (by omega); rw [this] at e; exact e
 · exact h'
 · have := h.err (by omega); rw [this] at e; exact e
theorem Lt.of_lt {a b c : PS} (h : Lt a b) (k : Le ts b c) : Lt a c := fun e => Nat.lt_of_lt_of_le (h (k.ok e)) k.le
theorem Lt.of_le {a b c : PS} (h : Le ts a b) (k : Lt b c) : Lt a c := fun e => Nat.lt_of_le_of_lt h.le (k e)
theorem peek_err {σ : PS} (h : σ.err ≠ 0) : peekP ts σ = Tok.zero := by unfold peekP; rw [if_pos (Or.inl h)]
theorem peek_end {σ : PS} (h : σ.at_ = ts.length) : peekP ts σ = Tok.zero := by unfold peekP; rw [if_pos (Or.inr h)]
theorem peek_in {σ : PS} (hw : σ.at_ ≤ ts.length) (h : (peekP ts σ).text ≠ [] ∨ (peekP ts σ).kind ≠ 0) : σ.err = 0 ∧ σ.at_ < ts.length := by
 by_cases h1 : σ.err = 0
 · by_cases h2 : σ.at_ = ts.length
   · rw [peek_end h2] at h; simp [Tok.zero] at h
   · exact ⟨h1, by omega⟩
 · rw [peek_err h1] at h; simp [Tok.zero] at h
theorem has_in {σ : PS} {t : List UInt8} (hw : σ.at_ ≤ ts.length) (h : hasP ts σ t = true) (ht : t ≠ []) : σ.err = 0 ∧ σ.at_ < ts.length := by
 unfold hasP at h
 have := of_decide_eq_true h
 exact peek_in hw (Or.inl (by rw [this]; exact ht))
theorem next_le {σ : PS} (h : σ.err = 0 ∧ σ.at_ < ts.length) : Le ts σ (nextP σ) := ⟨Nat.le_succ _, h.2, fun e => absurd h.1 e⟩
theorem next_lt {σ : PS} : Lt σ (nextP σ) := fun _ => Nat.lt_succ_self _
theorem fail_le {σ : PS} (h : σ.at_ ≤ ts.length) (off e : Int) : Le ts σ (failP σ off e) := by
 unfold failP
 split
 · rename_i h0; exact ⟨Nat.le_refl _, h, fun e => absurd h0 e⟩
 · exact Le.refl h
theorem fail_err {σ : PS} {off e : Int} (he : e ≠ 0) : (failP σ off e).err ≠ 0 := by
 unfold failP
 split
 · exact he
 · assumption
theorem unexp_le {σ : PS} (h : σ.at_ ≤ ts.length) : Le ts σ (unexpP ts n σ) := by
 unfold unexpP; split <;> exact fail_le h _ _
theorem unexp_err {σ : PS} : (unexpP ts n σ).err ≠ 0 := by
 unfold unexpP; split <;> exact fail_err (by decide)
theorem unexp_lt {σ : PS} : Lt σ (unexpP ts n σ) := fun e => absurd e unexp_err
theorem expect_le {σ : PS} {t : List UInt8} (h : σ.at_ ≤ ts.length) (ht : t ≠ []) : Le ts σ (expectP ts n σ t) := by
 unfold expectP
 split
 · rename_i hh; exact next_le (has_in h hh ht)
 · exact unexp_le h
theorem expect_lt {σ : PS} {t : List UInt8} : Lt σ (expectP ts n σ t) := by
 unfold expectP
 split
 · exact next_lt
 · exact unexp_lt
theorem isName_ne {s : List UInt8} (h : isName s = true) : s ≠ [] := by
 intro e; subst e; simp [isName] at h
theorem name_le {σ : PS} (h : σ.at_ ≤ ts.length) : Le ts σ (nameP ts n σ).2 := by
 unfold nameP
 split
 · rename_i hh; exact next_le (peek_in h (Or.inl (isName_ne hh)))
 · exact unexp_le h
theorem name_lt {σ : PS} : Lt σ (nameP ts n σ).2 := by
 unfold nameP
 split
 · exact next_lt
 · exact unexp_lt
theorem number_le {σ : PS} {a b : Int} (h : σ.at_ ≤ ts.length) : Le ts σ (numberP ts n a b σ).2 := by
 unfold numberP
 split
 · rename_i hh
   have hn := peek_in h (Or.inr (by rw [hh]; decide))
   split
   · exact next_le hn
   · exact (next_le hn).trans (fail_le (next_le hn).wf _ _)
 · exact unexp_le h
theorem number_lt {σ : PS} {a b : Int} : Lt σ (numberP ts n a b σ).2 := by
 unfold numberP
 split
 · split
   · exact next_lt
   · exact fun e => absurd e (fail_err (by decide))
 · exact unexp_lt
theorem binOf_ne {t : List UInt8} {op : Int} (h : binOf t = some op) : t ≠ [] ∧ 8 ≤ op ∧ op ≤ 23 ∧ symbol op = t := by
 unfold binOf at h
 have h1 := List.find?_some h; have h2 := List.mem_of_find?_eq_some h; have h3 := of_decide_eq_true h1; simp only [List.mem_cons, List.not_mem_nil, or_false] at h2; refine ⟨?_, by omega, by omega, h3⟩; rintro rfl
 rcases h2 with rfl | rfl | rfl | rfl | rfl | rfl | rfl | rfl | rfl | rfl | rfl | rfl | rfl | rfl | rfl | rfl <;> exact absurd h3 (by decide)
theorem expr_inv (k : Nat) : (∀ lv σ, σ.at_ ≤ ts.length → Le ts σ (exprP ts n k lv σ).2 ∧ (4 ≤ k → Lt σ (exprP ts n k lv σ).2)) ∧ (∀ lv x σ, σ.at_ ≤ ts.length → Le ts σ (climbP ts n k lv x σ).2) ∧
 (∀ σ, σ.at_ ≤ ts.length → Le ts σ (unaryP ts n k σ).2 ∧ (3 ≤ k → Lt σ (unaryP ts n k σ).2)) ∧ (∀ σ, σ.at_ ≤ ts.length → Le ts σ (primaryP ts n k σ).2 ∧ (2 ≤ k → Lt σ (primaryP ts n k σ).2)) ∧
 (∀ σ, σ.at_ ≤ ts.length → Le ts σ (placeP ts n k σ).2 ∧ (1 ≤ k → Lt σ (placeP ts n k σ).2)) := by
 induction k with
 | zero =>
  refine ⟨fun lv σ h => ⟨?_, fun h => by omega⟩, fun lv x σ h => ?_, fun σ h => ⟨?_, fun h => by omega⟩, fun σ h => ⟨?_, fun h => by omega⟩, fun σ h => ⟨?_, fun h => by omega⟩⟩
  · rw [exprP]; exact Le.refl h
  · rw [climbP]; exact Le.refl h
  · rw [unaryP]; exact Le.refl h
  · rw [primaryP]; exact Le.refl h
  · rw [placeP]; exact Le.refl h
 | succ k ih =>
  obtain ⟨iE, iC, iU, iP, iL⟩ := ih; refine ⟨fun lv σ h => ?_, fun lv x σ h => ?_, fun σ h => ?_, fun σ h => ?_, fun σ h => ?_⟩
  · rw [exprP]
    have hu := iU σ h; have hc := iC lv (unaryP ts n k σ).1 (unaryP ts n k σ).2 hu.1.wf
    exact ⟨hu.1.trans hc, fun hk => (hu.2 (by omega)).of_lt hc⟩
  · rw [climbP]
    split
    · exact Le.refl h
    · rename_i op hop
      obtain ⟨hne, -⟩ := binOf_ne hop; have hn := peek_in h (Or.inl hne)
      split
      · exact Le.refl h
      · have h1 := next_le hn
        have h2 := iE (level op + 1) (nextP σ) h1.wf
        exact (h1.trans h2.1).trans (iC _ _ _ h2.1.wf)
  · rw [unaryP]
    split
    · rename_i hh
      have hn := has_in h hh (by decide); have h1 := next_le hn; have h2 := iU (nextP σ) h1.wf
      exact ⟨h1.trans h2.1, fun _ => next_lt.of_lt h2.1⟩
    · split
      · rename_i hh
        have hn := has_in h hh (by decide); have h1 := next_le hn; have h2 := iU (nextP σ) h1.wf
        exact ⟨h1.trans h2.1, fun _ => next_lt.of_lt h2.1⟩
      · exact ⟨(iP σ h).1, fun hk => (iP σ h).2 (by omega)⟩
  · rw [primaryP]
    split
    · exact ⟨number_le h, fun _ => number_lt⟩
    · split
      · rename_i hh
        have hn := has_in h hh (by decide); have h1 := next_le hn; have h2 := h1.trans (expect_le (n := n) (t := [40]) h1.wf (by decide)); have h3 := h2.trans (name_le (n := n) h2.wf); have h4 := h3.trans (expect_le (n := n) (t := [41]) h3.wf (by decide))
        exact ⟨h4, fun _ => Lt.of_le (ts := ts) h3 expect_lt⟩
      · split
        · rename_i hh
          have hn := has_in h hh (by decide); have h1 := next_le hn; have h2 := h1.trans (expect_le (n := n) (t := [40]) h1.wf (by decide)); have h3 := h2.trans (name_le (n := n) h2.wf); have h4 := h3.trans (expect_le (n := n) (t := [41]) h3.wf (by decide))
          exact ⟨h4, fun _ => Lt.of_le (ts := ts) h3 expect_lt⟩
        · split
          · rename_i hh
            have hn := has_in h hh (by decide); have h1 := next_le hn; have h2 := h1.trans (iE 1 (nextP σ) h1.wf).1
            exact ⟨h2.trans (expect_le h2.wf (by decide)), fun _ => Lt.of_le (ts := ts) h2 expect_lt⟩
          · exact ⟨(iL σ h).1, fun hk => (iL σ h).2 (by omega)⟩
  · rw [placeP]
    have h0 := name_le (n := n) h
    split
    · rename_i hh
      have hn := has_in h0.wf hh (by decide); have h1 := h0.trans (next_le hn); have h2 := h1.trans (iE 1 _ h1.wf).1
      exact ⟨h2.trans (expect_le h2.wf (by decide)), fun _ => Lt.of_le (ts := ts) h2 expect_lt⟩
    · exact ⟨h0, fun _ => name_lt⟩
end
end Bk
namespace Bk
open Go Go.RowKit Go.Proofs
attribute [local irreducible] Go.Calls
structure PC where
 pb : Nat
 B : Nat
 ts : List Tok
 n : Int
 a : Option Addr
 cap : Nat
 r : Nat
abbrev Tok.cells (t : Tok) : List Value := [.int .u8 t.kind, str t.text, .int .i64 t.pos]
abbrev Tok.val (t : Tok) : Value := .agg #[.int .u8 t.kind, str t.text, .int .i64 t.pos]
def TokAt (w : World) (b o : Nat) (t : Tok) : Prop := Row w ⟨b, o, none⟩ t.cells
def binMap : List (List UInt8 × Value) := [8, 9, 10, 11, 12, 13, 14, 15, 16, 17, 18, 19, 20, 21, 22, 23].map fun k => (symbol k, .int .u8 k)
abbrev PC.cells (c : PC) (σ : PS) : List Value := [.slice c.a c.ts.length c.cap, .int .i64 σ.at_, .int .i64 c.n, .map (some c.r), .int .i64 σ.off, .int .i64 σ.err]
structure Errs (w : World) : Prop where
 ex : ∃ te pe, w.cell? ⟨6, 0, none⟩ = some (.iface te pe)
theorem Errs.ext {w w' : World} (h : Errs w) (x : Ext w w') : Errs w' := by
 obtain ⟨te, pe, h⟩ := h.ex
 exact ⟨te, pe, x.keep h⟩
theorem Errs.fr {S : Nat → Prop} {w w' : World} (h : Errs w) (x : Fr S w w') (hs : ¬ S 6) : Errs w' := by
 obtain ⟨te, pe, h⟩ := h.ex
 exact ⟨te, pe, x.keep hs h⟩
structure PP (c : PC) (σ : PS) (w : World) : Prop where
 blk : Blk w c.pb (c.cells σ)
 toks : Arr (fun b => b < c.B ∧ b ≠ c.pb) 3 TokAt w c.ts c.a
 map : MapIs w c.r binMap
 pbB : c.pb < c.B
 rB : c.r < c.B
 rne : c.r ≠ c.pb
 B : c.B ≤ w.heap.size
 at_ : σ.at_ ≤ c.ts.length
 len : c.ts.length ≤ 1000000
 tok : ∀ t ∈ c.ts, t.text.length ≤ 1000000
 num : ∀ t ∈ c.ts, t.kind = 2 → t.text ≠ [] ∧ ∀ x ∈ t.text, digit x = true
 errs : Errs w
 gl : 6 < c.pb
theorem PP.ext {c : PC} {σ : PS} {w w' : World} (h : PP c σ w) (x : Ext w w') : PP c σ w' :=
 ⟨h.blk.ext x, h.toks.mono (fun _ h => h) (fun _ _ _ _ _ h => Row.ext h x), h.map.ext x, h.pbB, h.rB, h.rne, Nat.le_trans h.B x.size, h.at_, h.len, h.tok, h.num, h.errs.ext x, h.gl⟩
theorem PP.fr {c : PC} {σ : PS} {S : Nat → Prop} {w w' : World} (h : PP c σ w) (x : Fr S w w') (hs : ∀ k, S k → c.B ≤ k) : PP c σ w' :=
 ⟨h.blk.fr x (fun e => by have := hs _ e; have := h.pbB; omega), h.toks.mono (fun _ h => h) (fun b _ _ _ hb h => Row.fr h x (fun e => by have h1 := hs _ e; have h2 := hb.1; have h3 : c.B ≤ b := h1; omega)), h.map.fr x (fun e => by have := hs _ e; have := h.rB; omega), h.pbB, h.rB, h.rne, Nat.le_trans h.B x.size, h.at_, h.len, h.tok, h.num, h.errs.fr x (fun e => by have := hs _ e; have := h.gl; have := h.pbB; omega), h.gl⟩
theorem PP.put {c : PC} {σ σ' : PS} {w w' : World} (h : PP c σ w) (p : Put w w' c.pb (c.cells σ')) (ha : σ'.at_ ≤ c.ts.length) : PP c σ' w' :=
 ⟨p.blk, h.toks.mono (fun _ h => h) (fun b _ _ _ hb h => Row.fr h p.fr (fun e => hb.2 e)), h.map.fr p.fr (fun e => h.rne e), h.pbB, h.rB, h.rne, Nat.le_trans h.B p.fr.size, ha, h.len, h.tok, h.num, h.errs.fr p.fr (fun e => by have := h.gl; have e' : 6 = c.pb := e; omega), h.gl⟩
section
variable {P : Program} {n : Nat} {ops : Array Oper} {Q : Exit → Act → World → Prop} {rest : List Oper} {l : Sl} {w : World} {tab : Tab} {ty : TypeId} {pos : String} {after : Array Edge}
end
theorem peek_off {ts : List Tok} {σ : PS} (h : σ.err ≠ 0 ∨ σ.at_ = ts.length) : peekP ts σ = Tok.zero := by unfold peekP; rw [if_pos h]
theorem peek_is {ts : List Tok} {σ : PS} (h : ¬ (σ.err ≠ 0 ∨ σ.at_ = ts.length)) (hl : σ.at_ < ts.length) : peekP ts σ = ts[σ.at_] := by unfold peekP; rw [if_neg h]; simp [hl]
end Bk
namespace Bk
open Go Go.RowKit Go.Proofs
theorem en_digit : ∀ args w, (callFunc 86 args).run Tryz.prog w = .ok (.enter 86 args) w := enters_of Tryz.func86 (by kernel_rfl) rfl
theorem en_blank : ∀ args w, (callFunc 87 args).run Tryz.prog w = .ok (.enter 87 args) w := enters_of Tryz.func87 (by kernel_rfl) rfl
theorem en_first1 : ∀ args w, (callFunc 85 args).run Tryz.prog w = .ok (.enter 85 args) w := enters_of Tryz.func85 (by kernel_rfl) rfl
theorem en_first2 : ∀ args w, (callFunc 88 args).run Tryz.prog w = .ok (.enter 88 args) w := enters_of Tryz.func88 (by kernel_rfl) rfl
theorem first_c (c : UInt8) (r : List UInt8) (w : World) (hs : (c :: r).length ≤ 9223372036854775807) :
 Calls Tryz.prog 57 #[str (c :: r)] w fun e w' => e = .returned (.tuple #[.int .u8 (firstTok (c :: r)).1, .int .i64 (firstTok (c :: r)).2]) ∧ w = w' := by
 have hf : firstTok (c :: r) = if letter c then (1, span wordish (c :: r)) else if digit c then (2, span digit (c :: r)) else if blank c then (4, span blank (c :: r)) else if c = 35 then (5, span notLf (c :: r)) else (3, signLen (c :: r)) := rfl
 have HF := Lib.hid hf; clear hf
 have HS := Lib.hid hs; simp only [List.length_cons] at hs
 go_enter Tryz.func57, Tryz.ntmps57
 go_wp2_with fail
 refine (letter_c c _).mono ?_; rintro e w1 ⟨rfl, rfl⟩
 cases hl : letter c
 · have HL := Lib.hid hl; clear hl
   simp only
   go_wp2_with fail
   refine (digit_c c _).mono ?_; rintro e w1 ⟨rfl, rfl⟩
   cases hd : digit c
   · have HD := Lib.hid hd; clear hd
     simp only
     go_wp2_with fail
     refine (blank_c c _).mono ?_; rintro e w1 ⟨rfl, rfl⟩
     cases hb : blank c
     · have HB := Lib.hid hb; clear hb
       simp only
       by_cases h35 : c = 35
       · have H35 := Lib.hid h35
         have e35 : (({ data := (c :: r).toArray } : ByteArray)[0]'(by simp [ByteArray.size])).toNat = 35 := by show c.toNat = 35; rw [h35]; rfl
         clear h35
         go_wp2_with fail
         refine (span_c 88 notLf notLf_c en_first2 _ _ HS.out).mono ?_; rintro e w1 ⟨rfl, rfl⟩; simp only
         go_wp2_with fail
         go_ret2
         rw [HF.out, HL.out, HD.out, HB.out, if_pos H35.out]; exact ⟨rfl, rfl⟩
       · have H35 := Lib.hid h35
         have e35 : ((({ data := (c :: r).toArray } : ByteArray)[0]'(by simp [ByteArray.size])).toNat : Int) ≠ 35 := by
          show (c.toNat : Int) ≠ 35
          intro h; apply h35; apply UInt8.toNat_inj.1; show c.toNat = 35; omega
         clear h35
         go_wp2_with fail
         refine (sign_c c r _ HS.out).mono ?_; rintro e w1 ⟨rfl, rfl⟩; simp only
         go_wp2_with fail
         go_ret2
         rw [HF.out, HL.out, HD.out, HB.out, if_neg H35.out]; exact ⟨rfl, rfl⟩
     · have HB := Lib.hid hb; clear hb
       simp only
       go_wp2_with fail
       refine (span_c 87 blank blank_c en_blank _ _ HS.out).mono ?_; rintro e w1 ⟨rfl, rfl⟩; simp only
       go_wp2_with fail
       go_ret2
       rw [HF.out, HL.out, HD.out, HB.out]; exact ⟨rfl, rfl⟩
   · have HD := Lib.hid hd; clear hd
     simp only
     go_wp2_with fail
     refine (span_c 86 digit digit_c en_digit _ _ HS.out).mono ?_; rintro e w1 ⟨rfl, rfl⟩; simp only
     go_wp2_with fail
     go_ret2
     rw [HF.out, HL.out, HD.out]; exact ⟨rfl, rfl⟩
 · have HL := Lib.hid hl; clear hl
   simp only
   go_wp2_with fail
   refine (span_c 85 wordish wordish_c en_first1 _ _ HS.out).mono ?_; rintro e w1 ⟨rfl, rfl⟩; simp only
   go_wp2_with fail
   go_ret2
   rw [HF.out, HL.out]; exact ⟨rfl, rfl⟩
theorem Name_c (s : List UInt8) (w : World) (hs : s.length ≤ 9223372036854775807) :
 Calls Tryz.prog 92 #[str s] w fun e w' => e = .returned (.bool (isName s)) ∧ Ext w w' := by
 cases s with
 | nil =>
  go_enter Tryz.func92, Tryz.ntmps92
  go_wp2_with fail
  go_ret
  exact ⟨rfl, Ext.refl _⟩
 | cons c r =>
  have hn : isName (c :: r) = (decide ((c :: r).length ≤ 16) && ((firstTok (c :: r)).1 == 1) && ((firstTok (c :: r)).2 == (c :: r).length) && !keyword (c :: r)) := by simp [isName]
  have HN := Lib.hid hn; clear hn
  have HS := Lib.hid hs; simp only [List.length_cons] at hs
  by_cases h16 : 16 < (c :: r).length
  · simp only [List.length_cons] at h16
    have d1 : decide ((16 : Int) < (r.length : Int) + 1) = true := by simp; omega
    have H16 := Lib.hid h16; clear h16
    go_enter Tryz.func92, Tryz.ntmps92
    go_wp2_with fail
    go_ret
    rw [HN.out]
    exact ⟨ret_bool (by have := H16.out; simp; omega), Ext.refl _⟩
  · simp only [List.length_cons] at h16
    have d1 : decide ((16 : Int) < (r.length : Int) + 1) = false := by simp; omega
    go_enter Tryz.func92, Tryz.ntmps92
    go_wp2_with fail
    refine (first_c c r _ HS.out).mono ?_; rintro e w1 ⟨rfl, rfl⟩
    generalize firstTok (c :: r) = ft at *
    obtain ⟨k, n⟩ := ft
    by_cases hk : k = 1
    · by_cases hl : n = (c :: r).length
      · subst hk hl
        simp only [List.length_cons]
        go_wp2_with fail
        refine (Keyword_c _ _ HS.out).mono ?_; rintro e w2 ⟨rfl, hx⟩; simp only
        go_wp2_with fail
        go_ret
        rw [HN.out]
        exact ⟨ret_bool (by simp; omega), hx⟩
      · subst hk
        have dl : ((n : Int) == (r.length : Int) + 1) = false := by simp only [List.length_cons] at hl; rw [beq_eq_false_iff_ne]; omega
        have HL := Lib.hid hl; clear hl
        simp only
        go_wp2_with fail
        go_ret
        rw [HN.out]
        exact ⟨ret_bool (by have := HL.out; simp at this ⊢; simp [this]), Ext.refl _⟩
    · have dk : ((k : Int) == 1) = false := by rw [beq_eq_false_iff_ne]; omega
      have HK := Lib.hid hk; clear hk
      simp only
      go_wp2_with fail
      go_ret
      rw [HN.out]
      exact ⟨ret_bool (by have := HK.out; simp [this]), Ext.refl _⟩
end Bk
namespace Bk
open Go Go.RowKit Go.Proofs
attribute [local irreducible] Go.Calls
def TreeR (c : PC) (w : World) (r : Nd × PS) : Ending → World → Prop := fun e w' => ∃ a k, e = .returned (r.1.val a k) ∧ r.1.sits (fun b => w.heap.size ≤ b ∧ b < w'.heap.size) w' a ∧ PP c r.2 w' ∧ Fr (· = c.pb) w w'
theorem TreeR.ret {c : PC} {w : World} {r : Nd × PS} {e : Ending} {w' : World} (h : TreeR c w r e w') : ∃ v, e = .returned v := by
 obtain ⟨_, _, h, -⟩ := h
 exact ⟨_, h⟩
end Bk
namespace Bk
open Go
section
variable {ts : List Tok} {n : Int}
def mS (ts : List Tok) (σ : PS) : Nat := if σ.err = 0 then ts.length - σ.at_ else 0
theorem mS_le {σ σ' : PS} (h : Le ts σ σ') : mS ts σ' ≤ mS ts σ := by
 unfold mS
 by_cases e' : σ'.err = 0
 · have := h.ok e'
   have := h.le
   rw [if_pos e', if_pos (by assumption)]; omega
 · rw [if_neg e']; omega
theorem mS_lt {σ σ' : PS} (h : Le ts σ σ') (k : Lt σ σ') : mS ts σ' + 1 ≤ mS ts σ ∨ mS ts σ' = 0 := by
 unfold mS
 by_cases e' : σ'.err = 0
 · have := h.ok e'
   have := k e'; have := h.wf
   rw [if_pos e', if_pos (by assumption)]; omega
 · rw [if_neg e']; exact Or.inr rfl
theorem mS_next {σ : PS} (h : σ.err = 0 ∧ σ.at_ < ts.length) : mS ts (nextP σ) + 1 = mS ts σ := by
 unfold mS nextP
 simp only [h.1, if_true]
 omega
theorem mS_pos {σ : PS} (h : σ.err = 0 ∧ σ.at_ < ts.length) : 1 ≤ mS ts σ := by have := mS_next h; omega
end
end Bk
namespace Bk
open Go
def startsDigit (s : List UInt8) : Bool := match s with
 | [] => false
 | c :: _ => digit c
section
variable (ts : List Tok) (n : Int)
def numberR (σ : PS) : Int × PS :=
 if startsDigit (peekP ts σ).text then
  if (digitsVal (peekP ts σ).text : Int) ≤ 9223372036854775807 then ((digitsVal (peekP ts σ).text : Int), nextP σ)
  else (0, failP σ (peekP ts σ).pos 2)
 else (0, unexpP ts n σ)
mutual
def exprR : Nat → Int → PS → Nd × PS
 | 0, _, σ => (.mk 0 0 [] [], σ)
 | k + 1, lv, σ => if 8 < lv then unaryR k σ else loopR k lv (exprR k (lv + 1) σ).1 (exprR k (lv + 1) σ).2
def loopR : Nat → Int → Nd → PS → Nd × PS
 | 0, _, x, σ => (x, σ)
 | k + 1, lv, x, σ => if σ.err ≠ 0 then (x, σ) else match binOf (peekP ts σ).text with
  | none => (x, σ)
  | some op => if level op ≠ lv then (x, σ) else
   loopR k lv (.mk op 0 [] [x, (exprR k (lv + 1) (nextP σ)).1]) (exprR k (lv + 1) (nextP σ)).2
def unaryR : Nat → PS → Nd × PS
 | 0, σ => (.mk 0 0 [] [], σ)
 | k + 1, σ =>
  if hasP ts σ [45] then (.mk 6 0 [] [(unaryR k (nextP σ)).1], (unaryR k (nextP σ)).2)
  else if hasP ts σ [33] then (.mk 7 0 [] [(unaryR k (nextP σ)).1], (unaryR k (nextP σ)).2)
  else if hasP ts σ [40] then ((exprR k 1 (nextP σ)).1, expectP ts n (exprR k 1 (nextP σ)).2 [41])
  else if hasP ts σ [116, 111, 112] then (.mk 4 0 (nameP ts n (expectP ts n (nextP σ) [40])).1 [], expectP ts n (nameP ts n (expectP ts n (nextP σ) [40])).2 [41])
  else if hasP ts σ [115, 105, 122, 101] then (.mk 5 0 (nameP ts n (expectP ts n (nextP σ) [40])).1 [], expectP ts n (nameP ts n (expectP ts n (nextP σ) [40])).2 [41])
  else if startsDigit (peekP ts σ).text then (.mk 1 (numberR ts n σ).1 [] [], (numberR ts n σ).2)
  else placeR k σ
def placeR : Nat → PS → Nd × PS
 | 0, σ => (.mk 0 0 [] [], σ)
 | k + 1, σ =>
  if hasP ts (nameP ts n σ).2 [91] then (.mk 3 0 (nameP ts n σ).1 [(exprR k 1 (nextP (nameP ts n σ).2)).1], expectP ts n (exprR k 1 (nextP (nameP ts n σ).2)).2 [93])
  else (.mk 2 0 (nameP ts n σ).1 [], (nameP ts n σ).2)
end
end
section
variable {ts : List Tok} {n : Int}
theorem startsDigit_ne {s : List UInt8} (h : startsDigit s = true) : s ≠ [] := by rintro rfl; simp [startsDigit] at h
structure REq {α : Type} (a b : α × PS) : Prop where
 err : a.2.err = b.2.err
 off : a.2.off = b.2.off
 ok : a.2.err = 0 → a.2.at_ = b.2.at_ ∧ a.1 = b.1
theorem REq.refl {α : Type} (a : α × PS) : REq a a := ⟨rfl, rfl, fun _ => ⟨rfl, rfl⟩⟩
theorem REq.same {α : Type} {a b : α × PS} (h : REq a b) (e : a.2.err = 0) : a = b := by
 obtain ⟨x, σ⟩ := a; obtain ⟨y, ρ⟩ := b; obtain ⟨h1, h2, h3⟩ := h; obtain ⟨h4, h5⟩ := h3 e
 cases σ; cases ρ
 simp_all
theorem REq.trans {α : Type} {a b c : α × PS} (h : REq a b) (k : REq b c) : REq a c :=
 ⟨h.err.trans k.err, h.off.trans k.off, fun e => ⟨(h.ok e).1.trans (k.ok (h.err ▸ e)).1, (h.ok e).2.trans (k.ok (h.err ▸ e)).2⟩⟩
theorem REq.bind {α β : Type} {a b : α × PS} (h : REq a b) {f g : α × PS → β × PS} (hf : a.2.err ≠ 0 → (f a).2 = a.2) (hg : b.2.err ≠ 0 → (g b).2 = b.2) (hok : a.2.err = 0 → a = b → REq (f a) (g b)) : REq (f a) (g b) := by
 by_cases e : a.2.err = 0
 · exact hok e (h.same e)
 · have e' : b.2.err ≠ 0 := h.err ▸ e
   refine ⟨by rw [hf e, hg e', h.err], by rw [hf e, hg e', h.off], fun z => ?_⟩
   rw [hf e] at z; exact absurd z e
end
end Bk
namespace Bk
open Go
section
variable {ts : List Tok} {n : Int}
theorem level_bd {op : Int} (h0 : 8 ≤ op) (h1 : op ≤ 23) : 1 ≤ level op ∧ level op ≤ 8 := by
 have : op = 8 ∨ op = 9 ∨ op = 10 ∨ op = 11 ∨ op = 12 ∨ op = 13 ∨ op = 14 ∨ op = 15 ∨ op = 16 ∨ op = 17 ∨ op = 18 ∨ op = 19 ∨ op = 20 ∨ op = 21 ∨ op = 22 ∨ op = 23 := by omega
 rcases this with rfl | rfl | rfl | rfl | rfl | rfl | rfl | rfl | rfl | rfl | rfl | rfl | rfl | rfl | rfl | rfl <;> decide
def DigitKinds (ts : List Tok) : Prop := ∀ t ∈ ts, t.kind = 2 ↔ startsDigit t.text = true
end
end Bk
namespace Bk
open Go
theorem takeWhile_len {α : Type} (p : α → Bool) (l : List α) : (l.takeWhile p).length ≤ l.length := by
 induction l with
 | nil => simp
 | cons x r ih => simp only [List.takeWhile_cons]; split <;> simp; exact ih
theorem signLen_le (s : List UInt8) : signLen s ≤ s.length := by
 unfold signLen
 split
 · rename_i h
   rw [List.isPrefixOf_iff_prefix] at h
   exact h.length_le
 · split
   · rename_i h
     rcases s with _ | ⟨a, _ | ⟨b, r⟩⟩
     · exact absurd h (by decide)
     · exfalso
       simp [pairs] at h
     · simp
   · split
     · rename_i h
       cases s with
       | nil => simp at h
       | cons a r => simp
     · omega
theorem firstTok_le (s : List UInt8) : (firstTok s).2 ≤ s.length := by
 cases s with
 | nil => simp [firstTok]
 | cons c r =>
  simp only [firstTok, span]
  split
  · exact takeWhile_len _ _
  · split
    · exact takeWhile_len _ _
    · split
      · exact takeWhile_len _ _
      · split
        · exact takeWhile_len _ _
        · exact signLen_le _
theorem take_takeWhile {α : Type} (p : α → Bool) (l : List α) : l.take (l.takeWhile p).length = l.takeWhile p := by
 induction l with
 | nil => simp
 | cons x r ih => simp only [List.takeWhile_cons]; split <;> simp [ih]
theorem mem_takeWhile {α : Type} (p : α → Bool) (l : List α) : ∀ x ∈ l.takeWhile p, p x = true := by
 induction l with
 | nil => simp
 | cons y r ih =>
  simp only [List.takeWhile_cons]
  split
  · rename_i h
    intro x hx
    rcases List.mem_cons.1 hx with rfl | hx
    · exact h
    · exact ih x hx
  · simp
theorem letter_digit (c : UInt8) (h : letter c = true) : digit c = false := by
 simp only [letter, digit, Bool.and_eq_true, decide_eq_true_eq, Bool.and_eq_false_iff, decide_eq_false_iff_not] at h ⊢
 omega
theorem firstTok_num (s : List UInt8) (h : (firstTok s).1 = 2) : s.take (firstTok s).2 ≠ [] ∧ ∀ x ∈ s.take (firstTok s).2, digit x = true := by
 cases s with
 | nil => simp [firstTok] at h
 | cons c r =>
  simp only [firstTok] at h ⊢
  by_cases h1 : letter c = true
  · simp [h1] at h
  · by_cases h2 : digit c = true
    · simp only [h1, h2, if_true, Bool.false_eq_true, if_false, span]
      rw [take_takeWhile]; refine ⟨by simp [List.takeWhile_cons, h2], mem_takeWhile _ _⟩
    · exfalso
      simp only [h1, h2, Bool.false_eq_true, if_false] at h
      by_cases h3 : blank c = true
      · simp [h3] at h
      · by_cases h4 : c = 35
        · subst h4; simp [h3] at h
        · simp [h3, h4] at h
theorem firstTok_kind (s : List UInt8) (hs : s ≠ []) (h0 : (firstTok s).2 ≠ 0) : (firstTok s).1 = 2 ↔ startsDigit (s.take (firstTok s).2) = true := by
 cases s with
 | nil => exact absurd rfl hs
 | cons c r =>
  obtain ⟨m, hm⟩ : ∃ m, (firstTok (c :: r)).2 = m + 1 := ⟨(firstTok (c :: r)).2 - 1, by omega⟩; rw [hm]; simp only [List.take_succ_cons, startsDigit, firstTok]
  by_cases h1 : letter c = true
  · simp [h1, letter_digit c h1]
  · by_cases h2 : digit c = true
    · simp [h1, h2]
    · simp only [h1, h2, Bool.false_eq_true, if_false, iff_false]
      by_cases h3 : blank c = true
      · simp [h3]
      · by_cases h4 : c = 35
        · subst h4; simp [h3]
        · simp [h3, h4]
structure TokOk (n : Nat) (t : Tok) : Prop where
 len : t.text.length ≤ n
 num : t.kind = 2 → t.text ≠ [] ∧ ∀ x ∈ t.text, digit x = true
 dig : t.kind = 2 ↔ startsDigit t.text = true
 pos : 0 ≤ t.pos ∧ t.pos ≤ n
theorem lexGo_ok (s : List UInt8) : ∀ (k p : Nat) (acc : List Tok), (∀ t ∈ acc, TokOk s.length t) → ∀ t ∈ (lexGo k s p acc).1, TokOk s.length t
 | 0, p, acc, h => by rw [lexGo]; exact h
 | k + 1, p, acc, h => by
  rw [lexGo]
  split
  · rename_i hp
    split
    · simp
    · rename_i h0
      refine lexGo_ok s k _ _ ?_; intro t ht
      rcases List.mem_append.1 ht with ht | ht
      · exact h t ht
      · simp only [List.mem_singleton] at ht
        subst ht
        have hne : s.drop p ≠ [] := by
         intro e; have := congrArg List.length e
         simp at this; omega
        refine ⟨?_, ?_, ?_, ?_⟩
        · simp only [List.length_take, List.length_drop]; omega
        · intro hk
          have hk' : (firstTok (s.drop p)).1 = 2 := by simp only at hk; omega
          exact firstTok_num _ hk'
        · have := firstTok_kind (s.drop p) hne h0
          simp only; rw [← this]
          omega
        · simp only; omega
  · exact h
theorem lexT_ok (s : List UInt8) : ∀ t ∈ (lexT s).1, TokOk s.length t := by
 unfold lexT
 split
 · simp
 · have := lexGo_ok s (s.length + 1) 0 [] (by simp)
   split
   · rename_i l h; rw [h] at this; exact this
   · simp
theorem solid_ok (s : List UInt8) : ∀ t ∈ (startP s).1, TokOk s.length t := fun t ht => lexT_ok s t (List.mem_filter.1 ht).1
theorem digitKinds_start (s : List UInt8) : DigitKinds (startP s).1 := fun t ht => (solid_ok s t ht).dig
theorem lexGo_len (s : List UInt8) : ∀ (k p : Nat) (acc : List Tok), acc.length ≤ p → p ≤ s.length → (lexGo k s p acc).1.length ≤ s.length
 | 0, p, acc, h, hp => by rw [lexGo]; simp; omega
 | k + 1, p, acc, h, hp => by
  rw [lexGo]
  split
  · split
    · simp
    · rename_i h0
      have := firstTok_le (s.drop p); rw [List.length_drop] at this
      exact lexGo_len s k _ _ (by simp; omega) (by omega)
  · simp only; omega
theorem lexT_len (s : List UInt8) : (lexT s).1.length ≤ s.length := by
 unfold lexT
 split
 · simp
 · have := lexGo_len s (s.length + 1) 0 [] (by simp) (by omega)
   split
   · rename_i l h; rw [h] at this; exact this
   · simp
theorem start_len (s : List UInt8) : (startP s).1.length ≤ s.length := Nat.le_trans (List.length_filter_le _ _) (lexT_len s)
end Bk
namespace Bk
open Go Go.RowKit Go.Proofs
attribute [local irreducible] Go.Calls
def Toks (S : Nat → Prop) (w : World) (l : List Tok) (a : Option Addr) : Prop := Arr S 3 TokAt w l a
theorem Toks.ext {S : Nat → Prop} {w w' : World} {l : List Tok} {a : Option Addr} (h : Toks S w l a) (x : Ext w w') : Toks S w' l a := h.mono (fun _ h => h) (fun _ _ _ _ _ h => Row.ext h x)
theorem Toks.fr {S T : Nat → Prop} {w w' : World} {l : List Tok} {a : Option Addr} (h : Toks S w l a) (x : Fr T w w') (hs : ∀ b, S b → ¬ T b) : Toks S w' l a := h.mono (fun _ h => h) (fun b _ _ _ hb h => Row.fr h x (hs b hb))
theorem Toks.wide {S S' : Nat → Prop} {w : World} {l : List Tok} {a : Option Addr} (h : Toks S w l a) (hs : ∀ b, S b → S' b) : Toks S' w l a := h.mono hs (fun _ _ _ _ _ h => h)
theorem Toks.lt2 {S : Nat → Prop} {w : World} {l : List Tok} {a : Option Addr} (h : Toks S w l a) : Toks (fun b => S b ∧ b < w.heap.size) w l a := by
 rcases h with h | ⟨b, o, h1, h2, h3⟩
 · exact Or.inl h
 · cases l with
   | nil => exact Or.inl rfl
   | cons v r => exact Or.inr ⟨b, o, h1, ⟨h2, cell_lt (Row.at0 (h3 0 v rfl) rfl)⟩, h3⟩
def tokShape : Shape Tok where
 sz := 3
 rep := fun _ _ v cs => cs = v.cells
 len := fun h => by rw [h]; rfl
 one := fun h => by rw [h]; rfl
 mono := fun h _ _ => h
 lt := fun h => h
theorem OwnL.toks {w : World} {B e : Nat} {a : Option Addr} {len cap : Nat} {xs : List Tok} {S : Nat → Prop} (h : OwnL tokShape w B e (.slice a len cap) xs) (hS : ∀ b, B ≤ b → S b) : Toks S w xs a := by
 by_cases hx : xs = []
 · exact Or.inl hx
 · obtain ⟨g, cap', hv, hg, hall⟩ := h.rows hx
   simp only [Value.slice.injEq] at hv; obtain ⟨rfl, -, -⟩ := hv; refine Or.inr ⟨g, 0, rfl, hS g hg, fun i x hi => ?_⟩; obtain ⟨cs, hr, rfl⟩ := hall i x hi
   simpa [tokShape, TokAt] using hr
theorem first_s (t : List UInt8) (w : World) (ht : t ≠ []) (hl : t.length ≤ 9223372036854775807) : Calls Tryz.prog 57 #[str t] w fun e w' => e = .returned (.tuple #[.int .u8 (firstTok t).1, .int .i64 (firstTok t).2]) ∧ w = w' := by
 cases t with
 | nil => exact absurd rfl ht
 | cons c r => exact first_c c r w hl
def LexR (w : World) (r : List Tok × Int × Int) : Ending → World → Prop := fun e w' => ∃ a k, e = .returned (.tuple #[.slice a r.1.length k, .int .i64 r.2.1, .int .i64 r.2.2]) ∧ Toks (fun b => w.heap.size ≤ b ∧ b < w'.heap.size) w' r.1 a ∧ Ext w w'
theorem LexR.ret {w : World} {r : List Tok × Int × Int} {e : Ending} {w' : World} (h : LexR w r e w') : ∃ v, e = .returned v := by
 obtain ⟨_, _, h, -⟩ := h
 exact ⟨_, h⟩
set_option maxRecDepth 100000 in
set_option maxHeartbeats 2000000 in
theorem Lex_c (s : List UInt8) (w : World) (hs : s.length ≤ 1000000) : Calls Tryz.prog 29 #[str s] w (LexR w (lexT s)) := by
 have X := Ext.refl w
 by_cases h0 : 65536 < s.length
 · rw [show lexT s = ([], 0, 5) from by simp [lexT, h0]]
   refine calls_in Tryz.func29 Tryz.ntmps29 rfl rfl ?_
   focus
    refine cS (cA rfl rfl (cA rfl rfl (cA rfl rfl (cT (cw_seq (cS (cM rfl rfl (lw_pure (pur_len_s tabOk rfl rfl) rfl (lw_pure (pur_gtr rfl rfl) rfl (cT ?_)))))))))); refine cw_yes rfl (by omega) ?_; refine cS (cA rfl rfl (cA rfl rfl (cA rfl rfl (cT (cw_ret (qw_then_ret (qw_ret3 rfl rfl rfl rfl ?_))))))); rotate_left 1
   exact ⟨_, _, rfl, Or.inl rfl, X⟩
 have hun : ∀ r, lexGo (s.length + 1) s 0 [] = r → lexT s = match r with | (l, none) => (l, 0, 0) | (_, some p) => ([], (p : Int), 3) := fun r hr => by
  obtain ⟨l, o⟩ := r
  cases o <;> simp [lexT, h0, hr]
 have HU := Lib.hid hun; clear hun
 refine calls_in Tryz.func29 Tryz.ntmps29 rfl rfl ?_
 focus
  refine cS (cA rfl rfl (cA rfl rfl (cA rfl rfl (cT (cw_seq (cS (cM rfl rfl (lw_pure (pur_len_s tabOk rfl rfl) rfl (lw_pure (pur_gtr rfl rfl) rfl (cT ?_)))))))))); refine cw_no rfl (by omega) ?_; refine cw_skip (qw_then (cS (cA rfl rfl (cT (cw_seq (cS (cA rfl rfl (cT (cw_block ?_))))))))); rotate_left 1
 refine cw_loop (ι := Nat × Nat × List Tok × Option Addr × Nat) (fun x => [(0, str s), (5, .slice x.2.2.2.1 x.2.2.1.length x.2.2.2.2), (6, .int .i64 x.2.1)])
  (fun x w' => OwnL tokShape w' w.heap.size 76 (.slice x.2.2.2.1 x.2.2.1.length x.2.2.2.2) x.2.2.1 ∧ Ext w w' ∧ x.2.1 ≤ s.length ∧ x.2.2.1.length ≤ x.2.1 ∧ s.length + 1 ≤ x.1 + x.2.1 ∧
   lexGo (s.length + 1) s 0 [] = lexGo x.1 s x.2.1 x.2.2.1) (fun x => x.1) (s.length + 1, 0, [], none, 0) (by (refine sub_cons rfl ?_; refine sub_cons rfl ?_; refine sub_cons rfl ?_; exact sub_nil)) ⟨OwnL.nil, X, Nat.zero_le _, Nat.le_refl _, Nat.le_refl _, rfl⟩ ?_
 rintro ⟨j, p, acc, a, cap⟩ w1 ⟨hown, X, hp, hacc, hj, he⟩; simp only at hown hp hacc hj he; refine CW.sub (m := [(0, str s), (5, .slice a acc.length cap), (6, .int .i64 p)]) ?_ (by (refine sub_cons rfl ?_; refine sub_cons rfl ?_; refine sub_cons rfl ?_; exact sub_nil)); obtain ⟨j, rfl⟩ : ∃ i, j = i + 1 := ⟨j - 1, by omega⟩
 by_cases hlt : p < s.length
 · have hne : s.drop p ≠ [] := by
    intro e; have := congrArg List.length e
    simp at this; omega
   have hdl : (s.drop p).length = s.length - p := List.length_drop; have hfl := firstTok_le (s.drop p); rw [hdl] at hfl
   by_cases hz : (firstTok (s.drop p)).2 = 0
   · rw [HU.out ([], some p) (by rw [he, lexGo]; simp [hlt, hz])]
     focus
      refine cw_seq (cS (cM rfl rfl (cM rfl rfl (lw_pure (pur_len_s tabOk rfl rfl) rfl (lw_pure (pur_lss rfl rfl) rfl (cT ?_)))))); refine cw_yes rfl (by omega) ?_; refine cw_skip (qw_then (cw_block (cS (cM rfl rfl (cM rfl rfl ?_))))); refine lw_pure (pur_sfromN tabOk rfl rfl rfl (by omega)) rfl ?_; refine cC (by kernel_rfl) rfl (first_s _ _ hne (by omega)) rfl ?_; rintro _ wb1 ⟨⟨⟩, rfl⟩; refine cM rfl rfl (lw_pure (pur_extract rfl rfl) rfl (lw_pure (pur_extract rfl rfl) rfl (cA rfl rfl (cA rfl rfl (cT (cw_seq (cS (cM rfl rfl (lw_pure (pur_eql rfl rfl) rfl (cT ?_)))))))))); refine cw_yes rfl (by omega) ?_; refine cS (cM rfl rfl (cA rfl rfl (cA rfl rfl (cA rfl rfl (cT (cw_ret (qw_then_ret (qw_block_ret (qw_then_ret (qw_block_ret (qw_then_ret ?_))))))))))); refine qw_ret3 rfl rfl rfl rfl ?_; rotate_left 1
     exact ⟨_, _, rfl, Or.inl rfl, X⟩
   · have he2 : lexGo (s.length + 1) s 0 [] = lexGo j s (p + (firstTok (s.drop p)).2) (acc ++ [⟨((firstTok (s.drop p)).1 : Nat), (s.drop p).take (firstTok (s.drop p)).2, (p : Int)⟩]) := by rw [he, lexGo]; simp [hlt, hz]
     focus
      refine cw_seq (cS (cM rfl rfl (cM rfl rfl (lw_pure (pur_len_s tabOk rfl rfl) rfl (lw_pure (pur_lss rfl rfl) rfl (cT ?_)))))); refine cw_yes rfl (by omega) ?_; refine cw_skip (qw_then (cw_block (cS (cM rfl rfl (cM rfl rfl ?_))))); refine lw_pure (pur_sfromN tabOk rfl rfl rfl (by omega)) rfl ?_; refine cC (by kernel_rfl) rfl (first_s _ _ hne (by omega)) rfl ?_; rintro _ wc1 ⟨⟨⟩, rfl⟩; refine cM rfl rfl (lw_pure (pur_extract rfl rfl) rfl (lw_pure (pur_extract rfl rfl) rfl (cA rfl rfl (cA rfl rfl (cT (cw_seq (cS (cM rfl rfl (lw_pure (pur_eql rfl rfl) rfl (cT ?_)))))))))); refine cw_no rfl (by omega) ?_; refine cw_skip (qw_then (cS (cM rfl rfl (cM rfl rfl (cM rfl rfl (cM rfl rfl (cM rfl rfl (cM rfl rfl ?_)))))))); refine lw_pure (pur_add rfl rfl (IntWalk.i64_in _ (by omega))) rfl ?_; refine lw_pure (pur_spartN tabOk rfl rfl rfl rfl (by omega)) rfl ?_; refine cM rfl rfl (lw_pure (pur_build' [_, _, _] tabOk zOk rfl rfl rfl rfl) rfl ?_); (refine lw_does (does_slice' [_, _, _] tabOk zOk rfl rfl rfl rfl rfl rfl rfl rfl rfl) rfl ?_ (fun _ h => h); rintro _ wc3 ⟨bc2, rfl, nc4, tc5⟩); clear tc5; have hc6 := nc4.blk; have xc7 := nc4.ext; have pc8 := nc4.pos; have zc9 := nc4.size; clear nc4; replace hown := hown.ext xc7; replace X := X.ext xc7; clear xc7; refine lw_appendL (sh := tokShape) (z := ⟨((firstTok (s.drop p)).1 : Nat), (s.drop p).take (firstTok (s.drop p)).2, (p : Int)⟩) tabOk zOk rfl rfl rfl rfl (by kernel_rfl) rfl rfl rfl hown (Blk.row (by assumption)) rfl (by omega) (by have := Ext.size X; omega) rfl ?_
      rintro gc10 cap'c11 wc12 hc13 fc14; have zc15 := fc14.size; clear hc6 hown; replace X := X.fr fc14 (by omega); clear fc14; refine cA rfl rfl (cT (cw_region (cM rfl rfl (cM rfl rfl ?_)))); refine lw_pure (pur_add rfl rfl (IntWalk.i64_in _ (by omega))) rfl ?_; refine cA rfl rfl (lw_nil (qw_block_norm ?_)); rotate_left 1
     refine qw_round (j, p + (firstTok (s.drop p)).2, acc ++ [⟨((firstTok (s.drop p)).1 : Nat), (s.drop p).take (firstTok (s.drop p)).2, (p : Int)⟩], some ⟨_, 0, none⟩, _) (by (refine sub_cons rfl ?_; refine sub_cons rfl ?_; refine sub_cons rfl ?_; exact sub_nil)) ⟨by assumption, X, by simp only; omega, by simp only [List.length_append, List.length_cons, List.length_nil]; omega, by simp only; omega, he2⟩ (by simp)
 · rw [HU.out (acc, none) (by rw [he, lexGo]; simp [hlt])]
   focus
    refine cw_seq (cS (cM rfl rfl (cM rfl rfl (lw_pure (pur_len_s tabOk rfl rfl) rfl (lw_pure (pur_lss rfl rfl) rfl (cT ?_)))))); refine cw_no rfl (by omega) ?_; refine cw_exit (qw_then_exit (qw_then_exit (qw_block_exit (qw_then (cS (cM rfl rfl (cA rfl rfl (cA rfl rfl (cA rfl rfl (cT (cw_ret ?_))))))))))); refine qw_ret3 rfl rfl rfl rfl ?_; rotate_left 1
   exact ⟨_, _, rfl, Toks.lt2 (S := (w.heap.size ≤ ·)) (OwnL.toks hown (fun b h => h)), X⟩
theorem solid_snoc (l : List Tok) (t : Tok) : solidT (l ++ [t]) = solidT l ++ (if t.kind ≠ 4 ∧ t.kind ≠ 5 then [t] else []) := by
 unfold solidT
 rw [List.filter_append]
 congr 1
 by_cases h4 : t.kind = 4 <;> by_cases h5 : t.kind = 5 <;> simp [h4, h5]
def SolidR (w : World) (r : List Tok) : Ending → World → Prop := fun e w' => ∃ a k, e = .returned (.slice a r.length k) ∧ Toks (fun b => w.heap.size ≤ b ∧ b < w'.heap.size) w' r a ∧ Ext w w'
theorem SolidR.ret {w : World} {r : List Tok} {e : Ending} {w' : World} (h : SolidR w r e w') : ∃ v, e = .returned v := by
 obtain ⟨_, _, h, -⟩ := h
 exact ⟨_, h⟩
set_option maxRecDepth 100000 in
set_option maxHeartbeats 2000000 in
theorem Solid_c (ts : List Tok) (S : Nat → Prop) (b0 : Option Addr) (k0 : Nat) (w : World) (hl : ts.length ≤ 1000000) (hT : Toks S w ts b0) (hS : ∀ b, S b → b < w.heap.size) : Calls Tryz.prog 30 #[.slice b0 ts.length k0] w (SolidR w (solidT ts)) := by
 have X := Ext.refl w; refine calls_in Tryz.func30 Tryz.ntmps30 rfl rfl ?_
 focus
  refine cS (cA rfl rfl (cN (cA rfl rfl (cT (cw_seq (cS (cM rfl rfl (lw_pure (pur_len_slice tabOk rfl rfl) rfl (cM rfl rfl (cT (cw_block ?_))))))))))); rotate_left 1
 refine cw_loop (ι := Nat × Option Addr × Nat) (fun x => [(3, .slice x.2.1 (solidT (ts.take x.1)).length x.2.2), (6, .slice b0 ts.length k0), (7, .int .i64 ts.length), (8, .int .i64 x.1)])
  (fun x w' => OwnL tokShape w' w.heap.size 76 (.slice x.2.1 (solidT (ts.take x.1)).length x.2.2) (solidT (ts.take x.1)) ∧ Ext w w' ∧ x.1 ≤ ts.length ∧ Toks S w' ts b0) (fun x => ts.length - x.1) (0, none, 0) (by (refine sub_cons rfl ?_; refine sub_cons rfl ?_; refine sub_cons rfl ?_; refine sub_cons rfl ?_; exact sub_nil)) ⟨OwnL.nil, X, Nat.zero_le _, hT⟩ ?_
 rintro ⟨j, a, cap⟩ w1 ⟨hown, X, hj, hT⟩; simp only at hown hj hT; have hsz := X.size; refine CW.sub (m := [(3, .slice a (solidT (ts.take j)).length cap), (6, .slice b0 ts.length k0), (7, .int .i64 ts.length), (8, .int .i64 j)]) ?_ (by (refine sub_cons rfl ?_; refine sub_cons rfl ?_; refine sub_cons rfl ?_; refine sub_cons rfl ?_; exact sub_nil))
 by_cases hlt : j < ts.length
 · have htk : ts.take (j + 1) = ts.take j ++ [ts[j]] := by rw [List.take_add_one, List.getElem?_eq_getElem hlt]; rfl
   have hsn : solidT (ts.take (j + 1)) = solidT (ts.take j) ++ (if ts[j].kind ≠ 4 ∧ ts[j].kind ≠ 5 then [ts[j]] else []) := by rw [htk, solid_snoc]
   have hbd : (solidT (ts.take j)).length ≤ 1000000 := Nat.le_trans (List.length_filter_le _ _) (by rw [List.length_take]; omega); obtain ⟨tb, tof, rfl, hkS, hrow⟩ := hT.get (by omega); have hr : Row w1 ⟨tb, tof + j * 3, none⟩ ts[j].cells := hrow j _ (List.getElem?_eq_getElem hlt); have htb := hS tb hkS; clear hrow htk
   generalize ts[j] = t at *
   by_cases h4 : t.kind = 4
   · rw [show (if t.kind ≠ 4 ∧ t.kind ≠ 5 then [t] else []) = [] from by simp [h4], List.append_nil] at hsn
     focus
      refine cS (lw_pure (pur_lss rfl rfl) rfl (cT (cw_seq ?_))); refine cw_yes rfl (by omega) ?_; refine cw_skip (qw_then (cw_seq (cw_block (cS ?_)))); refine lw_pure (pur_indexAddr tabOk rfl rfl rfl rfl (by omega) (by omega)) rfl ?_; refine lw_loads_r0 tabOk rfl rfl rfl hr rfl rfl ?_; (refine lw_alloc' [_, _, _] zOk rfl rfl ?_; intro ba1 wa2 na3); (refine lw_init' [_, _, _] tabOk rfl rfl rfl rfl rfl rfl na3 rfl ?_; clear na3; clear wa2; intro wa4 na3); have ha5 := na3.blk; have xa6 := na3.ext; have pa7 := na3.pos; have za8 := na3.size; clear na3; replace hown := hown.ext xa6; replace X := X.ext xa6; replace hT := hT.ext xa6; replace hr := hr.ext xa6; clear xa6; refine cN (lw_pure (pur_fieldAddr0 tabOk rfl rfl rfl) rfl (lw_load_b tabOk rfl rfl rfl ha5 rfl rfl (lw_pure (pur_neq rfl rfl) rfl (cM rfl rfl ?_)))); refine lw_off rfl rfl rfl (gd_tf (by omega)) rfl ?_; refine lw_off rfl rfl rfl (gd_tf (by omega)) rfl ?_; refine lw_off rfl rfl rfl (gd_tf (by omega)) rfl ?_; refine lw_pure (pur_pick_no rfl rfl (by omega)) rfl ?_; refine cT (cw_cond_f rfl (cw_skip (qw_block_norm (qw_then (cw_region ?_))))); refine lw_pure (pur_add rfl rfl (IntWalk.i64_in _ (by omega))) rfl ?_; refine cM rfl rfl (lw_nil ?_); rotate_left 1
     refine qw_round (j + 1, a, cap) ?_ ⟨by rw [hsn]; exact hown, X, by simp only; omega, hT⟩ (by simp only; omega); refine sub_cons' rfl (by rw [hsn]) (sub_cons rfl (sub_cons rfl (sub_cons rfl sub_nil)))
   by_cases h5 : t.kind = 5
   · rw [show (if t.kind ≠ 4 ∧ t.kind ≠ 5 then [t] else []) = [] from by simp [h5], List.append_nil] at hsn
     focus
      refine cS (lw_pure (pur_lss rfl rfl) rfl (cT (cw_seq ?_))); refine cw_yes rfl (by omega) ?_; refine cw_skip (qw_then (cw_seq (cw_block (cS ?_)))); refine lw_pure (pur_indexAddr tabOk rfl rfl rfl rfl (by omega) (by omega)) rfl ?_; refine lw_loads_r0 tabOk rfl rfl rfl hr rfl rfl ?_; (refine lw_alloc' [_, _, _] zOk rfl rfl ?_; intro bb1 wb2 nb3); (refine lw_init' [_, _, _] tabOk rfl rfl rfl rfl rfl rfl nb3 rfl ?_; clear nb3; clear wb2; intro wb4 nb3); have hb5 := nb3.blk; have xb6 := nb3.ext; have pb7 := nb3.pos; have zb8 := nb3.size; clear nb3; replace hown := hown.ext xb6; replace X := X.ext xb6; replace hT := hT.ext xb6; replace hr := hr.ext xb6; clear xb6; refine cN (lw_pure (pur_fieldAddr0 tabOk rfl rfl rfl) rfl (lw_load_b tabOk rfl rfl rfl hb5 rfl rfl (lw_pure (pur_neq rfl rfl) rfl (cM rfl rfl ?_)))); refine lw_on rfl rfl rfl (gd_tt (by assumption)) ?_; refine lw_pure (pur_fieldAddr0 tabOk rfl rfl rfl) rfl ?_; refine lw_on rfl rfl rfl (gd_tt (by assumption)) ?_; refine lw_load_b tabOk rfl rfl rfl hb5 rfl rfl ?_; refine lw_on rfl rfl rfl (gd_tt (by assumption)) ?_; refine lw_pure (pur_neq rfl rfl) rfl ?_; refine lw_pure (pur_pick_yes rfl rfl (by assumption)) rfl ?_; refine cT ?_; refine cw_no rfl (by omega) ?_; refine cw_skip (qw_block_norm (qw_then (cw_region ?_))); refine lw_pure (pur_add rfl rfl (IntWalk.i64_in _ (by omega))) rfl ?_; refine cM rfl rfl (lw_nil ?_); rotate_left 1
     refine qw_round (j + 1, a, cap) ?_ ⟨by rw [hsn]; exact hown, X, by simp only; omega, hT⟩ (by simp only; omega); refine sub_cons' rfl (by rw [hsn]) (sub_cons rfl (sub_cons rfl (sub_cons rfl sub_nil)))
   · rw [show (if t.kind ≠ 4 ∧ t.kind ≠ 5 then [t] else []) = [t] from by simp [h4, h5]] at hsn
     focus
      refine cS (lw_pure (pur_lss rfl rfl) rfl (cT (cw_seq ?_))); refine cw_yes rfl (by omega) ?_; refine cw_skip (qw_then (cw_seq (cw_block (cS ?_)))); refine lw_pure (pur_indexAddr tabOk rfl rfl rfl rfl (by omega) (by omega)) rfl ?_; refine lw_loads_r0 tabOk rfl rfl rfl hr rfl rfl ?_; (refine lw_alloc' [_, _, _] zOk rfl rfl ?_; intro bc1 wc2 nc3); (refine lw_init' [_, _, _] tabOk rfl rfl rfl rfl rfl rfl nc3 rfl ?_; clear nc3; clear wc2; intro wc4 nc3); have hc5 := nc3.blk; have xc6 := nc3.ext; have pc7 := nc3.pos; have zc8 := nc3.size; clear nc3; replace hown := hown.ext xc6; replace X := X.ext xc6; replace hT := hT.ext xc6; replace hr := hr.ext xc6; clear xc6; refine cN (lw_pure (pur_fieldAddr0 tabOk rfl rfl rfl) rfl (lw_load_b tabOk rfl rfl rfl hc5 rfl rfl (lw_pure (pur_neq rfl rfl) rfl (cM rfl rfl ?_)))); refine lw_on rfl rfl rfl (gd_tt (by assumption)) ?_; refine lw_pure (pur_fieldAddr0 tabOk rfl rfl rfl) rfl ?_; refine lw_on rfl rfl rfl (gd_tt (by assumption)) ?_; refine lw_load_b tabOk rfl rfl rfl hc5 rfl rfl ?_; refine lw_on rfl rfl rfl (gd_tt (by assumption)) ?_; refine lw_pure (pur_neq rfl rfl) rfl ?_; refine lw_pure (pur_pick_yes rfl rfl (by assumption)) rfl ?_; refine cT ?_; refine cw_yes rfl (by assumption) ?_; refine cw_region (cM rfl rfl (lw_loads_b' [_, _, _] tabOk rfl rfl rfl hc5 rfl rfl rfl ?_)); (refine lw_does (does_slice' [_, _, _] tabOk zOk rfl rfl rfl rfl rfl rfl rfl rfl rfl) rfl ?_ (fun _ h => h); rintro _ wc10 ⟨bc9, rfl, nc11, tc12⟩); clear tc12; have hc13 := nc11.blk
      have xc14 := nc11.ext; have pc15 := nc11.pos; have zc16 := nc11.size; clear nc11; replace hc5 := hc5.ext xc14; replace hown := hown.ext xc14; replace X := X.ext xc14; replace hT := hT.ext xc14; replace hr := hr.ext xc14; clear xc14; refine lw_appendL (sh := tokShape) (z := t) tabOk zOk rfl rfl rfl rfl (by kernel_rfl) rfl rfl rfl hown (Blk.row (by assumption)) rfl (by omega) (by omega) rfl ?_; rintro gc17 cap'c18 wc19 hc20 fc21; have zc22 := fc21.size; clear hc13 hc5 hown; replace X := X.fr fc21 (by omega); replace hT := Toks.fr hT fc21 (fun k hk e => by have := hS k hk; omega); replace hr := Row.fr hr fc21 (by simp only; omega); clear fc21; refine cA rfl rfl (lw_nil (qw_block_norm (qw_then (cw_region ?_)))); refine lw_pure (pur_add rfl rfl (IntWalk.i64_in _ (by omega))) rfl ?_; refine cM rfl rfl (lw_nil ?_); rotate_left 1
     refine qw_round (j + 1, some ⟨_, 0, none⟩, _) ?_ ⟨by rw [hsn]; assumption, X, by simp only; omega, hT⟩ (by simp only; omega); refine sub_cons' rfl (by rw [hsn]) (sub_cons rfl (sub_cons rfl (sub_cons rfl sub_nil)))
 · have : j = ts.length := by omega
   subst this; rw [List.take_length] at hown
   focus
    refine cS (lw_pure (pur_lss rfl rfl) rfl (cT (cw_seq ?_))); refine cw_no rfl (by omega) ?_; refine cw_exit (qw_then_exit (qw_then_exit (qw_block_exit (qw_then (cS (cM rfl rfl (cA rfl rfl (cT (cw_ret (qw_ret1 rfl rfl ?_)))))))))); rotate_left 1
   rw [List.take_length]
   exact ⟨_, _, rfl, Toks.lt2 (S := (w.heap.size ≤ ·)) (OwnL.toks hown (fun b h => h)), X⟩
end Bk
namespace Bk
open Go Go.RowKit Go.Proofs
attribute [local irreducible] Go.Calls
section
variable {P : Program} {n : Nat} {ops : Array Oper} {Q : Exit → Act → World → Prop} {rest : List Oper} {l : Sl} {w : World} {tab : Tab} {ty : TypeId} {pos : String} {after : Array Edge}
theorem lw_mapput {x y z : Operand} {t kt e sz1 sz2 r : Nat} {k : List UInt8} {v : Value} {kvs : List (List UInt8 × Value)} (T : TabOk P tab) (ht : lookT tab t = some (.map kt e, sz1)) (hkt : lookT tab kt = some (.str, sz2)) (hx : ev l x = some (.map (some r))) (hy : ev l y = some (str k)) (hz : ev l z = some v) (hm : MapIs w r kvs)
 (kk : ∀ w1, MapIs w1 r (setS kvs k v) → Fr (· = r) w w1 → LW P n ops Q rest l w1) : LW P n ops Q (⟨none, .mapUpdate t x y z, ty, pos, after, none⟩ :: rest) l w := by
 refine lw_does0 (K := MapPut w r (setS kvs k v)) ?_ (fun v w1 h => by cases v with | none => exact kk w1 h.1 h.2.1 | some _ => exact h.elim)
 unfold Does
 intro a dst pos after g next Q ha _ hn; obtain ⟨w1, h1, h2, h3, h4⟩ := run_mapUpdate (P := P) (k := k) (v := v) T ht hkt hm
 have e1 : (execOp a.eval ⟨dst, .mapUpdate t x y z, ty, pos, after, g⟩).run P w = .ok .skip w1 := by
  simp only [execOp, ha.ev hx, ha.ev hy, ha.ev hz, Sem.run_bind, h1, Result.andThen, Sem.run_pure]
 unfold Oper.wp
 rw [e1]
 exact hn w1 ⟨h2, h3, h4⟩
theorem lw_makeMap {t d : Nat} (hd : Nat.blt d n = true) (k : ∀ r w1, r = w.heap.size → MapIs w1 r [] → Ext w w1 → w1.heap.size = r + 1 → LW P n ops Q rest ((d, .map (some r)) :: l) w1) : LW P n ops Q (⟨some d, .makeMap t none, ty, pos, after, none⟩ :: rest) l w :=
 lw_does does_makeMap hd (fun v w1 ⟨r, h1, h2, h3, h4, h5⟩ => by subst h1; exact k r w1 h2 h3 h4 h5) (fun _ h => h)
end
def u8Shape : Shape Int where
 sz := 1
 rep := fun _ _ v cs => cs = [.int .u8 v]
 len := fun h => by rw [h]; rfl
 one := fun h => by rw [h]; rfl
 mono := fun h _ _ => h
 lt := fun h => h
def ops8 (j : Nat) : List Int := (List.range j).map fun (i : Nat) => (8 : Int) + (i : Int)
theorem ops8_snoc (j : Nat) : ops8 (j + 1) = ops8 j ++ [8 + (j : Int)] := by simp [ops8, List.range_succ]
theorem ops8_len (j : Nat) : (ops8 j).length = j := by simp [ops8]
def OpsR (w : World) : Ending → World → Prop := fun e w' => ∃ b k, e = .returned (.slice (some ⟨b, 0, none⟩) 16 k) ∧ w.heap.size ≤ b ∧ b < w'.heap.size ∧ Row w' ⟨b, 0, none⟩ ((ops8 16).map (.int .u8 ·)) ∧ Ext w w'
theorem OpsR.ret {w : World} {e : Ending} {w' : World} (h : OpsR w e w') : ∃ v, e = .returned v := by
 obtain ⟨_, _, h, -⟩ := h
 exact ⟨_, h⟩
set_option maxRecDepth 100000 in
set_option maxHeartbeats 2000000 in
theorem Operators_c (w : World) : Calls Tryz.prog 16 #[] w (OpsR w) := by
 have X := Ext.refl w; refine calls_in (args := []) Tryz.func16 Tryz.ntmps16 rfl rfl ?_
 focus
  refine cS (cA rfl rfl (cN (cA rfl rfl (cT (cw_seq (cS (cA rfl rfl (cT (cw_block ?_))))))))); rotate_left 1
 refine cw_loop (ι := Nat × Option Addr × Nat) (fun x => [(1, .slice x.2.1 (ops8 x.1).length x.2.2), (2, .int .u8 (8 + (x.1 : Int)))])
  (fun x w' => OwnL u8Shape w' w.heap.size 5 (.slice x.2.1 (ops8 x.1).length x.2.2) (ops8 x.1) ∧ Ext w w' ∧ x.1 ≤ 16) (fun x => 16 - x.1) (0, none, 0) (by (refine sub_cons rfl ?_; refine sub_cons rfl ?_; exact sub_nil)) ⟨OwnL.nil, X, Nat.zero_le _⟩ ?_
 rintro ⟨j, a, cap⟩ w1 ⟨hown, X, hj⟩; simp only at hown hj; have hsz := X.size; have hl := ops8_len j; refine CW.sub (m := [(1, .slice a (ops8 j).length cap), (2, .int .u8 (8 + (j : Int)))]) ?_ (by (refine sub_cons rfl ?_; refine sub_cons rfl ?_; exact sub_nil))
 by_cases hlt : j < 16
 · have hsn := ops8_snoc j
   focus
    refine cw_seq (cS (cM rfl rfl (lw_pure (pur_leq rfl rfl) rfl (cT ?_)))); refine cw_yes rfl (by omega) ?_; refine cw_skip (qw_then (cw_seq (cw_block (cw_region (cM rfl rfl (cM rfl rfl ?_)))))); (refine lw_does (does_slice' [_] tabOk zOk rfl rfl rfl rfl rfl rfl rfl rfl rfl) rfl ?_ (fun _ h => h); rintro _ wa2 ⟨ba1, rfl, na3, ta4⟩); clear ta4; have ha5 := na3.blk; have xa6 := na3.ext; have pa7 := na3.pos; have za8 := na3.size; clear na3; replace hown := hown.ext xa6; replace X := X.ext xa6; clear xa6; refine lw_appendL (sh := u8Shape) (z := 8 + (j : Int)) tabOk zOk rfl rfl rfl rfl (by kernel_rfl) rfl rfl rfl hown (Blk.row (by assumption)) rfl (by omega) (by omega) rfl ?_; rintro ga9 cap'a10 wa11 ha12 fa13; have za14 := fa13.size; clear ha5 hown; replace X := X.fr fa13 (by omega); clear fa13; refine cA rfl rfl (lw_nil (qw_block_norm (qw_then (cw_region (cM rfl rfl ?_))))); refine lw_pure (pur_add rfl rfl (u8_wrap _ (by omega) (by omega))) rfl ?_; refine cA rfl rfl (lw_nil ?_); rotate_left 1
   refine qw_round (j + 1, some ⟨_, 0, none⟩, _) ?_ ⟨by rw [hsn]; assumption, X, by simp only; omega⟩ (by simp only; omega); refine sub_cons' rfl (by rw [hsn]) (sub_cons' rfl ?_ sub_nil)
   simp only [Value.int.injEq, true_and]; omega
 · have : j = 16 := by omega
   subst this
   focus
    refine cw_seq (cS (cM rfl rfl (lw_pure (pur_leq rfl rfl) rfl (cT ?_)))); refine cw_no rfl (by decide) ?_; refine cw_exit (qw_then_exit (qw_then_exit (qw_block_exit (qw_then (cS (cM rfl rfl (cA rfl rfl (cT (cw_ret (qw_ret1 rfl rfl ?_)))))))))); rotate_left 1
   obtain ⟨g, cap', hv, hg, hall⟩ := hown.rows (by decide); simp only [Value.slice.injEq] at hv; obtain ⟨rfl, -, -⟩ := hv
   have hrow : Row w1 ⟨g, 0, none⟩ ((ops8 16).map (.int .u8 ·)) := fun i v hi => by
    rw [List.getElem?_map, Option.map_eq_some_iff] at hi; obtain ⟨x, hx, rfl⟩ := hi; obtain ⟨cs, hr, rfl⟩ := hall i x hx; have := hr.at0 rfl
    have e : (⟨g, 0, none⟩ : Addr).add i = ⟨g, i * u8Shape.sz, none⟩ := by
     have : u8Shape.sz = 1 := rfl
     unfold Addr.add; by_cases h0 : i = 0 <;> simp [h0, this]
    rw [e]; exact this
   exact ⟨g, cap, by rw [ops8_len], hg, hown.lt rfl, hrow, X⟩
end Bk
namespace Bk
open Go Go.RowKit Go.Proofs
attribute [local irreducible] Go.Calls
theorem ret2 {v v' : Value} {w w' : World} (h : v = v') (x : Ext w w') : Ending.returned v = Ending.returned v' ∧ Ext w w' := ⟨by rw [h], x⟩
set_option maxRecDepth 100000 in
set_option maxHeartbeats 4000000 in
theorem measure_c (N : Nat) : ∀ (t : Nd) (S : Nat → Prop) (a : Option Addr) (c : Nat) (w : World), t.size < N → t.size ≤ 1000000000 → t.sits S w a →
 Calls Tryz.prog 73 #[t.val a c] w fun e w' => e = .returned (.tuple #[.int .i64 (t.size : Int), .int .i64 (t.depth : Int)]) ∧ Ext w w' := by
 induction N with
 | zero => intro t S a c w h; omega
 | succ N ih =>
  rintro ⟨k, n, s, l⟩ S a c w hN hM hs
  have IH := Lib.hid ih; clear ih
  simp only [Nd.sits] at hs; simp only [Nd.size] at hN hM; have X := Ext.refl w; have hl := length_rowSize l; rw [show ((Nd.mk k n s l).size : Int) = ((rowSize l : Nat) : Int) + 1 from by simp only [Nd.size]; omega]; rw [show ((Nd.mk k n s l).depth : Int) = rowDepth l + 1 from by simp only [Nd.depth]]; refine calls_in Tryz.func73 Tryz.ntmps73 rfl rfl ?_
  focus
   refine cS ?_; (refine lw_box' [_, _, _, _] rfl rfl rfl ?_; intro b1 w2 n3); have h4 := n3.blk; have x5 := n3.ext; have p6 := n3.pos; have z7 := n3.size; clear n3; replace hs := Bk.rowSits.ext hs x5; replace X := X.ext x5; clear x5; refine cA rfl rfl (cA rfl rfl (cT (cw_seq (cS (lw_pure (pur_fieldAddr tabOk rfl rfl rfl) rfl (lw_load_b tabOk rfl rfl rfl h4 rfl rfl (lw_pure (pur_len_slice tabOk rfl rfl) rfl (cM rfl rfl (cT (cw_block ?_)))))))))); rotate_left 1
  refine cw_loop (ι := Nat) (fun j => [(1, .pointer (some ⟨b1, 0, none⟩)), (9, .slice a l.length c), (10, .int .i64 l.length), (11, .int .i64 j), (2, .int .i64 ((rowSize (l.take j) : Nat) : Int)), (3, .int .i64 (rowDepth (l.take j)))]) (fun j w' => rowSits S w' l a ∧ Ext w w' ∧ j ≤ l.length) (fun j => l.length - j) 0 (by (refine sub_cons rfl ?_; refine sub_cons rfl ?_; refine sub_cons rfl ?_; refine sub_cons rfl ?_; refine sub_cons rfl ?_; refine sub_cons rfl ?_; exact sub_nil)) ⟨hs, X, Nat.zero_le _⟩ ?_; clear hs X h4; rintro j w1 ⟨hs, X, hj⟩
  by_cases hlt : j < l.length
  · obtain ⟨kb, ko, rfl, hkS, hkid⟩ := kidRows hs (by intro e; subst e; simp at hlt)
    obtain ⟨xa, xc, rx, sx⟩ := hkid j l[j] (List.getElem?_eq_getElem hlt); have hsz := size_mem (List.getElem_mem hlt)
    have ht : l.take (j + 1) = l.take j ++ [l[j]] := by rw [List.take_add_one, List.getElem?_eq_getElem hlt]; rfl
    have hb0 := rowDepth_le (l.take j); have hb1 := rowSize_take l j; have hb2 := rowSize_take l (j + 1); have hb3 := depth_le l[j]; rw [ht, rowSize_snoc] at hb2; clear hkid
    generalize l[j] = x at *
    have hq : max (rowDepth (l.take j)) x.depth = rowDepth (l.take (j + 1)) := by rw [ht, rowDepth_snoc]
    focus
     refine cS (lw_pure (pur_lss rfl rfl) rfl (cT (cw_seq ?_))); refine cw_yes rfl (by omega) ?_; refine cw_skip (qw_then (cw_seq (cw_block (cS ?_)))); refine lw_pure (pur_indexAddr tabOk rfl rfl rfl rfl (by omega) (by omega)) rfl ?_; refine lw_loads_r0 tabOk rfl rfl rfl rx rfl rfl ?_; (refine lw_alloc' [_, _, _, _] zOk rfl rfl ?_; intro ba1 wa2 na3); (refine lw_init' [_, _, _, _] tabOk rfl rfl rfl rfl rfl rfl na3 rfl ?_; clear na3; clear wa2; intro wa4 na3); have ha5 := na3.blk; have xa6 := na3.ext; have pa7 := na3.pos; have za8 := na3.size; clear na3; replace X := X.ext xa6; replace hs := Bk.rowSits.ext hs xa6; replace rx := rx.ext xa6; replace sx := Nd.sits.ext sx xa6; clear xa6; refine cN (lw_loads_b' [_, _, _, _] tabOk rfl rfl rfl ha5 rfl rfl rfl ?_); refine cC (by kernel_rfl) rfl (IH.out _ S _ _ _ (by omega) (by omega) (by assumption)) rfl ?_; rintro _ wa10 ⟨⟨⟩, xa9⟩; have za11 := xa9.size; replace ha5 := ha5.ext xa9; replace X := X.ext xa9; replace hs := Bk.rowSits.ext hs xa9; replace rx := rx.ext xa9; replace sx := Nd.sits.ext sx xa9; clear xa9; refine cM rfl rfl (lw_pure (pur_extract rfl rfl) rfl (lw_pure (pur_extract rfl rfl) rfl (cA rfl rfl (cA rfl rfl (cN (cM rfl rfl (cM rfl rfl ?_))))))); refine lw_pure (pur_add rfl rfl (IntWalk.i64_in _ (by omega))) rfl ?_; refine cA rfl rfl (cT (cw_region (cM rfl rfl (cM rfl rfl (lw_pure (pur_max rfl rfl rfl) rfl (cA rfl rfl (lw_nil (qw_block_norm (qw_then (cw_region ?_)))))))))); refine lw_pure (pur_add rfl rfl (IntWalk.i64_in _ (by omega))) rfl ?_
     refine cM rfl rfl (lw_nil ?_); rotate_left 1
    refine qw_round (j + 1) ?_ ⟨hs, X, by omega⟩ (by omega); rw [← hq, ht, rowSize_snoc]; (refine sub_cons rfl ?_; refine sub_cons rfl ?_; refine sub_cons rfl ?_; refine sub_cons rfl ?_; refine sub_cons rfl ?_; refine sub_cons rfl ?_; exact sub_nil)
  · have : j = l.length := by omega
    subst this; have hb0 := rowDepth_le l; rw [List.take_length]
    focus
     refine cS (lw_pure (pur_lss rfl rfl) rfl (cT (cw_seq ?_))); refine cw_no rfl (by omega) ?_; refine cw_exit (qw_then_exit (qw_then_exit (qw_block_exit (qw_then (cS (cM rfl rfl ?_)))))); refine lw_pure (pur_add rfl rfl (IntWalk.i64_in _ (by omega))) rfl ?_; refine cM rfl rfl ?_; refine lw_pure (pur_add rfl rfl (IntWalk.i64_in _ (by omega))) rfl ?_; refine cA rfl rfl (cA rfl rfl (cT (cw_ret (qw_ret2 rfl rfl rfl ?_)))); rotate_left 1
    exact ⟨rfl, X⟩
theorem findF_at {lib : List FD} {s : List UInt8} {j : Nat} (hj : j < lib.length) (h : ∀ x ∈ lib.take j, x.name ≠ s) (hc : lib[j].name = s) : findF lib s = some j := by
 unfold findF
 rw [List.findIdx?_eq_some_iff_getElem]; refine ⟨hj, by simp [hc], fun i hi => ?_⟩; have := h lib[i] (List.mem_take_iff_getElem.2 ⟨i, by omega, rfl⟩)
 simpa using this
theorem findF_no {lib : List FD} {s : List UInt8} (h : ∀ x ∈ lib, x.name ≠ s) : findF lib s = none := by
 unfold findF
 rw [List.findIdx?_eq_none_iff]; intro x hx
 simpa using h x hx
theorem not_snoc {lib : List FD} {s : List UInt8} {j : Nat} (hj : j < lib.length) (h : ∀ x ∈ lib.take j, x.name ≠ s) (hc : lib[j].name ≠ s) : ∀ x ∈ lib.take (j + 1), x.name ≠ s := by
 rw [List.take_succ_eq_append_getElem hj]; intro x hx
 rcases List.mem_append.1 hx with hx | hx
 · exact h x hx
 · obtain rfl := List.mem_singleton.1 hx
   exact hc
def findI (lib : List FD) (s : List UInt8) : Int := ((findF lib s).map fun i : Nat => (i : Int)).getD (-1)
def libWf (lib : List FD) : Prop := lib.length ≤ 1000000 ∧ ∀ f ∈ lib, f.name.length ≤ 1000000 ∧ f.params.length ≤ 1000000 ∧ (∀ p ∈ f.params, p.name.length ≤ 1000000) ∧ f.body.size ≤ 1000000000 ∧ f.body.wf
set_option maxRecDepth 100000 in
set_option maxHeartbeats 4000000 in
theorem Find_c (lib : List FD) (s : List UInt8) (S : Nat → Prop) (a : Option Addr) (c : Nat) (w : World) (hL : lib.length ≤ 1000000) (hs : FDs S w lib a) :
 Calls Tryz.prog 70 #[.slice a lib.length c, str s] w fun e w' => e = .returned (.int .i64 (findI lib s)) ∧ Ext w w' := by
 have X := Ext.refl w; replace hs := hs.ltA; refine calls_in Tryz.func70 Tryz.ntmps70 rfl rfl ?_
 focus
  refine cS (cA rfl rfl (cT (cw_seq (cS (cM rfl rfl (lw_pure (pur_len_slice tabOk rfl rfl) rfl (cM rfl rfl (cT (cw_block ?_))))))))); rotate_left 1
 refine cw_loop (ι := Nat) (fun j => [(1, str s), (7, .slice a lib.length c), (8, .int .i64 lib.length), (9, .int .i64 j)]) (fun j w' => FDs (· < w.heap.size) w' lib a ∧ Ext w w' ∧ j ≤ lib.length ∧ ∀ x ∈ lib.take j, x.name ≠ s) (fun j => lib.length - j) 0 (by (refine sub_cons rfl ?_; refine sub_cons rfl ?_; refine sub_cons rfl ?_; refine sub_cons rfl ?_; exact sub_nil)) ⟨hs, X, Nat.zero_le _, by simp⟩ ?_; clear hs X; rintro j w1 ⟨hs, X, hj, hn⟩; have HN := Lib.hid hn; clear hn
 by_cases hlt : j < lib.length
 · obtain ⟨kb, ko, ⟨⟩, -, hk⟩ := Arr.get hs (by omega)
   obtain ⟨pa, pc, ba, bc, hr, h1, h2⟩ := hk j lib[j] (List.getElem?_eq_getElem hlt); clear hk; have hnx := Lib.hid (not_snoc hlt HN.out); have hnt := Lib.hid (findF_at hlt HN.out); clear HN; have hsz := X.size
   generalize lib[j] = x at *
   by_cases hx : x.name = s
   · have hq := Lib.hid (hnt.out hx)
     clear hnx hnt
     focus
      refine cS (lw_pure (pur_lss rfl rfl) rfl (cT (cw_seq ?_))); refine cw_yes rfl (by omega) ?_; refine cw_skip (qw_then (cw_seq (cw_block (cS (cM rfl rfl ?_))))); refine lw_pure (pur_indexAddr tabOk rfl rfl rfl rfl (by omega) (by omega)) rfl ?_; refine lw_loads_r0 tabOk rfl rfl rfl hr rfl rfl ?_; (refine lw_alloc' [_, _, _, _, _, _, _] zOk rfl rfl ?_; intro ba1 wa2 na3); have ha5 := na3.blk; have xa6 := na3.ext; have pa7 := na3.pos; have za8 := na3.size; clear na3; replace X := X.ext xa6; replace hs := hs.ext xa6; replace hr := hr.ext xa6; replace h1 := h1.ext xa6; replace h2 := Nd.sits.ext h2 xa6; clear xa6; refine cA rfl rfl ?_; (refine lw_store' [_, _, _, _, _, _, _] [_, _, _, _, _, _, _] tabOk rfl rfl rfl rfl rfl rfl ha5 rfl rfl ?_; intro wa9 na10); have ha13 := na10.blk; have fa11 := na10.fr; have za12 := na10.size; clear na10 ha5; replace X := X.fr fa11 (by omega); replace hs := hs.fr fa11 (by omega); clear hr; replace h1 := h1.fr fa11 (by omega); replace h2 := Nd.sits.fr h2 fa11 (by omega); clear fa11; refine cN (lw_pure (pur_fieldAddr0 tabOk rfl rfl rfl) rfl (lw_load_b tabOk rfl rfl rfl ha13 rfl rfl (cM rfl rfl (lw_pure (pur_seql rfl rfl) rfl (cT ?_))))); refine cw_yes rfl (by assumption) ?_; refine cS (cM rfl rfl (cA rfl rfl (cT (cw_ret (qw_block_ret (qw_then_ret (qw_then_ret (qw_block_ret (qw_then_ret (qw_ret1 rfl rfl ?_)))))))))); rotate_left 1
     exact ⟨by simp [findI, hq.out], X⟩
   · have hq := Lib.hid (hnx.out hx)
     clear hnx hnt
     focus
      refine cS (lw_pure (pur_lss rfl rfl) rfl (cT (cw_seq ?_))); refine cw_yes rfl (by omega) ?_; refine cw_skip (qw_then (cw_seq (cw_block (cS (cM rfl rfl ?_))))); refine lw_pure (pur_indexAddr tabOk rfl rfl rfl rfl (by omega) (by omega)) rfl ?_; refine lw_loads_r0 tabOk rfl rfl rfl hr rfl rfl ?_; (refine lw_alloc' [_, _, _, _, _, _, _] zOk rfl rfl ?_; intro bb1 wb2 nb3); have hb5 := nb3.blk; have xb6 := nb3.ext; have pb7 := nb3.pos; have zb8 := nb3.size; clear nb3; replace X := X.ext xb6; replace hs := hs.ext xb6; replace hr := hr.ext xb6; replace h1 := h1.ext xb6; replace h2 := Nd.sits.ext h2 xb6; clear xb6; refine cA rfl rfl ?_; (refine lw_store' [_, _, _, _, _, _, _] [_, _, _, _, _, _, _] tabOk rfl rfl rfl rfl rfl rfl hb5 rfl rfl ?_; intro wb9 nb10); have hb13 := nb10.blk; have fb11 := nb10.fr; have zb12 := nb10.size; clear nb10 hb5; replace X := X.fr fb11 (by omega); replace hs := hs.fr fb11 (by omega); clear hr; replace h1 := h1.fr fb11 (by omega); replace h2 := Nd.sits.fr h2 fb11 (by omega); clear fb11; refine cN (lw_pure (pur_fieldAddr0 tabOk rfl rfl rfl) rfl (lw_load_b tabOk rfl rfl rfl hb13 rfl rfl (cM rfl rfl (lw_pure (pur_seql rfl rfl) rfl (cT ?_))))); refine cw_no rfl (by assumption) ?_; refine cw_skip (qw_block_norm (qw_then (cw_region ?_))); refine lw_pure (pur_add rfl rfl (IntWalk.i64_in _ (by omega))) rfl ?_; refine cM rfl rfl (lw_nil ?_); rotate_left 1
     exact qw_round (j + 1) (by (refine sub_cons rfl ?_; refine sub_cons rfl ?_; refine sub_cons rfl ?_; refine sub_cons rfl ?_; exact sub_nil)) ⟨hs, X, by omega, hq.out⟩ (by omega)
 · have hje : j = lib.length := by omega
   subst hje; have hn := HN.out; rw [List.take_length] at hn; have hq := Lib.hid (findF_no hn); clear hn HN
   focus
    refine cS (lw_pure (pur_lss rfl rfl) rfl (cT (cw_seq ?_))); refine cw_no rfl (by omega) ?_; refine cw_exit (qw_then_exit (qw_then_exit (qw_block_exit (qw_then (cS (cA rfl rfl (cT (cw_ret (qw_ret1 rfl rfl ?_))))))))); rotate_left 1
   exact ⟨by simp [findI, hq.out], X⟩
def namesM (l : List FP) : List (List UInt8 × Value) := l.foldl (fun m p => setS m p.name (.bool true)) []
theorem namesM_snoc (l : List FP) (p : FP) : namesM (l ++ [p]) = setS (namesM l) p.name (.bool true) := by simp [namesM]
theorem namesM_keys (l : List FP) : ∀ s, s ∈ (namesM l).map Prod.fst ↔ s ∈ l.map FP.name := by
 have key : ∀ (l : List FP) (m : List (List UInt8 × Value)) (s : List UInt8), s ∈ (l.foldl (fun m p => setS m p.name (.bool true)) m).map Prod.fst ↔ s ∈ m.map Prod.fst ∨ s ∈ l.map FP.name := by
  intro l
  induction l with
  | nil => intro m s; simp
  | cons p r ih =>
   intro m s; rw [List.foldl_cons, ih, keys_set]
   by_cases h : p.name ∈ m.map Prod.fst
   · rw [if_pos h]
     simp only [List.map_cons, List.mem_cons]
     constructor
     · rintro (h | h)
       · exact Or.inl h
       · exact Or.inr (Or.inr h)
     · rintro (h | rfl | h)
       · exact Or.inl h
       · exact Or.inl (by assumption)
       · exact Or.inr h
   · rw [if_neg h]
     simp only [List.mem_append, List.map_cons, List.mem_cons, List.not_mem_nil, or_false, or_assoc]
 intro s; rw [namesM, key]
 simp
theorem namesM_len (l : List FP) : (namesM l).length ≤ l.length ∧ ((l.map FP.name).Nodup ↔ (namesM l).length = l.length) := by
 have key : ∀ r : List FP, ∀ l : List FP, (namesM l).length ≤ l.length ∧ ((l.map FP.name).Nodup ↔ (namesM l).length = l.length) → (namesM (l ++ r)).length ≤ (l ++ r).length ∧ (((l ++ r).map FP.name).Nodup ↔ (namesM (l ++ r)).length = (l ++ r).length) := by
  intro r
  induction r with
  | nil => intro l h; simpa using h
  | cons p r ih =>
   intro l ⟨h1, h2⟩
   have e : l ++ p :: r = (l ++ [p]) ++ r := by simp
   rw [e]; refine ih _ ?_; have hk := keys_set (namesM l) p.name (.bool true); have hl := congrArg List.length hk; rw [List.length_map] at hl; rw [namesM_snoc]
   by_cases h : p.name ∈ (namesM l).map Prod.fst
   · rw [if_pos h] at hl
     rw [List.length_map] at hl; refine ⟨by simp only [List.length_append, List.length_singleton]; omega, ?_⟩; have h3 := (namesM_keys l p.name).1 h; rw [List.map_append, List.nodup_append]
     constructor
     · rintro ⟨-, -, h⟩
       exact absurd rfl (h _ h3 p.name (by simp))
     · simp only [List.length_append, List.length_singleton]; omega
   · rw [if_neg h] at hl
     simp only [List.length_append, List.length_map, List.length_singleton] at hl; refine ⟨by simp only [List.length_append, List.length_singleton]; omega, ?_⟩; have h3 := mt (namesM_keys l p.name).2 h; rw [List.map_append, List.nodup_append, h2]
     constructor
     · rintro ⟨h, -, -⟩; simp only [List.length_append, List.length_singleton]; omega
     · intro hh
       simp only [List.length_append, List.length_singleton] at hh; refine ⟨by omega, by simp, ?_⟩; intro x hx y hy he; simp only [List.map_cons, List.map_nil, List.mem_singleton] at hy
       subst hy; subst he; exact h3 hx
 simpa using key l [] (by simp [namesM])
theorem all_snoc {l : List FP} {j : Nat} (hj : j < l.length) (h : (l.take j).all (fun p => funName p.name) = true) (hc : funName l[j].name = true) : (l.take (j + 1)).all (fun p => funName p.name) = true := by
 rw [List.take_succ_eq_append_getElem hj, List.all_append, h]
 simp [hc]
theorem all_not {l : List FP} {j : Nat} (hj : j < l.length) (hc : funName l[j].name = false) : l.all (fun p => funName p.name) = false := by
 rw [List.all_eq_false]
 exact ⟨l[j], List.getElem_mem hj, by simp [hc]⟩
theorem namesM_take {l : List FP} {j : Nat} (hj : j < l.length) : setS (namesM (l.take j)) l[j].name (.bool true) = namesM (l.take (j + 1)) := by
 rw [List.take_succ_eq_append_getElem hj, namesM_snoc]
theorem funIsName_v {s : List UInt8} {b : Bool} (h : funName s = b) (w : World) (hs : s.length ≤ 9223372036854775807) : Calls Tryz.prog 69 #[str s] w fun e w' => e = .returned (.bool b) ∧ Ext w w' := by
 have := funIsName_c s w (by omega)
 rw [h] at this; exact this
set_option maxRecDepth 100000 in
set_option maxHeartbeats 4000000 in
theorem parameters_c (l : List FP) (S : Nat → Prop) (a : Option Addr) (c : Nat) (w : World) (hL : l.length ≤ 1000000) (hN : ∀ p ∈ l, p.name.length ≤ 9223372036854775807) (hs : FPs S w l a) :
 Calls Tryz.prog 71 #[.slice a l.length c] w fun e w' => e = .returned (.int .i64 (paramErr l)) ∧ Ext w w' := by
 have X := Ext.refl w; have HN := Lib.hid hN; clear hN
 have hpe : paramErr l = if 8 < l.length then 5 else if l.all (fun p => funName p.name) then (if (l.map FP.name).Nodup then 0 else 22) else 3 := rfl
 by_cases h8 : 8 < l.length
 · rw [hpe, if_pos h8]
   clear hpe; refine calls_in Tryz.func71 Tryz.ntmps71 rfl rfl ?_
   focus
    refine cS (cA rfl rfl (cT (cw_seq (cS (cM rfl rfl (lw_pure (pur_len_slice tabOk rfl rfl) rfl (lw_pure (pur_gtr rfl rfl) rfl (cT ?_)))))))); refine cw_yes rfl (by omega) ?_; refine cS (cA rfl rfl (cT (cw_ret (qw_then_ret (qw_ret1 rfl rfl ?_))))); rotate_left 1
   exact ⟨rfl, X⟩
 rw [if_neg h8] at hpe; have HP := Lib.hid hpe; clear hpe; have hnl := namesM_len l; have HD := Lib.hid hnl.2; have hn1 := hnl.1; clear hnl
 generalize hm : paramErr l = pe at *
 clear hm; replace hs := hs.ltA; refine calls_in Tryz.func71 Tryz.ntmps71 rfl rfl ?_
 focus
  refine cS (cA rfl rfl (cT (cw_seq (cS (cM rfl rfl (lw_pure (pur_len_slice tabOk rfl rfl) rfl (lw_pure (pur_gtr rfl rfl) rfl (cT ?_)))))))); refine cw_no rfl (by omega) ?_; refine cw_skip (qw_then (cS (lw_makeMap rfl ?_))); rintro ra1 wa2 rfl ha3 xa4 ha5; have za6 := xa4.size; replace X := X.ext xa4; replace hs := hs.ext xa4; clear xa4; refine cA rfl rfl (cT (cw_seq (cS (cM rfl rfl (lw_pure (pur_len_slice tabOk rfl rfl) rfl (cM rfl rfl (cT (cw_block ?_)))))))); rotate_left 1
 generalize hr : w.heap.size = r at *
 refine cw_loop (ι := Nat) (fun j => [(0, .slice a l.length c), (3, .map (some r)), (10, .slice a l.length c), (11, .int .i64 l.length), (12, .int .i64 j)]) (fun j w' => MapIs w' r (namesM (l.take j)) ∧ FPs (· < r) w' l a ∧ Ext w w' ∧ j ≤ l.length ∧ (l.take j).all (fun p => funName p.name) = true ∧ r < w'.heap.size) (fun j => l.length - j) 0 (by (refine sub_cons rfl ?_; refine sub_cons rfl ?_; refine sub_cons rfl ?_; refine sub_cons rfl ?_; refine sub_cons rfl ?_; exact sub_nil)) ⟨by assumption, hs, X, Nat.zero_le _, by simp, by omega⟩ ?_; clear hs X; rintro j w1 ⟨hM, hs, X, hj, hn, hz⟩; have HA := Lib.hid hn; clear hn
 by_cases hlt : j < l.length
 · obtain ⟨kb, ko, ⟨⟩, -, hk⟩ := Arr.get hs (by omega)
   have hrx := hk j l[j] (List.getElem?_eq_getElem hlt); simp only [FPAt] at hrx; have hnx := Lib.hid (all_snoc hlt HA.out); have hnt := Lib.hid (all_not hlt); have hst := namesM_take hlt; have hxl := HN.out _ (List.getElem_mem hlt); clear hk HA
   generalize l[j] = x at *
   by_cases hx : funName x.name = true
   · have hq := Lib.hid (hnx.out hx)
     have hi := Lib.hid (funIsName_v hx); clear hnx hnt hx
     focus
      refine cS (lw_pure (pur_lss rfl rfl) rfl (cT (cw_seq ?_))); refine cw_yes rfl (by omega) ?_; refine cw_skip (qw_then (cw_seq (cw_block (cS ?_)))); refine lw_pure (pur_indexAddr tabOk rfl rfl rfl rfl (by omega) (by omega)) rfl ?_; refine lw_loads_r0 tabOk rfl rfl rfl hrx rfl rfl ?_; (refine lw_alloc' [_, _] zOk rfl rfl ?_; intro bb1 wb2 nb3); (refine lw_init' [_, _] tabOk rfl rfl rfl rfl rfl rfl nb3 rfl ?_; clear nb3; clear wb2; intro wb4 nb3); have hb5 := nb3.blk; have xb6 := nb3.ext; have pb7 := nb3.pos; have zb8 := nb3.size; clear nb3; replace hM := hM.ext xb6; replace X := X.ext xb6; replace hs := hs.ext xb6; replace hrx := hrx.ext xb6; clear xb6; refine cT (cw_seq (cS (lw_pure (pur_fieldAddr0 tabOk rfl rfl rfl) rfl (lw_load_b tabOk rfl rfl rfl hb5 rfl rfl ?_)))); refine cC (by kernel_rfl) rfl (hi.out _ (by omega)) rfl ?_; rintro _ wb10 ⟨⟨⟩, xb9⟩; have zb11 := xb9.size; replace hb5 := hb5.ext xb9; replace hM := hM.ext xb9; replace X := X.ext xb9; replace hs := hs.ext xb9; replace hrx := hrx.ext xb9; clear xb9; refine lw_pure (pur_not rfl) rfl (cT (cw_cond_f rfl (cw_skip (qw_then (cw_region (cM rfl rfl (lw_pure (pur_fieldAddr0 tabOk rfl rfl rfl) rfl (lw_load_b tabOk rfl rfl rfl hb5 rfl rfl (lw_mapput tabOk rfl rfl rfl rfl rfl hM ?_))))))))); rintro wb12 hb13 fb14; have zb15 := fb14.size; replace hb5 := hb5.fr fb14 (by omega); clear hM; replace X := X.fr fb14 (by omega); replace hs := hs.fr fb14 (by omega); clear hrx fb14; refine lw_nil (qw_block_norm (qw_then (cw_region ?_)))
      refine lw_pure (pur_add rfl rfl (IntWalk.i64_in _ (by omega))) rfl ?_; refine cM rfl rfl (lw_nil ?_); rotate_left 1
     exact qw_round (j + 1) (by (refine sub_cons rfl ?_; refine sub_cons rfl ?_; refine sub_cons rfl ?_; refine sub_cons rfl ?_; refine sub_cons rfl ?_; exact sub_nil)) ⟨by rw [← hst]; assumption, hs, X, by omega, hq.out, by omega⟩ (by omega)
   · have hx : funName x.name = false := by simpa using hx
     have hq := Lib.hid (hnt.out hx); have hi := Lib.hid (funIsName_v hx); clear hnx hnt hx
     focus
      refine cS (lw_pure (pur_lss rfl rfl) rfl (cT (cw_seq ?_))); refine cw_yes rfl (by omega) ?_; refine cw_skip (qw_then (cw_seq (cw_block (cS ?_)))); refine lw_pure (pur_indexAddr tabOk rfl rfl rfl rfl (by omega) (by omega)) rfl ?_; refine lw_loads_r0 tabOk rfl rfl rfl hrx rfl rfl ?_; (refine lw_alloc' [_, _] zOk rfl rfl ?_; intro bc1 wc2 nc3); (refine lw_init' [_, _] tabOk rfl rfl rfl rfl rfl rfl nc3 rfl ?_; clear nc3; clear wc2; intro wc4 nc3); have hc5 := nc3.blk; have xc6 := nc3.ext; have pc7 := nc3.pos; have zc8 := nc3.size; clear nc3; replace hM := hM.ext xc6; replace X := X.ext xc6; replace hs := hs.ext xc6; replace hrx := hrx.ext xc6; clear xc6; refine cT (cw_seq (cS (lw_pure (pur_fieldAddr0 tabOk rfl rfl rfl) rfl (lw_load_b tabOk rfl rfl rfl hc5 rfl rfl ?_)))); refine cC (by kernel_rfl) rfl (hi.out _ (by omega)) rfl ?_; rintro _ wc10 ⟨⟨⟩, xc9⟩; have zc11 := xc9.size; replace hc5 := hc5.ext xc9; replace hM := hM.ext xc9; replace X := X.ext xc9; replace hs := hs.ext xc9; replace hrx := hrx.ext xc9; clear xc9; refine lw_pure (pur_not rfl) rfl (cT (cw_cond_t rfl (cS (cA rfl rfl (cT (cw_ret (qw_then_ret (qw_block_ret (qw_then_ret (qw_then_ret (qw_block_ret ?_))))))))))); refine qw_then_ret (qw_ret1 rfl rfl ?_); rotate_left 1
     exact ⟨by rw [HP.out, hq.out]; rfl, X⟩
 · have hje : j = l.length := by omega
   subst hje; have hn := HA.out; rw [List.take_length] at hn hM; have hq := Lib.hid hn; clear hn HA
   by_cases hd : (namesM l).length = l.length
   · have hdd := Lib.hid (HD.out.2 hd)
     focus
      refine cS (lw_pure (pur_lss rfl rfl) rfl (cT (cw_seq ?_))); refine cw_no rfl (by omega) ?_; refine cw_exit (qw_then_exit (qw_then_exit (qw_block_exit (qw_then (cw_seq (cS (cM rfl rfl ?_))))))); refine lw_pure (pur_maplen tabOk rfl rfl (fun wz hz => by subst hz; exact hM)) rfl ?_; refine cM rfl rfl (lw_pure (pur_len_slice tabOk rfl rfl) rfl (lw_pure (pur_lss rfl rfl) rfl (cT ?_))); refine cw_no rfl (by omega) ?_; refine cw_skip (qw_then (cS (cA rfl rfl (cT (cw_ret (qw_ret1 rfl rfl ?_)))))); rotate_left 1
     exact ⟨by rw [HP.out, hq.out, if_pos rfl, if_pos hdd.out], X⟩
   · have hdd := Lib.hid (fun h => hd (HD.out.1 h))
     focus
      refine cS (lw_pure (pur_lss rfl rfl) rfl (cT (cw_seq ?_))); refine cw_no rfl (by omega) ?_; refine cw_exit (qw_then_exit (qw_then_exit (qw_block_exit (qw_then (cw_seq (cS (cM rfl rfl ?_))))))); refine lw_pure (pur_maplen tabOk rfl rfl (fun wz hz => by subst hz; exact hM)) rfl ?_; refine cM rfl rfl (lw_pure (pur_len_slice tabOk rfl rfl) rfl (lw_pure (pur_lss rfl rfl) rfl (cT ?_))); refine cw_yes rfl (by omega) ?_; refine cS (cA rfl rfl (cT (cw_ret (qw_then_ret (qw_ret1 rfl rfl ?_))))); rotate_left 1
     exact ⟨by rw [HP.out, hq.out, if_pos rfl, if_neg hdd.out], X⟩
end Bk
namespace Bk
open Go Go.RowKit
mutual
theorem rowSits_lt {S : Nat → Prop} {w : World} : ∀ (l : List Nd) (a : Option Addr), rowSits S w l a → rowSits (· < w.heap.size) w l a
 | [], _, _ => by simp [rowSits]
 | t :: r, a, h => by
  simp only [rowSits] at h ⊢; obtain ⟨b, o, a', c, rfl, hb, h0, h1, h2, h3, hs, hr⟩ := h
  exact ⟨b, o, a', c, rfl, cell_lt h0, h0, h1, h2, h3, sits_lt t a' hs, rowSits_lt r _ hr⟩
theorem sits_lt {S : Nat → Prop} {w : World} : ∀ (t : Nd) (a : Option Addr), t.sits S w a → t.sits (· < w.heap.size) w a
 | .mk _ _ _ l, a, h => by
  simp only [Nd.sits] at h ⊢
  exact rowSits_lt l a h
end
mutual
theorem rowSits_ltB {S : Nat → Prop} {w : World} : ∀ (l : List Nd) (a : Option Addr), rowSits S w l a → rowSits (fun b => S b ∧ b < w.heap.size) w l a
 | [], _, _ => by simp [rowSits]
 | t :: r, a, h => by
  simp only [rowSits] at h ⊢; obtain ⟨b, o, a', c, rfl, hb, h0, h1, h2, h3, hs, hr⟩ := h
  exact ⟨b, o, a', c, rfl, ⟨hb, cell_lt h0⟩, h0, h1, h2, h3, sits_ltB t a' hs, rowSits_ltB r _ hr⟩
theorem sits_ltB {S : Nat → Prop} {w : World} : ∀ (t : Nd) (a : Option Addr), t.sits S w a → t.sits (fun b => S b ∧ b < w.heap.size) w a
 | .mk _ _ _ l, a, h => by
  simp only [Nd.sits] at h ⊢
  exact rowSits_ltB l a h
end
end Bk
namespace Bk
open Go Go.RowKit Go.Proofs
attribute [local irreducible] Go.Calls
mutual
def Nd.sizeL : Nd → Int → Int
 | .mk _ _ _ l, m => rowSizeL l (m - 1)
def rowSizeL : List Nd → Int → Int
 | [], m => m
 | t :: r, m => if 0 ≤ m then rowSizeL r (t.sizeL m) else m
end
mutual
theorem sizeL_le : ∀ (t : Nd) (m : Int), t.sizeL m ≤ m - 1
 | .mk _ _ _ l, m => by simp only [Nd.sizeL]; exact rowSizeL_le l (m - 1)
theorem rowSizeL_le : ∀ (l : List Nd) (m : Int), rowSizeL l m ≤ m
 | [], m => by simp [rowSizeL]
 | t :: r, m => by
  simp only [rowSizeL]
  split
  · have h1 := sizeL_le t m
    have h2 := rowSizeL_le r (t.sizeL m)
    omega
  · omega
end
mutual
theorem sizeL_ge : ∀ (t : Nd) (m : Int), 0 ≤ m → -1 ≤ t.sizeL m
 | .mk _ _ _ l, m, h => by simp only [Nd.sizeL]; exact rowSizeL_ge l (m - 1) (by omega)
theorem rowSizeL_ge : ∀ (l : List Nd) (m : Int), -1 ≤ m → -1 ≤ rowSizeL l m
 | [], m, h => by simpa [rowSizeL] using h
 | t :: r, m, h => by
  simp only [rowSizeL]
  split
  · rename_i h0
    exact rowSizeL_ge r _ (sizeL_ge t m h0)
  · exact h
end
mutual
theorem sizeL_eq : ∀ (t : Nd) (m : Int), 0 ≤ t.sizeL m → t.sizeL m = m - t.size
 | .mk _ _ _ l, m, h => by
  simp only [Nd.sizeL] at h ⊢; have := rowSizeL_eq l (m - 1) h; simp only [Nd.size]
  omega
theorem rowSizeL_eq : ∀ (l : List Nd) (m : Int), 0 ≤ rowSizeL l m → rowSizeL l m = m - rowSize l
 | [], m, h => by simp [rowSizeL, rowSize]
 | t :: r, m, h => by
  simp only [rowSizeL] at h ⊢
  split at h
  · rename_i h0
    rw [if_pos h0]; have h1 := rowSizeL_eq r _ h; have h2 := rowSizeL_le r (t.sizeL m); have h3 := sizeL_eq t m (by omega); simp only [rowSize]
    omega
  · omega
end
theorem rowSizeL_neg (l : List Nd) (m : Int) (h : m < 0) : rowSizeL l m = m := by
 cases l with
 | nil => simp [rowSizeL]
 | cons x r => simp only [rowSizeL]; rw [if_neg (by omega)]
def SizeR (w : World) (q : Int) (e : Ending) (w' : World) : Prop := e = .returned (.int .i64 q) ∧ Ext w w'
theorem sizeR {w w' : World} {q q' : Int} (h : q = q') (x : Ext w w') : SizeR w q (.returned (.int .i64 q')) w' := ⟨by rw [h], x⟩
set_option maxRecDepth 100000 in
set_option maxHeartbeats 4000000 in
theorem size36_c (N : Nat) : ∀ (t : Nd) (m : Int) (S : Nat → Prop) (a : Option Addr) (c : Nat) (w : World), 0 ≤ m → m < N → m ≤ 1000000 → t.wf → t.sits S w a →
 Calls Tryz.prog 20 #[t.val a c, .int .i64 m] w (SizeR w (t.sizeL m)) := by
 induction N with
 | zero => intro t m S a c w h1 h2; omega
 | succ N ih =>
  rintro ⟨k, n, s, l⟩ m S a c w hm0 hN hM hwf hs
  have IH := Lib.hid ih; clear ih
  simp only [Nd.sits] at hs; replace hs : rowSits (· < w.heap.size) w l a := rowSits_lt _ _ hs; simp only [Nd.wf] at hwf; obtain ⟨-, -, -, -, n1, n2, n3⟩ := hwf; have HW := Lib.hid (rowWf_iffF.1 n3); clear n3; have X := Ext.refl w; rw [show (Nd.mk k n s l).val a c = .agg #[.int .u8 k, .int .i64 n, str s, .slice a l.length c] from rfl, show (Nd.mk k n s l).sizeL m = rowSizeL l (m - 1) from by rw [Nd.sizeL]]; refine calls_in Tryz.func20 Tryz.ntmps20 rfl rfl ?_
  focus
   refine cS ?_; (refine lw_box' [_, _, _, _] rfl rfl rfl ?_; intro b1 w2 n3); have h4 := n3.blk; have x5 := n3.ext; have p6 := n3.pos; have z7 := n3.size; clear n3; replace hs := Bk.rowSits.ext hs x5; replace X := X.ext x5; clear x5; refine cA rfl rfl (cN (cM rfl rfl ?_)); refine lw_pure (pur_sub rfl rfl (IntWalk.i64_in _ (by omega))) rfl ?_; refine cA rfl rfl (cT (cw_seq (cS (cA rfl rfl (cT (cw_block ?_)))))); rotate_left 1
  refine cw_loop (ι := Nat × Int) (fun y => [(2, .pointer (some ⟨b1, 0, none⟩)), (1, .int .i64 y.2), (5, .int .i64 y.1)]) (fun y w' => rowSits (· < w.heap.size) w' l a ∧ Ext w w' ∧ y.1 ≤ l.length ∧ Blk w' b1 [.int .u8 k, .int .i64 n, str s, .slice a l.length c] ∧ rowSizeL l (m - 1) = rowSizeL (l.drop y.1) y.2 ∧ -1 ≤ y.2 ∧ y.2 ≤ m - 1) (fun y => l.length - y.1) (0, m - 1) (by (refine sub_cons rfl ?_; refine sub_cons rfl ?_; refine sub_cons rfl ?_; exact sub_nil)) ⟨hs, X, Nat.zero_le _, by assumption, rfl, by simp only; omega, by simp only; omega⟩ ?_; clear hs X h4; rintro ⟨j, v⟩ w1 ⟨hs, X, hj, hb1, he, hv1, hv2⟩; simp only at hj he hv1 hv2; refine CW.sub (m := [(2, .pointer (some ⟨b1, 0, none⟩)), (1, .int .i64 v), (5, .int .i64 j)]) ?_ (by (refine sub_cons rfl ?_; refine sub_cons rfl ?_; refine sub_cons rfl ?_; exact sub_nil))
  by_cases hlt : j < l.length
  · by_cases hv : 0 ≤ v
    · have hs2 := hs
      obtain ⟨kb, ko, rfl, hkS, hkid⟩ := kidRows hs2 (by intro e; subst e; simp at hlt); obtain ⟨xa, xc, rx, sx⟩ := hkid j l[j] (List.getElem?_eq_getElem hlt); have hxw := HW.out _ (List.getElem_mem hlt); rw [List.drop_eq_getElem_cons hlt] at he; simp only [rowSizeL] at he; rw [if_pos hv] at he; have HE := Lib.hid he; clear he hkid hs2
      generalize l[j] = x at *
      have g1 := sizeL_le x v; have g2 := sizeL_ge x v hv; have HX := Lib.hid (fun (S : Nat → Prop) (a : Option Addr) (c : Nat) (w : World) hs => IH.out x v S a c w hv (by omega) (by omega) hxw hs); clear hxw
      generalize x.sizeL v = q at *
      focus
       refine cw_seq (cS (cM rfl rfl (lw_pure (pur_fieldAddr tabOk rfl rfl rfl) rfl (lw_load_b tabOk rfl rfl rfl hb1 rfl rfl (lw_pure (pur_len_slice tabOk rfl rfl) rfl (lw_pure (pur_lss rfl rfl) rfl (cM rfl rfl ?_))))))); refine lw_on rfl rfl rfl (gd_tt (by omega)) ?_; refine cM rfl rfl ?_; refine lw_on rfl rfl rfl (gd_tt (by omega)) ?_; refine lw_pure (pur_geq rfl rfl) rfl ?_; refine lw_pure (pur_pick_yes rfl rfl (by omega)) rfl ?_; refine cT ?_; refine cw_yes rfl (by assumption) ?_; refine cw_skip (qw_then (cw_seq (cw_block (cw_region (lw_pure (pur_fieldAddr tabOk rfl rfl rfl) rfl (lw_load_b tabOk rfl rfl rfl hb1 rfl rfl (cM rfl rfl ?_))))))); refine lw_pure (pur_indexAddr tabOk rfl rfl rfl rfl (by omega) (by omega)) rfl ?_; refine lw_loads_r0 tabOk rfl rfl rfl rx rfl rfl (cM rfl rfl ?_); refine cC (by kernel_rfl) rfl (HX.out _ _ _ _ (by assumption)) rfl ?_; rintro _ wa2 ⟨⟨⟩, xa1⟩; have za3 := xa1.size; replace X := X.ext xa1; replace hs := Bk.rowSits.ext hs xa1; replace hb1 := hb1.ext xa1; replace rx := rx.ext xa1; replace sx := Nd.sits.ext sx xa1; clear xa1; refine cA rfl rfl (lw_nil (qw_block_norm (qw_then (cw_region (cM rfl rfl ?_))))); refine lw_pure (pur_add rfl rfl (IntWalk.i64_in _ (by omega))) rfl ?_; refine cA rfl rfl (lw_nil ?_); rotate_left 1
      exact qw_round (j + 1, q) (by (refine sub_cons rfl ?_; refine sub_cons rfl ?_; refine sub_cons rfl ?_; exact sub_nil)) ⟨hs, X, by simp only; omega, hb1, HE.out, g2, by simp only; omega⟩ (by simp only; omega)
    · rw [rowSizeL_neg (l.drop j) v (by omega)] at he
      have HE := Lib.hid he; clear he
      focus
       refine cw_seq (cS (cM rfl rfl (lw_pure (pur_fieldAddr tabOk rfl rfl rfl) rfl (lw_load_b tabOk rfl rfl rfl hb1 rfl rfl (lw_pure (pur_len_slice tabOk rfl rfl) rfl (lw_pure (pur_lss rfl rfl) rfl (cM rfl rfl ?_))))))); refine lw_on rfl rfl rfl (gd_tt (by omega)) ?_; refine cM rfl rfl ?_; refine lw_on rfl rfl rfl (gd_tt (by omega)) ?_; refine lw_pure (pur_geq rfl rfl) rfl ?_; refine lw_pure (pur_pick_yes rfl rfl (by omega)) rfl ?_; refine cT ?_; refine cw_no rfl (by assumption) ?_; refine cw_exit (qw_then_exit (qw_then_exit (qw_block_exit (qw_then (cS (cM rfl rfl (cA rfl rfl (cT (cw_ret (qw_ret1 rfl rfl ?_)))))))))); rotate_left 1
      exact sizeR HE.out X
  · have hje : j = l.length := by omega
    subst hje; rw [List.drop_length] at he; simp only [rowSizeL] at he; have HE := Lib.hid he; clear he
    focus
     refine cw_seq (cS (cM rfl rfl (lw_pure (pur_fieldAddr tabOk rfl rfl rfl) rfl (lw_load_b tabOk rfl rfl rfl hb1 rfl rfl (lw_pure (pur_len_slice tabOk rfl rfl) rfl (lw_pure (pur_lss rfl rfl) rfl (cM rfl rfl ?_))))))); refine lw_off rfl rfl rfl (gd_tf (by omega)) rfl ?_; refine lw_off rfl rfl rfl (gd_tf (by omega)) rfl ?_; refine lw_pure (pur_pick_no rfl rfl (by omega)) rfl ?_; refine cT (cw_cond_f rfl (cw_exit (qw_then_exit (qw_then_exit (qw_block_exit (qw_then (cS (cM rfl rfl (cA rfl rfl (cT (cw_ret ?_))))))))))); refine qw_ret1 rfl rfl ?_; rotate_left 1
    exact sizeR HE.out X
def fewL (lib : List FD) : Bool := decide (lib.length ≤ 32) && lib.all (fun f => decide (f.name.length ≤ 40) && decide (f.params.length ≤ 12) && decide (0 ≤ f.body.sizeL 150))
def FD.wfA (f : FD) : Prop := f.name.length ≤ 9223372036854775807 ∧ f.params.length ≤ 9223372036854775807 ∧ (∀ p ∈ f.params, p.name.length ≤ 9223372036854775807) ∧ f.body.wf
theorem fewL_take {lib : List FD} {j : Nat} (h32 : lib.length ≤ 32) (hj : j < lib.length) (hc : (decide (lib[j].name.length ≤ 40) && decide (lib[j].params.length ≤ 12) && decide (0 ≤ lib[j].body.sizeL 150)) = false) : fewL lib = false := by
 unfold fewL
 rw [decide_eq_true h32, Bool.true_and, List.all_eq_false]
 exact ⟨lib[j], List.getElem_mem hj, by rw [hc]; simp⟩
set_option maxRecDepth 100000 in
set_option maxHeartbeats 4000000 in
theorem few36_c (lib : List FD) (S : Nat → Prop) (a : Option Addr) (c : Nat) (w : World) (hl : lib.length ≤ 9223372036854775807) (hw : ∀ f ∈ lib, f.wfA) (hs : FDs S w lib a) :
 Calls Tryz.prog 8 #[.slice a lib.length c] w fun e w' => e = .returned (.bool (fewL lib)) ∧ Ext w w' := by
 have X := Ext.refl w; replace hs := hs.ltA; have HW := Lib.hid hw; clear hw
 by_cases h32 : lib.length ≤ 32
 case neg =>
  have hq := Lib.hid (show fewL lib = false from by unfold fewL; rw [decide_eq_false h32]; rfl); refine calls_in Tryz.func8 Tryz.ntmps8 rfl rfl ?_
  focus
   refine cS (cA rfl rfl (cT (cw_seq (cS (cM rfl rfl (lw_pure (pur_len_slice tabOk rfl rfl) rfl (lw_pure (pur_gtr rfl rfl) rfl (cT ?_)))))))); refine cw_yes rfl (by omega) ?_; refine cS (cA rfl rfl (cT (cw_ret (qw_then_ret (qw_ret1 rfl rfl ?_))))); rotate_left 1
  exact ⟨by rw [hq.out], X⟩
 refine calls_in Tryz.func8 Tryz.ntmps8 rfl rfl ?_
 focus
  refine cS (cA rfl rfl (cT (cw_seq (cS (cM rfl rfl (lw_pure (pur_len_slice tabOk rfl rfl) rfl (lw_pure (pur_gtr rfl rfl) rfl (cT ?_)))))))); refine cw_no rfl (by omega) ?_; refine cw_skip (qw_then (cw_seq (cS (cM rfl rfl (lw_pure (pur_len_slice tabOk rfl rfl) rfl (cM rfl rfl (cT (cw_block ?_)))))))); rotate_left 1
 refine cw_loop (ι := Nat) (fun j => [(8, .slice a lib.length c), (9, .int .i64 lib.length), (10, .int .i64 j)]) (fun j w' => FDs (· < w.heap.size) w' lib a ∧ Ext w w' ∧ j ≤ lib.length ∧ (lib.take j).all (fun f => decide (f.name.length ≤ 40) && decide (f.params.length ≤ 12) && decide (0 ≤ f.body.sizeL 150)) = true) (fun j => lib.length - j) 0 (by (refine sub_cons rfl ?_; refine sub_cons rfl ?_; refine sub_cons rfl ?_; exact sub_nil)) ⟨hs, X, Nat.zero_le _, by simp⟩ ?_; clear hs X; rintro j w1 ⟨hs, X, hj, hn⟩; have HN := Lib.hid hn; clear hn
 by_cases hlt : j < lib.length
 · have hs2 := hs
   obtain ⟨kb, ko, ⟨⟩, -, hk⟩ := Arr.get hs2 (by omega); obtain ⟨pa, pc, ba, bc, hr, h1, h2⟩ := hk j lib[j] (List.getElem?_eq_getElem hlt); clear hk hs2; obtain ⟨w1', w2', w3', w4'⟩ := HW.out _ (List.getElem_mem hlt); have hz := X.size; have HZ := Lib.hid (fun (S : Nat → Prop) (a : Option Addr) (c : Nat) (w : World) => size36_c 151 lib[j].body 150 S a c w (by omega) (by omega) (by omega) w4')
   have hnx : (decide (lib[j].name.length ≤ 40) && decide (lib[j].params.length ≤ 12) && decide (0 ≤ lib[j].body.sizeL 150)) = true → (lib.take (j + 1)).all (fun f => decide (f.name.length ≤ 40) && decide (f.params.length ≤ 12) && decide (0 ≤ f.body.sizeL 150)) = true := fun h => by
    rw [List.take_succ_eq_append_getElem hlt, List.all_append, HN.out]
    simpa using h
   have HX := Lib.hid hnx; have HF := Lib.hid (fewL_take h32 hlt); clear hnx HN w3' w4'
   generalize lib[j] = x at *
   generalize x.body.sizeL 150 = q at *
   simp only [FD.cells] at hr
   focus
    refine cS (lw_pure (pur_lss rfl rfl) rfl (cT (cw_seq ?_))); refine cw_yes rfl (by omega) ?_; refine cw_skip (qw_then (cw_seq (cw_block (cS ?_)))); refine lw_pure (pur_indexAddr tabOk rfl rfl rfl rfl (by omega) (by omega)) rfl ?_; refine lw_loads_r0 tabOk rfl rfl rfl hr rfl rfl ?_; (refine lw_alloc' [_, _, _, _, _, _, _] zOk rfl rfl ?_; intro bb1 wb2 nb3); (refine lw_init' [_, _, _, _, _, _, _] tabOk rfl rfl rfl rfl rfl rfl nb3 rfl ?_; clear nb3; clear wb2; intro wb4 nb3); have hb5 := nb3.blk; have xb6 := nb3.ext; have pb7 := nb3.pos; have zb8 := nb3.size; clear nb3; replace X := X.ext xb6; replace hs := hs.ext xb6; replace hr := hr.ext xb6; replace h1 := h1.ext xb6; replace h2 := Nd.sits.ext h2 xb6; clear xb6; refine cN (lw_pure (pur_fieldAddr0 tabOk rfl rfl rfl) rfl (lw_load_b tabOk rfl rfl rfl hb5 rfl rfl (lw_pure (pur_len_s tabOk rfl rfl) rfl (lw_pure (pur_gtr rfl rfl) rfl (cM rfl rfl ?_))))); refine lw_dec rfl rfl rfl (fun cb9 => ?_) (fun cb9 => ?_); refine lw_off rfl rfl rfl (gd_ft (by assumption)) rfl ?_; refine lw_off rfl rfl rfl (gd_ft (by assumption)) rfl ?_; refine lw_off rfl rfl rfl (gd_ft (by assumption)) rfl ?_; refine lw_off rfl rfl rfl (gd_ft (by assumption)) rfl ?_; refine lw_pure (pur_pick_yes rfl rfl (by assumption)) rfl ?_; refine cM rfl rfl (lw_off rfl rfl rfl (rfl) rfl (lw_off rfl rfl rfl (rfl) rfl (lw_off rfl rfl rfl (rfl) rfl (lw_off rfl rfl rfl (rfl) rfl (lw_pure (pur_pick_t rfl rfl rfl) rfl (cT (cw_cond_t rfl (cS (cA rfl rfl (cT (cw_ret ?_)))))))))))
    refine qw_block_ret (qw_then_ret (qw_then_ret (qw_block_ret (qw_then_ret (qw_ret1 rfl rfl ?_))))); rotate_left 1; refine lw_on rfl rfl rfl (gd_ff (by assumption)) ?_; refine lw_pure (pur_fieldAddr tabOk rfl rfl rfl) rfl ?_; refine lw_on rfl rfl rfl (gd_ff (by assumption)) ?_; refine lw_load_b tabOk rfl rfl rfl hb5 rfl rfl ?_; refine lw_on rfl rfl rfl (gd_ff (by assumption)) ?_; refine lw_pure (pur_len_slice tabOk rfl rfl) rfl ?_; refine lw_on rfl rfl rfl (gd_ff (by assumption)) ?_; refine lw_pure (pur_gtr rfl rfl) rfl ?_; refine lw_pure (pur_pick_no rfl rfl (by assumption)) rfl ?_; refine cM rfl rfl ?_; refine lw_dec rfl rfl rfl (fun cb10 => ?_) (fun cb10 => ?_); refine lw_off rfl rfl rfl (gd_ft (by assumption)) rfl ?_; refine lw_off rfl rfl rfl (gd_ft (by assumption)) rfl ?_; refine lw_off rfl rfl rfl (gd_ft (by assumption)) rfl ?_; refine lw_off rfl rfl rfl (gd_ft (by assumption)) rfl ?_; refine lw_pure (pur_pick_yes rfl rfl (by assumption)) rfl ?_; refine cT (cw_cond_t rfl (cS (cA rfl rfl (cT (cw_ret (qw_block_ret (qw_then_ret (qw_then_ret (qw_block_ret (qw_then_ret (qw_ret1 rfl rfl ?_))))))))))); rotate_left 1; refine lw_on rfl rfl rfl (gd_ff (by assumption)) ?_; refine lw_pure (pur_fieldAddr tabOk rfl rfl rfl) rfl ?_; refine lw_on rfl rfl rfl (gd_ff (by assumption)) ?_; refine lw_loads_b' [_, _, _, _] tabOk rfl rfl rfl hb5 rfl rfl rfl ?_; refine lw_on rfl rfl rfl (gd_ff (by assumption)) ?_; refine cC (by kernel_rfl) rfl (HZ.out _ _ _ _ (by assumption)) rfl ?_; rintro _ wb12 ⟨⟨⟩, xb11⟩
    have zb13 := xb11.size; replace hb5 := hb5.ext xb11; replace X := X.ext xb11; replace hs := hs.ext xb11; replace hr := hr.ext xb11; replace h1 := h1.ext xb11; replace h2 := Nd.sits.ext h2 xb11; clear xb11; refine lw_on rfl rfl rfl (gd_ff (by assumption)) ?_; refine lw_pure (pur_lss rfl rfl) rfl ?_; refine lw_pure (pur_pick_no rfl rfl (by assumption)) rfl ?_; refine cT ?_; refine cw_dec rfl (fun cb14 => ?_) (fun cb14 => ?_); refine cS (cA rfl rfl (cT (cw_ret (qw_block_ret (qw_then_ret (qw_then_ret (qw_block_ret (qw_then_ret (qw_ret1 rfl rfl ?_))))))))); rotate_left 1; refine cw_skip (qw_block_norm (qw_then (cw_region ?_))); refine lw_pure (pur_add rfl rfl (IntWalk.i64_in _ (by omega))) rfl ?_; refine cM rfl rfl (lw_nil ?_); rotate_left 1
   all_goals first
    | exact ⟨by rw [HF.out (by simp only [Bool.and_eq_false_iff, decide_eq_false_iff_not]; omega)], X⟩
    | exact qw_round (j + 1) (by (refine sub_cons rfl ?_; refine sub_cons rfl ?_; refine sub_cons rfl ?_; exact sub_nil)) ⟨hs, X, by omega, HX.out (by simp only [Bool.and_eq_true, decide_eq_true_eq]; omega)⟩ (by omega)
 · have hje : j = lib.length := by omega
   subst hje; have hn := HN.out; rw [List.take_length] at hn; have hq := Lib.hid (show fewL lib = true from by unfold fewL; rw [decide_eq_true h32, hn]; rfl); clear hn HN
   focus
    refine cS (lw_pure (pur_lss rfl rfl) rfl (cT (cw_seq ?_))); refine cw_no rfl (by omega) ?_; refine cw_exit (qw_then_exit (qw_then_exit (qw_block_exit (qw_then (cS (cA rfl rfl (cT (cw_ret (qw_ret1 rfl rfl ?_))))))))); rotate_left 1
   exact ⟨by rw [hq.out], X⟩
end Bk
namespace Bk
def digitsFrom (a : Nat) (s : List UInt8) : Nat := s.foldl (fun a c => a * 10 + (c.toNat - 48)) a
theorem digitsFrom_le (s : List UInt8) : ∀ a, a ≤ digitsFrom a s := by
 induction s with
 | nil => intro a; exact Nat.le_refl _
 | cons c r ih => intro a; have := ih (a * 10 + (c.toNat - 48)); simp only [digitsFrom, List.foldl_cons] at this ⊢; omega
end Bk
namespace Bk
open Go Go.RowKit Go.Proofs
attribute [local irreducible] Go.Calls
theorem parseUint_digits : ∀ (s : List UInt8) (a : Nat), a < 18446744073709551616 → (∀ c ∈ s, digit c = true) →
 (Lib.parseUint10 a s = .ok (digitsFrom a s) ∧ digitsFrom a s < 18446744073709551616) ∨ (Lib.parseUint10 a s = .range ∧ 18446744073709551616 ≤ digitsFrom a s)
 | [], a, ha, _ => Or.inl ⟨rfl, ha⟩
 | c :: r, a, ha, hd => by
  have hc := hd c List.mem_cons_self; simp only [digit, Bool.and_eq_true, decide_eq_true_eq] at hc
  have hr : ∀ x ∈ r, digit x = true := fun x hx => hd x (List.mem_cons_of_mem _ hx)
  have hle := digitsFrom_le r (a * 10 + (c.toNat - 48)); have he : digitsFrom a (c :: r) = digitsFrom (a * 10 + (c.toNat - 48)) r := rfl; rw [he]; simp only [Lib.parseUint10, hc, and_self, if_true]
  by_cases h1 : 1844674407370955162 ≤ a
  · rw [if_pos h1]; exact Or.inr ⟨rfl, by omega⟩
  · rw [if_neg h1]
    by_cases h2 : 18446744073709551616 ≤ a * 10 + (c.toNat - 48)
    · rw [if_pos h2]; exact Or.inr ⟨rfl, by omega⟩
    · rw [if_neg h2]
      exact parseUint_digits r _ (by omega) hr
theorem atoi_digits (s : List UInt8) (hs : s ≠ []) (hd : ∀ c ∈ s, digit c = true) :
 Lib.atoiAll s = if (digitsVal s : Int) ≤ 9223372036854775807 then .ok (digitsVal s) else .range := by
 cases s with
 | nil => exact absurd rfl hs
 | cons c r =>
  have hc := hd c List.mem_cons_self; simp only [digit, Bool.and_eq_true, decide_eq_true_eq] at hc
  have n45 : ¬ c.toNat = 45 := by omega
  have n43 : ¬ c.toNat = 43 := by omega
  have e : digitsVal (c :: r) = digitsFrom 0 (c :: r) := rfl; rw [e]
  have hm : Lib.parseMag (c :: r) = Lib.parseUint10 0 (c :: r) := by simp [Lib.parseMag]
  unfold Lib.atoiAll
  simp only [n45, n43, or_self, if_false, hm, not_false_eq_true, true_and, false_and]
  rcases parseUint_digits (c :: r) 0 (by omega) hd with ⟨h1, h2⟩ | ⟨h1, h2⟩
  · rw [h1]
    simp only
    by_cases h : 9223372036854775808 ≤ digitsFrom 0 (c :: r)
    · rw [if_pos h, if_neg (by omega)]
    · rw [if_neg h, if_pos (by omega)]
  · rw [h1, if_neg (by omega)]
theorem Ext.bytes (w : World) (e : TypeId) (s : ByteArray) : Ext w (Lib.bytesWorld w e s) := Lib.bytesWorld_below w e s
theorem Atoi_ok (s : List UInt8) (w : World) (hs : s ≠ []) (hd : ∀ c ∈ s, digit c = true) (hl : s.length ≤ 1000000) (h : (digitsVal s : Int) ≤ 9223372036854775807) :
 Calls Tryz.prog 131 #[str s] w fun e w' => e = .returned (.tuple #[.int .i64 (digitsVal s), .nilIface]) ∧ Ext w w' := by
 have ha := atoi_digits s hs hd; rw [if_pos h] at ha; refine (Tryz.strconv_Atoi_ok ⟨s.toArray⟩ (by rw [ba_size]; omega) (digitsVal s) (by simpa using ha) w).mono ?_; rintro e w' ⟨rfl, rfl | ⟨t, rfl⟩⟩
 · exact ⟨rfl, Ext.refl _⟩
 · exact ⟨rfl, Ext.bytes _ _ _⟩
theorem Atoi_range (s : List UInt8) (w : World) (hs : s ≠ []) (hd : ∀ c ∈ s, digit c = true) (hl : s.length ≤ 1000000) (h : ¬ (digitsVal s : Int) ≤ 9223372036854775807) (he : Errs w) :
 Calls Tryz.prog 131 #[str s] w fun e w' => ∃ te pe, e = .returned (.tuple #[.int .i64 9223372036854775807, .iface te pe]) ∧ Ext w w' := by
 have ha := atoi_digits s hs hd; rw [if_neg h] at ha; obtain ⟨te, pe, hv⟩ := he.ex; refine (Tryz.strconv_Atoi_range ⟨s.toArray⟩ (by rw [ba_size]; omega) (by simpa using ha) (.iface te pe) w hv (Or.inr ⟨te, pe, rfl⟩)).mono ?_; rintro e w' ⟨N, rfl, -, -, hb⟩
 have : Lib.atoiSat (⟨s.toArray⟩ : ByteArray).data.toList = 9223372036854775807 := by
  cases s with
  | nil => exact absurd rfl hs
  | cons c r =>
   have hc := hd c List.mem_cons_self; simp only [digit, Bool.and_eq_true, decide_eq_true_eq] at hc
   simp [Lib.atoiSat]; omega
 rw [this]
 exact ⟨_, _, rfl, hb⟩
end Bk
namespace Bk
open Go Go.RowKit Go.Proofs
attribute [local irreducible] Go.Calls
structure PCF where
 pb : Nat
 B : Nat
 ts : List Tok
 n : Int
 a : Option Addr
 cap : Nat
 r : Nat
abbrev PCF.cells (c : PCF) (σ : PS) : List Value := [.slice c.a c.ts.length c.cap, .int .i64 σ.at_, .int .i64 c.n, .map (some c.r), .int .i64 σ.err, .int .i64 σ.off]
structure PPF (c : PCF) (σ : PS) (w : World) : Prop where
 blk : Blk w c.pb (c.cells σ)
 toks : Arr (fun b => b < c.B ∧ b ≠ c.pb) 3 TokAt w c.ts c.a
 map : MapIs w c.r binMap
 pbB : c.pb < c.B
 rB : c.r < c.B
 rne : c.r ≠ c.pb
 B : c.B ≤ w.heap.size
 at_ : σ.at_ ≤ c.ts.length
 len : c.ts.length ≤ 1000000
 tok : ∀ t ∈ c.ts, t.text.length ≤ 1000000
 num : ∀ t ∈ c.ts, t.kind = 2 → t.text ≠ [] ∧ ∀ x ∈ t.text, digit x = true
 errs : Errs w
 gl : 6 < c.pb
theorem PPF.ext {c : PCF} {σ : PS} {w w' : World} (h : PPF c σ w) (x : Ext w w') : PPF c σ w' :=
 ⟨h.blk.ext x, h.toks.mono (fun _ h => h) (fun _ _ _ _ _ h => Row.ext h x), h.map.ext x, h.pbB, h.rB, h.rne, Nat.le_trans h.B x.size, h.at_, h.len, h.tok, h.num, h.errs.ext x, h.gl⟩
theorem PPF.fr {c : PCF} {σ : PS} {S : Nat → Prop} {w w' : World} (h : PPF c σ w) (x : Fr S w w') (hs : ∀ k, S k → c.B ≤ k) : PPF c σ w' :=
 ⟨h.blk.fr x (fun e => by have := hs _ e; have := h.pbB; omega), h.toks.mono (fun _ h => h) (fun b _ _ _ hb h => Row.fr h x (fun e => by have h1 := hs _ e; have h2 := hb.1; have h3 : c.B ≤ b := h1; omega)), h.map.fr x (fun e => by have := hs _ e; have := h.rB; omega), h.pbB, h.rB, h.rne, Nat.le_trans h.B x.size, h.at_, h.len, h.tok, h.num, h.errs.fr x (fun e => by have := hs _ e; have := h.gl; have := h.pbB; omega), h.gl⟩
theorem PPF.put {c : PCF} {σ σ' : PS} {w w' : World} (h : PPF c σ w) (p : Put w w' c.pb (c.cells σ')) (ha : σ'.at_ ≤ c.ts.length) : PPF c σ' w' :=
 ⟨p.blk, h.toks.mono (fun _ h => h) (fun b _ _ _ hb h => Row.fr h p.fr (fun e => hb.2 e)), h.map.fr p.fr (fun e => h.rne e), h.pbB, h.rB, h.rne, Nat.le_trans h.B p.fr.size, ha, h.len, h.tok, h.num, h.errs.fr p.fr (fun e => by have := h.gl; have e' : 6 = c.pb := e; omega), h.gl⟩
section
variable {P : Program} {n : Nat} {ops : Array Oper} {Q : Exit → Act → World → Prop} {rest : List Oper} {l : Sl} {w : World} {tab : Tab} {ty : TypeId} {pos : String} {after : Array Edge}
theorem lw_ppf {c : PCF} {σ σ' : PS} {x y : Operand} {t sz o : Nat} {s : Sk} {v : Value} (T : TabOk P tab) (ht : lookT tab t = some (s, sz)) (hsz : sz = 1) (hx : ev l x = some (.pointer (some ⟨c.pb, o, none⟩))) (hy : ev l y = some v) (hv : v.cells = #[v]) (h1 : Value.one v = true) (hP : PPF c σ w) (ho : Nat.ble (o + 1) 6 = true)
 (he : (c.cells σ).set o v = c.cells σ') (ha : σ'.at_ ≤ c.ts.length) (k : ∀ w1, PPF c σ' w1 → Fr (· = c.pb) w w1 → LW P n ops Q rest l w1) : LW P n ops Q (⟨none, .store t x y, ty, pos, after, none⟩ :: rest) l w :=
 lw_store T ht hx hy (us := [v]) hv (by simp [hsz]) (by simp [h1]) hP.blk (by simpa using ho) (fun w1 p => by
  have e : setMany (c.cells σ) o [v] = c.cells σ' := by simp only [setMany]; exact he
  rw [e] at p
  exact k w1 (hP.put p ha) p.fr)
theorem lw_ppf_at {c : PCF} {σ : PS} {x y : Operand} {t sz : Nat} {s : Sk} (T : TabOk P tab) (ht : lookT tab t = some (s, sz)) (hsz : sz = 1) (hx : ev l x = some (.pointer (some ⟨c.pb, 1, none⟩))) (hy : ev l y = some (.int .i64 ((σ.at_ : Int) + 1))) (hP : PPF c σ w) (ha : σ.at_ < c.ts.length)
 (k : ∀ w1, PPF c (nextP σ) w1 → Fr (· = c.pb) w w1 → LW P n ops Q rest l w1) : LW P n ops Q (⟨none, .store t x y, ty, pos, after, none⟩ :: rest) l w :=
 lw_ppf (σ' := nextP σ) T ht hsz hx hy rfl rfl hP rfl rfl ha k
theorem lw_ppf_off {c : PCF} {σ : PS} {x y : Operand} {t sz : Nat} {s : Sk} {v : Int} (T : TabOk P tab) (ht : lookT tab t = some (s, sz)) (hsz : sz = 1) (hx : ev l x = some (.pointer (some ⟨c.pb, 5, none⟩))) (hy : ev l y = some (.int .i64 v)) (hP : PPF c σ w)
 (k : ∀ w1, PPF c ⟨σ.at_, v, σ.err⟩ w1 → Fr (· = c.pb) w w1 → LW P n ops Q rest l w1) : LW P n ops Q (⟨none, .store t x y, ty, pos, after, none⟩ :: rest) l w :=
 lw_ppf (σ' := ⟨σ.at_, v, σ.err⟩) T ht hsz hx hy rfl rfl hP rfl rfl hP.at_ k
theorem lw_ppf_err {c : PCF} {σ : PS} {x y : Operand} {t sz : Nat} {s : Sk} {v : Int} (T : TabOk P tab) (ht : lookT tab t = some (s, sz)) (hsz : sz = 1) (hx : ev l x = some (.pointer (some ⟨c.pb, 4, none⟩))) (hy : ev l y = some (.int .i64 v)) (hP : PPF c σ w)
 (k : ∀ w1, PPF c ⟨σ.at_, σ.off, v⟩ w1 → Fr (· = c.pb) w w1 → LW P n ops Q rest l w1) : LW P n ops Q (⟨none, .store t x y, ty, pos, after, none⟩ :: rest) l w :=
 lw_ppf (σ' := ⟨σ.at_, σ.off, v⟩) T ht hsz hx hy rfl rfl hP rfl rfl hP.at_ k
end
set_option maxRecDepth 100000 in
set_option maxHeartbeats 1000000 in
theorem fpeek_c (c : PCF) (σ : PS) (w : World) (hP : PPF c σ w) :
 Calls Tryz.prog 91 #[.pointer (some ⟨c.pb, 0, none⟩)] w fun e w' => e = .returned (peekP c.ts σ).val ∧ Ext w w' := by
 have hat := hP.at_; have X := Ext.refl w
 by_cases h : σ.err ≠ 0 ∨ σ.at_ = c.ts.length
 · rw [peek_off h]
   by_cases he : σ.err = 0
   · have ha : σ.at_ = c.ts.length := h.resolve_left (fun e => e he)
     refine calls_in Tryz.func91 Tryz.ntmps91 rfl rfl ?_
     focus
      refine cS ?_; (refine lw_alloc' [_, _, _] zOk rfl rfl ?_; intro b1 w2 n3); have h5 := n3.blk; have x6 := n3.ext; have p7 := n3.pos; have z8 := n3.size; clear n3; replace hP := hP.ext x6; replace X := X.ext x6; clear x6; refine cT (cw_seq (cw_seq ?_)); (refine cw_tdraw (fun wz => Ext w2 wz) 15 (.pure 0 (.pure 1 (.pure 2 (.pure 3 (.pure 4 (.pure 5 (.pure 6 (.pure 7 (.pure 8 (.pure 9 (.pure 10 (.pure 11 (.pure 12 (.pure 13 (.pure 14 .tail))))))))))))))) mixed (by kernel_rfl) (panicOk_then (panicOk_then panicOk_body)) ?_; intro w9 x10 _); have qs11 : (fun wz => Ext w2 wz) w9 := x10; simp only at qs11; have d_h5 := h5; have d_hP := hP; have z12 := x10.size; replace h5 := h5.ext x10; replace hP := hP.ext x10; replace X := X.ext x10; clear x10; refine ⟨qs11, ?_⟩; refine tw_pure rfl (pur_move rfl) rfl (tw_pure rfl (pur_nilCheck rfl) rfl (tw_pure rfl (pur_fieldAddr tabOk rfl rfl rfl) rfl (tw_pure rfl (pur_load tabOk rfl rfl rfl (fun wz hz => Blk.cell (Blk.ext (PPF.blk d_hP) hz) rfl)) rfl (tw_pure rfl (pur_neq rfl rfl) rfl (tw_pure rfl (pur_move rfl) rfl ?_))))); refine tw_on rfl rfl rfl rfl (gd_ff (by omega)) (pur_move rfl) rfl ?_; refine tw_on rfl rfl rfl rfl (gd_ff (by omega)) (pur_nilCheck rfl) rfl ?_; refine tw_on rfl rfl rfl rfl (gd_ff (by omega)) (pur_fieldAddr tabOk rfl rfl rfl) rfl ?_; refine tw_on rfl rfl rfl rfl (gd_ff (by omega)) (pur_load tabOk rfl rfl rfl (fun wz hz => Blk.cell (Blk.ext (PPF.blk d_hP) hz) rfl)) rfl ?_; refine tw_on rfl rfl rfl rfl (gd_ff (by omega)) (pur_move rfl) rfl ?_
      refine tw_on rfl rfl rfl rfl (gd_ff (by omega)) (pur_nilCheck rfl) rfl ?_; refine tw_on rfl rfl rfl rfl (gd_ff (by omega)) (pur_fieldAddr0 tabOk rfl rfl rfl) rfl ?_; refine tw_on rfl rfl rfl rfl (gd_ff (by omega)) (pur_load tabOk rfl rfl rfl (fun wz hz => Blk.cell (Blk.ext (PPF.blk d_hP) hz) rfl)) rfl ?_; refine tw_on rfl rfl rfl rfl (gd_ff (by omega)) (pur_len_slice tabOk rfl rfl) rfl ?_; clear qs11 d_h5 d_hP; refine tw_tail rfl ?_; refine lw_on rfl rfl rfl (gd_ff (by omega)) ?_; refine lw_pure (pur_geq rfl rfl) rfl ?_; refine lw_pure (pur_pick_no rfl rfl (by omega)) rfl ?_; refine cT ?_; refine cw_yes rfl (by omega) ?_; refine cS (lw_pure (pur_build' [_, _, _] tabOk zOk rfl rfl rfl rfl) rfl ?_); (refine lw_store' [_, _, _] [_, _, _] tabOk rfl rfl rfl rfl rfl rfl h5 rfl rfl ?_; intro w13 n14); have h17 := n14.blk; have f15 := n14.fr; have z16 := n14.size; clear n14 h5 hP; replace X := X.fr f15 (by omega); clear f15; refine cT (cw_ret (qw_then_ret (qw_retc rfl tabOk rfl rfl rfl h17 rfl ?_))); rotate_left 1
     exact ⟨rfl, X⟩
   · refine calls_in Tryz.func91 Tryz.ntmps91 rfl rfl ?_
     focus
      refine cS ?_; (refine lw_alloc' [_, _, _] zOk rfl rfl ?_; intro ba1 wa2 na3); have ha5 := na3.blk; have xa6 := na3.ext; have pa7 := na3.pos; have za8 := na3.size; clear na3; replace hP := hP.ext xa6; replace X := X.ext xa6; clear xa6; refine cT (cw_seq (cw_seq ?_)); (refine cw_tdraw (fun wz => Ext wa2 wz) 15 (.pure 0 (.pure 1 (.pure 2 (.pure 3 (.pure 4 (.pure 5 (.pure 6 (.pure 7 (.pure 8 (.pure 9 (.pure 10 (.pure 11 (.pure 12 (.pure 13 (.pure 14 .tail))))))))))))))) mixed (by kernel_rfl) (panicOk_then (panicOk_then panicOk_body)) ?_; intro wa9 xa10 _); have qsa11 : (fun wz => Ext wa2 wz) wa9 := xa10; simp only at qsa11; have d_ha5 := ha5; have d_hP := hP; have za12 := xa10.size; replace ha5 := ha5.ext xa10; replace hP := hP.ext xa10; replace X := X.ext xa10; clear xa10; refine ⟨qsa11, ?_⟩; refine tw_pure rfl (pur_move rfl) rfl (tw_pure rfl (pur_nilCheck rfl) rfl (tw_pure rfl (pur_fieldAddr tabOk rfl rfl rfl) rfl (tw_pure rfl (pur_load tabOk rfl rfl rfl (fun wz hz => Blk.cell (Blk.ext (PPF.blk d_hP) hz) rfl)) rfl (tw_pure rfl (pur_neq rfl rfl) rfl (tw_pure rfl (pur_move rfl) rfl ?_))))); refine tw_off rfl rfl rfl rfl (gd_ft (by assumption)) rfl ?_; refine tw_off rfl rfl rfl rfl (gd_ft (by assumption)) rfl ?_; refine tw_off rfl rfl rfl rfl (gd_ft (by assumption)) rfl ?_; refine tw_off rfl rfl rfl rfl (gd_ft (by assumption)) rfl ?_; refine tw_off rfl rfl rfl rfl (gd_ft (by assumption)) rfl ?_; refine tw_off rfl rfl rfl rfl (gd_ft (by assumption)) rfl ?_; refine tw_off rfl rfl rfl rfl (gd_ft (by assumption)) rfl ?_
      refine tw_off rfl rfl rfl rfl (gd_ft (by assumption)) rfl ?_; refine tw_off rfl rfl rfl rfl (gd_ft (by assumption)) rfl ?_; clear qsa11 d_ha5 d_hP; refine tw_tail rfl ?_; refine lw_off rfl rfl rfl (gd_ft (by assumption)) rfl ?_; refine lw_pure (pur_pick_yes rfl rfl (by assumption)) rfl ?_; refine cT (cw_cond_t rfl (cS (lw_pure (pur_build' [_, _, _] tabOk zOk rfl rfl rfl rfl) rfl ?_))); (refine lw_store' [_, _, _] [_, _, _] tabOk rfl rfl rfl rfl rfl rfl ha5 rfl rfl ?_; intro wa13 na14); have ha17 := na14.blk; have fa15 := na14.fr; have za16 := na14.size; clear na14 ha5 hP; replace X := X.fr fa15 (by omega); clear fa15; refine cT (cw_ret (qw_then_ret (qw_retc rfl tabOk rfl rfl rfl ha17 rfl ?_))); rotate_left 1
     exact ⟨rfl, X⟩
 · have he : σ.err = 0 := Decidable.byContradiction fun e => h (Or.inl e)
   have hlt : σ.at_ < c.ts.length := by have : σ.at_ ≠ c.ts.length := fun e => h (Or.inr e); omega
   rw [peek_is h hlt]; obtain ⟨tb, tof, hta, -, hrow⟩ := hP.toks.get (by omega); have hr : Row w ⟨tb, tof + σ.at_ * 3, none⟩ c.ts[σ.at_].cells := hrow σ.at_ _ (List.getElem?_eq_getElem hlt); clear hrow; refine calls_in Tryz.func91 Tryz.ntmps91 rfl rfl ?_
   focus
    refine cS ?_; (refine lw_alloc' [_, _, _] zOk rfl rfl ?_; intro bb1 wb2 nb3); have hb5 := nb3.blk; have xb6 := nb3.ext; have pb7 := nb3.pos; have zb8 := nb3.size; clear nb3; replace hP := hP.ext xb6; replace X := X.ext xb6; replace hr := hr.ext xb6; clear xb6; refine cT (cw_seq (cw_seq ?_)); (refine cw_tdraw (fun wz => Ext wb2 wz) 15 (.pure 0 (.pure 1 (.pure 2 (.pure 3 (.pure 4 (.pure 5 (.pure 6 (.pure 7 (.pure 8 (.pure 9 (.pure 10 (.pure 11 (.pure 12 (.pure 13 (.pure 14 .tail))))))))))))))) mixed (by kernel_rfl) (panicOk_then (panicOk_then panicOk_body)) ?_; intro wb9 xb10 _); have qsb11 : (fun wz => Ext wb2 wz) wb9 := xb10; simp only at qsb11; have d_hb5 := hb5; have d_hP := hP; have d_hr := hr; have zb12 := xb10.size; replace hb5 := hb5.ext xb10; replace hP := hP.ext xb10; replace X := X.ext xb10; replace hr := hr.ext xb10; clear xb10; refine ⟨qsb11, ?_⟩; refine tw_pure rfl (pur_move rfl) rfl (tw_pure rfl (pur_nilCheck rfl) rfl (tw_pure rfl (pur_fieldAddr tabOk rfl rfl rfl) rfl (tw_pure rfl (pur_load tabOk rfl rfl rfl (fun wz hz => Blk.cell (Blk.ext (PPF.blk d_hP) hz) rfl)) rfl (tw_pure rfl (pur_neq rfl rfl) rfl (tw_pure rfl (pur_move rfl) rfl ?_))))); refine tw_on rfl rfl rfl rfl (gd_ff (by omega)) (pur_move rfl) rfl ?_; refine tw_on rfl rfl rfl rfl (gd_ff (by omega)) (pur_nilCheck rfl) rfl ?_; refine tw_on rfl rfl rfl rfl (gd_ff (by omega)) (pur_fieldAddr tabOk rfl rfl rfl) rfl ?_; refine tw_on rfl rfl rfl rfl (gd_ff (by omega)) (pur_load tabOk rfl rfl rfl (fun wz hz => Blk.cell (Blk.ext (PPF.blk d_hP) hz) rfl)) rfl ?_
    refine tw_on rfl rfl rfl rfl (gd_ff (by omega)) (pur_move rfl) rfl ?_; refine tw_on rfl rfl rfl rfl (gd_ff (by omega)) (pur_nilCheck rfl) rfl ?_; refine tw_on rfl rfl rfl rfl (gd_ff (by omega)) (pur_fieldAddr0 tabOk rfl rfl rfl) rfl ?_; refine tw_on rfl rfl rfl rfl (gd_ff (by omega)) (pur_load tabOk rfl rfl rfl (fun wz hz => Blk.cell (Blk.ext (PPF.blk d_hP) hz) rfl)) rfl ?_; refine tw_on rfl rfl rfl rfl (gd_ff (by omega)) (pur_len_slice tabOk rfl rfl) rfl ?_; clear qsb11 d_hb5 d_hP d_hr; refine tw_tail rfl ?_; refine lw_on rfl rfl rfl (gd_ff (by omega)) ?_; refine lw_pure (pur_geq rfl rfl) rfl ?_; refine lw_pure (pur_pick_no rfl rfl (by omega)) rfl ?_; refine cT ?_; refine cw_no rfl (by omega) ?_; refine cw_skip (qw_then (cw_seq ?_)); (refine cw_tdraw (fun wz => Ext wb9 wz) 8 (.pure 0 (.pure 1 (.pure 2 (.pure 3 (.pure 4 (.pure 5 (.pure 6 (.pure 7 .tail)))))))) mixed (by kernel_rfl) (panicOk_then panicOk_body) ?_; intro wb13 xb14 _); have qsb15 : (fun wz => Ext wb9 wz) wb13 := xb14; simp only at qsb15; have d_hb5 := hb5; have d_hP := hP; have d_hr := hr; have zb16 := xb14.size; replace hb5 := hb5.ext xb14; replace hP := hP.ext xb14; replace X := X.ext xb14; replace hr := hr.ext xb14; clear xb14; refine ⟨qsb15, ?_⟩; refine tw_pure rfl (pur_move rfl) rfl (tw_pure rfl (pur_nilCheck rfl) rfl (tw_pure rfl (pur_fieldAddr0 tabOk rfl rfl rfl) rfl (tw_pure rfl (pur_load tabOk rfl rfl rfl (fun wz hz => Blk.cell (Blk.ext (PPF.blk d_hP) hz) rfl)) rfl (tw_pure rfl (pur_move rfl) rfl (tw_pure rfl (pur_nilCheck rfl) rfl (tw_pure rfl (pur_fieldAddr tabOk rfl rfl rfl) rfl (tw_pure rfl (pur_load tabOk rfl rfl rfl (fun wz hz => Blk.cell (Blk.ext (PPF.blk d_hP) hz) rfl)) rfl ?_)))))))
    clear qsb15 d_hb5 d_hP d_hr; refine tw_tail rfl ?_; refine lw_pure (pur_indexAddr_eq tabOk rfl rfl rfl (by assumption) rfl (by omega) (by omega)) rfl ?_; refine lw_loads_r0 tabOk rfl rfl rfl hr rfl rfl ?_; (refine lw_store' [_, _, _] [_, _, _] tabOk rfl rfl rfl rfl rfl rfl hb5 rfl rfl ?_; intro wb17 nb18); have hb21 := nb18.blk; have fb19 := nb18.fr; have zb20 := nb18.size; clear nb18 hb5 hP; replace X := X.fr fb19 (by omega); clear hr fb19; refine cT (cw_ret (qw_retc rfl tabOk rfl rfl rfl hb21 rfl ?_)); rotate_left 1
   exact ⟨rfl, X⟩
set_option maxRecDepth 100000 in
set_option maxHeartbeats 1000000 in
theorem ffail_c (c : PCF) (σ : PS) (off e : Int) (w : World) (hP : PPF c σ w) :
 Calls Tryz.prog 108 #[.pointer (some ⟨c.pb, 0, none⟩), .int .i64 off, .int .i64 e] w fun r w' => r = .returned (.tuple #[]) ∧ PPF c (failP σ off e) w' ∧ Fr (· = c.pb) w w' := by
 have X := Fr.refl (· = c.pb) w
 by_cases he : σ.err = 0
 · rw [show failP σ off e = ⟨σ.at_, off, e⟩ from by simp [failP, he]]
   refine calls_in Tryz.func108 Tryz.ntmps108 rfl rfl ?_
   focus
    refine cS (cM rfl rfl (lw_pure (pur_nilCheck rfl) rfl (lw_pure (pur_fieldAddr tabOk rfl rfl rfl) rfl (lw_load_b tabOk rfl rfl rfl (PPF.blk hP) rfl rfl (lw_pure (pur_eql rfl rfl) rfl (cT ?_)))))); refine cw_yes rfl (by assumption) ?_; refine cw_region (cM rfl rfl (cM rfl rfl (cM rfl rfl (cM rfl rfl (lw_pure (pur_nilCheck rfl) rfl (lw_pure (pur_fieldAddr tabOk rfl rfl rfl) rfl (lw_ppf_off tabOk rfl rfl rfl rfl hP ?_))))))); rintro w1 h2 f3; have z4 := f3.size; clear hP; replace X := X.fr f3 (by omega); clear f3; refine lw_pure (pur_nilCheck rfl) rfl (lw_pure (pur_fieldAddr tabOk rfl rfl rfl) rfl ?_); refine lw_ppf_err tabOk rfl rfl rfl rfl (by assumption) ?_; rintro w5 h6 f7; have z8 := f7.size; clear h2; replace X := X.fr f7 (by omega); clear f7; refine lw_nil (qw_end0 rfl ?_); rotate_left 1
   exact ⟨rfl, by assumption, X⟩
 · rw [show failP σ off e = σ from by simp [failP, he]]
   refine calls_in Tryz.func108 Tryz.ntmps108 rfl rfl ?_
   focus
    refine cS (cM rfl rfl (lw_pure (pur_nilCheck rfl) rfl (lw_pure (pur_fieldAddr tabOk rfl rfl rfl) rfl (lw_load_b tabOk rfl rfl rfl (PPF.blk hP) rfl rfl (lw_pure (pur_eql rfl rfl) rfl (cT ?_)))))); refine cw_no rfl (by assumption) ?_; refine cw_skip (qw_end0 rfl ?_); rotate_left 1
   exact ⟨rfl, hP, X⟩
set_option maxRecDepth 100000 in
set_option maxHeartbeats 1000000 in
theorem fmiss_c (c : PCF) (σ : PS) (w : World) (hP : PPF c σ w) :
 Calls Tryz.prog 90 #[.pointer (some ⟨c.pb, 0, none⟩)] w fun r w' => r = .returned (.tuple #[]) ∧ PPF c (unexpP c.ts c.n σ) w' ∧ Fr (· = c.pb) w w' := by
 have X := Fr.refl (· = c.pb) w
 by_cases hlt : σ.at_ < c.ts.length
 · rw [show unexpP c.ts c.n σ = failP σ (c.ts[σ.at_]).pos 3 from by simp [unexpP, hlt]]
   obtain ⟨tb, tof, hta, -, hrow⟩ := hP.toks.get (by omega); have hr : Row w ⟨tb, tof + σ.at_ * 3, none⟩ c.ts[σ.at_].cells := hrow σ.at_ _ (List.getElem?_eq_getElem hlt); clear hrow; refine calls_in Tryz.func90 Tryz.ntmps90 rfl rfl ?_
   focus
    refine cw_seq ?_; (refine cw_tdraw (fun wz => Ext w wz) 9 (.pure 0 (.pure 1 (.pure 2 (.pure 3 (.pure 4 (.pure 5 (.pure 6 (.pure 7 (.pure 8 .tail))))))))) mixed (by kernel_rfl) (panicOk_then panicOk_body) ?_; intro w1 x2 _); have qs3 : (fun wz => Ext w wz) w1 := x2; simp only at qs3; have d_hP := hP; have d_hr := hr; have z4 := x2.size; replace hP := hP.ext x2; replace X := X.ext x2; replace hr := hr.ext x2; clear x2; refine ⟨qs3, ?_⟩; refine tw_pure rfl (pur_move rfl) rfl (tw_pure rfl (pur_nilCheck rfl) rfl (tw_pure rfl (pur_fieldAddr tabOk rfl rfl rfl) rfl (tw_pure rfl (pur_load tabOk rfl rfl rfl (fun wz hz => Blk.cell (Blk.ext (PPF.blk d_hP) hz) rfl)) rfl (tw_pure rfl (pur_move rfl) rfl (tw_pure rfl (pur_nilCheck rfl) rfl (tw_pure rfl (pur_fieldAddr0 tabOk rfl rfl rfl) rfl (tw_pure rfl (pur_load tabOk rfl rfl rfl (fun wz hz => Blk.cell (Blk.ext (PPF.blk d_hP) hz) rfl)) rfl (tw_pure rfl (pur_len_slice tabOk rfl rfl) rfl ?_)))))))); clear qs3 d_hP d_hr; refine tw_tail rfl (lw_pure (pur_geq rfl rfl) rfl (cT ?_)); refine cw_no rfl (by omega) ?_; (refine cw_tdraw (fun wz => Ext w1 wz) 12 (.pure 0 (.pure 1 (.pure 2 (.pure 3 (.pure 4 (.pure 5 (.pure 6 (.pure 7 (.pure 8 (.pure 9 (.pure 10 (.pure 11 .tail)))))))))))) mixed (by kernel_rfl) panicOk_body ?_; intro w5 x6 _); have qs7 : (fun wz => Ext w1 wz) w5 := x6; simp only at qs7; have d_hP := hP; have d_hr := hr; have z8 := x6.size; replace hP := hP.ext x6; replace X := X.ext x6; replace hr := hr.ext x6; clear x6; refine ⟨qs7, ?_⟩
    refine tw_pure rfl (pur_move rfl) rfl (tw_pure rfl (pur_move rfl) rfl (tw_pure rfl (pur_nilCheck rfl) rfl (tw_pure rfl (pur_fieldAddr0 tabOk rfl rfl rfl) rfl (tw_pure rfl (pur_load tabOk rfl rfl rfl (fun wz hz => Blk.cell (Blk.ext (PPF.blk d_hP) hz) rfl)) rfl (tw_pure rfl (pur_move rfl) rfl (tw_pure rfl (pur_nilCheck rfl) rfl (tw_pure rfl (pur_fieldAddr tabOk rfl rfl rfl) rfl (tw_pure rfl (pur_load tabOk rfl rfl rfl (fun wz hz => Blk.cell (Blk.ext (PPF.blk d_hP) hz) rfl)) rfl ?_)))))))); refine tw_pure rfl (pur_indexAddr_eq tabOk rfl rfl rfl (by assumption) rfl (by omega) (by omega)) rfl ?_; refine tw_pure rfl (pur_fieldAddr tabOk rfl rfl rfl) rfl (tw_pure rfl (pur_load tabOk rfl rfl rfl (fun wz hz => Row.at (Row.ext d_hr hz) rfl)) rfl ?_); clear qs7 d_hP d_hr; refine tw_tail rfl ?_; refine cC (by kernel_rfl) rfl (ffail_c _ _ _ _ _ (by assumption)) rfl ?_; rintro _ w11 ⟨⟨⟩, ⟨h9, f10⟩⟩; have z12 := f10.size; clear hP; replace X := X.fr f10 (by omega); clear hr f10; refine lw_nil (qw_end0 rfl ?_); rotate_left 1
   exact ⟨rfl, by assumption, X⟩
 · rw [show unexpP c.ts c.n σ = failP σ c.n 4 from by simp [unexpP, hlt]]
   refine calls_in Tryz.func90 Tryz.ntmps90 rfl rfl ?_
   focus
    refine cw_seq ?_; (refine cw_tdraw (fun wz => Ext w wz) 9 (.pure 0 (.pure 1 (.pure 2 (.pure 3 (.pure 4 (.pure 5 (.pure 6 (.pure 7 (.pure 8 .tail))))))))) mixed (by kernel_rfl) (panicOk_then panicOk_body) ?_; intro wa1 xa2 _); have qsa3 : (fun wz => Ext w wz) wa1 := xa2; simp only at qsa3; have d_hP := hP; have za4 := xa2.size; replace hP := hP.ext xa2; replace X := X.ext xa2; clear xa2; refine ⟨qsa3, ?_⟩; refine tw_pure rfl (pur_move rfl) rfl (tw_pure rfl (pur_nilCheck rfl) rfl (tw_pure rfl (pur_fieldAddr tabOk rfl rfl rfl) rfl (tw_pure rfl (pur_load tabOk rfl rfl rfl (fun wz hz => Blk.cell (Blk.ext (PPF.blk d_hP) hz) rfl)) rfl (tw_pure rfl (pur_move rfl) rfl (tw_pure rfl (pur_nilCheck rfl) rfl (tw_pure rfl (pur_fieldAddr0 tabOk rfl rfl rfl) rfl (tw_pure rfl (pur_load tabOk rfl rfl rfl (fun wz hz => Blk.cell (Blk.ext (PPF.blk d_hP) hz) rfl)) rfl (tw_pure rfl (pur_len_slice tabOk rfl rfl) rfl ?_)))))))); clear qsa3 d_hP; refine tw_tail rfl (lw_pure (pur_geq rfl rfl) rfl (cT ?_)); refine cw_yes rfl (by omega) ?_; refine cw_region (cM rfl rfl (cM rfl rfl (lw_pure (pur_nilCheck rfl) rfl (lw_pure (pur_fieldAddr tabOk rfl rfl rfl) rfl (lw_load_b tabOk rfl rfl rfl (PPF.blk hP) rfl rfl ?_))))); refine cC (by kernel_rfl) rfl (ffail_c _ _ _ _ _ (by assumption)) rfl ?_; rintro _ wa7 ⟨⟨⟩, ⟨ha5, fa6⟩⟩; have za8 := fa6.size; clear hP; replace X := X.fr fa6 (by omega); clear fa6; refine lw_nil (qw_end0 rfl ?_); rotate_left 1
   exact ⟨rfl, by assumption, X⟩
set_option maxRecDepth 100000 in
set_option maxHeartbeats 1000000 in
theorem faccept_c (c : PCF) (σ : PS) (t : List UInt8) (w : World) (hP : PPF c σ w) (ht : t ≠ []) :
 Calls Tryz.prog 60 #[.pointer (some ⟨c.pb, 0, none⟩), str t] w fun r w' => r = .returned (.bool (hasP c.ts σ t)) ∧ PPF c (acceptP c.ts σ t) w' ∧ Fr (· = c.pb) w w' := by
 have X := Fr.refl (· = c.pb) w; have hl := hP.len
 by_cases h : (peekP c.ts σ).text = t
 · have h1 : hasP c.ts σ t = true := by simp [hasP, h]
   rw [show acceptP c.ts σ t = nextP σ from by simp [acceptP, h1], h1]; obtain ⟨h2, h3⟩ := has_in hP.at_ h1 ht; refine calls_in Tryz.func60 Tryz.ntmps60 rfl rfl ?_
   focus
    refine cS (cA rfl rfl (cT (cw_seq (cS (cM rfl rfl ?_))))); refine cC (by kernel_rfl) rfl (fpeek_c _ _ _ (by assumption)) rfl ?_; rintro _ w2 ⟨⟨⟩, x1⟩; have z3 := x1.size; replace hP := hP.ext x1; replace X := X.ext x1; clear x1; refine lw_pure (pur_field tabOk rfl rfl rfl rfl rfl rfl) rfl (cM rfl rfl (lw_pure (pur_sneq rfl rfl) rfl (cT ?_))); refine cw_no rfl (not_not_intro (by assumption)) ?_; refine cw_skip (qw_then (cS (cM rfl rfl (lw_pure (pur_nilCheck rfl) rfl (lw_pure (pur_fieldAddr tabOk rfl rfl rfl) rfl (lw_load_b tabOk rfl rfl rfl (PPF.blk hP) rfl rfl ?_)))))); refine lw_pure (pur_add rfl rfl (IntWalk.i64_in _ (by omega))) rfl ?_; refine lw_pure (pur_nilCheck rfl) rfl (lw_pure (pur_fieldAddr tabOk rfl rfl rfl) rfl ?_); refine lw_ppf_at tabOk rfl rfl rfl rfl (by assumption) h3 ?_; rintro w4 h5 f6; have z7 := f6.size; clear hP; replace X := X.fr f6 (by omega); clear f6; refine cN (cA rfl rfl (cT (cw_ret (qw_ret1 rfl rfl ?_)))); rotate_left 1
   exact ⟨rfl, by assumption, X⟩
 · have h1 : hasP c.ts σ t = false := by simp [hasP, h]
   rw [show acceptP c.ts σ t = σ from by simp [acceptP, h1], h1]; refine calls_in Tryz.func60 Tryz.ntmps60 rfl rfl ?_
   focus
    refine cS (cA rfl rfl (cT (cw_seq (cS (cM rfl rfl ?_))))); refine cC (by kernel_rfl) rfl (fpeek_c _ _ _ (by assumption)) rfl ?_; rintro _ wa2 ⟨⟨⟩, xa1⟩; have za3 := xa1.size; replace hP := hP.ext xa1; replace X := X.ext xa1; clear xa1; refine lw_pure (pur_field tabOk rfl rfl rfl rfl rfl rfl) rfl (cM rfl rfl (lw_pure (pur_sneq rfl rfl) rfl (cT ?_))); refine cw_yes rfl (by assumption) ?_; refine cS (cA rfl rfl (cT (cw_ret (qw_then_ret (qw_ret1 rfl rfl ?_))))); rotate_left 1
   exact ⟨rfl, by assumption, X⟩
theorem faccept_t (c : PCF) (σ : PS) (t : List UInt8) (w : World) (hP : PPF c σ w) (ht : t ≠ []) (h : hasP c.ts σ t = true) :
 Calls Tryz.prog 60 #[.pointer (some ⟨c.pb, 0, none⟩), str t] w fun r w' => r = .returned (.bool true) ∧ PPF c (nextP σ) w' ∧ Fr (· = c.pb) w w' := by
 have := faccept_c c σ t w hP ht; rw [show acceptP c.ts σ t = nextP σ from by simp [acceptP, h], h] at this
 exact this
theorem faccept_f (c : PCF) (σ : PS) (t : List UInt8) (w : World) (hP : PPF c σ w) (ht : t ≠ []) (h : hasP c.ts σ t = false) :
 Calls Tryz.prog 60 #[.pointer (some ⟨c.pb, 0, none⟩), str t] w fun r w' => r = .returned (.bool false) ∧ PPF c σ w' ∧ Fr (· = c.pb) w w' := by
 have := faccept_c c σ t w hP ht; rw [show acceptP c.ts σ t = σ from by simp [acceptP, h], h] at this
 exact this
set_option maxRecDepth 100000 in
set_option maxHeartbeats 1000000 in
theorem fexpect_c (c : PCF) (σ : PS) (t : List UInt8) (w : World) (hP : PPF c σ w) (ht : t ≠ []) :
 Calls Tryz.prog 58 #[.pointer (some ⟨c.pb, 0, none⟩), str t] w fun r w' => r = .returned (.tuple #[]) ∧ PPF c (expectP c.ts c.n σ t) w' ∧ Fr (· = c.pb) w w' := by
 have X := Fr.refl (· = c.pb) w
 cases h : hasP c.ts σ t
 · have e1 : acceptP c.ts σ t = σ := by simp [acceptP, h]
   have e2 : expectP c.ts c.n σ t = unexpP c.ts c.n σ := by simp [expectP, h]
   rw [e2]; refine calls_in Tryz.func58 Tryz.ntmps58 rfl rfl ?_
   focus
    refine cS (cM rfl rfl (cM rfl rfl ?_)); refine cC (by kernel_rfl) rfl (faccept_c _ _ _ _ (by assumption) (by assumption)) rfl ?_; rintro _ w3 ⟨⟨⟩, ⟨h1, f2⟩⟩; have z4 := f2.size; clear hP; replace X := X.fr f2 (by omega); clear f2; refine lw_pure (pur_not rfl) rfl (cT ?_); refine cw_nt rfl (by assumption) ?_; refine cw_region (cM rfl rfl ?_); refine cC (by kernel_rfl) rfl (fmiss_c _ _ _ (by assumption)) rfl ?_; rintro _ w7 ⟨⟨⟩, ⟨h5, f6⟩⟩; have z8 := f6.size; clear h1; replace X := X.fr f6 (by omega); clear f6; refine lw_nil (qw_end0 rfl ?_); rotate_left 1
   exact ⟨rfl, by rw [e1] at *; assumption, X⟩
 · have e1 : acceptP c.ts σ t = nextP σ := by simp [acceptP, h]
   have e2 : expectP c.ts c.n σ t = nextP σ := by simp [expectP, h]
   rw [e2]; refine calls_in Tryz.func58 Tryz.ntmps58 rfl rfl ?_
   focus
    refine cS (cM rfl rfl (cM rfl rfl ?_)); refine cC (by kernel_rfl) rfl (faccept_c _ _ _ _ (by assumption) (by assumption)) rfl ?_; rintro _ wa3 ⟨⟨⟩, ⟨ha1, fa2⟩⟩; have za4 := fa2.size; clear hP; replace X := X.fr fa2 (by omega); clear fa2; refine lw_pure (pur_not rfl) rfl (cT ?_); refine cw_nf rfl (by assumption) ?_; refine cw_skip (qw_end0 rfl ?_); rotate_left 1
   exact ⟨rfl, by rw [e1] at *; assumption, X⟩
theorem fpeek_len {c : PCF} {σ : PS} {w : World} (hP : PPF c σ w) : (peekP c.ts σ).text.length ≤ 1000000 := by
 by_cases h : σ.err ≠ 0 ∨ σ.at_ = c.ts.length
 · rw [peek_off h]; simp [Tok.zero]
 · have hlt : σ.at_ < c.ts.length := by have : σ.at_ ≠ c.ts.length := fun e => h (Or.inr e); have := hP.at_; omega
   rw [peek_is h hlt]
   exact hP.tok _ (List.getElem_mem hlt)
def TreeF (c : PCF) (w : World) (r : Nd × PS) : Ending → World → Prop := fun e w' => ∃ a k, e = .returned (r.1.val a k) ∧ r.1.sits (fun b => w.heap.size ≤ b ∧ b < w'.heap.size) w' a ∧ PPF c r.2 w' ∧ Fr (· = c.pb) w w'
theorem treeF_ret {c : PCF} {w w' : World} {r : Nd × PS} {a : Option Addr} {k : Nat} (hs : r.1.sits (w.heap.size ≤ ·) w' a) (hP : PPF c r.2 w') (X : Fr (· = c.pb) w w') : TreeF c w r (.returned (r.1.val a k)) w' :=
 ⟨a, k, rfl, sits_lt2 _ _ hs, hP, X⟩
theorem TreeF.ret {c : PCF} {w : World} {r : Nd × PS} {e : Ending} {w' : World} (h : TreeF c w r e w') : ∃ v, e = .returned v := by
 obtain ⟨_, _, h, -⟩ := h
 exact ⟨_, h⟩
set_option maxRecDepth 100000 in
set_option maxHeartbeats 1000000 in
theorem fname_c (c : PCF) (σ : PS) (w : World) (hP : PPF c σ w) :
 Calls Tryz.prog 59 #[.pointer (some ⟨c.pb, 0, none⟩)] w fun r w' => r = .returned (str (nameP c.ts c.n σ).1) ∧ PPF c (nameP c.ts c.n σ).2 w' ∧ Fr (· = c.pb) w w' := by
 have X := Fr.refl (· = c.pb) w; have hl := hP.len; have hpl := fpeek_len hP; have hpb := hP.pbB; have hB := hP.B
 cases h : isName (peekP c.ts σ).text
 · rw [show nameP c.ts c.n σ = ([], unexpP c.ts c.n σ) from by simp [nameP, h]]
   refine calls_in Tryz.func59 Tryz.ntmps59 rfl rfl ?_
   focus
    refine cS (cA rfl rfl (cN (cM rfl rfl ?_))); refine cC (by kernel_rfl) rfl (fpeek_c _ _ _ (by assumption)) rfl ?_; rintro _ w2 ⟨⟨⟩, x1⟩; have z3 := x1.size; replace hP := hP.ext x1; replace X := X.ext x1; clear x1; (refine lw_alloc' [_, _, _] zOk rfl rfl ?_; intro b4 w5 n6); (refine lw_init' [_, _, _] tabOk rfl rfl rfl rfl rfl rfl n6 rfl ?_; clear n6; clear w5; intro w7 n6); have h8 := n6.blk; have x9 := n6.ext; have p10 := n6.pos; have z11 := n6.size; clear n6; replace hP := hP.ext x9; replace X := X.ext x9; clear x9; refine cT (cw_seq (cS (lw_pure (pur_fieldAddr tabOk rfl rfl rfl) rfl (lw_load_b tabOk rfl rfl rfl h8 rfl rfl ?_)))); refine cC (by kernel_rfl) rfl (Name_c _ _ (by omega)) rfl ?_; rintro _ w13 ⟨⟨⟩, x12⟩; have z14 := x12.size; replace h8 := h8.ext x12; replace hP := hP.ext x12; replace X := X.ext x12; clear x12; refine lw_pure (pur_not rfl) rfl (cT ?_); refine cw_nt rfl (by assumption) ?_; refine cS (cM rfl rfl ?_); refine cC (by kernel_rfl) rfl (fmiss_c _ _ _ (by assumption)) rfl ?_; rintro _ w17 ⟨⟨⟩, ⟨h15, f16⟩⟩; have z18 := f16.size; replace h8 := h8.fr f16 (by omega); clear hP; replace X := X.fr f16 (by omega); clear f16; refine cN (cA rfl rfl (cT (cw_ret (qw_then_ret (qw_ret1 rfl rfl ?_))))); rotate_left 1
   exact ⟨rfl, by assumption, X⟩
 · rw [show nameP c.ts c.n σ = ((peekP c.ts σ).text, nextP σ) from by simp [nameP, h]]
   obtain ⟨h2, h3⟩ := peek_in hP.at_ (Or.inl (isName_ne h)); refine calls_in Tryz.func59 Tryz.ntmps59 rfl rfl ?_
   focus
    refine cS (cA rfl rfl (cN (cM rfl rfl ?_))); refine cC (by kernel_rfl) rfl (fpeek_c _ _ _ (by assumption)) rfl ?_; rintro _ wa2 ⟨⟨⟩, xa1⟩; have za3 := xa1.size; replace hP := hP.ext xa1; replace X := X.ext xa1; clear xa1; (refine lw_alloc' [_, _, _] zOk rfl rfl ?_; intro ba4 wa5 na6); (refine lw_init' [_, _, _] tabOk rfl rfl rfl rfl rfl rfl na6 rfl ?_; clear na6; clear wa5; intro wa7 na6); have ha8 := na6.blk; have xa9 := na6.ext; have pa10 := na6.pos; have za11 := na6.size; clear na6; replace hP := hP.ext xa9; replace X := X.ext xa9; clear xa9; refine cT (cw_seq (cS (lw_pure (pur_fieldAddr tabOk rfl rfl rfl) rfl (lw_load_b tabOk rfl rfl rfl ha8 rfl rfl ?_)))); refine cC (by kernel_rfl) rfl (Name_c _ _ (by omega)) rfl ?_; rintro _ wa13 ⟨⟨⟩, xa12⟩; have za14 := xa12.size; replace ha8 := ha8.ext xa12; replace hP := hP.ext xa12; replace X := X.ext xa12; clear xa12; refine lw_pure (pur_not rfl) rfl (cT ?_); refine cw_nf rfl (by assumption) ?_; refine cw_skip (qw_then (cS (cM rfl rfl (lw_pure (pur_nilCheck rfl) rfl (lw_pure (pur_fieldAddr tabOk rfl rfl rfl) rfl (lw_load_b tabOk rfl rfl rfl (PPF.blk hP) rfl rfl ?_)))))); refine lw_pure (pur_add rfl rfl (IntWalk.i64_in _ (by omega))) rfl ?_; refine lw_pure (pur_nilCheck rfl) rfl (lw_pure (pur_fieldAddr tabOk rfl rfl rfl) rfl ?_); refine lw_ppf_at tabOk rfl rfl rfl rfl (by assumption) h3 ?_; rintro wa15 ha16 fa17; have za18 := fa17.size; replace ha8 := ha8.fr fa17 (by omega); clear hP; replace X := X.fr fa17 (by omega); clear fa17
    refine cN (lw_pure (pur_fieldAddr tabOk rfl rfl rfl) rfl (lw_load_b tabOk rfl rfl rfl ha8 rfl rfl (cA rfl rfl (cT (cw_ret (qw_ret1 rfl rfl ?_)))))); rotate_left 1
   exact ⟨rfl, by assumption, X⟩
theorem fpeek_tok {c : PCF} {σ : PS} {w : World} (hP : PPF c σ w) (h : (peekP c.ts σ).kind = 2) : (peekP c.ts σ).text ≠ [] ∧ ∀ x ∈ (peekP c.ts σ).text, digit x = true := by
 by_cases h' : σ.err ≠ 0 ∨ σ.at_ = c.ts.length
 · rw [peek_off h'] at h; simp [Tok.zero] at h
 · have hlt : σ.at_ < c.ts.length := by have : σ.at_ ≠ c.ts.length := fun e => h' (Or.inr e); have := hP.at_; omega
   rw [peek_is h' hlt] at h ⊢
   exact hP.num _ (List.getElem_mem hlt) h
set_option maxRecDepth 100000 in
set_option maxHeartbeats 1000000 in
theorem flist_c (c : PCF) (σ : PS) (w : World) (hP : PPF c σ w) :
 Calls Tryz.prog 61 #[.pointer (some ⟨c.pb, 0, none⟩)] w fun r w' => r = .returned (.bool (listP c.ts c.n σ).1) ∧ PPF c (listP c.ts c.n σ).2 w' ∧ Fr (· = c.pb) w w' := by
 have X := Fr.refl (· = c.pb) w; have hpb := hP.pbB; have hB := hP.B
 cases h : hasP c.ts σ [115, 116, 97, 99, 107]
 · rw [show listP c.ts c.n σ = (false, expectP c.ts c.n σ [105, 110, 116]) from by simp [listP, h]]
   refine calls_in Tryz.func61 Tryz.ntmps61 rfl rfl ?_
   focus
    refine cS (cA rfl rfl (cT (cw_seq (cS (cM rfl rfl ?_))))); refine cC (by kernel_rfl) rfl (faccept_f _ _ _ _ (by assumption) (by decide) (by assumption)) rfl ?_; rintro _ w3 ⟨⟨⟩, ⟨h1, f2⟩⟩; have z4 := f2.size; clear hP; replace X := X.fr f2 (by omega); clear f2; refine cT (cw_cond_f rfl (cw_skip (qw_then (cS (cM rfl rfl ?_))))); refine cC (by kernel_rfl) rfl (fexpect_c _ _ _ _ (by assumption) (by decide)) rfl ?_; rintro _ w7 ⟨⟨⟩, ⟨h5, f6⟩⟩; have z8 := f6.size; clear h1; replace X := X.fr f6 (by omega); clear f6; refine cN (cA rfl rfl (cT (cw_ret (qw_ret1 rfl rfl ?_)))); rotate_left 1
   exact ⟨rfl, by assumption, X⟩
 · rw [show listP c.ts c.n σ = (true, nextP σ) from by simp [listP, h]]
   refine calls_in Tryz.func61 Tryz.ntmps61 rfl rfl ?_
   focus
    refine cS (cA rfl rfl (cT (cw_seq (cS (cM rfl rfl ?_))))); refine cC (by kernel_rfl) rfl (faccept_t _ _ _ _ (by assumption) (by decide) (by assumption)) rfl ?_; rintro _ wa3 ⟨⟨⟩, ⟨ha1, fa2⟩⟩; have za4 := fa2.size; clear hP; replace X := X.fr fa2 (by omega); clear fa2; refine cT (cw_cond_t rfl (cS (cA rfl rfl (cT (cw_ret (qw_then_ret (qw_ret1 rfl rfl ?_))))))); rotate_left 1
   exact ⟨rfl, by assumption, X⟩
set_option maxRecDepth 100000 in
set_option maxHeartbeats 1000000 in
theorem fnumber_c (c : PCF) (σ : PS) (w : World) (hP : PPF c σ w) (hk : (peekP c.ts σ).kind = 2) :
 Calls Tryz.prog 123 #[.pointer (some ⟨c.pb, 0, none⟩)] w (TreeF c w (fnumP c.ts σ)) := by
 have X := Fr.refl (· = c.pb) w; have hpl := fpeek_len hP; have hl := hP.len; have hpb := hP.pbB; have hB := hP.B; obtain ⟨h2, h3⟩ := peek_in hP.at_ (Or.inr (show (peekP c.ts σ).kind ≠ 0 by omega)); obtain ⟨d1, d2⟩ := fpeek_tok hP hk
 by_cases hr : (digitsVal (peekP c.ts σ).text : Int) ≤ 9223372036854775807
 · rw [show fnumP c.ts σ = (.mk 80 (digitsVal (peekP c.ts σ).text : Int) [] [], nextP σ) from by simp [fnumP, hr]]
   refine calls_in Tryz.func123 Tryz.ntmps123 rfl rfl ?_
   focus
    refine cS ?_; (refine lw_alloc' [_, _, _, _] zOk rfl rfl ?_; intro b1 w2 n3); have h5 := n3.blk; have x6 := n3.ext; have p7 := n3.pos; have z8 := n3.size; clear n3; replace hP := hP.ext x6; replace X := X.ext x6; clear x6; refine cN (cM rfl rfl ?_); refine cC (by kernel_rfl) rfl (fpeek_c _ _ _ (by assumption)) rfl ?_; rintro _ w10 ⟨⟨⟩, x9⟩; have z11 := x9.size; replace h5 := h5.ext x9; replace hP := hP.ext x9; replace X := X.ext x9; clear x9; (refine lw_alloc' [_, _, _] zOk rfl rfl ?_; intro b12 w13 n14); (refine lw_init' [_, _, _] tabOk rfl rfl rfl rfl rfl rfl n14 rfl ?_; clear n14; clear w13; intro w15 n14); have h16 := n14.blk; have x17 := n14.ext; have p18 := n14.pos; have z19 := n14.size; clear n14; replace h5 := h5.ext x17; replace hP := hP.ext x17; replace X := X.ext x17; clear x17; refine cN (lw_pure (pur_fieldAddr tabOk rfl rfl rfl) rfl (lw_load_b tabOk rfl rfl rfl h16 rfl rfl ?_)); refine cC (by kernel_rfl) rfl (Atoi_ok _ _ d1 d2 hpl hr) rfl ?_; rintro _ w21 ⟨⟨⟩, x20⟩; have z22 := x20.size; replace h16 := h16.ext x20; replace h5 := h5.ext x20; replace hP := hP.ext x20; replace X := X.ext x20; clear x20; refine cM rfl rfl (lw_pure (pur_extract rfl rfl) rfl (lw_pure (pur_extract rfl rfl) rfl (cA rfl rfl (cA rfl rfl (cT (cw_seq (cS (cM rfl rfl (lw_pure (pur_ifn0 tabOk rfl rfl) rfl (cT (cw_cond_f rfl ?_))))))))))); refine cw_skip (qw_then (cS (cM rfl rfl (lw_pure (pur_nilCheck rfl) rfl (lw_pure (pur_fieldAddr tabOk rfl rfl rfl) rfl (lw_load_b tabOk rfl rfl rfl (PPF.blk hP) rfl rfl ?_))))))
    refine lw_pure (pur_add rfl rfl (IntWalk.i64_in _ (by omega))) rfl ?_; refine lw_pure (pur_nilCheck rfl) rfl (lw_pure (pur_fieldAddr tabOk rfl rfl rfl) rfl ?_); refine lw_ppf_at tabOk rfl rfl rfl rfl (by assumption) h3 ?_; rintro w23 h24 f25; have z26 := f25.size; replace h16 := h16.fr f25 (by omega); replace h5 := h5.fr f25 (by omega); clear hP; replace X := X.fr f25 (by omega); clear f25; refine cN (cM rfl rfl (lw_pure (pur_build' [_, _, _, _] tabOk zOk rfl rfl rfl rfl) rfl ?_)); (refine lw_store' [_, _, _, _] [_, _, _, _] tabOk rfl rfl rfl rfl rfl rfl h5 rfl rfl ?_; intro w27 n28); have h31 := n28.blk; have f29 := n28.fr; have z30 := n28.size; clear n28 h5; replace h24 := h24.fr f29 (by omega); replace h16 := h16.fr f29 (by omega); replace X := X.fr f29 (by omega); clear f29; refine cT (cw_ret (qw_retc rfl tabOk rfl rfl rfl h31 rfl ?_)); rotate_left 1
   exact treeF_ret sits_nil (by assumption) X
 · rw [show fnumP c.ts σ = (.mk 0 0 [] [], failP σ (peekP c.ts σ).pos 2) from by simp [fnumP, hr]]
   refine calls_in Tryz.func123 Tryz.ntmps123 rfl rfl ?_
   focus
    refine cS ?_; (refine lw_alloc' [_, _, _, _] zOk rfl rfl ?_; intro ba1 wa2 na3); have ha5 := na3.blk; have xa6 := na3.ext; have pa7 := na3.pos; have za8 := na3.size; clear na3; replace hP := hP.ext xa6; replace X := X.ext xa6; clear xa6; refine cN (cM rfl rfl ?_); refine cC (by kernel_rfl) rfl (fpeek_c _ _ _ (by assumption)) rfl ?_; rintro _ wa10 ⟨⟨⟩, xa9⟩; have za11 := xa9.size; replace ha5 := ha5.ext xa9; replace hP := hP.ext xa9; replace X := X.ext xa9; clear xa9; (refine lw_alloc' [_, _, _] zOk rfl rfl ?_; intro ba12 wa13 na14); (refine lw_init' [_, _, _] tabOk rfl rfl rfl rfl rfl rfl na14 rfl ?_; clear na14; clear wa13; intro wa15 na14); have ha16 := na14.blk; have xa17 := na14.ext; have pa18 := na14.pos; have za19 := na14.size; clear na14; replace ha5 := ha5.ext xa17; replace hP := hP.ext xa17; replace X := X.ext xa17; clear xa17; refine cN (lw_pure (pur_fieldAddr tabOk rfl rfl rfl) rfl (lw_load_b tabOk rfl rfl rfl ha16 rfl rfl ?_)); refine lw_does (does_call (by kernel_rfl) rfl (Atoi_range _ _ d1 d2 hpl hr (PPF.errs (by assumption))) (fun _ _ ⟨_, _, h⟩ => ⟨_, h.1⟩)) rfl ?_ (fun _ h => h); rintro _ wa23 ⟨tea20, ⟨pea21, ⟨⟨⟩, xa22⟩⟩⟩; have za24 := xa22.size; replace ha16 := ha16.ext xa22; replace ha5 := ha5.ext xa22; replace hP := hP.ext xa22; replace X := X.ext xa22; clear xa22; refine cM rfl rfl (lw_pure (pur_extract rfl rfl) rfl (lw_pure (pur_extract rfl rfl) rfl (cA rfl rfl (cA rfl rfl (cT (cw_seq (cS (cM rfl rfl (lw_pure (pur_ifn1 tabOk rfl rfl) rfl (cT (cw_cond_t rfl ?_)))))))))))
    refine cS (cM rfl rfl (lw_pure (pur_fieldAddr tabOk rfl rfl rfl) rfl (lw_load_b tabOk rfl rfl rfl ha16 rfl rfl ?_))); refine cC (by kernel_rfl) rfl (ffail_c _ _ _ _ _ (by assumption)) rfl ?_; rintro _ wa27 ⟨⟨⟩, ⟨ha25, fa26⟩⟩; have za28 := fa26.size; replace ha16 := ha16.fr fa26 (by omega); replace ha5 := ha5.fr fa26 (by omega); clear hP; replace X := X.fr fa26 (by omega); clear fa26; refine cN (lw_pure (pur_build' [_, _, _, _] tabOk zOk rfl rfl rfl rfl) rfl ?_); (refine lw_store' [_, _, _, _] [_, _, _, _] tabOk rfl rfl rfl rfl rfl rfl ha5 rfl rfl ?_; intro wa29 na30); have ha33 := na30.blk; have fa31 := na30.fr; have za32 := na30.size; clear na30 ha5; replace ha25 := ha25.fr fa31 (by omega); replace ha16 := ha16.fr fa31 (by omega); replace X := X.fr fa31 (by omega); clear fa31; refine cT (cw_ret (qw_then_ret (qw_retc rfl tabOk rfl rfl rfl ha33 rfl ?_))); rotate_left 1
   exact treeF_ret sits_nil (by assumption) X
end Bk
namespace Bk
open Go
section
variable (ts : List Tok) (n : Int)
def argsR : Nat → List Nd → PS → List Nd × PS
 | 0, acc, σ => (acc, σ)
 | k + 1, acc, σ =>
  if σ.err ≠ 0 then (acc, σ)
  else
   let v := argP ts n σ
   let σ1 := if acc.length = 8 then failP v.2 (posR σ) 5 else v.2
   if hasP ts σ1 [44] then argsR k (acc ++ [v.1]) (nextP σ1) else (acc ++ [v.1], σ1)
where posR (σ : PS) : Int := if ts.length ≤ σ.at_ then n else (ts.getD σ.at_ Tok.zero).pos
def callR (k : Nat) (kind : Int) (σ : PS) : Nd × PS :=
 let m := nameP ts n (nextP σ)
 let σ1 := expectP ts n m.2 [40]
 if hasP ts σ1 [41] then (.mk kind 0 m.1 [], nextP σ1)
 else
  let r := argsR ts n k [] σ1
  (.mk kind 0 m.1 r.1, expectP ts n r.2 [41])
def updateR (k : Nat) (σ : PS) : Nd × PS :=
 let p := placeR ts n k σ
 let t := (peekP ts p.2).text
 if t = [60, 61, 62] then (.mk 43 0 [] [p.1, (placeR ts n k (nextP p.2)).1], (placeR ts n k (nextP p.2)).2)
 else if t = [43, 61] ∨ t = [45, 61] ∨ t = [94, 61] then (.mk (updKind t) 0 [] [p.1, (exprR ts n k 1 (nextP p.2)).1], (exprR ts n k 1 (nextP p.2)).2)
 else (.mk 56 0 [] [p.1, (exprR ts n k 1 (expectP ts n p.2 [58, 61])).1], (exprR ts n k 1 (expectP ts n p.2 [58, 61])).2)
def stackR (k : Nat) (kind : Int) (σ : PS) : Nd × PS :=
 let p := placeR ts n k (nextP σ)
 let m := nameP ts n (expectP ts n p.2 [44])
 (.mk kind 0 m.1 [p.1], m.2)
def tapeR (k : Nat) (kind : Int) (σ : PS) : Nd × PS := (.mk kind 0 [] [(placeR ts n k (nextP σ)).1], (placeR ts n k (nextP σ)).2)
mutual
def stmtR : Nat → PS → Nd × PS
 | 0, σ => (.mk 0 0 [] [], σ)
 | k + 1, σ =>
  if (peekP ts σ).text = [112, 117, 115, 104] then stackR ts n k 44 σ else if (peekP ts σ).text = [112, 111, 112] then stackR ts n k 45 σ
  else if (peekP ts σ).text = [114, 101, 97, 100] then tapeR ts n k 46 σ else if (peekP ts σ).text = [117, 110, 114, 101, 97, 100] then tapeR ts n k 47 σ else if (peekP ts σ).text = [119, 114, 105, 116, 101] then tapeR ts n k 48 σ else if (peekP ts σ).text = [117, 110, 119, 114, 105, 116, 101] then tapeR ts n k 49 σ
  else if (peekP ts σ).text = [99, 97, 108, 108] then callR ts n k 50 σ else if (peekP ts σ).text = [117, 110, 99, 97, 108, 108] then callR ts n k 51 σ
  else if (peekP ts σ).text = [105, 102] then branchesR k 52 [101, 108, 115, 101] [102, 105] σ else if (peekP ts σ).text = [102, 114, 111, 109] then branchesR k 53 [108, 111, 111, 112] [117, 110, 116, 105, 108] σ
  else if (peekP ts σ).text = [108, 111, 99, 97, 108] then localR k σ else updateR ts n k σ
def branchesR : Nat → Int → List UInt8 → List UInt8 → PS → Nd × PS
 | 0, _, _, _, σ => (.mk 0 0 [] [], σ)
 | k + 1, kind, mid, last, σ =>
  let a := exprR ts n k 1 (nextP σ)
  let x := bodyR k a.2
  let y := bodyR k (expectP ts n x.2 mid)
  let e := exprR ts n k 1 (expectP ts n y.2 last)
  (.mk kind 0 [] [a.1, x.1, y.1, e.1], e.2)
def localR : Nat → PS → Nd × PS
 | 0, σ => (.mk 0 0 [] [], σ)
 | k + 1, σ =>
  if hasP ts (nextP σ) [115, 116, 97, 99, 107] then
   let m := nameP ts n (nextP (nextP σ))
   let x := bodyR k m.2
   (.mk 55 0 m.1 [x.1], x.2)
  else
   let m := nameP ts n (nextP σ)
   let a := exprR ts n k 1 (expectP ts n m.2 [61])
   let x := bodyR k a.2
   let e := exprR ts n k 1 (expectP ts n x.2 [100, 101, 108, 111, 99, 97, 108])
   (.mk 54 0 m.1 [a.1, x.1, e.1], e.2)
def bodyR : Nat → PS → Nd × PS
 | 0, σ => (.mk 57 0 [] [], σ)
 | k + 1, σ => let r := stmtsR k [] (expectP ts n σ [123]); (.mk 57 0 [] r.1, expectP ts n r.2 [125])
def stmtsR : Nat → List Nd → PS → List Nd × PS
 | 0, acc, σ => (acc, σ)
 | k + 1, acc, σ =>
  if σ.err = 0 ∧ σ.at_ < ts.length ∧ hasP ts σ [125] = false then stmtsR k (acc ++ [(stmtR k σ).1]) (expectP ts n (stmtR k σ).2 [59])
  else (acc, σ)
end
end
section
variable {ts : List Tok} {n : Int}
theorem arg_le {σ : PS} (h : σ.at_ ≤ ts.length) : Le ts σ (argP ts n σ).2 := name_le h
theorem args_le (k : Nat) : ∀ acc σ, σ.at_ ≤ ts.length → Le ts σ (argsP ts n k acc σ).2 := by
 induction k with
 | zero => intro acc σ h; rw [argsP]; exact Le.refl h
 | succ k ih =>
  intro acc σ h; rw [argsP]
  split
  · rename_i hh
    have h1 := next_le (has_in h hh (by decide))
    split
    · have h2 := h1.trans (fail_le (off := (peekP ts (nextP σ)).pos) (e := 5) h1.wf)
      exact (h2.trans (arg_le h2.wf)).trans (ih _ _ (arg_le h2.wf).wf)
    · exact (h1.trans (arg_le h1.wf)).trans (ih _ _ (arg_le h1.wf).wf)
  · exact Le.refl h
end
end Bk
namespace Bk
open Go
section
variable {ts : List Tok} {n : Int}
abbrev In (ts : List Tok) (σ : PS) : Prop := σ.err = 0 ∧ σ.at_ < ts.length
theorem expr_le {k : Nat} {lv : Int} {σ : PS} (h : σ.at_ ≤ ts.length) : Le ts σ (exprP ts n k lv σ).2 := ((expr_inv k).1 lv σ h).1
theorem place_le {k : Nat} {σ : PS} (h : σ.at_ ≤ ts.length) : Le ts σ (placeP ts n k σ).2 := ((expr_inv k).2.2.2.2 σ h).1
theorem stack_le {k : Nat} {kind : Int} {σ : PS} (hn : In ts σ) : Le ts σ (stackP ts n k kind σ).2 := by
 unfold stackP
 have h1 := next_le hn; have h2 := h1.trans (place_le (n := n) (k := k) h1.wf); have h3 := h2.trans (expect_le (n := n) (t := [44]) h2.wf (by decide))
 exact h3.trans (name_le h3.wf)
theorem tape_le {k : Nat} {kind : Int} {σ : PS} (hn : In ts σ) : Le ts σ (tapeP ts n k kind σ).2 := by
 unfold tapeP
 have h1 := next_le hn
 exact h1.trans (place_le (n := n) (k := k) h1.wf)
theorem call_le {k : Nat} {kind : Int} {σ : PS} (hn : In ts σ) : Le ts σ (callP ts n k kind σ).2 := by
 unfold callP
 have h1 := next_le hn; have h2 := h1.trans (name_le (n := n) h1.wf); have h3 := h2.trans (expect_le (n := n) (t := [40]) h2.wf (by decide)); simp only
 split
 · rename_i hh; exact h3.trans (next_le (has_in h3.wf hh (by decide)))
 · have h4 := h3.trans (arg_le (n := n) h3.wf)
   exact (h4.trans (args_le (n := n) k _ _ h4.wf)).trans (expect_le (args_le (n := n) k _ _ h4.wf).wf (by decide))
theorem upd_ne {t : List UInt8} (h : ¬ updKind t = 0) : t ≠ [] := by rintro rfl; exact h (by decide)
theorem update_le {k : Nat} {σ : PS} (h : σ.at_ ≤ ts.length) : Le ts σ (updateP ts n k σ).2 := by
 unfold updateP
 have h1 := place_le (n := n) (k := k) h; simp only
 split
 · rename_i hh
   have h2 := h1.trans (next_le (has_in h1.wf hh (by decide)))
   exact h2.trans (place_le h2.wf)
 · split
   · exact h1.trans (unexp_le h1.wf)
   · rename_i hh
     have h2 := h1.trans (next_le (peek_in h1.wf (Or.inl (upd_ne hh))))
     exact h2.trans (expr_le h2.wf)
theorem stmt_inv (k : Nat) : (∀ σ, σ.at_ ≤ ts.length → Le ts σ (stmtP ts n k σ).2) ∧ (∀ kind mid last σ, In ts σ → mid ≠ [] → last ≠ [] → Le ts σ (branchesP ts n k kind mid last σ).2) ∧ (∀ σ, In ts σ → Le ts σ (localP ts n k σ).2) ∧
 (∀ σ, σ.at_ ≤ ts.length → Le ts σ (blockP ts n k σ).2) ∧ (∀ acc σ, σ.at_ ≤ ts.length → Le ts σ (stmtsP ts n k acc σ).2) := by
 induction k with
 | zero =>
  refine ⟨fun σ h => ?_, fun kind mid last σ h _ _ => ?_, fun σ h => ?_, fun σ h => ?_, fun acc σ h => ?_⟩
  · rw [stmtP]; exact Le.refl h
  · rw [branchesP]; exact Le.refl (Nat.le_of_lt h.2)
  · rw [localP]; exact Le.refl (Nat.le_of_lt h.2)
  · rw [blockP]; exact Le.refl h
  · rw [stmtsP]; exact Le.refl h
 | succ k ih =>
  obtain ⟨iS, iB, iL, iK, iT⟩ := ih; refine ⟨fun σ h => ?_, fun kind mid last σ hn hmid hlast => ?_, fun σ hn => ?_, fun σ h => ?_, fun acc σ h => ?_⟩
  · rw [stmtP]
    have hin : ∀ t : List UInt8, t ≠ [] → (peekP ts σ).text = t → In ts σ := fun t ht e => peek_in h (Or.inl (by rw [e]; exact ht))
    by_cases c : (peekP ts σ).text = [112, 117, 115, 104]
    · rw [if_pos c]; exact stack_le (hin _ (by decide) c)
    rw [if_neg c]; clear c
    by_cases c : (peekP ts σ).text = [112, 111, 112]
    · rw [if_pos c]; exact stack_le (hin _ (by decide) c)
    rw [if_neg c]; clear c
    by_cases c : (peekP ts σ).text = [114, 101, 97, 100]
    · rw [if_pos c]; exact tape_le (hin _ (by decide) c)
    rw [if_neg c]; clear c
    by_cases c : (peekP ts σ).text = [117, 110, 114, 101, 97, 100]
    · rw [if_pos c]; exact tape_le (hin _ (by decide) c)
    rw [if_neg c]; clear c
    by_cases c : (peekP ts σ).text = [119, 114, 105, 116, 101]
    · rw [if_pos c]; exact tape_le (hin _ (by decide) c)
    rw [if_neg c]; clear c
    by_cases c : (peekP ts σ).text = [117, 110, 119, 114, 105, 116, 101]
    · rw [if_pos c]; exact tape_le (hin _ (by decide) c)
    rw [if_neg c]; clear c
    by_cases c : (peekP ts σ).text = [99, 97, 108, 108]
    · rw [if_pos c]; exact call_le (hin _ (by decide) c)
    rw [if_neg c]; clear c
    by_cases c : (peekP ts σ).text = [117, 110, 99, 97, 108, 108]
    · rw [if_pos c]; exact call_le (hin _ (by decide) c)
    rw [if_neg c]; clear c
    by_cases c : (peekP ts σ).text = [105, 102]
    · rw [if_pos c]; exact iB _ _ _ _ (hin _ (by decide) c) (by decide) (by decide)
    rw [if_neg c]; clear c
    by_cases c : (peekP ts σ).text = [102, 114, 111, 109]
    · rw [if_pos c]; exact iB _ _ _ _ (hin _ (by decide) c) (by decide) (by decide)
    rw [if_neg c]; clear c
    by_cases c : (peekP ts σ).text = [108, 111, 99, 97, 108]
    · rw [if_pos c]; exact iL _ (hin _ (by decide) c)
    rw [if_neg c]; clear c
    exact update_le h
  · rw [branchesP]
    have h1 := next_le hn; have h2 := h1.trans (expr_le (n := n) (k := k) (lv := 1) h1.wf); have h3 := h2.trans (iK _ h2.wf); have h4 := h3.trans (expect_le (n := n) (t := mid) h3.wf hmid); have h5 := h4.trans (iK _ h4.wf); have h6 := h5.trans (expect_le (n := n) (t := last) h5.wf hlast)
    exact h6.trans (expr_le h6.wf)
  · rw [localP]
    have h1 := next_le hn
    split
    · rename_i hh
      have h2 := h1.trans (next_le (has_in h1.wf hh (by decide))); have h3 := h2.trans (name_le (n := n) h2.wf)
      exact h3.trans (iK _ h3.wf)
    · have h2 := h1.trans (name_le (n := n) h1.wf)
      have h3 := h2.trans (expect_le (n := n) (t := [61]) h2.wf (by decide)); have h4 := h3.trans (expr_le (n := n) (k := k) (lv := 1) h3.wf); have h5 := h4.trans (iK _ h4.wf); have h6 := h5.trans (expect_le (n := n) (t := [100, 101, 108, 111, 99, 97, 108]) h5.wf (by decide))
      exact h6.trans (expr_le h6.wf)
  · rw [blockP]
    have h1 := expect_le (n := n) (t := [123]) h (by decide)
    exact h1.trans (iT [] _ h1.wf)
  · rw [stmtsP]
    split
    · exact Le.refl h
    · split
      · rename_i hh; exact next_le (has_in h hh (by decide))
      · have h1 := iS σ h
        have h2 := h1.trans (expect_le (n := n) (t := [59]) h1.wf (by decide))
        exact h2.trans (iT _ _ h2.wf)
end
end Bk
namespace Bk
open Go
section
variable {ts : List Tok} {n : Int}
theorem block_le {k : Nat} {σ : PS} (h : σ.at_ ≤ ts.length) : Le ts σ (blockP ts n k σ).2 := (stmt_inv k).2.2.2.1 σ h
end
end Bk
namespace Bk
open Go
section
variable {ts : List Tok} {n : Int}
end
end Bk
namespace Bk
open Go
section
variable (ts : List Tok) (n : Int)
def posR (σ : PS) : Int := if ts.length ≤ σ.at_ then n else (ts.getD σ.at_ Tok.zero).pos
def declKind (t : List UInt8) : Int := if t = [105, 110, 116] then 1 else if t = [97, 114, 114, 97, 121] then 2 else 3
def declR (many most : Nat) (σ : PS) : VD × PS :=
 if atDeclP ts σ = false then (⟨[], 0, 0⟩, unexpP ts n σ)
 else if many = most then (⟨[], 0, 0⟩, failP σ (posR ts n σ) 5)
 else
  let m := nameP ts n (nextP σ)
  if declKind (peekP ts σ).text = 2 then
   let σ1 := expectP ts n m.2 [91]
   let r := numberR ts n σ1
   let σ2 := if r.2.err = 0 ∧ (r.1 < 1 ∨ 16 < r.1) then failP r.2 (posR ts n σ1) 2 else r.2
   (⟨m.1, 2, r.1⟩, expectP ts n σ2 [93])
  else (⟨m.1, declKind (peekP ts σ).text, 0⟩, m.2)
end
section
variable {ts : List Tok} {n : Int}
theorem decl_le {σ : PS} (h : σ.at_ ≤ ts.length) : Le ts σ (declP ts n σ).2 := by
 unfold declP
 split
 · rename_i hh
   have h1 := next_le (has_in h hh (by decide))
   exact h1.trans (name_le h1.wf)
 · split
   · rename_i hh
     have h1 := next_le (has_in h hh (by decide))
     exact h1.trans (name_le h1.wf)
   · split
     · rename_i hh
       have h1 := next_le (has_in h hh (by decide)); have h2 := h1.trans (name_le (n := n) h1.wf); have h3 := h2.trans (expect_le (n := n) (t := [91]) h2.wf (by decide)); have h4 := h3.trans (number_le (n := n) (a := 1) (b := 16) h3.wf)
       exact h4.trans (expect_le h4.wf (by decide))
     · exact unexp_le h
end
section
variable (ts : List Tok) (n : Int)
def paramsR : Nat → List VD → PS → List VD × PS
 | 0, acc, σ => (acc, σ)
 | k + 1, acc, σ =>
  if hasP ts (declR ts n acc.length 8 σ).2 [44] then paramsR k (acc ++ [(declR ts n acc.length 8 σ).1]) (nextP (declR ts n acc.length 8 σ).2)
  else (acc ++ [(declR ts n acc.length 8 σ).1], (declR ts n acc.length 8 σ).2)
end
section
variable {ts : List Tok} {n : Int}
theorem params_le (k : Nat) : ∀ acc σ, σ.at_ ≤ ts.length → Le ts σ (paramsP ts n k acc σ).2 := by
 induction k with
 | zero => intro acc σ h; rw [paramsP]; exact Le.refl h
 | succ k ih =>
  intro acc σ h; rw [paramsP]
  split
  · rename_i hh
    have h1 := next_le (has_in h hh (by decide)); simp only
    have h2 : Le ts σ (if acc.length = 8 ∧ atDeclP ts (nextP σ) = true then failP (nextP σ) (peekP ts (nextP σ)).pos 5 else nextP σ) := by
     split
     · exact h1.trans (fail_le h1.wf _ _)
     · exact h1
    generalize (if acc.length = 8 ∧ atDeclP ts (nextP σ) = true then failP (nextP σ) (peekP ts (nextP σ)).pos 5 else nextP σ) = τ at *
    have h3 := h2.trans (decl_le (n := n) h2.wf)
    exact h3.trans (ih _ _ h3.wf)
  · exact Le.refl h
end
section
variable (ts : List Tok) (n : Int)
def wholeR (k : Nat) (σ : PS) : Nd × PS := ((bodyR ts n k σ).1, limitP (bodyR ts n k σ).1 (posR ts n σ) (bodyR ts n k σ).2)
end
section
variable {ts : List Tok} {n : Int}
theorem limit_le {x : Nd} {off : Int} {σ : PS} (h : σ.at_ ≤ ts.length) : Le ts σ (limitP x off σ) := by
 unfold limitP
 split
 · exact Le.refl h
 · split
   · exact fail_le h _ _
   · split
     · exact fail_le h _ _
     · exact Le.refl h
end
section
variable (ts : List Tok) (n : Int)
def procR (k : Nat) (σ : PS) : PD × PS :=
 let m := nameP ts n (nextP σ)
 let σ1 := expectP ts n m.2 [40]
 let q := if σ1.err = 0 ∧ hasP ts σ1 [41] = false then paramsR ts n k [] σ1 else ([], σ1)
 let b := wholeR ts n k (expectP ts n q.2 [41])
 (⟨m.1, q.1, b.1⟩, b.2)
def varsR : Nat → List VD → PS → List VD × PS
 | 0, acc, σ => (acc, σ)
 | k + 1, acc, σ => if σ.err = 0 ∧ atDeclP ts σ = true then varsR k (acc ++ [(declR ts n acc.length 32 σ).1]) (declR ts n acc.length 32 σ).2 else (acc, σ)
def procsR : Nat → List PD → PS → List PD × PS
 | 0, acc, σ => (acc, σ)
 | k + 1, acc, σ =>
  if σ.err = 0 ∧ hasP ts σ [112, 114, 111, 99] = true then
   if acc.length = 64 then (acc, failP σ (posR ts n σ) 5)
   else procsR k (acc ++ [(procR ts n k σ).1]) (procR ts n k σ).2
  else (acc, σ)
def programR (k : Nat) (σ : PS) : PG × PS :=
 let v := varsR ts n k [] σ
 let p := procsR ts n k [] v.2
 let b := wholeR ts n k (expectP ts n p.2 [109, 97, 105, 110])
 (⟨v.1, p.1, b.1⟩, b.2)
end
section
variable {ts : List Tok} {n : Int}
theorem bodyP_le {k : Nat} {σ : PS} (h : σ.at_ ≤ ts.length) : Le ts σ (bodyP ts n k σ).2 := by
 unfold bodyP
 have h1 := block_le (n := n) (k := k) h
 exact h1.trans (limit_le h1.wf)
theorem vars_le (k : Nat) : ∀ acc σ, σ.at_ ≤ ts.length → Le ts σ (varsP ts n k acc σ).2 := by
 induction k with
 | zero => intro acc σ h; rw [varsP]; exact Le.refl h
 | succ k ih =>
  intro acc σ h; rw [varsP]
  split
  · have h2 : Le ts σ (if acc.length = 32 then failP σ (peekP ts σ).pos 5 else σ) := by
     split
     · exact fail_le h _ _
     · exact Le.refl h
    have h3 := h2.trans (decl_le (n := n) h2.wf)
    exact h3.trans (ih _ _ h3.wf)
  · exact Le.refl h
end
end Bk
namespace Bk
open Go
section
variable {ts : List Tok} {n : Int}
def procQ (ts : List Tok) (n : Int) (k : Nat) (σ : PS) : List VD × PS :=
 if hasP ts σ [41] then ([], nextP σ) else ((paramsP ts n k [(declP ts n σ).1] (declP ts n σ).2).1, expectP ts n (paramsP ts n k [(declP ts n σ).1] (declP ts n σ).2).2 [41])
def procQR (ts : List Tok) (n : Int) (k : Nat) (σ : PS) : List VD × PS :=
 ((if σ.err = 0 ∧ hasP ts σ [41] = false then paramsR ts n k [] σ else ([], σ)).1, expectP ts n (if σ.err = 0 ∧ hasP ts σ [41] = false then paramsR ts n k [] σ else ([], σ)).2 [41])
theorem procQ_le {k : Nat} {σ : PS} (h : σ.at_ ≤ ts.length) : Le ts σ (procQ ts n k σ).2 := by
 unfold procQ
 split
 · rename_i hh
   exact next_le (has_in h hh (by decide))
 · have h1 := decl_le (n := n) h
   have h2 := h1.trans (params_le (n := n) k [(declP ts n σ).1] _ h1.wf)
   exact h2.trans (expect_le h2.wf (by decide))
theorem procP_at {k : Nat} {σ : PS} : procP ts n k σ = (⟨(nameP ts n (expectP ts n σ [112, 114, 111, 99])).1, (procQ ts n k (expectP ts n (nameP ts n (expectP ts n σ [112, 114, 111, 99])).2 [40])).1, (bodyP ts n k (procQ ts n k (expectP ts n (nameP ts n (expectP ts n σ [112, 114, 111, 99])).2 [40])).2).1⟩, (bodyP ts n k (procQ ts n k (expectP ts n (nameP ts n (expectP ts n σ [112, 114, 111, 99])).2 [40])).2).2) := by
 simp only [procP, procQ]
theorem procP_le {k : Nat} {σ : PS} (h : σ.at_ ≤ ts.length) : Le ts σ (procP ts n k σ).2 := by
 rw [procP_at]; have h1 := expect_le (n := n) (t := [112, 114, 111, 99]) h (by decide); have h2 := h1.trans (name_le (n := n) h1.wf); have h3 := h2.trans (expect_le (n := n) (t := [40]) h2.wf (by decide)); have h4 := h3.trans (procQ_le (n := n) (k := k) h3.wf)
 exact h4.trans (bodyP_le h4.wf)
theorem procs_le (k : Nat) : ∀ acc σ, σ.at_ ≤ ts.length → Le ts σ (procsP ts n k acc σ).2 := by
 induction k with
 | zero => intro acc σ h; rw [procsP]; exact Le.refl h
 | succ k ih =>
  intro acc σ h; rw [procsP]
  split
  · have h2 : Le ts σ (if acc.length = 64 then failP σ (peekP ts σ).pos 5 else σ) := by
     split
     · exact fail_le h _ _
     · exact Le.refl h
    have h3 := h2.trans (procP_le (n := n) (k := k) h2.wf)
    exact h3.trans (ih _ _ h3.wf)
  · exact Le.refl h
end
end Bk
namespace Bk
open Go
section
variable {ts : List Tok} {n : Int} {I : PS → Prop}
structure Clo (ts : List Tok) (n : Int) (I : PS → Prop) : Prop where
 next : ∀ σ, In ts σ → I σ → I (nextP σ)
 unexp : ∀ σ, σ.at_ ≤ ts.length → I σ → I (unexpP ts n σ)
 full : ∀ σ, In ts σ → I σ → I (failP σ (peekP ts σ).pos 5)
 range : ∀ σ, In ts σ → I σ → I (failP (nextP σ) (peekP ts σ).pos 2)
theorem Clo.expect (C : Clo ts n I) {σ : PS} {t : List UInt8} (h : σ.at_ ≤ ts.length) (ht : t ≠ []) (i : I σ) : I (expectP ts n σ t) := by
 unfold expectP
 split
 · rename_i hh; exact C.next _ (has_in h hh ht) i
 · exact C.unexp _ h i
theorem Clo.name (C : Clo ts n I) {σ : PS} (h : σ.at_ ≤ ts.length) (i : I σ) : I (nameP ts n σ).2 := by
 unfold nameP
 split
 · rename_i hh; exact C.next _ (peek_in h (Or.inl (isName_ne hh))) i
 · exact C.unexp _ h i
theorem Clo.number (C : Clo ts n I) {a b : Int} {σ : PS} (h : σ.at_ ≤ ts.length) (i : I σ) : I (numberP ts n a b σ).2 := by
 unfold numberP
 split
 · rename_i hh
   have hn := peek_in h (Or.inr (by rw [hh]; decide))
   split
   · exact C.next _ hn i
   · exact C.range _ hn i
 · exact C.unexp _ h i
theorem Clo.exprs (C : Clo ts n I) (k : Nat) : (∀ lv σ, σ.at_ ≤ ts.length → I σ → I (exprP ts n k lv σ).2) ∧ (∀ lv x σ, σ.at_ ≤ ts.length → I σ → I (climbP ts n k lv x σ).2) ∧
 (∀ σ, σ.at_ ≤ ts.length → I σ → I (unaryP ts n k σ).2) ∧ (∀ σ, σ.at_ ≤ ts.length → I σ → I (primaryP ts n k σ).2) ∧ (∀ σ, σ.at_ ≤ ts.length → I σ → I (placeP ts n k σ).2) := by
 induction k with
 | zero =>
  refine ⟨fun lv σ h i => ?_, fun lv x σ h i => ?_, fun σ h i => ?_, fun σ h i => ?_, fun σ h i => ?_⟩
  · rw [exprP]; exact i
  · rw [climbP]; exact i
  · rw [unaryP]; exact i
  · rw [primaryP]; exact i
  · rw [placeP]; exact i
 | succ k ih =>
  obtain ⟨iE, iC, iU, iP, iL⟩ := ih; obtain ⟨vE, vC, vU, vP, vL⟩ := expr_inv (ts := ts) (n := n) k; refine ⟨fun lv σ h i => ?_, fun lv x σ h i => ?_, fun σ h i => ?_, fun σ h i => ?_, fun σ h i => ?_⟩
  · rw [exprP]
    exact iC _ _ _ (vU σ h).1.wf (iU _ h i)
  · rw [climbP]
    split
    · exact i
    · rename_i op hop
      obtain ⟨hne, -⟩ := binOf_ne hop; have hn := peek_in h (Or.inl hne)
      split
      · exact i
      · have h1 := next_le hn
        have h2 := vE (level op + 1) (nextP σ) h1.wf
        exact iC _ _ _ h2.1.wf (iE _ _ h1.wf (C.next _ hn i))
  · rw [unaryP]
    split
    · rename_i hh
      have hn := has_in h hh (by decide)
      exact iU _ (next_le hn).wf (C.next _ hn i)
    · split
      · rename_i hh
        have hn := has_in h hh (by decide)
        exact iU _ (next_le hn).wf (C.next _ hn i)
      · exact iP _ h i
  · rw [primaryP]
    split
    · exact C.number h i
    · split
      · rename_i hh
        have hn := has_in h hh (by decide); have h1 := next_le hn; have h2 := expect_le (n := n) (t := [40]) h1.wf (by decide); have h3 := name_le (n := n) h2.wf
        exact C.expect h3.wf (by decide) (C.name h2.wf (C.expect h1.wf (by decide) (C.next _ hn i)))
      · split
        · rename_i hh
          have hn := has_in h hh (by decide); have h1 := next_le hn; have h2 := expect_le (n := n) (t := [40]) h1.wf (by decide); have h3 := name_le (n := n) h2.wf
          exact C.expect h3.wf (by decide) (C.name h2.wf (C.expect h1.wf (by decide) (C.next _ hn i)))
        · split
          · rename_i hh
            have hn := has_in h hh (by decide); have h1 := next_le hn
            exact C.expect (vE 1 _ h1.wf).1.wf (by decide) (iE _ _ h1.wf (C.next _ hn i))
          · exact iL _ h i
  · rw [placeP]
    have h0 := name_le (n := n) h
    split
    · rename_i hh
      have hn := has_in h0.wf hh (by decide); have h1 := next_le hn
      exact C.expect (vE 1 _ h1.wf).1.wf (by decide) (iE _ _ h1.wf (C.next _ hn (C.name h i)))
    · exact C.name h i
theorem Clo.expr (C : Clo ts n I) {k : Nat} {lv : Int} {σ : PS} (h : σ.at_ ≤ ts.length) (i : I σ) : I (exprP ts n k lv σ).2 := (C.exprs k).1 lv σ h i
theorem Clo.place (C : Clo ts n I) {k : Nat} {σ : PS} (h : σ.at_ ≤ ts.length) (i : I σ) : I (placeP ts n k σ).2 := (C.exprs k).2.2.2.2 σ h i
theorem place_le' {k : Nat} {σ : PS} (h : σ.at_ ≤ ts.length) : Le ts σ (placeP ts n k σ).2 := ((expr_inv (ts := ts) (n := n) k).2.2.2.2 σ h).1
theorem Clo.args (C : Clo ts n I) (k : Nat) : ∀ acc σ, σ.at_ ≤ ts.length → I σ → I (argsP ts n k acc σ).2 := by
 induction k with
 | zero => intro acc σ h i; rw [argsP]; exact i
 | succ k ih =>
  intro acc σ h i; rw [argsP]
  split
  · rename_i hh
    have hn := has_in h hh (by decide); have h1 := next_le hn; have i1 := C.next _ hn i
    split
    · rename_i h8
      have l2 := fail_le (ts := ts) h1.wf (peekP ts (nextP σ)).pos 5
      exact ih _ _ (name_le (n := n) l2.wf).wf (C.name l2.wf (C.full _ (peek_in h1.wf (Or.inl (isName_ne h8.2))) i1))
    · exact ih _ _ (name_le (n := n) h1.wf).wf (C.name h1.wf i1)
  · exact i
theorem args_le' (k : Nat) : ∀ acc σ, σ.at_ ≤ ts.length → Le ts σ (argsP ts n k acc σ).2 := by
 induction k with
 | zero => intro acc σ h; rw [argsP]; exact Le.refl h
 | succ k ih =>
  intro acc σ h; rw [argsP]
  split
  · rename_i hh
    have h1 := next_le (has_in h hh (by decide))
    split
    · have l2 := h1.trans (fail_le (ts := ts) h1.wf (peekP ts (nextP σ)).pos 5)
      have l3 := l2.trans (name_le (n := n) l2.wf)
      exact l3.trans (ih _ _ l3.wf)
    · have l3 := h1.trans (name_le (n := n) h1.wf)
      exact l3.trans (ih _ _ l3.wf)
  · exact Le.refl h
theorem Clo.call (C : Clo ts n I) {k : Nat} {kind : Int} {σ : PS} (h : In ts σ) (i : I σ) : I (callP ts n k kind σ).2 := by
 unfold callP
 have h1 := next_le h; have h2 := name_le (n := n) h1.wf; have h3 := expect_le (n := n) (t := [40]) h2.wf (by decide); have i3 := C.expect (t := [40]) h2.wf (by decide) (C.name h1.wf (C.next _ h i)); simp only
 split
 · rename_i hh; exact C.next _ (has_in h3.wf hh (by decide)) i3
 · have h4 := name_le (n := n) h3.wf
   exact C.expect (args_le' k _ _ h4.wf).wf (by decide) (C.args k _ _ h4.wf (C.name h3.wf i3))
theorem Clo.update (C : Clo ts n I) {k : Nat} {σ : PS} (h : σ.at_ ≤ ts.length) (i : I σ) : I (updateP ts n k σ).2 := by
 unfold updateP
 have h1 := place_le' (n := n) (k := k) h; have i1 := C.place (k := k) h i; simp only
 split
 · rename_i hh
   have hn := has_in h1.wf hh (by decide)
   exact C.place (next_le hn).wf (C.next _ hn i1)
 · split
   · exact C.unexp _ h1.wf i1
   · rename_i hh
     have hn := peek_in h1.wf (Or.inl (upd_ne hh))
     exact C.expr (next_le hn).wf (C.next _ hn i1)
theorem Clo.stack (C : Clo ts n I) {k : Nat} {kind : Int} {σ : PS} (h : In ts σ) (i : I σ) : I (stackP ts n k kind σ).2 := by
 unfold stackP
 have h1 := next_le h; have h2 := place_le' (n := n) (k := k) h1.wf; have h3 := expect_le (n := n) (t := [44]) h2.wf (by decide)
 exact C.name h3.wf (C.expect h2.wf (by decide) (C.place h1.wf (C.next _ h i)))
theorem Clo.tape (C : Clo ts n I) {k : Nat} {kind : Int} {σ : PS} (h : In ts σ) (i : I σ) : I (tapeP ts n k kind σ).2 := by
 unfold tapeP
 exact C.place (next_le h).wf (C.next _ h i)
theorem Clo.stmts (C : Clo ts n I) (k : Nat) : (∀ σ, σ.at_ ≤ ts.length → I σ → I (stmtP ts n k σ).2) ∧ (∀ kind mid last σ, In ts σ → mid ≠ [] → last ≠ [] → I σ → I (branchesP ts n k kind mid last σ).2) ∧ (∀ σ, In ts σ → I σ → I (localP ts n k σ).2) ∧
 (∀ σ, σ.at_ ≤ ts.length → I σ → I (blockP ts n k σ).2) ∧ (∀ acc σ, σ.at_ ≤ ts.length → I σ → I (stmtsP ts n k acc σ).2) := by
 induction k with
 | zero =>
  refine ⟨fun σ h i => ?_, fun kind mid last σ h _ _ i => ?_, fun σ h i => ?_, fun σ h i => ?_, fun acc σ h i => ?_⟩
  · rw [stmtP]; exact i
  · rw [branchesP]; exact i
  · rw [localP]; exact i
  · rw [blockP]; exact i
  · rw [stmtsP]; exact i
 | succ k ih =>
  obtain ⟨iS, iB, iL, iK, iT⟩ := ih; obtain ⟨vS, vB, vL, vK, vT⟩ := stmt_inv (ts := ts) (n := n) k; refine ⟨fun σ h i => ?_, fun kind mid last σ hn hmid hlast i => ?_, fun σ hn i => ?_, fun σ h i => ?_, fun acc σ h i => ?_⟩
  · rw [stmtP]
    have hin : ∀ t : List UInt8, t ≠ [] → (peekP ts σ).text = t → In ts σ := fun t ht e => peek_in h (Or.inl (by rw [e]; exact ht))
    by_cases c : (peekP ts σ).text = [112, 117, 115, 104]
    · rw [if_pos c]; exact C.stack (hin _ (by decide) c) i
    rw [if_neg c]; clear c
    by_cases c : (peekP ts σ).text = [112, 111, 112]
    · rw [if_pos c]; exact C.stack (hin _ (by decide) c) i
    rw [if_neg c]; clear c
    by_cases c : (peekP ts σ).text = [114, 101, 97, 100]
    · rw [if_pos c]; exact C.tape (hin _ (by decide) c) i
    rw [if_neg c]; clear c
    by_cases c : (peekP ts σ).text = [117, 110, 114, 101, 97, 100]
    · rw [if_pos c]; exact C.tape (hin _ (by decide) c) i
    rw [if_neg c]; clear c
    by_cases c : (peekP ts σ).text = [119, 114, 105, 116, 101]
    · rw [if_pos c]; exact C.tape (hin _ (by decide) c) i
    rw [if_neg c]; clear c
    by_cases c : (peekP ts σ).text = [117, 110, 119, 114, 105, 116, 101]
    · rw [if_pos c]; exact C.tape (hin _ (by decide) c) i
    rw [if_neg c]; clear c
    by_cases c : (peekP ts σ).text = [99, 97, 108, 108]
    · rw [if_pos c]; exact C.call (hin _ (by decide) c) i
    rw [if_neg c]; clear c
    by_cases c : (peekP ts σ).text = [117, 110, 99, 97, 108, 108]
    · rw [if_pos c]; exact C.call (hin _ (by decide) c) i
    rw [if_neg c]; clear c
    by_cases c : (peekP ts σ).text = [105, 102]
    · rw [if_pos c]; exact iB _ _ _ _ (hin _ (by decide) c) (by decide) (by decide) i
    rw [if_neg c]; clear c
    by_cases c : (peekP ts σ).text = [102, 114, 111, 109]
    · rw [if_pos c]; exact iB _ _ _ _ (hin _ (by decide) c) (by decide) (by decide) i
    rw [if_neg c]; clear c
    by_cases c : (peekP ts σ).text = [108, 111, 99, 97, 108]
    · rw [if_pos c]; exact iL _ (hin _ (by decide) c) i
    rw [if_neg c]; clear c
    exact C.update h i
  · rw [branchesP]
    have h1 := next_le hn; have h2 := expr_le (n := n) (k := k) (lv := 1) h1.wf; have h3 := vK _ h2.wf; have h4 := expect_le (n := n) (t := mid) h3.wf hmid; have h5 := vK _ h4.wf; have h6 := expect_le (n := n) (t := last) h5.wf hlast
    exact C.expr h6.wf (C.expect h5.wf hlast (iK _ h4.wf (C.expect h3.wf hmid (iK _ h2.wf (C.expr h1.wf (C.next _ hn i))))))
  · rw [localP]
    have h1 := next_le hn; have i1 := C.next _ hn i
    split
    · rename_i hh
      have hn2 := has_in h1.wf hh (by decide); have h2 := next_le hn2
      exact iK _ (name_le (n := n) h2.wf).wf (C.name h2.wf (C.next _ hn2 i1))
    · have h2 := name_le (n := n) h1.wf
      have h3 := expect_le (n := n) (t := [61]) h2.wf (by decide); have h4 := expr_le (n := n) (k := k) (lv := 1) h3.wf; have h5 := vK _ h4.wf; have h6 := expect_le (n := n) (t := [100, 101, 108, 111, 99, 97, 108]) h5.wf (by decide)
      exact C.expr h6.wf (C.expect h5.wf (by decide) (iK _ h4.wf (C.expr h3.wf (C.expect h2.wf (by decide) (C.name h1.wf i1)))))
  · rw [blockP]
    exact iT _ _ (expect_le (n := n) (t := [123]) h (by decide)).wf (C.expect h (by decide) i)
  · rw [stmtsP]
    split
    · exact i
    · split
      · rename_i hh; exact C.next _ (has_in h hh (by decide)) i
      · have h1 := vS _ h
        exact iT _ _ (expect_le (n := n) (t := [59]) h1.wf (by decide)).wf (C.expect h1.wf (by decide) (iS _ h i))
theorem Clo.decl (C : Clo ts n I) {σ : PS} (h : σ.at_ ≤ ts.length) (i : I σ) : I (declP ts n σ).2 := by
 unfold declP
 split
 · rename_i hh
   have hn := has_in h hh (by decide)
   exact C.name (next_le hn).wf (C.next _ hn i)
 · split
   · rename_i hh
     have hn := has_in h hh (by decide)
     exact C.name (next_le hn).wf (C.next _ hn i)
   · split
     · rename_i hh
       have hn := has_in h hh (by decide); have h1 := next_le hn; have h2 := name_le (n := n) h1.wf; have h3 := expect_le (n := n) (t := [91]) h2.wf (by decide); have h4 := number_le (n := n) (a := 1) (b := 16) h3.wf
       exact C.expect h4.wf (by decide) (C.number h3.wf (C.expect h2.wf (by decide) (C.name h1.wf (C.next _ hn i))))
     · exact C.unexp _ h i
theorem atDecl_in {σ : PS} (h : σ.at_ ≤ ts.length) (hd : atDeclP ts σ = true) : In ts σ := by
 simp only [atDeclP, Bool.or_eq_true] at hd
 rcases hd with (c | c) | c <;> exact has_in h c (by decide)
theorem Clo.params (C : Clo ts n I) (k : Nat) : ∀ acc σ, σ.at_ ≤ ts.length → I σ → I (paramsP ts n k acc σ).2 := by
 induction k with
 | zero => intro acc σ h i; rw [paramsP]; exact i
 | succ k ih =>
  intro acc σ h i; rw [paramsP]
  split
  · rename_i hh
    have hn := has_in h hh (by decide); have h1 := next_le hn; have i1 := C.next _ hn i; simp only
    split
    · rename_i h8
      have l2 := fail_le (ts := ts) h1.wf (peekP ts (nextP σ)).pos 5
      exact ih _ _ (decl_le (n := n) l2.wf).wf (C.decl l2.wf (C.full _ (atDecl_in h1.wf h8.2) i1))
    · exact ih _ _ (decl_le (n := n) h1.wf).wf (C.decl h1.wf i1)
  · exact i
structure CloL (ts : List Tok) (n : Int) (I : PS → Prop) : Prop extends Clo ts n I where
 lim : ∀ σ x τ, σ.at_ ≤ ts.length → I σ → I τ → I (limitP x (peekP ts σ).pos τ)
theorem CloL.body (C : CloL ts n I) {k : Nat} {σ : PS} (h : σ.at_ ≤ ts.length) (i : I σ) : I (bodyP ts n k σ).2 := by
 unfold bodyP
 exact C.lim _ _ _ h i ((C.toClo.stmts k).2.2.2.1 _ h i)
theorem CloL.proc (C : CloL ts n I) {k : Nat} {σ : PS} (h : σ.at_ ≤ ts.length) (i : I σ) : I (procP ts n k σ).2 := by
 rw [procP_at]; have h1 := expect_le (n := n) (t := [112, 114, 111, 99]) h (by decide); have h2 := name_le (n := n) h1.wf; have h3 := expect_le (n := n) (t := [40]) h2.wf (by decide); have i3 := C.expect (t := [40]) h2.wf (by decide) (C.name h1.wf (C.expect (t := [112, 114, 111, 99]) h (by decide) i)); have h4 := procQ_le (n := n) (k := k) h3.wf; refine C.body h4.wf ?_
 unfold procQ
 split
 · rename_i hh; exact C.next _ (has_in h3.wf hh (by decide)) i3
 · have h5 := decl_le (n := n) h3.wf
   exact C.expect (params_le (n := n) k _ _ h5.wf).wf (by decide) (C.params k _ _ h5.wf (C.decl h3.wf i3))
theorem CloL.vars (C : CloL ts n I) (k : Nat) : ∀ acc σ, σ.at_ ≤ ts.length → I σ → I (varsP ts n k acc σ).2 := by
 induction k with
 | zero => intro acc σ h i; rw [varsP]; exact i
 | succ k ih =>
  intro acc σ h i; rw [varsP]
  split
  · rename_i hh
    simp only
    split
    · have l2 := fail_le (ts := ts) h (peekP ts σ).pos 5
      exact ih _ _ (decl_le (n := n) l2.wf).wf (C.decl l2.wf (C.full _ (atDecl_in h hh) i))
    · exact ih _ _ (decl_le (n := n) h).wf (C.decl h i)
  · exact i
theorem CloL.procs (C : CloL ts n I) (k : Nat) : ∀ acc σ, σ.at_ ≤ ts.length → I σ → I (procsP ts n k acc σ).2 := by
 induction k with
 | zero => intro acc σ h i; rw [procsP]; exact i
 | succ k ih =>
  intro acc σ h i; rw [procsP]
  split
  · rename_i hh
    simp only
    split
    · have l2 := fail_le (ts := ts) h (peekP ts σ).pos 5
      exact ih _ _ (procP_le (n := n) (k := k) l2.wf).wf (C.proc l2.wf (C.full _ (has_in h hh (by decide)) i))
    · exact ih _ _ (procP_le (n := n) (k := k) h).wf (C.proc h i)
  · exact i
theorem CloL.program (C : CloL ts n I) {k : Nat} {σ : PS} (h : σ.at_ ≤ ts.length) (i : I σ) : I (programP ts n k σ).2 := by
 unfold programP
 have h1 := vars_le (n := n) k [] σ h; have h2 := procs_le (n := n) k [] _ h1.wf
 exact C.body (expect_le (n := n) (t := [109, 97, 105, 110]) h2.wf (by decide)).wf (C.expect h2.wf (by decide) (C.procs k _ _ h1.wf (C.vars k _ _ h i)))
end
end Bk
