/- Texts that the proofs of FuntextLayout, FuntextCanonical, FuntextCut need. No condition. (Part 7 of 8.) -/
import Derived.Test.YtmmjpjmkkhflkaaDoorPFjb6
set_option linter.unusedSimpArgs false
set_option linter.unusedVariables false
namespace Bk
theorem rem_known {a b c : Int} (h : a % b = c) (h0 : 0 ≤ a) : a.tmod b = c := by rw [Int.tmod_eq_emod_of_nonneg h0]; exact h
end Bk
namespace Bk
open Go Go.RowKit Go.Proofs
attribute [local irreducible] Go.Calls
def BytesF (w : World) (l : List UInt8) (a : Option Addr) : Prop := l = [] ∨ ∃ b o, a = some ⟨b, o, none⟩ ∧ Row w ⟨b, o, none⟩ (l.map (fun c => Value.int .u8 c.toNat))
theorem layTF_snoc (f : Nat → List UInt8) (x : Tok) : ∀ (l : List Tok) (j : Nat), layTF f j (l ++ [x]) = layTF f j l ++ (x.text ++ f (j + l.length))
 | [], j => by simp [layTF]
 | y :: r, j => by
  simp only [List.cons_append, layTF, layTF_snoc f x r (j + 1), List.length_cons, List.append_assoc]; rw [show j + 1 + r.length = j + (r.length + 1) by omega]
theorem sep_knownF {c : UInt8} {k : Nat} (h : c.toNat % 4 = k) : sepOfF c = sepsF.getD k [] := by unfold sepOfF; rw [h]
set_option maxRecDepth 100000 in
set_option maxHeartbeats 8000000 in
theorem layout36_c (s : List UInt8) (l : List UInt8) (a : Option Addr) (c : Nat) (w : World) (hs : s.length ≤ 9223372036854775807) (hl : l.length ≤ 9223372036854775807) (hB : BytesF w l a) (ht : TabsF w) (hE : Errs w) :
 Calls Tryd.prog 4 #[str s, .slice a l.length c] w fun e w' => e = .returned (.bool true) ∧ Ext w w' := by
 have X := Ext.refl w
 by_cases h65 : 65536 < s.length
 · refine calls_in Tryd.func4 Tryd.ntmps4 rfl rfl ?_
   focus
    refine cS (cA rfl rfl (cN (cM rfl rfl ?_))); refine cR (by kernel_rfl) rfl (lexLong_c _ _ h65 (by omega)) (fun _ _ h => h.ret) rfl ?_; rintro _ w5 ⟨a1, ⟨k2, ⟨⟨⟩, ⟨h3, x4⟩⟩⟩⟩; have z6 := x4.size; replace ht := ht.ext x4; replace hE := hE.ext x4; replace X := X.ext x4; clear x4; refine cM rfl rfl (lw_pure (pur_extract rfl rfl) rfl (lw_pure (pur_extract rfl rfl) rfl (lw_pure (pur_extract rfl rfl) rfl (cA rfl rfl (cA rfl rfl (cA rfl rfl (cT (cw_seq (cS ?_))))))))); refine cC (by kernel_rfl) rfl (awake36_c _ (by assumption) (by assumption)) rfl ?_; rintro _ w8 ⟨⟨⟩, x7⟩; have z9 := x7.size; replace h3 := h3.ext x7; replace ht := ht.ext x7; replace hE := hE.ext x7; replace X := X.ext x7; clear x7; refine lw_pure (pur_not rfl) rfl (cM rfl rfl (lw_on rfl rfl rfl (rfl) (cM rfl rfl (lw_on rfl rfl rfl (rfl) (lw_pure (pur_len_s tabOk rfl rfl) rfl (lw_on rfl rfl rfl (rfl) (lw_pure (pur_gtr rfl rfl) rfl (lw_pure (pur_pick_f rfl rfl rfl) rfl (cM rfl rfl ?_))))))))); refine lw_off rfl rfl rfl (gd_ft (by omega)) rfl ?_; refine lw_off rfl rfl rfl (gd_ft (by omega)) rfl ?_; refine lw_off rfl rfl rfl (gd_ft (by omega)) rfl ?_; refine lw_pure (pur_pick_yes rfl rfl (by omega)) rfl ?_; refine cM rfl rfl (lw_off rfl rfl rfl (rfl) rfl (lw_off rfl rfl rfl (rfl) rfl (lw_pure (pur_pick_t rfl rfl rfl) rfl (cT (cw_cond_t rfl (cS ?_)))))); refine cC (by kernel_rfl) rfl (awake36_c _ (by assumption) (by assumption)) rfl ?_; rintro _ w11 ⟨⟨⟩, x10⟩; have z12 := x10.size; replace h3 := h3.ext x10; replace ht := ht.ext x10
    replace hE := hE.ext x10; replace X := X.ext x10; clear x10; refine cA rfl rfl (cT (cw_ret (qw_then_ret (qw_ret1 rfl rfl ?_)))); rotate_left 1
   exact ⟨rfl, X⟩
 by_cases h8 : 800 < s.length
 · refine calls_in Tryd.func4 Tryd.ntmps4 rfl rfl ?_
   focus
    refine cS (cA rfl rfl (cN (cM rfl rfl ?_))); refine cR (by kernel_rfl) rfl (Lex_c _ _ (by omega)) (fun _ _ h => h.ret) rfl ?_; rintro _ wa5 ⟨aa1, ⟨ka2, ⟨⟨⟩, ⟨ha3, xa4⟩⟩⟩⟩; have za6 := xa4.size; replace ht := ht.ext xa4; replace hE := hE.ext xa4; replace X := X.ext xa4; clear xa4; refine cM rfl rfl (lw_pure (pur_extract rfl rfl) rfl (lw_pure (pur_extract rfl rfl) rfl (lw_pure (pur_extract rfl rfl) rfl (cA rfl rfl (cA rfl rfl (cA rfl rfl (cT (cw_seq (cS ?_))))))))); refine cC (by kernel_rfl) rfl (awake36_c _ (by assumption) (by assumption)) rfl ?_; rintro _ wa8 ⟨⟨⟩, xa7⟩; have za9 := xa7.size; replace ha3 := ha3.ext xa7; replace ht := ht.ext xa7; replace hE := hE.ext xa7; replace X := X.ext xa7; clear xa7; refine lw_pure (pur_not rfl) rfl (cM rfl rfl (lw_on rfl rfl rfl (rfl) (cM rfl rfl (lw_on rfl rfl rfl (rfl) (lw_pure (pur_len_s tabOk rfl rfl) rfl (lw_on rfl rfl rfl (rfl) (lw_pure (pur_gtr rfl rfl) rfl (lw_pure (pur_pick_f rfl rfl rfl) rfl (cM rfl rfl ?_))))))))); refine lw_off rfl rfl rfl (gd_ft (by omega)) rfl ?_; refine lw_off rfl rfl rfl (gd_ft (by omega)) rfl ?_; refine lw_off rfl rfl rfl (gd_ft (by omega)) rfl ?_; refine lw_pure (pur_pick_yes rfl rfl (by omega)) rfl ?_; refine cM rfl rfl (lw_off rfl rfl rfl (rfl) rfl (lw_off rfl rfl rfl (rfl) rfl (lw_pure (pur_pick_t rfl rfl rfl) rfl (cT (cw_cond_t rfl (cS ?_)))))); refine cC (by kernel_rfl) rfl (awake36_c _ (by assumption) (by assumption)) rfl ?_; rintro _ wa11 ⟨⟨⟩, xa10⟩; have za12 := xa10.size; replace ha3 := ha3.ext xa10
    replace ht := ht.ext xa10; replace hE := hE.ext xa10; replace X := X.ext xa10; clear xa10; refine cA rfl rfl (cT (cw_ret (qw_then_ret (qw_ret1 rfl rfl ?_)))); rotate_left 1
   exact ⟨rfl, X⟩
 by_cases h2 : l.length = 0
 · refine calls_in Tryd.func4 Tryd.ntmps4 rfl rfl ?_
   focus
    refine cS (cA rfl rfl (cN (cM rfl rfl ?_))); refine cR (by kernel_rfl) rfl (Lex_c _ _ (by omega)) (fun _ _ h => h.ret) rfl ?_; rintro _ wb5 ⟨ab1, ⟨kb2, ⟨⟨⟩, ⟨hb3, xb4⟩⟩⟩⟩; have zb6 := xb4.size; replace ht := ht.ext xb4; replace hE := hE.ext xb4; replace X := X.ext xb4; clear xb4; refine cM rfl rfl (lw_pure (pur_extract rfl rfl) rfl (lw_pure (pur_extract rfl rfl) rfl (lw_pure (pur_extract rfl rfl) rfl (cA rfl rfl (cA rfl rfl (cA rfl rfl (cT (cw_seq (cS ?_))))))))); refine cC (by kernel_rfl) rfl (awake36_c _ (by assumption) (by assumption)) rfl ?_; rintro _ wb8 ⟨⟨⟩, xb7⟩; have zb9 := xb7.size; replace hb3 := hb3.ext xb7; replace ht := ht.ext xb7; replace hE := hE.ext xb7; replace X := X.ext xb7; clear xb7; refine lw_pure (pur_not rfl) rfl (cM rfl rfl (lw_on rfl rfl rfl (rfl) (cM rfl rfl (lw_on rfl rfl rfl (rfl) (lw_pure (pur_len_s tabOk rfl rfl) rfl (lw_on rfl rfl rfl (rfl) (lw_pure (pur_gtr rfl rfl) rfl (lw_pure (pur_pick_f rfl rfl rfl) rfl (cM rfl rfl ?_))))))))); refine lw_on rfl rfl rfl (gd_ff (by omega)) ?_; refine cM rfl rfl ?_; refine lw_on rfl rfl rfl (gd_ff (by omega)) ?_; refine lw_pure (pur_len_slice tabOk rfl rfl) rfl ?_; refine lw_on rfl rfl rfl (gd_ff (by omega)) ?_; refine lw_pure (pur_eql rfl rfl) rfl ?_; refine lw_pure (pur_pick_no rfl rfl (by omega)) rfl ?_; refine cM rfl rfl ?_; refine lw_off rfl rfl rfl (gd_ft (by omega)) rfl ?_; refine lw_off rfl rfl rfl (gd_ft (by omega)) rfl ?_; refine lw_pure (pur_pick_yes rfl rfl (by omega)) rfl ?_; refine cT (cw_cond_t rfl (cS ?_))
    refine cC (by kernel_rfl) rfl (awake36_c _ (by assumption) (by assumption)) rfl ?_; rintro _ wb11 ⟨⟨⟩, xb10⟩; have zb12 := xb10.size; replace hb3 := hb3.ext xb10; replace ht := ht.ext xb10; replace hE := hE.ext xb10; replace X := X.ext xb10; clear xb10; refine cA rfl rfl (cT (cw_ret (qw_then_ret (qw_ret1 rfl rfl ?_)))); rotate_left 1
   all_goals exact ⟨rfl, X⟩
 by_cases he : (lexT s).2.2 = 0
 case neg =>
  refine calls_in Tryd.func4 Tryd.ntmps4 rfl rfl ?_
  focus
   refine cS (cA rfl rfl (cN (cM rfl rfl ?_))); refine cR (by kernel_rfl) rfl (Lex_c _ _ (by omega)) (fun _ _ h => h.ret) rfl ?_; rintro _ wc5 ⟨ac1, ⟨kc2, ⟨⟨⟩, ⟨hc3, xc4⟩⟩⟩⟩; have zc6 := xc4.size; replace ht := ht.ext xc4; replace hE := hE.ext xc4; replace X := X.ext xc4; clear xc4; refine cM rfl rfl (lw_pure (pur_extract rfl rfl) rfl (lw_pure (pur_extract rfl rfl) rfl (lw_pure (pur_extract rfl rfl) rfl (cA rfl rfl (cA rfl rfl (cA rfl rfl (cT (cw_seq (cS ?_))))))))); refine cC (by kernel_rfl) rfl (awake36_c _ (by assumption) (by assumption)) rfl ?_; rintro _ wc8 ⟨⟨⟩, xc7⟩; have zc9 := xc7.size; replace hc3 := hc3.ext xc7; replace ht := ht.ext xc7; replace hE := hE.ext xc7; replace X := X.ext xc7; clear xc7; refine lw_pure (pur_not rfl) rfl (cM rfl rfl (lw_on rfl rfl rfl (rfl) (cM rfl rfl (lw_on rfl rfl rfl (rfl) (lw_pure (pur_len_s tabOk rfl rfl) rfl (lw_on rfl rfl rfl (rfl) (lw_pure (pur_gtr rfl rfl) rfl (lw_pure (pur_pick_f rfl rfl rfl) rfl (cM rfl rfl ?_))))))))); refine lw_on rfl rfl rfl (gd_ff (by omega)) ?_; refine cM rfl rfl ?_; refine lw_on rfl rfl rfl (gd_ff (by omega)) ?_; refine lw_pure (pur_len_slice tabOk rfl rfl) rfl ?_; refine lw_on rfl rfl rfl (gd_ff (by omega)) ?_; refine lw_pure (pur_eql rfl rfl) rfl ?_; refine lw_pure (pur_pick_no rfl rfl (by omega)) rfl ?_; refine cM rfl rfl ?_; refine lw_on rfl rfl rfl (gd_ff (by omega)) ?_; refine cM rfl rfl ?_; refine lw_on rfl rfl rfl (gd_ff (by omega)) ?_; refine lw_pure (pur_neq rfl rfl) rfl ?_; refine lw_pure (pur_pick_no rfl rfl (by omega)) rfl ?_
   refine cT ?_; refine cw_yes rfl (by assumption) ?_; refine cS ?_; refine cC (by kernel_rfl) rfl (awake36_c _ (by assumption) (by assumption)) rfl ?_; rintro _ wc11 ⟨⟨⟩, xc10⟩; have zc12 := xc10.size; replace hc3 := hc3.ext xc10; replace ht := ht.ext xc10; replace hE := hE.ext xc10; replace X := X.ext xc10; clear xc10; refine cA rfl rfl (cT (cw_ret (qw_then_ret (qw_ret1 rfl rfl ?_)))); rotate_left 1
  all_goals exact ⟨rfl, X⟩
 obtain ⟨ts, hts, hte⟩ : ∃ ts, solidFrom s 0 = (ts, none) ∧ solidT (lexT s).1 = ts := by
  cases hsf : (solidFrom s 0).2 with
  | some q =>
   have h1 := startBad h65 hsf; have h2 := congrArg (fun x => x.2.err) h1; simp only [startP] at h2
   omega
  | none =>
   have h1 := congrArg Prod.fst (startOk h65 hsf)
   exact ⟨(solidFrom s 0).1, Prod.ext rfl hsf, h1⟩
 obtain ⟨bb, bo, rfl, hrow⟩ : ∃ b o, a = some ⟨b, o, none⟩ ∧ Row w ⟨b, o, none⟩ (l.map (fun c => Value.int .u8 c.toNat)) := by
  rcases hB with h | h
  · rw [h] at h2; exact absurd rfl h2
  · exact h
 refine calls_in Tryd.func4 Tryd.ntmps4 rfl rfl ?_
 focus
  refine cS (cA rfl rfl (cN (cM rfl rfl ?_))); refine cR (by kernel_rfl) rfl (Lex_c _ _ (by omega)) (fun _ _ h => h.ret) rfl ?_; rintro _ wd5 ⟨ad1, ⟨kd2, ⟨⟨⟩, ⟨hd3, xd4⟩⟩⟩⟩; have zd6 := xd4.size; replace ht := ht.ext xd4; replace hE := hE.ext xd4; replace X := X.ext xd4; replace hrow := hrow.ext xd4; clear xd4; refine cM rfl rfl (lw_pure (pur_extract rfl rfl) rfl (lw_pure (pur_extract rfl rfl) rfl (lw_pure (pur_extract rfl rfl) rfl (cA rfl rfl (cA rfl rfl (cA rfl rfl (cT (cw_seq (cS ?_))))))))); refine cC (by kernel_rfl) rfl (awake36_c _ (by assumption) (by assumption)) rfl ?_; rintro _ wd8 ⟨⟨⟩, xd7⟩; have zd9 := xd7.size; replace hd3 := hd3.ext xd7; replace ht := ht.ext xd7; replace hE := hE.ext xd7; replace X := X.ext xd7; replace hrow := hrow.ext xd7; clear xd7; refine lw_pure (pur_not rfl) rfl (cM rfl rfl (lw_on rfl rfl rfl (rfl) (cM rfl rfl (lw_on rfl rfl rfl (rfl) (lw_pure (pur_len_s tabOk rfl rfl) rfl (lw_on rfl rfl rfl (rfl) (lw_pure (pur_gtr rfl rfl) rfl (lw_pure (pur_pick_f rfl rfl rfl) rfl (cM rfl rfl ?_))))))))); refine lw_on rfl rfl rfl (gd_ff (by omega)) ?_; refine cM rfl rfl ?_; refine lw_on rfl rfl rfl (gd_ff (by omega)) ?_; refine lw_pure (pur_len_slice tabOk rfl rfl) rfl ?_; refine lw_on rfl rfl rfl (gd_ff (by omega)) ?_; refine lw_pure (pur_eql rfl rfl) rfl ?_; refine lw_pure (pur_pick_no rfl rfl (by omega)) rfl ?_; refine cM rfl rfl ?_; refine lw_on rfl rfl rfl (gd_ff (by omega)) ?_; refine cM rfl rfl ?_; refine lw_on rfl rfl rfl (gd_ff (by omega)) ?_; refine lw_pure (pur_neq rfl rfl) rfl ?_
  refine lw_pure (pur_pick_no rfl rfl (by omega)) rfl ?_; refine cT ?_; refine cw_no rfl (by omega) ?_; refine cw_skip (qw_then (cS (cA rfl rfl (cT (cw_seq (cS (cM rfl rfl ?_))))))); refine cR (by kernel_rfl) rfl (Solid_c _ _ _ _ _ (by have := lexT_len s; omega) (by assumption) (by intro b h; have := h.2; omega)) (fun _ _ h => h.ret) rfl ?_; rintro _ wd14 ⟨ad10, ⟨kd11, ⟨⟨⟩, ⟨hd12, xd13⟩⟩⟩⟩; have zd15 := xd13.size; replace hd3 := hd3.ext xd13; replace ht := ht.ext xd13; replace hE := hE.ext xd13; replace X := X.ext xd13; replace hrow := hrow.ext xd13; clear xd13; refine lw_pure (pur_len_slice tabOk rfl rfl) rfl (cM rfl rfl (cT (cw_block ?_))); rotate_left 1
 obtain ⟨hpl, hp1, hp2⟩ := parse_layoutF (s := s) (fun j => l.getD (j % l.length) 0) (by omega) hts; have hts2 := (solid_sumF s s.length 0 ts (by omega) (by omega) hts).2
 have htl : ∀ (i : Nat) (hi : i < ts.length), ts[i].text.length ≤ 800 := fun i hi => by
  have h1 := startOk (s := s) (by omega) (by rw [hts]); rw [hts] at h1; have := (solid_ok s ts[i] (by rw [h1]; exact List.getElem_mem hi)).len
  omega
 have hd13 : Toks (fun b => wd8.heap.size ≤ b ∧ b < wd14.heap.size) wd14 ts ad10 := hte ▸ hd12; rw [hte]; clear hd12 hd3 hB hts; refine cw_loop (ι := Nat) (fun i => [(0, str s), (1, .slice (some ⟨bb, bo, none⟩) l.length c), (8, str (layTF (fun j => sepOfF (l.getD (j % l.length) 0)) 0 (ts.take i))), (41, .slice ad10 ts.length kd11), (42, .int .i64 ts.length), (43, .int .i64 i)])
  (fun i w' => i ≤ ts.length ∧ (layTF (fun j => sepOfF (l.getD (j % l.length) 0)) 0 (ts.take i)).length ≤ 900 * i ∧ Toks (fun b => wd8.heap.size ≤ b ∧ b < wd14.heap.size) w' ts ad10 ∧ Row w' ⟨bb, bo, none⟩ (l.map (fun c => Value.int .u8 c.toNat)) ∧ TabsF w' ∧ Errs w' ∧ Ext w w' ∧ wd14.heap.size ≤ w'.heap.size) (fun i => ts.length - i) 0 (by (refine sub_cons rfl ?_; refine sub_cons rfl ?_; refine sub_cons rfl ?_; refine sub_cons rfl ?_; refine sub_cons rfl ?_; refine sub_cons rfl ?_; exact sub_nil)) ⟨Nat.zero_le _, by simp [layTF], hd13, hrow, ht, hE, X, Nat.le_refl _⟩ ?_
 clear hd13 hrow ht hE X; rintro i w1 ⟨hij, hlen, hT, hrow, ht, hE, X, hz⟩
 by_cases hil : i < ts.length
 · obtain ⟨tb, to, rfl, hkS, hrw⟩ := hT.get (by omega)
   have hr : Row w1 ⟨tb, to + i * 3, none⟩ ts[i].cells := hrw _ _ (List.getElem?_eq_getElem hil); have htt := htl i hil
   have htk : ts.take (i + 1) = ts.take i ++ [ts[i]] := by rw [List.take_add_one, List.getElem?_eq_getElem hil]; rfl
   have hnx : layTF (fun j => sepOfF (l.getD (j % l.length) 0)) 0 (ts.take (i + 1)) = layTF (fun j => sepOfF (l.getD (j % l.length) 0)) 0 (ts.take i) ++ (ts[i].text ++ sepOfF (l.getD (i % l.length) 0)) := by
    rw [htk, layTF_snoc, List.length_take, Nat.min_eq_left hij, Nat.zero_add]
   have hml : i % l.length < l.length := Nat.mod_lt _ (by omega)
   have hri : (i : Int) % (l.length : Int) = ((i % l.length : Nat) : Int) := by omega
   have hcell : Row w1 ⟨bb, bo + (i % l.length) * 1, none⟩ [.int .u8 ((l.getD (i % l.length) 0).toNat : Int)] := by
    have h1 := hrow.sub (i % l.length) 1
    have e : ((l.map (fun c => Value.int .u8 c.toNat)).drop (i % l.length)).take 1 = [Value.int .u8 ((l.getD (i % l.length) 0).toNat : Int)] := by
     rw [List.drop_eq_getElem_cons (by simpa using hml)]
     simp [List.getD_eq_getElem?_getD, List.getElem?_eq_getElem hml]
    rw [e] at h1
    rw [Nat.mul_one]; exact h1
   have hg2 := hE.ltF; have hg3 := ht.g; have hbb : bb < w1.heap.size := cell_lt (Row.at0 hcell rfl); have hc8 : (l.getD (i % l.length) 0).toNat < 256 := UInt8.toNat_lt _
   have hlenx : (layTF (fun j => sepOfF (l.getD (j % l.length) 0)) 0 (ts.take (i + 1))).length ≤ 900 * (i + 1) := by
    have := sep_lenF (l.getD (i % l.length) 0)
    rw [hnx]; simp only [List.length_append]; omega
   generalize hT1 : layTF (fun j => sepOfF (l.getD (j % l.length) 0)) 0 (ts.take (i + 1)) = T1 at *
   generalize layTF (fun j => sepOfF (l.getD (j % l.length) 0)) 0 (ts.take i) = T0 at *
   generalize l.getD (i % l.length) 0 = cc at *
   clear hrw htk
   generalize ts[i] = t at *
   obtain ⟨tk, tt, tp⟩ := t; simp only at htt hnx; replace hr : Row w1 ⟨tb, to + i * 3, none⟩ [.int .u8 tk, str tt, .int .i64 tp] := hr; have h5 : cc.toNat % 4 < 4 := Nat.mod_lt _ (by decide)
   rcases hk : cc.toNat % 4 with _ | _ | _ | _ | k
   · have hr5 : (cc.toNat : Int) % 4 = 0 := by omega
     rw [sep_knownF hk] at hnx
     focus
      refine cS (lw_pure (pur_lss rfl rfl) rfl (cT (cw_seq ?_))); refine cw_yes rfl (by omega) ?_; refine cw_skip (qw_then (cw_seq (cw_block (cS (cM rfl rfl ?_))))); refine lw_pure (pur_indexAddr tabOk rfl rfl rfl rfl (by omega) (by omega)) rfl ?_; refine lw_loads_r0 tabOk rfl rfl rfl hr rfl rfl ?_; (refine lw_alloc' [_, _, _] zOk rfl rfl ?_; intro be1 we2 ne3); have he5 := ne3.blk; have xe6 := ne3.ext; have pe7 := ne3.pos; have ze8 := ne3.size; clear ne3; replace hrow := hrow.ext xe6; replace ht := ht.ext xe6; replace hE := hE.ext xe6; replace X := X.ext xe6; replace hT := hT.ext xe6; replace hcell := hcell.ext xe6; replace hr := hr.ext xe6; clear xe6; refine cA rfl rfl ?_; (refine lw_store' [_, _, _] [_, _, _] tabOk rfl rfl rfl rfl rfl rfl he5 rfl rfl ?_; intro we9 ne10); have he13 := ne10.blk; have fe11 := ne10.fr; have ze12 := ne10.size; clear ne10 he5; replace hrow := Row.fr hrow fe11 (by simp only; omega); replace ht := ht.fr fe11 (by omega); replace hE := hE.fr fe11 (by omega); replace X := X.fr fe11 (by omega); replace hT := hT.fr fe11 (by omega); replace hcell := Row.fr hcell fe11 (by simp only; omega); replace hr := Row.fr hr fe11 (by simp only; omega); clear fe11; refine cT ?_; (refine cw_tdraw (fun wz => Ext we9 wz) 16 (.pure 0 (.pure 1 (.pure 2 (.pure 4 (.pure 5 (.pure 6 (.pure 7 (.pure 8 (.pure 9 (.pure 10 (.pure 11 (.pure 12 (.fork 3 (.pure 13 (.fork 14 (.pure 15 .tail) .none)) .none))))))))))))) mixed (by kernel_rfl) (panicOk_block (panicOk_then (panicOk_then (panicOk_block (panicOk_then panicOk_body))))) ?_; intro we14 xe15 _)
      have qse16 : (fun wz => Ext we9 wz) we14 := xe15; simp only at qse16; have d_he13 := he13; have d_hrow := hrow; have d_ht := ht; have d_hE := hE; have d_hT := hT; have d_hcell := hcell; have d_hr := hr; have ze17 := xe15.size; replace he13 := he13.ext xe15; replace hrow := hrow.ext xe15; replace ht := ht.ext xe15; replace hE := hE.ext xe15; replace X := X.ext xe15; replace hT := hT.ext xe15; replace hcell := hcell.ext xe15; replace hr := hr.ext xe15; clear xe15; refine ⟨qse16, ?_⟩; refine tw_pure rfl (pur_move rfl) rfl (tw_pure rfl (pur_fieldAddr tabOk rfl rfl rfl) rfl (tw_pure rfl (pur_load tabOk rfl rfl rfl (fun wz hz => Blk.cell (Blk.ext d_he13 hz) rfl)) rfl (tw_pure rfl (pur_move rfl) rfl (tw_pure rfl (pur_move rfl) rfl (tw_pure rfl (pur_move rfl) rfl (tw_pure rfl (pur_len_slice tabOk rfl rfl) rfl ?_)))))); refine tw_pure rfl (pur_rem rfl rfl (by omega) (rem_known (by assumption) (by omega))) rfl ?_; refine tw_pure rfl (pur_indexAddr tabOk rfl rfl rfl rfl (by omega) (by omega)) rfl ?_; refine tw_pure rfl (pur_load tabOk rfl rfl rfl (fun wz hz => Row.at0 (Row.ext d_hcell hz) rfl)) rfl ?_; refine tw_pure rfl (pur_conv tabOk rfl rfl rfl (IntWalk.i64_in _ (by omega))) rfl ?_; refine tw_pure rfl (pur_rem rfl rfl (by omega) (rem_known (by assumption) (by omega))) rfl ?_; (refine tw_does rfl (does_slice' [_, _, _, _] tabOk zOk rfl rfl rfl rfl rfl rfl rfl rfl rfl) rfl ?_ (fun _ h => h) tw_none; rintro _ we20 ⟨be19, rfl, ne21, te22⟩); clear te22; have he23 := ne21.blk; have xe24 := ne21.ext
      have pe25 := ne21.pos; have ze26 := ne21.size; clear ne21; replace qse16 := qse16.ext xe24; replace he13 := he13.ext xe24; replace hrow := hrow.ext xe24; replace ht := ht.ext xe24; replace hE := hE.ext xe24; replace X := X.ext xe24; replace hT := hT.ext xe24; replace hcell := hcell.ext xe24; replace hr := hr.ext xe24; clear xe24; refine ⟨qse16, ?_⟩; refine tw_pure rfl (pur_indexAddr tabOk rfl rfl rfl rfl (by omega) (by omega)) rfl ?_; (refine tw_does rfl (does_pur (pur_load tabOk rfl rfl rfl (fun wz hz => by subst hz; exact Blk.cell he23 rfl))) rfl ?_ (fun _ h => h) tw_none; rintro _ _ ⟨rfl, rfl⟩); refine ⟨qse16, ?_⟩; refine tw_pure rfl (pur_sadd rfl rfl (by simp only [List.length_cons, List.length_nil]; omega)) rfl ?_; clear d_he13 d_hrow d_ht d_hE d_hT d_hcell d_hr qse16; refine tw_tail rfl ?_; refine lw_pure (pur_sadd rfl rfl (by simp only [List.length_append, List.length_cons, List.length_nil]; omega)) rfl ?_; refine cA rfl rfl (lw_nil (qw_block_norm (qw_then (cw_region ?_)))); refine lw_pure (pur_add rfl rfl (IntWalk.i64_in _ (by omega))) rfl ?_; refine cM rfl rfl (lw_nil ?_); rotate_left 1
     refine qw_round (i + 1) (by refine sub_cons rfl (sub_cons rfl (sub_cons' rfl (by rw [hT1, hnx]; rfl) ?_)); (refine sub_cons rfl ?_; refine sub_cons rfl ?_; refine sub_cons rfl ?_; exact sub_nil)) ⟨by omega, by rw [hT1]; exact hlenx, hT, hrow, ht, hE, X, by omega⟩ (by omega)
   · have hr5 : (cc.toNat : Int) % 4 = 1 := by omega
     rw [sep_knownF hk] at hnx
     focus
      refine cS (lw_pure (pur_lss rfl rfl) rfl (cT (cw_seq ?_))); refine cw_yes rfl (by omega) ?_; refine cw_skip (qw_then (cw_seq (cw_block (cS (cM rfl rfl ?_))))); refine lw_pure (pur_indexAddr tabOk rfl rfl rfl rfl (by omega) (by omega)) rfl ?_; refine lw_loads_r0 tabOk rfl rfl rfl hr rfl rfl ?_; (refine lw_alloc' [_, _, _] zOk rfl rfl ?_; intro bf1 wf2 nf3); have hf5 := nf3.blk; have xf6 := nf3.ext; have pf7 := nf3.pos; have zf8 := nf3.size; clear nf3; replace hrow := hrow.ext xf6; replace ht := ht.ext xf6; replace hE := hE.ext xf6; replace X := X.ext xf6; replace hT := hT.ext xf6; replace hcell := hcell.ext xf6; replace hr := hr.ext xf6; clear xf6; refine cA rfl rfl ?_; (refine lw_store' [_, _, _] [_, _, _] tabOk rfl rfl rfl rfl rfl rfl hf5 rfl rfl ?_; intro wf9 nf10); have hf13 := nf10.blk; have ff11 := nf10.fr; have zf12 := nf10.size; clear nf10 hf5; replace hrow := Row.fr hrow ff11 (by simp only; omega); replace ht := ht.fr ff11 (by omega); replace hE := hE.fr ff11 (by omega); replace X := X.fr ff11 (by omega); replace hT := hT.fr ff11 (by omega); replace hcell := Row.fr hcell ff11 (by simp only; omega); replace hr := Row.fr hr ff11 (by simp only; omega); clear ff11; refine cT ?_; (refine cw_tdraw (fun wz => Ext wf9 wz) 16 (.pure 0 (.pure 1 (.pure 2 (.pure 4 (.pure 5 (.pure 6 (.pure 7 (.pure 8 (.pure 9 (.pure 10 (.pure 11 (.pure 12 (.fork 3 (.pure 13 (.fork 14 (.pure 15 .tail) .none)) .none))))))))))))) mixed (by kernel_rfl) (panicOk_block (panicOk_then (panicOk_then (panicOk_block (panicOk_then panicOk_body))))) ?_; intro wf14 xf15 _)
      have qsf16 : (fun wz => Ext wf9 wz) wf14 := xf15; simp only at qsf16; have d_hf13 := hf13; have d_hrow := hrow; have d_ht := ht; have d_hE := hE; have d_hT := hT; have d_hcell := hcell; have d_hr := hr; have zf17 := xf15.size; replace hf13 := hf13.ext xf15; replace hrow := hrow.ext xf15; replace ht := ht.ext xf15; replace hE := hE.ext xf15; replace X := X.ext xf15; replace hT := hT.ext xf15; replace hcell := hcell.ext xf15; replace hr := hr.ext xf15; clear xf15; refine ⟨qsf16, ?_⟩; refine tw_pure rfl (pur_move rfl) rfl (tw_pure rfl (pur_fieldAddr tabOk rfl rfl rfl) rfl (tw_pure rfl (pur_load tabOk rfl rfl rfl (fun wz hz => Blk.cell (Blk.ext d_hf13 hz) rfl)) rfl (tw_pure rfl (pur_move rfl) rfl (tw_pure rfl (pur_move rfl) rfl (tw_pure rfl (pur_move rfl) rfl (tw_pure rfl (pur_len_slice tabOk rfl rfl) rfl ?_)))))); refine tw_pure rfl (pur_rem rfl rfl (by omega) (rem_known (by assumption) (by omega))) rfl ?_; refine tw_pure rfl (pur_indexAddr tabOk rfl rfl rfl rfl (by omega) (by omega)) rfl ?_; refine tw_pure rfl (pur_load tabOk rfl rfl rfl (fun wz hz => Row.at0 (Row.ext d_hcell hz) rfl)) rfl ?_; refine tw_pure rfl (pur_conv tabOk rfl rfl rfl (IntWalk.i64_in _ (by omega))) rfl ?_; refine tw_pure rfl (pur_rem rfl rfl (by omega) (rem_known (by assumption) (by omega))) rfl ?_; (refine tw_does rfl (does_slice' [_, _, _, _] tabOk zOk rfl rfl rfl rfl rfl rfl rfl rfl rfl) rfl ?_ (fun _ h => h) tw_none; rintro _ wf20 ⟨bf19, rfl, nf21, tf22⟩); clear tf22; have hf23 := nf21.blk; have xf24 := nf21.ext
      have pf25 := nf21.pos; have zf26 := nf21.size; clear nf21; replace qsf16 := qsf16.ext xf24; replace hf13 := hf13.ext xf24; replace hrow := hrow.ext xf24; replace ht := ht.ext xf24; replace hE := hE.ext xf24; replace X := X.ext xf24; replace hT := hT.ext xf24; replace hcell := hcell.ext xf24; replace hr := hr.ext xf24; clear xf24; refine ⟨qsf16, ?_⟩; refine tw_pure rfl (pur_indexAddr tabOk rfl rfl rfl rfl (by omega) (by omega)) rfl ?_; (refine tw_does rfl (does_pur (pur_load tabOk rfl rfl rfl (fun wz hz => by subst hz; exact Blk.cell hf23 rfl))) rfl ?_ (fun _ h => h) tw_none; rintro _ _ ⟨rfl, rfl⟩); refine ⟨qsf16, ?_⟩; refine tw_pure rfl (pur_sadd rfl rfl (by simp only [List.length_cons, List.length_nil]; omega)) rfl ?_; clear d_hf13 d_hrow d_ht d_hE d_hT d_hcell d_hr qsf16; refine tw_tail rfl ?_; refine lw_pure (pur_sadd rfl rfl (by simp only [List.length_append, List.length_cons, List.length_nil]; omega)) rfl ?_; refine cA rfl rfl (lw_nil (qw_block_norm (qw_then (cw_region ?_)))); refine lw_pure (pur_add rfl rfl (IntWalk.i64_in _ (by omega))) rfl ?_; refine cM rfl rfl (lw_nil ?_); rotate_left 1
     refine qw_round (i + 1) (by refine sub_cons rfl (sub_cons rfl (sub_cons' rfl (by rw [hT1, hnx]; rfl) ?_)); (refine sub_cons rfl ?_; refine sub_cons rfl ?_; refine sub_cons rfl ?_; exact sub_nil)) ⟨by omega, by rw [hT1]; exact hlenx, hT, hrow, ht, hE, X, by omega⟩ (by omega)
   · have hr5 : (cc.toNat : Int) % 4 = 2 := by omega
     rw [sep_knownF hk] at hnx
     focus
      refine cS (lw_pure (pur_lss rfl rfl) rfl (cT (cw_seq ?_))); refine cw_yes rfl (by omega) ?_; refine cw_skip (qw_then (cw_seq (cw_block (cS (cM rfl rfl ?_))))); refine lw_pure (pur_indexAddr tabOk rfl rfl rfl rfl (by omega) (by omega)) rfl ?_; refine lw_loads_r0 tabOk rfl rfl rfl hr rfl rfl ?_; (refine lw_alloc' [_, _, _] zOk rfl rfl ?_; intro bg1 wg2 ng3); have hg5 := ng3.blk; have xg6 := ng3.ext; have pg7 := ng3.pos; have zg8 := ng3.size; clear ng3; replace hrow := hrow.ext xg6; replace ht := ht.ext xg6; replace hE := hE.ext xg6; replace X := X.ext xg6; replace hT := hT.ext xg6; replace hcell := hcell.ext xg6; replace hr := hr.ext xg6; clear xg6; refine cA rfl rfl ?_; (refine lw_store' [_, _, _] [_, _, _] tabOk rfl rfl rfl rfl rfl rfl hg5 rfl rfl ?_; intro wg9 ng10); have hg13 := ng10.blk; have fg11 := ng10.fr; have zg12 := ng10.size; clear ng10 hg5; replace hrow := Row.fr hrow fg11 (by simp only; omega); replace ht := ht.fr fg11 (by omega); replace hE := hE.fr fg11 (by omega); replace X := X.fr fg11 (by omega); replace hT := hT.fr fg11 (by omega); replace hcell := Row.fr hcell fg11 (by simp only; omega); replace hr := Row.fr hr fg11 (by simp only; omega); clear fg11; refine cT ?_; (refine cw_tdraw (fun wz => Ext wg9 wz) 16 (.pure 0 (.pure 1 (.pure 2 (.pure 4 (.pure 5 (.pure 6 (.pure 7 (.pure 8 (.pure 9 (.pure 10 (.pure 11 (.pure 12 (.fork 3 (.pure 13 (.fork 14 (.pure 15 .tail) .none)) .none))))))))))))) mixed (by kernel_rfl) (panicOk_block (panicOk_then (panicOk_then (panicOk_block (panicOk_then panicOk_body))))) ?_; intro wg14 xg15 _)
      have qsg16 : (fun wz => Ext wg9 wz) wg14 := xg15; simp only at qsg16; have d_hg13 := hg13; have d_hrow := hrow; have d_ht := ht; have d_hE := hE; have d_hT := hT; have d_hcell := hcell; have d_hr := hr; have zg17 := xg15.size; replace hg13 := hg13.ext xg15; replace hrow := hrow.ext xg15; replace ht := ht.ext xg15; replace hE := hE.ext xg15; replace X := X.ext xg15; replace hT := hT.ext xg15; replace hcell := hcell.ext xg15; replace hr := hr.ext xg15; clear xg15; refine ⟨qsg16, ?_⟩; refine tw_pure rfl (pur_move rfl) rfl (tw_pure rfl (pur_fieldAddr tabOk rfl rfl rfl) rfl (tw_pure rfl (pur_load tabOk rfl rfl rfl (fun wz hz => Blk.cell (Blk.ext d_hg13 hz) rfl)) rfl (tw_pure rfl (pur_move rfl) rfl (tw_pure rfl (pur_move rfl) rfl (tw_pure rfl (pur_move rfl) rfl (tw_pure rfl (pur_len_slice tabOk rfl rfl) rfl ?_)))))); refine tw_pure rfl (pur_rem rfl rfl (by omega) (rem_known (by assumption) (by omega))) rfl ?_; refine tw_pure rfl (pur_indexAddr tabOk rfl rfl rfl rfl (by omega) (by omega)) rfl ?_; refine tw_pure rfl (pur_load tabOk rfl rfl rfl (fun wz hz => Row.at0 (Row.ext d_hcell hz) rfl)) rfl ?_; refine tw_pure rfl (pur_conv tabOk rfl rfl rfl (IntWalk.i64_in _ (by omega))) rfl ?_; refine tw_pure rfl (pur_rem rfl rfl (by omega) (rem_known (by assumption) (by omega))) rfl ?_; (refine tw_does rfl (does_slice' [_, _, _, _] tabOk zOk rfl rfl rfl rfl rfl rfl rfl rfl rfl) rfl ?_ (fun _ h => h) tw_none; rintro _ wg20 ⟨bg19, rfl, ng21, tg22⟩); clear tg22; have hg23 := ng21.blk; have xg24 := ng21.ext
      have pg25 := ng21.pos; have zg26 := ng21.size; clear ng21; replace qsg16 := qsg16.ext xg24; replace hg13 := hg13.ext xg24; replace hrow := hrow.ext xg24; replace ht := ht.ext xg24; replace hE := hE.ext xg24; replace X := X.ext xg24; replace hT := hT.ext xg24; replace hcell := hcell.ext xg24; replace hr := hr.ext xg24; clear xg24; refine ⟨qsg16, ?_⟩; refine tw_pure rfl (pur_indexAddr tabOk rfl rfl rfl rfl (by omega) (by omega)) rfl ?_; (refine tw_does rfl (does_pur (pur_load tabOk rfl rfl rfl (fun wz hz => by subst hz; exact Blk.cell hg23 rfl))) rfl ?_ (fun _ h => h) tw_none; rintro _ _ ⟨rfl, rfl⟩); refine ⟨qsg16, ?_⟩; refine tw_pure rfl (pur_sadd rfl rfl (by simp only [List.length_cons, List.length_nil]; omega)) rfl ?_; clear d_hg13 d_hrow d_ht d_hE d_hT d_hcell d_hr qsg16; refine tw_tail rfl ?_; refine lw_pure (pur_sadd rfl rfl (by simp only [List.length_append, List.length_cons, List.length_nil]; omega)) rfl ?_; refine cA rfl rfl (lw_nil (qw_block_norm (qw_then (cw_region ?_)))); refine lw_pure (pur_add rfl rfl (IntWalk.i64_in _ (by omega))) rfl ?_; refine cM rfl rfl (lw_nil ?_); rotate_left 1
     refine qw_round (i + 1) (by refine sub_cons rfl (sub_cons rfl (sub_cons' rfl (by rw [hT1, hnx]; rfl) ?_)); (refine sub_cons rfl ?_; refine sub_cons rfl ?_; refine sub_cons rfl ?_; exact sub_nil)) ⟨by omega, by rw [hT1]; exact hlenx, hT, hrow, ht, hE, X, by omega⟩ (by omega)
   · have hr5 : (cc.toNat : Int) % 4 = 3 := by omega
     rw [sep_knownF hk] at hnx
     focus
      refine cS (lw_pure (pur_lss rfl rfl) rfl (cT (cw_seq ?_))); refine cw_yes rfl (by omega) ?_; refine cw_skip (qw_then (cw_seq (cw_block (cS (cM rfl rfl ?_))))); refine lw_pure (pur_indexAddr tabOk rfl rfl rfl rfl (by omega) (by omega)) rfl ?_; refine lw_loads_r0 tabOk rfl rfl rfl hr rfl rfl ?_; (refine lw_alloc' [_, _, _] zOk rfl rfl ?_; intro bh1 wh2 nh3); have hh5 := nh3.blk; have xh6 := nh3.ext; have ph7 := nh3.pos; have zh8 := nh3.size; clear nh3; replace hrow := hrow.ext xh6; replace ht := ht.ext xh6; replace hE := hE.ext xh6; replace X := X.ext xh6; replace hT := hT.ext xh6; replace hcell := hcell.ext xh6; replace hr := hr.ext xh6; clear xh6; refine cA rfl rfl ?_; (refine lw_store' [_, _, _] [_, _, _] tabOk rfl rfl rfl rfl rfl rfl hh5 rfl rfl ?_; intro wh9 nh10); have hh13 := nh10.blk; have fh11 := nh10.fr; have zh12 := nh10.size; clear nh10 hh5; replace hrow := Row.fr hrow fh11 (by simp only; omega); replace ht := ht.fr fh11 (by omega); replace hE := hE.fr fh11 (by omega); replace X := X.fr fh11 (by omega); replace hT := hT.fr fh11 (by omega); replace hcell := Row.fr hcell fh11 (by simp only; omega); replace hr := Row.fr hr fh11 (by simp only; omega); clear fh11; refine cT ?_; (refine cw_tdraw (fun wz => Ext wh9 wz) 16 (.pure 0 (.pure 1 (.pure 2 (.pure 4 (.pure 5 (.pure 6 (.pure 7 (.pure 8 (.pure 9 (.pure 10 (.pure 11 (.pure 12 (.fork 3 (.pure 13 (.fork 14 (.pure 15 .tail) .none)) .none))))))))))))) mixed (by kernel_rfl) (panicOk_block (panicOk_then (panicOk_then (panicOk_block (panicOk_then panicOk_body))))) ?_; intro wh14 xh15 _)
      have qsh16 : (fun wz => Ext wh9 wz) wh14 := xh15; simp only at qsh16; have d_hh13 := hh13; have d_hrow := hrow; have d_ht := ht; have d_hE := hE; have d_hT := hT; have d_hcell := hcell; have d_hr := hr; have zh17 := xh15.size; replace hh13 := hh13.ext xh15; replace hrow := hrow.ext xh15; replace ht := ht.ext xh15; replace hE := hE.ext xh15; replace X := X.ext xh15; replace hT := hT.ext xh15; replace hcell := hcell.ext xh15; replace hr := hr.ext xh15; clear xh15; refine ⟨qsh16, ?_⟩; refine tw_pure rfl (pur_move rfl) rfl (tw_pure rfl (pur_fieldAddr tabOk rfl rfl rfl) rfl (tw_pure rfl (pur_load tabOk rfl rfl rfl (fun wz hz => Blk.cell (Blk.ext d_hh13 hz) rfl)) rfl (tw_pure rfl (pur_move rfl) rfl (tw_pure rfl (pur_move rfl) rfl (tw_pure rfl (pur_move rfl) rfl (tw_pure rfl (pur_len_slice tabOk rfl rfl) rfl ?_)))))); refine tw_pure rfl (pur_rem rfl rfl (by omega) (rem_known (by assumption) (by omega))) rfl ?_; refine tw_pure rfl (pur_indexAddr tabOk rfl rfl rfl rfl (by omega) (by omega)) rfl ?_; refine tw_pure rfl (pur_load tabOk rfl rfl rfl (fun wz hz => Row.at0 (Row.ext d_hcell hz) rfl)) rfl ?_; refine tw_pure rfl (pur_conv tabOk rfl rfl rfl (IntWalk.i64_in _ (by omega))) rfl ?_; refine tw_pure rfl (pur_rem rfl rfl (by omega) (rem_known (by assumption) (by omega))) rfl ?_; (refine tw_does rfl (does_slice' [_, _, _, _] tabOk zOk rfl rfl rfl rfl rfl rfl rfl rfl rfl) rfl ?_ (fun _ h => h) tw_none; rintro _ wh20 ⟨bh19, rfl, nh21, th22⟩); clear th22; have hh23 := nh21.blk; have xh24 := nh21.ext
      have ph25 := nh21.pos; have zh26 := nh21.size; clear nh21; replace qsh16 := qsh16.ext xh24; replace hh13 := hh13.ext xh24; replace hrow := hrow.ext xh24; replace ht := ht.ext xh24; replace hE := hE.ext xh24; replace X := X.ext xh24; replace hT := hT.ext xh24; replace hcell := hcell.ext xh24; replace hr := hr.ext xh24; clear xh24; refine ⟨qsh16, ?_⟩; refine tw_pure rfl (pur_indexAddr tabOk rfl rfl rfl rfl (by omega) (by omega)) rfl ?_; (refine tw_does rfl (does_pur (pur_load tabOk rfl rfl rfl (fun wz hz => by subst hz; exact Blk.cell hh23 rfl))) rfl ?_ (fun _ h => h) tw_none; rintro _ _ ⟨rfl, rfl⟩); refine ⟨qsh16, ?_⟩; refine tw_pure rfl (pur_sadd rfl rfl (by simp only [List.length_cons, List.length_nil]; omega)) rfl ?_; clear d_hh13 d_hrow d_ht d_hE d_hT d_hcell d_hr qsh16; refine tw_tail rfl ?_; refine lw_pure (pur_sadd rfl rfl (by simp only [List.length_append, List.length_cons, List.length_nil]; omega)) rfl ?_; refine cA rfl rfl (lw_nil (qw_block_norm (qw_then (cw_region ?_)))); refine lw_pure (pur_add rfl rfl (IntWalk.i64_in _ (by omega))) rfl ?_; refine cM rfl rfl (lw_nil ?_); rotate_left 1
     refine qw_round (i + 1) (by refine sub_cons rfl (sub_cons rfl (sub_cons' rfl (by rw [hT1, hnx]; rfl) ?_)); (refine sub_cons rfl ?_; refine sub_cons rfl ?_; refine sub_cons rfl ?_; exact sub_nil)) ⟨by omega, by rw [hT1]; exact hlenx, hT, hrow, ht, hE, X, by omega⟩ (by omega)
   · omega
 · have : i = ts.length := by omega
   subst this; rw [List.take_length] at hlen ⊢
   generalize layTF (fun j => sepOfF (l.getD (j % l.length) 0)) 0 ts = T at *
   have hS : Syms w1 := ⟨ht.t.sym⟩; have HA := Lib.hid (fun w hS hE => funParse_c s w (by omega) hS hE); have HB := Lib.hid (fun w hS hE => funParse_c T w (by omega) hS hE); obtain ⟨hf1, hf2⟩ := (parseLib_few (s := s) (by omega)).same
   generalize parseLib s = r1 at *
   generalize parseLib T = r2 at *
   obtain ⟨g1, o1, e1⟩ := r1; obtain ⟨g2, o2, e2⟩ := r2; simp only at hp1 hp2 hf1 hf2; subst hp1 hp2
   have HF := Lib.hid hf2; clear hf2
   clear hrow hT htl
   focus
    refine cS (lw_pure (pur_lss rfl rfl) rfl (cT (cw_seq ?_))); refine cw_no rfl (by omega) ?_; refine cw_exit (qw_then_exit (qw_then_exit (qw_block_exit (qw_then (cS (cM rfl rfl ?_)))))); refine cR (by kernel_rfl) rfl (HA.out _ (by assumption) (by assumption)) (fun _ _ h => h.ret) rfl ?_; rintro _ wi5 ⟨lai1, ⟨lci2, ⟨⟨⟩, ⟨hi3, xi4⟩⟩⟩⟩; have zi6 := xi4.size; replace ht := ht.ext xi4; replace hE := hE.ext xi4; replace X := X.ext xi4; replace hS := hS.ext xi4; clear xi4; refine cM rfl rfl (lw_pure (pur_extract rfl rfl) rfl (lw_pure (pur_extract rfl rfl) rfl (lw_pure (pur_extract rfl rfl) rfl (cA rfl rfl (cA rfl rfl (cA rfl rfl (cN (cM rfl rfl ?_)))))))); refine cR (by kernel_rfl) rfl (HB.out _ (by assumption) (by assumption)) (fun _ _ h => h.ret) rfl ?_; rintro _ wi11 ⟨lai7, ⟨lci8, ⟨⟨⟩, ⟨hi9, xi10⟩⟩⟩⟩; have zi12 := xi10.size; replace hi3 := hi3.ext xi10; replace ht := ht.ext xi10; replace hE := hE.ext xi10; replace X := X.ext xi10; replace hS := hS.ext xi10; clear xi10; refine cM rfl rfl (lw_pure (pur_extract rfl rfl) rfl (lw_pure (pur_extract rfl rfl) rfl (lw_pure (pur_extract rfl rfl) rfl (cA rfl rfl (cA rfl rfl (cA rfl rfl (cN (cM rfl rfl (cM rfl rfl (lw_pure (pur_eql rfl rfl) rfl (cM rfl rfl ?_))))))))))); refine lw_on rfl rfl rfl (gd_tt (rfl)) (cM rfl rfl (lw_on rfl rfl rfl (gd_tt (rfl)) (cM rfl rfl (lw_on rfl rfl rfl (gd_tt (rfl)) ?_)))); refine cC (by kernel_rfl) rfl (same36_t _ _ _ _ _ _ _ _ hf1 HF.out (by assumption) (by assumption)) rfl ?_; rintro _ wi14 ⟨⟨⟩, xi13⟩; have zi15 := xi13.size
    replace hi9 := hi9.ext xi13; replace hi3 := hi3.ext xi13; replace ht := ht.ext xi13; replace hE := hE.ext xi13; replace X := X.ext xi13; replace hS := hS.ext xi13; clear xi13; refine lw_pure (pur_pick_yes rfl rfl (rfl)) rfl (cA rfl rfl (cT (cw_ret (qw_ret1 rfl rfl ?_)))); rotate_left 1
   exact ⟨rfl, X⟩
end Bk
namespace Bk
open Go Go.RowKit Go.Proofs
set_option maxRecDepth 100000 in
theorem bytes_of_trod {H : Type} {enc : TypeId × Value → H} {W : World} {sp : Nat → Bool} {r : Reach} {b0 : Nat} {held : Bool} {v : Value} {d : DataW H} {ps : List MemPlace} (hval : Value.okWide Tryd.prog W r b0 33 v) (h : DataW.Trod enc Tryd.prog W 0 sp held 33 v d ps) :
 ∃ (l : List UInt8) (a : Option Addr) (c : Nat), v = .slice a l.length c ∧ l.length ≤ 9223372036854775807 ∧ BytesF W l a := by
 obtain ⟨a0, len, cap, rfl⟩ := Go.WideShapes.okWide_slice Tryd.underlying33 hval; obtain ⟨fuel, hf⟩ := h
 have hc : Tryd.prog.cellsOf 5 = 1 := by kernel_rfl
 rcases Go.ChangeShapes.open_ints Tryd.underlying33 Tryd.underlying5 hc hf with ⟨hcs, hx⟩ | ⟨a, len', cap', zs, hcs, -, hle, hmax, hall, -, hcell, hwf⟩
 · simp [Value.cells] at hcs
   obtain ⟨rfl, rfl, rfl⟩ := hcs
   exact ⟨[], none, 0, rfl, by simp, Or.inl rfl⟩
 · simp [Value.cells] at hcs
   obtain ⟨rfl, rfl, rfl⟩ := hcs
   have hzl : len ≤ zs.length := by rw [hall]; split <;> omega
   have hl : ((zs.take len).map (fun z => UInt8.ofNat z.toNat)).length = len := by simp only [List.length_map, List.length_take]; omega
   refine ⟨(zs.take len).map (fun z => UInt8.ofNat z.toNat), some a, cap, by rw [hl], by rw [hl]; unfold maxLen at hmax; omega, ?_⟩
   by_cases h0 : len = 0
   · left; subst h0; rfl
   · right
     obtain ⟨b, o, spot⟩ := a
     have hspot : spot = none := by
      have e0 := hcell 0 (by omega); simp only [Addr.add, if_true] at e0
      unfold World.cell? at e0
      cases spot with
      | none => rfl
      | some q => simp at e0; split at e0 <;> simp at e0
     subst hspot; refine ⟨b, o, rfl, fun i v hv => ?_⟩; rw [List.getElem?_map, List.getElem?_map] at hv
     have hi : i < len := by
      by_cases hi : i < len
      · exact hi
      · rw [List.getElem?_eq_none (by simp only [List.length_take]; omega)] at hv; cases hv
     have hiz : i < zs.length := by omega
     rw [List.getElem?_take, if_pos hi, List.getElem?_eq_getElem hiz] at hv; simp only [Option.map_some, Option.some.injEq] at hv; rw [hcell i hiz, ← hv]; have hz := hwf zs[i] (List.getElem_mem hiz)
     have hz' : 0 ≤ zs[i] ∧ zs[i] ≤ 255 := by simpa [Lit.wf, IntKind.min, IntKind.max, IntKind.signed, IntKind.bits] using hz
     rw [List.getD_eq_getElem?_getD, List.getElem?_eq_getElem hiz]; simp only [Option.getD_some, Option.some.injEq, Value.int.injEq, true_and]; rw [UInt8.toNat_ofNat']
     omega
end Bk
namespace Bk
open Go Go.RowKit Go.Proofs
theorem FuntextLayout_d (s : List UInt8) (l : List UInt8) (a : Option Addr) (c : Nat) (w : World) (hs : s.length ≤ 9223372036854775807) (hl : l.length ≤ 9223372036854775807) (hB : BytesF w l a) (ht : TabsF w) (hE : Errs w) :
 Calls Tryd.prog 4 #[str s, .slice a l.length c] w fun e w' => e = .returned (.bool true) ∧ Ext w w' := layout36_c s l a c w hs hl hB ht hE
end Bk
namespace Bk
open Go Go.RowKit Go.Proofs Go.Lib
theorem cells_of_strs {H : Type} {enc : TypeId × Value → H} {P : Program} {w : World} {base : Nat} {sp : Nat → Bool} {held : Bool} {fuel : Nat} {t e : TypeId} {n : Nat} {cs : List Value} {zs : List (List UInt8)} {p : List MemPlace}
 (ht : P.underlying t = some (.array n e)) (he : P.underlying e = some .string) (hce : P.cellsOf e = 1) (hct : P.cellsOf t = n)
 (h : DataW.trod enc P w base sp held fuel t cs = some (.agg (zs.map fun z => .lit (.string z)), p)) : cs = zs.map str := by
 cases fuel with
 | zero => simp [DataW.trod] at h
 | succ fuel =>
  simp only [DataW.trod, ht, hce, hct, Nat.mul_one] at h
  split at h
  · rename_i hl
    obtain ⟨xs, hm, hx⟩ := Option.map_eq_some_iff.1 h
    have hxs : xs.map (·.1) = zs.map fun z => (DataW.lit (.string z) : DataW H) := by
     have := congrArg Prod.fst hx
     simpa using this
    have hxl : xs.length = n := by simpa using mapM_length hm
    have hzl : zs.length = n := by
     have := congrArg List.length hxs
     simp at this
     omega
    apply List.ext_getElem?
    intro i
    by_cases hi : i < n
    · obtain ⟨b, hb, hf⟩ := mapM_at hm i i (by simp [hi])
      obtain ⟨z, hc, rfl, _⟩ := DataW.trod_string he hf
      have h1 : cs[i]? = some (.string z) := by
       have := congrArg (·[0]?) hc
       simpa [List.getElem?_take, List.getElem?_drop] using this
      have h2 : (xs.map (·.1))[i]? = some (DataW.lit (.string z.data.toList) : DataW H) := by simp [hb]
      rw [hxs] at h2; simp only [List.getElem?_map, Option.map_eq_some_iff, DataW.lit.injEq, Lit.string.injEq] at h2; obtain ⟨z', hz', rfl⟩ := h2
      simp [h1, hz']
    · rw [List.getElem?_eq_none (by omega), List.getElem?_eq_none (by simp; omega)]
  · cases h
end Bk
namespace Bk
open Go Go.RowKit Go.Proofs Go.Lib
theorem gSym4 : Tryd.prog.globalNamed "backstep/arith.symbols" = some 0 := by kernel_rfl
theorem gSymT4 : (Tryd.prog.globals[0]?).map (·.type) = some 77 := by kernel_rfl
theorem uSymT4 : Tryd.prog.underlying 77 = some (.array 43 9) := by kernel_rfl
theorem cSymT4 : Tryd.prog.cellsOf 77 = 43 := by kernel_rfl
theorem uStr4 : Tryd.prog.underlying 9 = some .string := by kernel_rfl
theorem cStr4 : Tryd.prog.cellsOf 9 = 1 := by kernel_rfl
theorem gErr4 : Tryd.prog.globalNamed "strconv.ErrRange" = some 6 := by kernel_rfl
theorem gErrT4 : (Tryd.prog.globals[6]?).map (·.type) = some 67 := by kernel_rfl
theorem uErr4 : ∃ ms, Tryd.prog.underlying 67 = some (.interface ms) := ⟨_, Tryd.underlying67⟩
theorem symData4 : (YtmmjpjmkkhflkaaDoor.Rows.laid_backstep_arith_symbols : DataW Unit) = .agg (symbols.map fun z => .lit (.string z)) := rfl
abbrev laid4 : List (String × DataW Unit) := [("backstep/arith.symbols", YtmmjpjmkkhflkaaDoor.Rows.laid_backstep_arith_symbols), ("math/bits.deBruijn32tab", YtmmjpjmkkhflkaaDoor.Rows.laid_math_bits_deBruijn32tab), ("math/bits.deBruijn64tab", YtmmjpjmkkhflkaaDoor.Rows.laid_math_bits_deBruijn64tab), ("internal/strconv.uint64pow10", YtmmjpjmkkhflkaaDoor.Rows.laid_internal_strconv_uint64pow10), ("strconv.ErrRange", YtmmjpjmkkhflkaaDoor.Rows.laid_strconv_ErrRange), ("strconv.ErrSyntax", YtmmjpjmkkhflkaaDoor.Rows.laid_strconv_ErrSyntax)]
theorem syms_of_laid {W : World} (h : laidMetH Tryd.prog laid4 W) : Syms W ∧ Errs W := by
 have h' : laidMet Tryd.prog laid4 W := h; obtain ⟨ps, ⟨g1, t1, cs1, f1, p1, q1, hg1, ht1, hv1, hd1, ⟨g2, t2, cs2, f2, p2, q2, hg2, ht2, hv2, hd2, ⟨g3, t3, cs3, f3, p3, q3, hg3, ht3, hv3, hd3, ⟨g4, t4, cs4, f4, p4, q4, hg4, ht4, hv4, hd4, ⟨g5, t5, cs5, f5, p5, q5, hg5, ht5, hv5, hd5, -, -⟩, -⟩, -⟩, -⟩, -⟩, -⟩ := h'; obtain rfl := Option.some.inj (gSym4.symm.trans hg1); obtain rfl := Option.some.inj (gSymT4.symm.trans ht1); obtain rfl := Option.some.inj (gErr4.symm.trans hg5); obtain rfl := Option.some.inj (gErrT4.symm.trans ht5); rw [symData4] at hd1; have e1 := cells_of_strs uSymT4 uStr4 cStr4 cSymT4 hd1; refine ⟨⟨fun i hi => ?_⟩, ?_⟩
 · rw [World.var?_cell gSym4 hv1 i, ← Array.getElem?_toList, e1, List.getElem?_map]
   have : symbols[i]? = some (symbols.getD i []) := by
    rw [List.getD_eq_getElem?_getD, List.getElem?_eq_getElem (show i < symbols.length from hi)]; rfl
   rw [this]; rfl
 · obtain ⟨ms, hu⟩ := uErr4
   obtain ⟨f, u, v, hc, -, -⟩ := iface_of_trod hu hd5; refine ⟨⟨u, v, ?_⟩⟩; rw [World.var?_cell gErr4 hv5 0, ← Array.getElem?_toList, hc]
   rfl
end Bk
namespace Bk
open Go Go.RowKit Go.Proofs
def AllB : Nat → Prop := fun _ => True
end Bk
namespace Bk
open Go Go.RowKit Go.Proofs Go.Lib
theorem gPow36 : Tryd.prog.globalNamed "internal/strconv.uint64pow10" = some 2 := by kernel_rfl
theorem gPowT36 : (Tryd.prog.globals[2]?).map (·.type) = some 125 := by kernel_rfl
theorem uPowT36 : Tryd.prog.underlying 125 = some (.array 20 118) := by kernel_rfl
theorem uU6436 : Tryd.prog.underlying 118 = some (.int .u64) := by kernel_rfl
theorem cU6436 : Tryd.prog.cellsOf 118 = 1 := by kernel_rfl
theorem cPowT36 : Tryd.prog.cellsOf 125 = 20 := by kernel_rfl
theorem powData36 : (YtmmjpjmkkhflkaaDoor.Rows.laid_internal_strconv_uint64pow10 : DataW Unit) = tabData .u64 pow10Tab := rfl
theorem heap36_of_laid {W : World} (h : laidMetH Tryd.prog laid4 W) : Tryd.prog.globals.size ≤ W.heap.size := by
 have h' : laidMet Tryd.prog laid4 W := h; obtain ⟨ps, ⟨g1, t1, cs1, f1, p1, q1, hg1, ht1, hv1, hd1, ⟨g2, t2, cs2, f2, p2, q2, hg2, ht2, hv2, hd2, ⟨g3, t3, cs3, f3, p3, q3, hg3, ht3, hv3, hd3, ⟨g4, t4, cs4, f4, p4, q4, hg4, ht4, hv4, hd4, ⟨g5, t5, cs5, f5, p5, q5, hg5, ht5, hv5, hd5, ⟨g6, t6, cs6, f6, p6, q6, hg6, ht6, hv6, hd6, -, -⟩, -⟩, -⟩, -⟩, -⟩, -⟩, -⟩ := h'
 have key : ∀ (nm : String) (g : Nat) (v : _), Tryd.prog.globalNamed nm = some g → W.var? Tryd.prog nm = some v → g < W.heap.size := by
  intro nm g v hg hv
  rcases Nat.lt_or_ge g W.heap.size with hlt | hge
  · exact hlt
  · unfold World.var? at hv
    rw [hg] at hv
    simp [Array.getElem?_eq_none hge] at hv
 have k5 := key _ 6 _ (by kernel_rfl) hv5; have k6 := key _ 5 _ (by kernel_rfl) hv6; have k4 := key _ 2 _ (by kernel_rfl) hv4; have k3 := key _ 4 _ (by kernel_rfl) hv3; have hn : Tryd.prog.globals.size ≤ max (max 6 5) (max 2 4) + 1 := of_decide_eq_true (by kernel_rfl)
 omega
theorem tabs36_of_laid {W : World} (h : laidMetH Tryd.prog laid4 W) : TabsF W ∧ Errs W := by
 obtain ⟨hS, hE⟩ := syms_of_laid h; have hg := heap36_of_laid h; have h' : laidMet Tryd.prog laid4 W := h; obtain ⟨ps, ⟨g1, t1, cs1, f1, p1, q1, hg1, ht1, hv1, hd1, ⟨g2, t2, cs2, f2, p2, q2, hg2, ht2, hv2, hd2, ⟨g3, t3, cs3, f3, p3, q3, hg3, ht3, hv3, hd3, ⟨g4, t4, cs4, f4, p4, q4, hg4, ht4, hv4, hd4, -, -⟩, -⟩, -⟩, -⟩, -⟩ := h'; obtain rfl := Option.some.inj (gPow36.symm.trans hg4); obtain rfl := Option.some.inj (gPowT36.symm.trans ht4); rw [powData36] at hd4; have e4 := cells_of_tab uPowT36 uU6436 cU6436 cPowT36 hd4; refine ⟨⟨⟨hS.sym, ?_⟩, hg⟩, hE⟩
 unfold TabIs
 rw [hv4, ← e4]
end Bk
namespace Bk
open Go Go.RowKit Go.Proofs
attribute [local irreducible] Go.Calls
section
variable {P : Program} {n : Nat} {l : Sl} {S : World → Prop} {tab : Tab} {ty : TypeId}
end
theorem FDs.take {S : Nat → Prop} {w : World} {lib : List FD} {a : Option Addr} (h : FDs S w lib a) (m : Nat) : FDs S w (lib.take m) a := by
 rcases h with rfl | ⟨b, o, h1, h2, h3⟩
 · exact Or.inl (by simp)
 · refine Or.inr ⟨b, o, h1, h2, fun i x hi => ?_⟩
   rw [List.getElem?_take] at hi
   split at hi
   · exact h3 i x hi
   · cases hi
theorem FDs.drop {S : Nat → Prop} {w : World} {lib : List FD} {a : Option Addr} {cap : Nat} (h : FDs S w lib a) (m : Nat) (hc : lib.length ≤ cap) : FDs S w (lib.drop m) (if cap = m then a else a.map (·.add (m * 7))) := by
 rcases h with rfl | ⟨b, o, rfl, h2, h3⟩
 · exact Or.inl (by simp)
 · by_cases hm : lib.length ≤ m
   · exact Or.inl (by rw [List.drop_eq_nil_iff]; exact hm)
   · rw [if_neg (by omega)]
     refine Or.inr ⟨b, o + m * 7, ?_, h2, fun i x hi => ?_⟩
     · unfold Addr.add
       by_cases h0 : m * 7 = 0 <;> simp [h0]
     · rw [List.getElem?_drop] at hi
       have := h3 _ x hi; rw [show o + (m + i) * 7 = o + m * 7 + i * 7 by omega] at this
       exact this
def BoolR (w : World) (q : Bool) (e : Ending) (w' : World) : Prop := e = .returned (.bool q) ∧ Ext w w'
end Bk
namespace Bk
open Go
structure Inv36 (ts : List Tok) (n : Int) (R : PS → PS → Prop) : Prop where
 refl : ∀ σ, R σ σ
 trans : ∀ a b c, R a b → R b c → R a c
 next : ∀ σ, σ.err = 0 ∧ σ.at_ < ts.length → (peekP ts σ).text ≠ [112, 114, 111, 99] → R σ (nextP σ)
 unexp : ∀ σ, σ.at_ ≤ ts.length → R σ (unexpP ts n σ)
 full : ∀ σ, σ.err = 0 ∧ σ.at_ < ts.length → R σ (failP σ (peekP ts σ).pos 2)
def IvP {α : Type} (p : Pr α) : Prop := ∀ ts n R, Inv36 ts n R → DigitKinds ts → ∀ σ, σ.at_ ≤ ts.length → R σ (p ts n σ).2
theorem IvP.congr {α : Type} {p q : Pr α} (h : ∀ ts n σ, p ts n σ = q ts n σ) (g : IvP q) : IvP p := fun ts n R I D σ hw => by rw [h]; exact g ts n R I D σ hw
theorem IvP.ret {α : Type} (x : α) : IvP (retP x) := fun ts n R I D σ hw => I.refl σ
theorem IvP.bind {α β : Type} {p : Pr α} {f : α → Pr β} (gp : Good p) (hp : IvP p) (hf : ∀ x, IvP (f x)) : IvP (bindP p f) := fun ts n R I D σ hw => I.trans _ _ _ (hp ts n R I D σ hw) (hf _ ts n R I D _ (gp.le ts n σ hw).wf)
theorem IvP.rd {α : Type} {c : Int → List UInt8 → Bool} {y z : Int → List UInt8 → Pr α} (h0 : c 0 [] = false) (h1 : ∀ k, c k [112, 114, 111, 99] = false) (hy : ∀ k t, IvP (y k t)) (hz : ∀ k t, IvP (z k t)) : IvP (rdP c y z) := fun ts n R I D σ hw => by
 unfold rdP
 split
 · rename_i hh
   have hin := rd_in h0 hw hh; refine I.trans _ _ _ (I.next σ hin (fun e => ?_)) (hy _ _ ts n R I D _ (next_le hin).wf)
   rw [e, h1] at hh; cases hh
 · exact hz _ _ ts n R I D σ hw
theorem IvP.te {α : Type} {c : Int → List UInt8 → Bool} {y z : Pr α} (hy : IvP y) (hz : IvP z) : IvP (teP c y z) := fun ts n R I D σ hw => by
 unfold teP
 split
 · exact hy ts n R I D σ hw
 · exact hz ts n R I D σ hw
theorem IvP.un {α : Type} (x : α) : IvP (unP x) := fun ts n R I D σ hw => I.unexp σ hw
theorem eqF_proc {t : List UInt8} (h : t ≠ [112, 114, 111, 99]) : ∀ k, eqF t k [112, 114, 111, 99] = false := fun _ => decide_eq_false (fun e => h e.symm)
theorem peek_memI {ts : List Tok} {σ : PS} (h : σ.err = 0 ∧ σ.at_ < ts.length) : peekP ts σ ∈ ts := by
 unfold peekP
 rw [if_neg (by rintro (h1 | h1); exact h1 h.1; omega)]; simp only [List.getD_eq_getElem?_getD, List.getElem?_eq_getElem h.2, Option.getD_some]
 exact List.getElem_mem h.2
theorem iv_exp {t : List UInt8} (h : t ≠ []) (hp : t ≠ [112, 114, 111, 99]) : IvP (expP t) := IvP.rd (eqF_nil h) (fun _ => decide_eq_false (fun e => hp e.symm)) (fun _ _ => IvP.ret _) (fun _ _ => IvP.un _)
theorem iv_name : IvP (fun ts n σ => nameP ts n σ) := fun ts n R I D σ hw => by
 show R σ (nameP ts n σ).2
 unfold nameP
 split
 · rename_i hh
   have hin := peek_in hw (Or.inl (isName_ne hh)); refine I.next σ hin (fun e => ?_)
   rw [e] at hh; exact absurd hh (by decide)
 · exact I.unexp σ hw
theorem iv_fnumZ {z : Pr Nd} (hz : IvP z) : IvP (fnumZ z) := fun ts n R I D σ hw => by
 unfold fnumZ fnumP
 split
 · rename_i hk
   have hin := peek_in hw (Or.inr (by rw [hk]; decide))
   split
   · refine I.next σ hin (fun e => ?_)
     have := (D _ (peek_memI hin)).1 hk
     rw [e] at this; exact absurd this (by decide)
   · exact I.full σ hin
 · exact hz ts n R I D σ hw
section
variable {e p i l d b : Pr Nd} {a1 a2 : Pr (List Nd)} {r : List Nd → Pr (List Nd)}
theorem iv_args1C (ge : Good e) (he : IvP e) : IvP (args1C e) := IvP.bind (good_exp (by decide)) (iv_exp (by decide) (by decide)) (fun _ => IvP.bind ge he (fun _ => IvP.bind (good_exp (by decide)) (iv_exp (by decide) (by decide)) (fun _ => IvP.ret _)))
theorem iv_args2C (ge : Good e) (he : IvP e) : IvP (args2C e) := IvP.bind (good_exp (by decide)) (iv_exp (by decide) (by decide)) (fun _ => IvP.bind ge he (fun _ => IvP.bind (good_exp (by decide)) (iv_exp (by decide) (by decide)) (fun _ => IvP.bind ge he (fun _ => IvP.bind (good_exp (by decide)) (iv_exp (by decide) (by decide)) (fun _ => IvP.ret _)))))
theorem iv_braceC (ge : Good e) (he : IvP e) : IvP (braceC e) := IvP.bind (good_exp (by decide)) (iv_exp (by decide) (by decide)) (fun _ => IvP.bind ge he (fun _ => IvP.bind (good_exp (by decide)) (iv_exp (by decide) (by decide)) (fun _ => IvP.ret _)))
theorem iv_ifC (ge : Good e) (gb : Good b) (he : IvP e) (hb : IvP b) : IvP (ifC e b) := IvP.bind (good_exp (by decide)) (iv_exp (by decide) (by decide)) (fun _ => IvP.bind ge he (fun _ => IvP.bind gb hb (fun _ => IvP.bind (good_exp (by decide)) (iv_exp (by decide) (by decide)) (fun _ => IvP.bind gb hb (fun _ => IvP.ret _)))))
theorem iv_letC (ge : Good e) (gb : Good b) (he : IvP e) (hb : IvP b) : IvP (letC e b) := IvP.bind (good_exp (by decide)) (iv_exp (by decide) (by decide)) (fun _ => IvP.bind good_name iv_name (fun _ => IvP.bind (good_exp (by decide)) (iv_exp (by decide) (by decide)) (fun _ => IvP.bind ge he (fun _ => IvP.bind gb hb (fun _ => IvP.ret _)))))
theorem iv_namedC (ge : Good e) (gr : ∀ a, Good (r a)) (he : IvP e) (hr : ∀ a, IvP (r a)) : IvP (namedC e r) := IvP.bind good_name iv_name (fun _ => IvP.rd (eqF_nil (by decide)) (eqF_proc (by decide)) (fun _ _ => IvP.rd (eqF_nil (by decide)) (eqF_proc (by decide)) (fun _ _ => IvP.ret _) (fun _ _ => IvP.bind ge he (fun _ => IvP.bind (gr _) (hr _) (fun _ => IvP.bind (good_exp (by decide)) (iv_exp (by decide) (by decide)) (fun _ => IvP.ret _))))) (fun _ _ => IvP.ret _))
theorem iv_moreC (ge : Good e) (he : IvP e) (hr : ∀ a, IvP (r a)) (acc : List Nd) : IvP (moreC e r acc) := IvP.rd (eqF_nil (by decide)) (eqF_proc (by decide)) (fun _ _ => IvP.bind ge he (fun _ => hr _)) (fun _ _ => IvP.ret _)
theorem iv_climbC (lv : Int) (x : Nd) {e : Int → Pr Nd} {r : Nd → Pr Nd} (ge : ∀ l, Good (e l)) (he : ∀ l, IvP (e l)) (hr : ∀ y, IvP (r y)) : IvP (climbC lv x e r) := by
 refine IvP.rd (by rw [bin_nil0]) (fun _ => by rw [show binOf [112, 114, 111, 99] = none from by decide]) (fun _ t => ?_) (fun _ _ => IvP.ret _)
 cases binOf t with
 | none => exact IvP.ret _
 | some op => exact IvP.bind (ge _) (he _) (fun y => hr _)
theorem iv_primC (ge : Good e) (gp : Good p) (g1 : Good a1) (g2 : Good a2) (he : IvP e) (hp : IvP p) (hi : IvP i) (hl : IvP l) (hd : IvP d) (h1 : IvP a1) (h2 : IvP a2) : IvP (primC e p i l d a1 a2) :=
 IvP.rd (eqF_nil (by decide)) (eqF_proc (by decide)) (fun _ _ => IvP.bind (good_exp (by decide)) (iv_exp (by decide) (by decide)) (fun _ => IvP.ret _)) (fun _ _ =>
 IvP.rd (eqF_nil (by decide)) (eqF_proc (by decide)) (fun _ _ => IvP.bind g2 h2 (fun _ => IvP.ret _)) (fun _ _ =>
 IvP.rd (eqF_nil (by decide)) (eqF_proc (by decide)) (fun _ _ => IvP.bind g1 h1 (fun _ => IvP.ret _)) (fun _ _ =>
 IvP.rd (eqF_nil (by decide)) (eqF_proc (by decide)) (fun _ _ => IvP.bind g1 h1 (fun _ => IvP.ret _)) (fun _ _ =>
 IvP.rd (eqF_nil (by decide)) (eqF_proc (by decide)) (fun _ _ => IvP.bind gp hp (fun _ => IvP.ret _)) (fun _ _ =>
 IvP.te hi (IvP.te hl (IvP.rd (eqF_nil (by decide)) (eqF_proc (by decide)) (fun _ _ => IvP.bind ge he (fun _ => IvP.bind (good_exp (by decide)) (iv_exp (by decide) (by decide)) (fun _ => IvP.ret _))) (fun _ _ => iv_fnumZ hd))))))))
end
structure IvF (k : Nat) : Prop where
 e : ∀ lv, IvP (fun ts n σ => exprF ts n k lv σ)
 c : ∀ lv x, IvP (fun ts n σ => climbF ts n k lv x σ)
 p : IvP (fun ts n σ => primF ts n k σ)
 i : IvP (fun ts n σ => ifF ts n k σ)
 l : IvP (fun ts n σ => letF ts n k σ)
 d : IvP (fun ts n σ => namedF ts n k σ)
 a1 : IvP (fun ts n σ => args1F ts n k σ)
 a2 : IvP (fun ts n σ => args2F ts n k σ)
 b : IvP (fun ts n σ => braceF ts n k σ)
 m : ∀ acc, IvP (fun ts n σ => moreF ts n k acc σ)
theorem iv_F (k : Nat) : IvF k := by
 induction k with
 | zero =>
  exact ⟨fun lv => IvP.congr (fun ts n σ => by rw [exprF]; rfl) (IvP.ret (Nd.mk 0 0 [] [])), fun lv x => IvP.congr (fun ts n σ => by rw [climbF]; rfl) (IvP.ret x), IvP.congr (fun ts n σ => by rw [primF]; rfl) (IvP.ret (Nd.mk 0 0 [] [])),
   IvP.congr (fun ts n σ => by rw [ifF]; rfl) (IvP.ret (Nd.mk 0 0 [] [])), IvP.congr (fun ts n σ => by rw [letF]; rfl) (IvP.ret (Nd.mk 0 0 [] [])), IvP.congr (fun ts n σ => by rw [namedF]; rfl) (IvP.ret (Nd.mk 0 0 [] [])), IvP.congr (fun ts n σ => by rw [args1F]; rfl) (IvP.ret []),
   IvP.congr (fun ts n σ => by rw [args2F]; rfl) (IvP.ret []), IvP.congr (fun ts n σ => by rw [braceF]; rfl) (IvP.ret (Nd.mk 0 0 [] [])), fun acc => IvP.congr (fun ts n σ => by rw [moreF]; rfl) (IvP.ret acc)⟩
 | succ k ih =>
  have g := good_F k
  exact ⟨fun lv => IvP.congr (exprF_at k lv) (IvP.bind g.p ih.p (fun x => ih.c lv x)), fun lv x => IvP.congr (climbF_at k lv x) (iv_climbC lv x g.e ih.e (fun y => ih.c lv y)), IvP.congr (primF_at k) (iv_primC (g.e 1) g.p g.a1 g.a2 (ih.e 1) ih.p ih.i ih.l ih.d ih.a1 ih.a2),
   IvP.congr (ifF_at k) (iv_ifC (g.e 1) g.b (ih.e 1) ih.b), IvP.congr (letF_at k) (iv_letC (g.e 1) g.b (ih.e 1) ih.b), IvP.congr (namedF_at k) (iv_namedC (g.e 1) g.m (ih.e 1) ih.m), IvP.congr (args1F_at k) (iv_args1C (g.e 1) (ih.e 1)), IvP.congr (args2F_at k) (iv_args2C (g.e 1) (ih.e 1)),
   IvP.congr (braceF_at k) (iv_braceC (g.e 1) (ih.e 1)), fun acc => IvP.congr (moreF_at k acc) (iv_moreC (g.e 1) (ih.e 1) ih.m acc)⟩
theorem iv_list : IvP (fun ts n σ => listP ts n σ) := IvP.congr listP_at (IvP.rd (eqF_nil (by decide)) (eqF_proc (by decide)) (fun _ _ => IvP.ret _) (fun _ _ => IvP.bind (good_exp (by decide)) (iv_exp (by decide) (by decide)) (fun _ => IvP.ret _)))
theorem iv_fparam : IvP (fun ts n σ => fparamP ts n σ) := IvP.congr (q := bindP (fun ts n σ => listP ts n σ) (fun l => bindP (fun ts n σ => nameP ts n σ) (fun m => retP (⟨m, l⟩ : FP)))) (fun ts n σ => rfl) (IvP.bind good_list iv_list (fun _ => IvP.bind good_name iv_name (fun _ => IvP.ret _)))
theorem iv_fparams (k : Nat) : ∀ acc, IvP (fun ts n σ => fparamsP ts n k acc σ) := by
 induction k with
 | zero => intro acc; exact IvP.congr (fun ts n σ => by rw [fparamsP]; rfl) (IvP.ret acc)
 | succ k ih => intro acc; exact IvP.congr (fparams_at k acc) (IvP.bind good_fparam iv_fparam (fun p => IvP.rd (eqF_nil (by decide)) (eqF_proc (by decide)) (fun _ _ => ih _) (fun _ _ => IvP.ret _)))
theorem iv_paramsC (k : Nat) : IvP (paramsC k) := IvP.rd (eqF_nil (by decide)) (eqF_proc (by decide)) (fun _ _ => IvP.ret _) (fun _ _ => IvP.bind (good_fparams k []) (iv_fparams k []) (fun _ => IvP.bind (good_exp (by decide)) (iv_exp (by decide) (by decide)) (fun _ => IvP.ret _)))
def restC (k : Nat) : Pr FD := bindP (fun ts n σ => nameP ts n σ) (fun m => bindP (expP [40]) (fun _ => bindP (paramsC k) (fun q => bindP (fun ts n σ => listP ts n σ) (fun l => bindP (expP [123]) (fun _ => bindP (fun ts n σ => exprF ts n (k - 1) 1 σ) (fun x => retP (⟨m, q, l, x⟩ : FD)))))))
theorem good_restC (k : Nat) : Good (restC k) := Good.bind good_name (fun _ => Good.bind (good_exp (by decide)) (fun _ => Good.bind (good_paramsC k) (fun _ => Good.bind good_list (fun _ => Good.bind (good_exp (by decide)) (fun _ => Good.bind ((good_F (k - 1)).e 1) (fun _ => Good.ret _))))))
theorem iv_restC (k : Nat) : IvP (restC k) := IvP.bind good_name iv_name (fun _ => IvP.bind (good_exp (by decide)) (iv_exp (by decide) (by decide)) (fun _ => IvP.bind (good_paramsC k) (iv_paramsC k) (fun _ => IvP.bind good_list iv_list (fun _ => IvP.bind (good_exp (by decide)) (iv_exp (by decide) (by decide)) (fun _ => IvP.bind ((good_F (k - 1)).e 1) ((iv_F (k - 1)).e 1) (fun _ => IvP.ret _))))))
def endC : FD → Pr FD := fun f => bindP (expP [125]) (fun _ => retP f)
theorem function_parts (k : Nat) (ts : List Tok) (n : Int) (σ : PS) : functionP ts n (k + 1) σ = bindP (expP [112, 114, 111, 99]) (fun _ => bindP (restC (k + 1)) endC) ts n σ := by
 rw [functionP_at]; have hb : ∀ τ, braceF ts n (k + 1) τ = braceC (fun ts n σ => exprF ts n k 1 σ) ts n τ := braceF_at k ts n
 unfold functionC headC restC endC bindP
 dsimp only; rw [hb]
 rfl
theorem iv_endC (f : FD) : IvP (endC f) := IvP.bind (good_exp (by decide)) (iv_exp (by decide) (by decide)) (fun _ => IvP.ret _)
def OffOk (n : Int) (σ : PS) : Prop := 0 ≤ σ.off ∧ σ.off ≤ n
def TokIn (n : Int) (ts : List Tok) : Prop := ∀ t ∈ ts, 0 ≤ t.pos ∧ t.pos ≤ n
theorem fail_offI {n : Int} {σ : PS} {o e : Int} (h : OffOk n σ) (ho : 0 ≤ o ∧ o ≤ n) : OffOk n (failP σ o e) := by
 unfold failP
 split
 · exact ho
 · exact h
theorem unexp_offI {ts : List Tok} {n : Int} {σ : PS} (hn : 0 ≤ n) (hT : TokIn n ts) (h : OffOk n σ) : OffOk n (unexpP ts n σ) := by
 unfold unexpP
 split
 · rename_i hl
   refine fail_offI h (hT _ ?_); rw [List.getD_eq_getElem?_getD, List.getElem?_eq_getElem hl]
   exact List.getElem_mem hl
 · exact fail_offI h ⟨hn, Int.le_refl _⟩
theorem inv_off {ts : List Tok} {n : Int} (hn : 0 ≤ n) (hT : TokIn n ts) : Inv36 ts n (fun σ τ => OffOk n σ → OffOk n τ) where
 refl := fun σ h => h
 trans := fun a b c h1 h2 h => h2 (h1 h)
 next := fun σ _ _ h => h
 unexp := fun σ _ h => unexp_offI hn hT h
 full := fun σ hin h => fail_offI h (hT _ (peek_memI hin))
theorem function_off {ts : List Tok} {n : Int} (hn : 0 ≤ n) (hT : TokIn n ts) (hd : DigitKinds ts) (k : Nat) {σ : PS} (hw : σ.at_ ≤ ts.length) (h : OffOk n σ) : OffOk n (functionP ts n k σ).2 := by
 rw [functionP_at]; have I := inv_off hn hT
 have h1 : OffOk n (expP [112, 114, 111, 99] ts n σ).2 := by
  rw [← exp_at]
  unfold expectP
  split
  · exact h
  · exact unexp_offI hn hT h
 have hw1 : (expP [112, 114, 111, 99] ts n σ).2.at_ ≤ ts.length := ((good_exp (t := [112, 114, 111, 99]) (by decide)).le ts n σ hw).wf
 exact IvP.bind good_name iv_name (fun m => IvP.bind (good_exp (by decide)) (iv_exp (by decide) (by decide)) (fun _ => IvP.bind (good_paramsC k) (iv_paramsC k) (fun q => IvP.bind good_list iv_list (fun l => IvP.bind (good_F k).b (iv_F k).b (fun x => IvP.ret (⟨m, q, l, x⟩ : FD)))))) ts n _ I hd _ hw1 h1
theorem lib_off {ts : List Tok} {n : Int} (hn : 0 ≤ n) (hT : TokIn n ts) (hd : DigitKinds ts) (k : Nat) : ∀ (acc : List FD) (at_ : List Int) (σ : PS), σ.at_ ≤ ts.length → OffOk n σ → (∀ x ∈ at_, 0 ≤ x ∧ x ≤ n) → OffOk n (libP ts n k acc at_ σ).2 ∧ ∀ x ∈ (libP ts n k acc at_ σ).1.2, 0 ≤ x ∧ x ≤ n := by
 induction k with
 | zero => intro acc at_ σ hw h ha; exact ⟨h, ha⟩
 | succ k ih =>
  intro acc at_ σ hw h ha; rw [libP]
  split
  · rename_i hc
    refine ih _ _ _ ((good_function k).le ts n σ hw).wf (function_off hn hT hd k hw h) (fun x hx => ?_)
    rcases List.mem_append.1 hx with hx | hx
    · exact ha x hx
    · obtain rfl := List.mem_singleton.1 hx
      refine hT _ ?_; rw [List.getD_eq_getElem?_getD, List.getElem?_eq_getElem hc.2]
      exact List.getElem_mem hc.2
  · exact ⟨h, ha⟩
end Bk
namespace Bk
open Go
theorem findF_app {p r : List FD} {s : List UInt8} : findF p s = none ∨ findF p s = findF (p ++ r) s := by
 unfold findF
 rw [List.findIdx?_append]
 cases h : p.findIdx? (fun f => decide (f.name = s)) with
 | none => exact Or.inl rfl
 | some i => exact Or.inr rfl
theorem findF_ltC {p : List FD} {s : List UInt8} {i : Nat} (h : findF p s = some i) : i < p.length := by
 obtain ⟨h1, -, -⟩ := List.findIdx?_eq_some_iff_getElem.1 h
 exact h1
theorem reach_app {p r : List FD} {v : Vis} {k : Int} {s : List UInt8} {c : Nat} : reachF p v k s c = 6 ∨ reachF p v k s c = reachF (p ++ r) v k s c := by
 unfold reachF
 by_cases h1 : k = 81
 · rw [if_pos h1, if_pos h1]; exact Or.inr rfl
 by_cases h4 : k = 84
 · rw [if_neg h1, if_neg h1, if_pos h4, if_pos h4]; exact Or.inr rfl
 by_cases h5 : k = 85
 · rw [if_neg h1, if_neg h1, if_neg h4, if_neg h4, if_pos h5, if_pos h5]
   rcases findF_app (p := p) (r := r) (s := s) with h | h
   · rw [h]; exact Or.inl rfl
   · rw [← h]
     cases hf : findF p s with
     | none => exact Or.inl rfl
     | some i =>
      have := findF_ltC hf
      right
      simp only; rw [List.getElem?_append_left this]
 · rw [if_neg h1, if_neg h1, if_neg h4, if_neg h4, if_neg h5, if_neg h5]; exact Or.inr rfl
theorem type_app {p r : List FD} {v : Vis} {k : Int} {s : List UInt8} {c : Nat} (h : reachF p v k s c = 0) (ty : List Bool) : typeF p k s ty = typeF (p ++ r) k s ty := by
 unfold typeF
 by_cases h5 : k = 85
 · have hb : (findF p s).bind (p[·]?) = (findF (p ++ r) s).bind ((p ++ r)[·]?) := by
    subst h5
    unfold reachF at h
    rw [if_neg (by decide), if_neg (by decide), if_pos rfl] at h
    cases hf : findF p s with
    | none => rw [hf] at h; cases h
    | some i =>
     rcases findF_app (p := p) (r := r) (s := s) with h' | h'
     · rw [hf] at h'; cases h'
     · rw [← h', hf]
       simp only [Option.bind_some]; rw [List.getElem?_append_left (findF_ltC hf)]
   rw [hb]
 · rw [if_neg h5, if_neg h5]
mutual
theorem chk_app {p r : List FD} : ∀ (t : Nd) (v : Vis), (t.chk p v).2 = 6 ∨ t.chk p v = t.chk (p ++ r) v
 | .mk k n s l, v => by
  rw [Nd.chk, Nd.chk]
  rcases reach_app (p := p) (r := r) (v := v) (k := k) (s := s) (c := l.length) with h | h
  · left; rw [h, if_pos (by decide)]
  · by_cases hz : reachF p v k s l.length = 0
    · have hz2 : reachF (p ++ r) v k s l.length = 0 := by rw [← h]; exact hz
      rw [if_neg (show ¬ reachF p v k s l.length ≠ 0 from not_not_intro hz), if_neg (show ¬ reachF (p ++ r) v k s l.length ≠ 0 from not_not_intro hz2)]
      rcases row_appV (p := p) (r := r) l v k s [] with h2 | h2
      · left; rw [if_pos (show (rowChk p v k s [] l).2 ≠ 0 by rw [h2]; decide)]; exact h2
      · right; rw [← h2, type_app (r := r) hz]
    · right
      rw [if_pos hz, if_pos (by rw [← h]; exact hz), h]
theorem row_appV {p r : List FD} : ∀ (l : List Nd) (v : Vis) (k : Int) (s : List UInt8) (acc : List Bool), (rowChk p v k s acc l).2 = 6 ∨ rowChk p v k s acc l = rowChk (p ++ r) v k s acc l
 | [], _, _, _, _ => Or.inr rfl
 | t :: q, v, k, s, acc => by
  rw [rowChk, rowChk]
  rcases chk_app (p := p) (r := r) t (if k = 84 ∧ acc.length = 1 then (s, acc.getD 0 false) :: v else v) with h | h
  · left; rw [if_pos (show (t.chk p (if k = 84 ∧ acc.length = 1 then (s, acc.getD 0 false) :: v else v)).2 ≠ 0 by rw [h]; decide)]; exact h
  · rw [← h]
    by_cases hz : (t.chk p (if k = 84 ∧ acc.length = 1 then (s, acc.getD 0 false) :: v else v)).2 ≠ 0
    · rw [if_pos hz, if_pos hz]; exact Or.inr rfl
    · rw [if_neg hz, if_neg hz]
      exact row_appV q v k s _
end
theorem fnErr_app {p r : List FD} {i : Nat} {f : FD} (hf : f ∈ p) (h : fnErr (p ++ r) i f = 0) : fnErr p i f = 0 ∨ fnErr p i f = 6 := by
 have hfind : findF p f.name = findF (p ++ r) f.name := by
  rcases findF_app (p := p) (r := r) (s := f.name) with h | h
  · exfalso
    unfold findF at h
    rw [List.findIdx?_eq_none_iff] at h; have := h f hf
    simp at this
  · exact h
 unfold fnErr at *
 rw [hfind]
 by_cases c1 : 30 ≤ i
 · rw [if_pos c1] at h; cases h
 rw [if_neg c1] at h ⊢
 by_cases c2 : (!funName f.name) = true
 · rw [if_pos c2] at h; cases h
 rw [if_neg c2] at h ⊢
 by_cases c3 : (findF (p ++ r) f.name).getD i < i
 · rw [if_pos c3] at h; cases h
 rw [if_neg c3] at h ⊢
 by_cases c4 : paramErr f.params ≠ 0
 · rw [if_pos c4] at h; exact absurd h c4
 rw [if_neg c4] at h ⊢
 by_cases c5 : (!f.body.formed) = true
 · rw [if_pos c5] at h; cases h
 rw [if_neg c5] at h ⊢
 by_cases c6 : 80 < f.body.depth
 · rw [if_pos c6] at h; cases h
 rw [if_neg c6] at h ⊢
 by_cases c7 : 2000 < f.body.size
 · rw [if_pos c7] at h; cases h
 rw [if_neg c7] at h ⊢
 rcases chk_app (p := p) (r := r) f.body (f.params.map fun p => (p.name, p.list)) with h2 | h2
 · right; rw [h2, if_pos (by decide)]
 · left; rw [h2]; exact h
theorem libErrFrom_app {p r : List FD} : ∀ (q q' : List FD) (j : Nat), (∀ f ∈ q, f ∈ p) → libErrFrom (p ++ r) j (q ++ q') = none → libErrFrom p j q = none ∨ ∃ i, libErrFrom p j q = some (i, 6)
 | [], _, _, _, _ => Or.inl rfl
 | f :: q, q', j, hm, h => by
  rw [List.cons_append, libErrFrom] at h; rw [libErrFrom]
  split at h
  · cases h
  · rename_i hz
    rcases fnErr_app (hm f (by simp)) (Decidable.not_not.1 hz) with h1 | h1
    · rw [if_neg (by rw [h1]; decide)]
      exact libErrFrom_app q q' (j + 1) (fun g hg => hm g (by simp [hg])) h
    · rw [if_pos (by rw [h1]; decide), h1]
      exact Or.inr ⟨_, rfl⟩
theorem libErr_app {p r : List FD} (h : libErr (p ++ r) = none) : libErr p = none ∨ ∃ i, libErr p = some (i, 6) := libErrFrom_app p r 0 (fun _ h => h) h
def procFree (ts : List Tok) (a b : Nat) : Prop := ∀ j, a ≤ j → j < b → (ts.getD j Tok.zero).text ≠ [112, 114, 111, 99]
theorem inv_free (ts : List Tok) (n : Int) : Inv36 ts n (fun σ τ => τ.err = 0 → σ.err = 0 ∧ procFree ts σ.at_ τ.at_) where
 refl := fun σ h => ⟨h, fun j h1 h2 => by omega⟩
 trans := fun a b c h1 h2 h => by
  obtain ⟨e1, f1⟩ := h2 h; obtain ⟨e2, f2⟩ := h1 e1
  exact ⟨e2, fun j h3 h4 => if h5 : j < b.at_ then f2 j h3 h5 else f1 j (by omega) h4⟩
 next := fun σ hin hne h => by
  refine ⟨h, fun j h1 h2 => ?_⟩
  have : j = σ.at_ := by simp only [nextP] at h2; omega
  subst this
  have e : peekP ts σ = ts.getD σ.at_ Tok.zero := by unfold peekP; rw [if_neg (by rintro (h | h); exact h hin.1; omega)]
  rw [← e]; exact hne
 unexp := fun σ hw h => absurd h unexp_err
 full := fun σ hin h => absurd h (fail_err (by decide))
theorem expP_state (t : List UInt8) (ts : List Tok) (n : Int) (σ : PS) : (expP t ts n σ).2 = expectP ts n σ t := (exp_at t ts n σ).symm
theorem expect_ok {ts : List Tok} {n : Int} {σ : PS} {t : List UInt8} (h : (expectP ts n σ t).err = 0) : hasP ts σ t = true ∧ expectP ts n σ t = nextP σ ∧ σ.err = 0 := by
 unfold expectP at *
 split at h
 · rename_i hh; rw [if_pos hh]; exact ⟨hh, rfl, h⟩
 · exact absurd h unexp_err
theorem getD_same {ts us : List Tok} {c j : Nat} (h : ts.take c = us.take c) (hj : j < c) : ts.getD j Tok.zero = us.getD j Tok.zero := getD_take h hj
section
variable {ts : List Tok} {n m : Int} {i : Nat}
theorem function_ok (hd : DigitKinds ts) (k : Nat) {σ : PS} (hw : σ.at_ ≤ ts.length) (he : (functionP ts n (k + 1) σ).2.err = 0) :
 hasP ts σ [112, 114, 111, 99] = true ∧ σ.err = 0 ∧ (functionP ts n (k + 1) σ).2 = nextP (restC (k + 1) ts n (nextP σ)).2 ∧ (restC (k + 1) ts n (nextP σ)).2.err = 0 ∧ hasP ts (restC (k + 1) ts n (nextP σ)).2 [125] = true ∧
 procFree ts (σ.at_ + 1) (functionP ts n (k + 1) σ).2.at_ ∧ (functionP ts n (k + 1) σ).1 = (restC (k + 1) ts n (nextP σ)).1 := by
 rw [function_parts] at *
 have e0 : bindP (expP [112, 114, 111, 99]) (fun _ => bindP (restC (k + 1)) endC) ts n σ = bindP (restC (k + 1)) endC ts n (expectP ts n σ [112, 114, 111, 99]) := by
  rw [exp_at]; rfl
 rw [e0] at he ⊢
 have hw1 : (expectP ts n σ [112, 114, 111, 99]).at_ ≤ ts.length := by rw [exp_at]; exact ((good_exp (t := [112, 114, 111, 99]) (by decide)).le ts n σ hw).wf
 have hfree := IvP.bind (good_restC (k + 1)) (iv_restC (k + 1)) iv_endC ts n _ (inv_free ts n) hd _ hw1 he; obtain ⟨h1, h2, h3⟩ := expect_ok hfree.1; rw [h2] at he hfree ⊢
 have e1 : (bindP (restC (k + 1)) endC ts n (nextP σ)).2 = expectP ts n (restC (k + 1) ts n (nextP σ)).2 [125] := by
  rw [exp_at]; rfl
 have e2 : (bindP (restC (k + 1)) endC ts n (nextP σ)).1 = (restC (k + 1) ts n (nextP σ)).1 := rfl; rw [e1] at he hfree ⊢; obtain ⟨g1, g2, g3⟩ := expect_ok he
 exact ⟨h1, h3, g2, g3, g1, hfree.2, e2⟩
theorem peek_same {us : List Tok} (h : ts.take i = us.take i) (h1 : i ≤ ts.length) (h2 : i ≤ us.length) {σ : PS} (he : σ.err = 0) (hl : σ.at_ < i) : peekP ts σ = peekP us σ := by
 unfold peekP
 rw [if_neg (by rintro (h | h); exact h he; omega), if_neg (by rintro (h | h); exact h he; omega), getD_same h hl]
theorem function_cut (hd : DigitKinds ts) (hi : i ≤ ts.length) (k : Nat) {σ : PS} (hw : σ.at_ < i) (he : (functionP ts n (k + 1) σ).2.err = 0) :
 ((functionP ts n (k + 1) σ).2.at_ ≤ i → functionP (ts.take i) m (k + 1) σ = functionP ts n (k + 1) σ) ∧
 (i < (functionP ts n (k + 1) σ).2.at_ → (functionP (ts.take i) m (k + 1) σ).2.err = 4 ∧ (functionP (ts.take i) m (k + 1) σ).2.off = m) := by
 have hus : (ts.take i).length = i := by simp only [List.length_take]; omega
 have htk : ts.take i = (ts.take i).take i := by rw [List.take_take, Nat.min_self]
 obtain ⟨h1, h2, h3, h4, h5, -, h6⟩ := function_ok hd k (by omega) he; have S := sim_cut (ts := ts) (us := ts.take i) n m (c := i) htk hi (by omega); have hp := peek_same htk hi (by omega) h2 hw
 have e1 : functionP (ts.take i) m (k + 1) σ = bindP (restC (k + 1)) endC (ts.take i) m (nextP σ) := by
  rw [function_parts]
  have : (expP [112, 114, 111, 99] (ts.take i) m σ).2 = nextP σ := by
   rw [expP_state]
   unfold expectP
   have : hasP (ts.take i) σ [112, 114, 111, 99] = true := by unfold hasP at *; rw [← hp]; exact h1
   rw [if_pos this]
  show bindP (restC (k + 1)) endC (ts.take i) m (expP [112, 114, 111, 99] (ts.take i) m σ).2 = _
  rw [this]
 have e2 : (bindP (restC (k + 1)) endC (ts.take i) m (nextP σ)).2 = expectP (ts.take i) m (restC (k + 1) (ts.take i) m (nextP σ)).2 [125] := by rw [exp_at]; rfl
 have e3 : (bindP (restC (k + 1)) endC (ts.take i) m (nextP σ)).1 = (restC (k + 1) (ts.take i) m (nextP σ)).1 := rfl; have hsim := (good_restC (k + 1)).sim ts (ts.take i) n m i _ S (nextP σ) (nextP σ) ⟨rfl, by show σ.at_ + 1 ≤ _; omega, by show σ.at_ + 1 ≤ _; omega⟩
 have hb : (functionP ts n (k + 1) σ).2.at_ = (restC (k + 1) ts n (nextP σ)).2.at_ + 1 := by rw [h3]; rfl
 refine ⟨fun hle => ?_, fun hlt => ?_⟩
 · rcases hsim with ⟨q1, q2, q3, q4⟩ | D
   · have hp2 := peek_same htk hi (by omega) h4 (by omega)
     have : expectP (ts.take i) m (restC (k + 1) (ts.take i) m (nextP σ)).2 [125] = nextP (restC (k + 1) ts n (nextP σ)).2 := by
      rw [← q2]
      unfold expectP
      have : hasP (ts.take i) (restC (k + 1) ts n (nextP σ)).2 [125] = true := by unfold hasP at *; rw [← hp2]; exact h5
      rw [if_pos this]
     refine Prod.ext ?_ ?_
     · rw [e1, e3, ← q1, h6]
     · rw [e1, e2, this, h3]
   · have := D.a; omega
 · rw [e1, e2]
   have hfin : ∀ τ : PS, τ.at_ = (ts.take i).length → (expectP (ts.take i) m τ [125]) = unexpP (ts.take i) m τ := fun τ ht => by
    unfold expectP hasP
    rw [peek_end ht, if_neg (by decide)]
   rcases hsim with ⟨q1, q2, q3, q4⟩ | D
   · rw [← q2]
     have ha : (restC (k + 1) ts n (nextP σ)).2.at_ = i := by
      have := q4
      omega
     rw [hfin _ (by omega), unexp_end (by omega)]
     unfold failP
     rw [if_pos h4]
     exact ⟨rfl, rfl⟩
   · have hv := D.v
     have hb2 := D.b; rw [hfin _ (by omega)]
     exact D.un hus
theorem libP_go {ts : List Tok} {n : Int} (k : Nat) (acc : List FD) (at_ : List Int) (σ : PS) (hc : σ.err = 0 ∧ σ.at_ < ts.length) : libP ts n (k + 1) acc at_ σ = libP ts n k (acc ++ [(functionP ts n k σ).1]) (at_ ++ [(ts.getD σ.at_ Tok.zero).pos]) (functionP ts n k σ).2 := by rw [libP, if_pos hc]
theorem libP_stop {ts : List Tok} {n : Int} (k : Nat) (acc : List FD) (at_ : List Int) (σ : PS) (hc : ¬ (σ.err = 0 ∧ σ.at_ < ts.length)) : libP ts n (k + 1) acc at_ σ = ((acc, at_), σ) := by rw [libP, if_neg hc]
theorem lib_prefix (k : Nat) : ∀ (acc : List FD) (at_ : List Int) (σ : PS), ∃ r, (libP ts n k acc at_ σ).1.1 = acc ++ r := by
 induction k with
 | zero => intro acc at_ σ; exact ⟨[], by simp [libP]⟩
 | succ k ih =>
  intro acc at_ σ; rw [libP]
  split
  · obtain ⟨r, h⟩ := ih (acc ++ [(functionP ts n k σ).1]) (at_ ++ [(ts.getD σ.at_ Tok.zero).pos]) (functionP ts n k σ).2
    exact ⟨(functionP ts n k σ).1 :: r, by rw [h, List.append_assoc]; rfl⟩
  · exact ⟨[], by simp⟩
theorem lib_cut (hd : DigitKinds ts) (hi : i < ts.length) (k : Nat) : ∀ (acc : List FD) (at_ : List Int) (σ : PS), σ.err = 0 → σ.at_ ≤ i → 4 * mS ts σ + 6 ≤ k → (libP ts n k acc at_ σ).2.err = 0 →
 ((libP (ts.take i) m k acc at_ σ).2.err = 0 ∧ (ts.getD i Tok.zero).text = [112, 114, 111, 99] ∧ ∃ r, (libP ts n k acc at_ σ).1.1 = (libP (ts.take i) m k acc at_ σ).1.1 ++ r) ∨
 ((libP (ts.take i) m k acc at_ σ).2.err = 4 ∧ (libP (ts.take i) m k acc at_ σ).2.off = m ∧ (ts.getD i Tok.zero).text ≠ [112, 114, 111, 99]) := by
 have hus : (ts.take i).length = i := by simp only [List.length_take]; omega
 induction k with
 | zero => intro acc at_ σ _ _ h; omega
 | succ k ih =>
  intro acc at_ σ he hai hk hok; have hpre := lib_prefix (ts := ts) (n := n) (k + 1) acc at_ σ
  by_cases hlt : σ.at_ < i
  · have hc : σ.err = 0 ∧ σ.at_ < ts.length := ⟨he, by omega⟩
    have hc2 : σ.err = 0 ∧ σ.at_ < (ts.take i).length := ⟨he, by omega⟩; have u1 := libP_go (n := n) k acc at_ σ hc; have u2 := libP_go (ts := ts.take i) (n := m) k acc at_ σ hc2; rw [u1] at hok ⊢; rw [u2]; have hp := mS_pos hc; obtain ⟨k, rfl⟩ : ∃ j, k = j + 1 := ⟨k - 1, by omega⟩
    have hf0 : (functionP ts n (k + 1) σ).2.err = 0 := by
     have l1 := (good_function (k + 1)).le ts n σ (by omega); have l2 := libP_le (n := n) (k + 1) (acc ++ [(functionP ts n (k + 1) σ).1]) (at_ ++ [(ts.getD σ.at_ Tok.zero).pos]) _ l1.wf
     exact l2.ok hok
    obtain ⟨c1, c2⟩ := function_cut (m := m) hd (by omega) k hlt hf0; have hgd : ts.getD σ.at_ Tok.zero = (ts.take i).getD σ.at_ Tok.zero := getD_same (c := i) (by rw [List.take_take, Nat.min_self]) hlt
    by_cases hle : (functionP ts n (k + 1) σ).2.at_ ≤ i
    · rw [c1 hle, ← hgd]
      have l1 := (good_function (k + 1)).le ts n σ (by omega); have h3 := mS_lt l1 (lt_function (k + 1) ts n σ (by omega))
      exact ih _ _ _ hf0 hle (by omega) hok
    · obtain ⟨d1, d2⟩ := c2 (by omega)
      right
      have hstop : ∀ (a : List FD) (b : List Int), libP (ts.take i) m (k + 1) a b (functionP (ts.take i) m (k + 1) σ).2 = ((a, b), (functionP (ts.take i) m (k + 1) σ).2) := fun a b => by
       exact libP_stop _ _ _ _ (by rw [d1]; rintro ⟨h, -⟩; cases h)
      rw [hstop]; refine ⟨d1, d2, ?_⟩; obtain ⟨-, -, -, -, -, hfree, -⟩ := function_ok hd k (by omega) hf0
      exact hfree i (by omega) (by omega)
  · have hie : σ.at_ = i := by omega
    left
    have hstop : libP (ts.take i) m (k + 1) acc at_ σ = ((acc, at_), σ) := libP_stop _ _ _ _ (by omega); rw [hstop]; refine ⟨he, ?_, hpre⟩; have hc : σ.err = 0 ∧ σ.at_ < ts.length := ⟨he, by omega⟩; rw [libP_go (n := n) k acc at_ σ hc] at hok; have hp := mS_pos hc; obtain ⟨k, rfl⟩ : ∃ j, k = j + 1 := ⟨k - 1, by omega⟩; have l1 := (good_function (k + 1)).le ts n σ (by omega); have l2 := libP_le (n := n) (k + 1) (acc ++ [(functionP ts n (k + 1) σ).1]) (at_ ++ [(ts.getD σ.at_ Tok.zero).pos]) _ l1.wf; obtain ⟨hh, -⟩ := function_ok hd k (by omega) (l2.ok hok)
    have e : peekP ts σ = ts.getD σ.at_ Tok.zero := by unfold peekP; rw [if_neg (by rintro (h | h); exact h he; omega)]
    unfold hasP at hh
    rw [e, hie] at hh
    simpa using hh
end
theorem libErrFrom_neC {lib : List FD} {i : Nat} {e : Int} : ∀ (r : List FD) (j : Nat), libErrFrom lib j r = some (i, e) → e ≠ 0 := by
 intro r
 induction r with
 | nil => intro j h; cases h
 | cons f r ih =>
  intro j h; rw [libErrFrom] at h
  split at h
  · rename_i hne
    simp only [Option.some.injEq, Prod.mk.injEq] at h; obtain ⟨rfl, rfl⟩ := h
    exact hne
  · exact ih _ h
theorem finL_ok {r : (List FD × List Int) × PS} (h : (finL r).2.2 = 0) : r.2.err = 0 ∧ libErr r.1.1 = none ∧ finL r = (r.1.1, 0, 0) := by
 unfold finL at h ⊢
 split at h
 · rename_i hc; exact absurd h hc
 · rename_i hc
   have he := Decidable.not_not.1 hc; rw [if_neg hc]
   cases hv : libErr r.1.1 with
   | none => exact ⟨he, rfl, rfl⟩
   | some q =>
    obtain ⟨i, e⟩ := q; rw [hv] at h
    exact absurd h (libErrFrom_neC _ 0 hv)
theorem parse_cut36 {s : List UInt8} {ts : List Tok} {i q : Nat} (hs : ¬ 65536 < s.length) (h : solidFrom s 0 = (ts, none)) (hi : i < ts.length) (hC : CutAt s 0 ts i q) (hok : (parseLib s).2.2 = 0) :
 ((ts.getD i Tok.zero).text ≠ [112, 114, 111, 99] → parseLib (s.take q) = ([], (q : Int), 4)) ∧ ((ts.getD i Tok.zero).text = [112, 114, 111, 99] → (parseLib (s.take q)).2.2 = 0 ∨ (parseLib (s.take q)).2.2 = 6) := by
 have hlen := hC.len
 have hql : (s.take q).length = q := by simp only [List.length_take]; omega
 have hus : (ts.take i).length = i := by simp only [List.length_take]; omega
 have hd := digitKinds_start s; rw [startOk hs (by rw [h]), h] at hd; simp only at hd; rw [parseLib_at hs h (Nat.le_refl _)] at hok; rw [parseLib_at (by rw [hql]; omega) hC.before (K := 4 * ts.length + 6) (by rw [hus]; omega), hql]; obtain ⟨k1, k2, -⟩ := finL_ok hok
 have hm : mS ts ⟨0, 0, 0⟩ = ts.length := by simp [mS]
 have hc := lib_cut (n := s.length) (m := q) hd hi (4 * ts.length + 6) [] [] ⟨0, 0, 0⟩ rfl (Nat.zero_le _) (by rw [hm]; exact Nat.le_refl _) k1
 generalize libP ts s.length (4 * ts.length + 6) [] [] ⟨0, 0, 0⟩ = A at *
 generalize libP (ts.take i) q (4 * ts.length + 6) [] [] ⟨0, 0, 0⟩ = B at *
 rcases hc with ⟨c1, c2, r, c3⟩ | ⟨c1, c2, c3⟩
 · refine ⟨fun hne => absurd c2 hne, fun _ => ?_⟩
   rw [c3] at k2
   unfold finL
   rw [if_neg (by rw [c1]; decide)]
   rcases libErr_app k2 with hv | ⟨j, hv⟩
   · rw [hv]; exact Or.inl rfl
   · rw [hv]; exact Or.inr rfl
 · refine ⟨fun _ => ?_, fun h => absurd h c3⟩
   unfold finL
   rw [if_pos (by rw [c1]; decide), c1, c2]
end Bk
namespace Bk
open Go
abbrev Txt := List (List UInt8)
inductive Nt where
 | ex (lv : Int) : Nt
 | cl (lv : Int) (x : Nd) : Nt
 | un : Nt
 | pl : Nt
def StopL (lv : Int) (b : Txt) : Prop := ∀ t ∈ b.head?, ∀ op, binOf t = some op → level op < lv
def NoBr (b : Txt) : Prop := ∀ t ∈ b.head?, t ≠ [91]
inductive G : Nt → Txt → Nd → Prop where
 | ex {lv : Int} {a b : Txt} {x y : Nd} : G .un a x → G (.cl lv x) b y → G (.ex lv) (a ++ b) y
 | cl0 {lv : Int} {x : Nd} : G (.cl lv x) [] x
 | cl1 {lv op : Int} {t : List UInt8} {a b : Txt} {x y z : Nd} : binOf t = some op → lv ≤ level op → G (.ex (level op + 1)) a y → StopL (level op + 1) b → G (.cl lv (.mk op 0 [] [x, y])) b z → G (.cl lv x) (t :: (a ++ b)) z
 | neg {a : Txt} {x : Nd} : G .un a x → G .un ([45] :: a) (.mk 6 0 [] [x])
 | not {a : Txt} {x : Nd} : G .un a x → G .un ([33] :: a) (.mk 7 0 [] [x])
 | num {t : List UInt8} : startsDigit t = true → (digitsVal t : Int) ≤ 9223372036854775807 → G .un [t] (.mk 1 (digitsVal t) [] [])
 | top {m : List UInt8} : isName m = true → G .un [[116, 111, 112], [40], m, [41]] (.mk 4 0 m [])
 | size {m : List UInt8} : isName m = true → G .un [[115, 105, 122, 101], [40], m, [41]] (.mk 5 0 m [])
 | par {a : Txt} {x : Nd} : G (.ex 1) a x → G .un ([40] :: (a ++ [[41]])) x
 | place {a : Txt} {x : Nd} : G .pl a x → G .un a x
 | var {m : List UInt8} : isName m = true → G .pl [m] (.mk 2 0 m [])
 | item {m : List UInt8} {a : Txt} {x : Nd} : isName m = true → G (.ex 1) a x → G .pl (m :: [91] :: (a ++ [[93]])) (.mk 3 0 m [x])
section
variable {ts : List Tok} {n : Int}
def txt (ts : List Tok) : Txt := ts.map Tok.text
def adv (σ : PS) (k : Nat) : PS := ⟨σ.at_ + k, σ.off, σ.err⟩
theorem adv_0 (σ : PS) : adv σ 0 = σ := rfl
theorem adv_adv (σ : PS) (a b : Nat) : adv (adv σ a) b = adv σ (a + b) := by simp [adv, Nat.add_assoc]
theorem next_adv (σ : PS) : nextP σ = adv σ 1 := rfl
def rem (ts : List Tok) (σ : PS) : Txt := (txt ts).drop σ.at_
theorem rem_len (σ : PS) : (rem ts σ).length = ts.length - σ.at_ := by simp [rem, txt]
theorem rem_adv {σ : PS} {a b : Txt} (h : rem ts σ = a ++ b) : rem ts (adv σ a.length) = b := by
 unfold rem adv at *
 simp only; rw [← List.drop_drop, h]
 simp
theorem rem_cons {σ : PS} {t : List UInt8} {b : Txt} (h : rem ts σ = t :: b) : rem ts (adv σ 1) = b := rem_adv (a := [t]) h
theorem rem_lt {σ : PS} {t : List UInt8} {b : Txt} (h : rem ts σ = t :: b) : σ.at_ < ts.length := by
 have := rem_len (ts := ts) σ; rw [h] at this
 simp at this
 omega
theorem peek_cons {σ : PS} {t : List UInt8} {b : Txt} (h : rem ts σ = t :: b) (he : σ.err = 0) : (peekP ts σ).text = t := by
 have hl := rem_lt h
 unfold peekP
 rw [if_neg (by rintro (h | h); exact h he; omega)]
 unfold rem txt at h
 rw [List.drop_eq_getElem_cons (by simpa using hl)] at h; simp only [List.getElem_map, List.cons.injEq] at h; rw [List.getD_eq_getElem?_getD, List.getElem?_eq_getElem hl]
 exact h.1
theorem peek_nil {σ : PS} (hw : σ.at_ ≤ ts.length) (h : rem ts σ = []) : (peekP ts σ).text = [] := by
 have := rem_len (ts := ts) σ; rw [h] at this
 rw [peek_end (by simp at this; omega)]; rfl
theorem peek_rem {σ : PS} (hw : σ.at_ ≤ ts.length) (he : σ.err = 0) : (peekP ts σ).text = ((rem ts σ).head?).getD [] := by
 cases h : rem ts σ with
 | nil => rw [peek_nil hw h]; rfl
 | cons t b => rw [peek_cons h he]; rfl
theorem has_cons {σ : PS} {t u : List UInt8} {b : Txt} (h : rem ts σ = t :: b) (he : σ.err = 0) : hasP ts σ u = decide (t = u) := by unfold hasP; rw [peek_cons h he]
theorem peek_mem {σ : PS} (hl : σ.at_ < ts.length) (he : σ.err = 0) : peekP ts σ ∈ ts := by
 unfold peekP
 rw [if_neg (by rintro (h | h); exact h he; omega), List.getD_eq_getElem?_getD, List.getElem?_eq_getElem hl]
 exact List.getElem_mem hl
theorem kind_dig (hd : DigitKinds ts) {σ : PS} {t : List UInt8} {b : Txt} (h : rem ts σ = t :: b) (he : σ.err = 0) : (peekP ts σ).kind = 2 ↔ startsDigit t = true := by
 rw [← peek_cons h he]
 exact hd _ (peek_mem (rem_lt h) he)
theorem expect_cons {σ : PS} {t : List UInt8} {b : Txt} (h : rem ts σ = t :: b) (he : σ.err = 0) : expectP ts n σ t = adv σ 1 := by unfold expectP; rw [has_cons h he]; simp [next_adv]
theorem name_cons {σ : PS} {t : List UInt8} {b : Txt} (h : rem ts σ = t :: b) (he : σ.err = 0) (ht : isName t = true) : nameP ts n σ = (t, adv σ 1) := by unfold nameP; rw [peek_cons h he, if_pos ht]; rfl
end
theorem name_not {m : List UInt8} (h : isName m = true) : m ≠ [45] ∧ m ≠ [33] ∧ m ≠ [40] ∧ m ≠ [116, 111, 112] ∧ m ≠ [115, 105, 122, 101] ∧ startsDigit m = false := by
 refine ⟨?_, ?_, ?_, ?_, ?_, ?_⟩
 · rintro rfl; revert h; decide
 · rintro rfl; revert h; decide
 · rintro rfl; revert h; decide
 · rintro rfl; revert h; decide
 · rintro rfl; revert h; decide
 · cases m with
   | nil => rfl
   | cons c r =>
    have hk : (firstTok (c :: r)).1 = 1 := by
     simp only [isName, Bool.and_eq_true, beq_iff_eq] at h
     exact h.1.1.2
    cases hd : startsDigit (c :: r)
    · rfl
    · exfalso
      have hdg : digit c = true := by simpa [startsDigit] using hd
      have hl : letter c = false := by
       cases hl : letter c
       · rfl
       · simp only [letter, digit, Bool.and_eq_true, decide_eq_true_eq] at hl hdg; omega
      simp [firstTok, hl, hdg] at hk
end Bk
namespace Bk
open Go
inductive Pc where
 | tk (t : List UInt8) : Pc
 | sp (s : List UInt8) : Pc
def flat : List Pc → List UInt8
 | [] => []
 | .tk t :: r => t ++ flat r
 | .sp s :: r => s ++ flat r
def toks : List Pc → Txt
 | [] => []
 | .tk t :: r => t :: toks r
 | .sp _ :: r => toks r
theorem flat_append : ∀ (a b : List Pc), flat (a ++ b) = flat a ++ flat b
 | [], b => rfl
 | .tk t :: r, b => by simp only [List.cons_append, flat, flat_append r b, List.append_assoc]
 | .sp t :: r, b => by simp only [List.cons_append, flat, flat_append r b, List.append_assoc]
theorem toks_append : ∀ (a b : List Pc), toks (a ++ b) = toks a ++ toks b
 | [], b => rfl
 | .tk t :: r, b => by simp only [List.cons_append, toks, toks_append r b]
 | .sp t :: r, b => by simp only [List.cons_append, toks, toks_append r b]
structure TokT (t : List UInt8) : Prop where
 ne : t ≠ []
 len : (firstTok t).2 = t.length
 kind : (firstTok t).1 = 1 ∨ (firstTok t).1 = 2 ∨ (firstTok t).1 = 3
structure Adj (t : List UInt8) (c : UInt8) : Prop where
 word : (firstTok t).1 = 1 → wordish c = false
 num : (firstTok t).1 = 2 → digit c = false
 sign : (firstTok t).1 = 3 → c ≠ 61 ∧ c ≠ 62 ∧ c ≠ 38 ∧ c ≠ 124
theorem adj_sep {t : List UInt8} {c : UInt8} (h : sepC c) : Adj t c := by
 obtain ⟨h1, h2, -, -, h61, h62, h38, h124⟩ := sep_not h
 exact ⟨fun _ => h1, fun _ => h2, fun _ => ⟨h61, h62, h38, h124⟩⟩
theorem signLen_adj {c : UInt8} (h61 : c ≠ 61) (h62 : c ≠ 62) (h38 : c ≠ 38) (h124 : c ≠ 124) (r u : List UInt8) (hr : r ≠ []) : signLen (r ++ c :: u) = signLen r := by
 cases r with
 | nil => exact absurd rfl hr
 | cons x r =>
  cases r with
  | nil =>
   have hp : pairs.contains [x, c] = false := by
    cases hh : pairs.contains [x, c]
    · rfl
    · rcases pairs_second hh with e | e | e
      · exact absurd e h61
      · exact absurd e h38
      · exact absurd e h124
   have hp1 := pairs_one x
   have h3 : List.isPrefixOf [60, 61, 62] ([x] ++ c :: u) = false := by
    simp only [List.cons_append, List.nil_append, List.isPrefixOf]
    have : (61 == c) = false := by simpa using fun e : 61 = c => h61 e.symm
    simp [this]
   have h31 : List.isPrefixOf [60, 61, 62] [x] = false := by simp [List.isPrefixOf]
   unfold signLen
   rw [h3, h31]; simp only [List.cons_append, List.nil_append, List.take_succ_cons, List.take_zero, List.take_nil, hp, hp1]
   rfl
  | cons y r =>
   have h3 : List.isPrefixOf [60, 61, 62] ((x :: y :: r) ++ c :: u) = List.isPrefixOf [60, 61, 62] (x :: y :: r) := by
    cases r with
    | nil =>
     simp only [List.cons_append, List.nil_append, List.isPrefixOf]
     have : (62 == c) = false := by simpa using fun e : 62 = c => h62 e.symm
     simp [this]
    | cons z r => simp [List.isPrefixOf]
   unfold signLen
   rw [h3]
   rfl
theorem firstTok_adj {t : List UInt8} {c : UInt8} (ht : TokT t) (h : Adj t c) (u : List UInt8) : firstTok (t ++ c :: u) = firstTok t := by
 obtain ⟨ne, hl, hk⟩ := ht
 cases t with
 | nil => exact absurd rfl ne
 | cons x r =>
  by_cases h1 : letter x = true
  · have hw := h.word (by simp [firstTok, h1])
    have e := span_sep hw (x :: r) u; simp only [List.cons_append] at e ⊢; simp only [firstTok, h1, if_true, e]
  · have h1' : letter x = false := by simpa using h1
    by_cases h2 : digit x = true
    · have hw := h.num (by simp [firstTok, h1', h2])
      have e := span_sep hw (x :: r) u; simp only [List.cons_append] at e ⊢; simp only [firstTok, h1', h2, if_true, if_false, Bool.false_eq_true, e]
    · have h2' : digit x = false := by simpa using h2
      by_cases h3 : blank x = true
      · exfalso; rw [firstTok_blank h3] at hk; simp at hk
      · have h3' : blank x = false := by simpa using h3
        by_cases h4 : x = 35
        · exfalso; subst h4; rw [firstTok_hash] at hk; simp at hk
        · obtain ⟨a, b, c', d⟩ := h.sign (by simp [firstTok, h1', h2', h3', h4])
          have e := signLen_adj a b c' d (x :: r) u (by simp); simp only [List.cons_append] at e ⊢; simp only [firstTok, h1', h2', h3', h4, if_false, Bool.false_eq_true, e]
def wf : Option (List UInt8) → List Pc → Prop
 | _, [] => True
 | p, .sp s :: r => (∀ c ∈ s, blank c = true) ∧ wf (if s.isEmpty then p else none) r
 | p, .tk t :: r => TokT t ∧ (∀ t0 ∈ p, ∀ c ∈ t.head?, Adj t0 c) ∧ wf (some t) r
def endOf : Option (List UInt8) → List Pc → Option (List UInt8)
 | p, [] => p
 | p, .sp s :: r => endOf (if s.isEmpty then p else none) r
 | _, .tk t :: r => endOf (some t) r
theorem wf_append : ∀ (a b : List Pc) (p : Option (List UInt8)), wf p (a ++ b) ↔ wf p a ∧ wf (endOf p a) b
 | [], b, p => by simp [wf, endOf]
 | .sp s :: r, b, p => by simp only [List.cons_append, wf, endOf, wf_append r b, and_assoc]
 | .tk t :: r, b, p => by simp only [List.cons_append, wf, endOf, wf_append r b, and_assoc]
theorem endOf_append : ∀ (a b : List Pc) (p : Option (List UInt8)), endOf p (a ++ b) = endOf (endOf p a) b
 | [], b, p => rfl
 | .sp s :: r, b, p => by simp only [List.cons_append, endOf, endOf_append r b]
 | .tk t :: r, b, p => by simp only [List.cons_append, endOf, endOf_append r b]
theorem wf_head : ∀ (r : List Pc) (t : List UInt8) (c : UInt8) (u : List UInt8), wf (some t) r → flat r = c :: u → Adj t c
 | [], t, c, u, _, h => by cases h
 | .sp s :: r, t, c, u, hw, h => by
  cases s with
  | nil => exact wf_head r t c u hw.2 h
  | cons d s =>
   simp only [flat, List.cons_append, List.cons.injEq] at h; rw [← h.1]
   exact adj_sep (Or.inl (hw.1 d (by simp)))
 | .tk t' :: r, t, c, u, hw, h => by
  cases t' with
  | nil => exact absurd rfl hw.1.ne
  | cons d s =>
   simp only [flat, List.cons_append, List.cons.injEq] at h; rw [← h.1]
   exact hw.2.1 t rfl d rfl
theorem blanks_step : ∀ (s u : List UInt8), (∀ c ∈ s, blank c = true) → solidFrom (s ++ u) 0 = shR s.length (solidFrom u 0)
 | [], u, _ => (shR_0 _).symm
 | c :: s, u, h => by
  have h1 := blanks_step s u (fun d hd => h d (by simp [hd])); rw [List.cons_append, solidFrom_blank (s := c :: (s ++ u)) (p := 0) (by simp) (h c (by simp))]; have h2 := solidFrom_cons c (s ++ u) 0; rw [Nat.add_comm] at h2
  rw [h2, h1, shR_add]; rfl
theorem pcs_solid : ∀ (L : List Pc) (p : Option (List UInt8)), wf p L → ∃ us, solidFrom (flat L) 0 = (us, none) ∧ txt us = toks L
 | [], p, _ => ⟨[], solidFrom_end (Nat.zero_le _), rfl⟩
 | .sp s :: r, p, h => by
  obtain ⟨us, h1, h2⟩ := pcs_solid r _ h.2; refine ⟨us.map (Tok.sh s.length), ?_, ?_⟩
  · show solidFrom (s ++ flat r) 0 = _
    rw [blanks_step s _ h.1, h1]; rfl
  · simp only [toks, ← h2]
    simp [txt, Tok.sh]
 | .tk t :: r, p, h => by
  obtain ⟨us, h1, h2⟩ := pcs_solid r _ h.2.2
  have hf : firstTok (t ++ flat r) = firstTok t := by
   cases hr : flat r with
   | nil => simp
   | cons c u => exact firstTok_adj h.1 (wf_head r t c u h.2.2 hr) u
  have hd0 : (t ++ flat r).drop 0 = t ++ flat r := rfl; have hl := h.1.len
  have hpos : t.length ≠ 0 := fun e => h.1.ne (List.eq_nil_of_length_eq_zero e)
  have hk4 : (firstTok t).1 ≠ 4 ∧ (firstTok t).1 ≠ 5 := by rcases h.1.kind with e | e | e <;> rw [e] <;> decide
  have hst := solidFrom_tok (s := t ++ flat r) (p := 0) (by simp; omega) (by rw [hd0, hf, hl]; exact hpos) (by rw [hd0, hf]; exact hk4.1) (by rw [hd0, hf]; exact hk4.2); have hsh := solidFrom_shift t (flat r) _ 0 (Nat.le_refl _); rw [Nat.add_zero] at hsh
  have ht : (tokAt (t ++ flat r) 0).text = t := by unfold tokAt; rw [hd0, hf, hl]; simp
  refine ⟨tokAt (t ++ flat r) 0 :: us.map (Tok.sh t.length), ?_, ?_⟩
  · show solidFrom (t ++ flat r) 0 = _
    rw [hst, hd0, hf, hl, Nat.zero_add, hsh, h1]; rfl
  · simp only [toks, ← h2]
    simp [txt, Tok.sh, ht]
theorem tokT_name {m : List UInt8} (h : isName m = true) : TokT m ∧ (firstTok m).1 = 1 := by
 simp only [isName, Bool.and_eq_true, beq_iff_eq, Bool.not_eq_true', decide_eq_true_eq] at h; obtain ⟨⟨⟨⟨h1, h2⟩, h3⟩, h4⟩, h5⟩ := h; refine ⟨⟨?_, h4, Or.inl h3⟩, h3⟩
 rintro rfl; simp at h1
theorem name_letter {m : List UInt8} (h : isName m = true) : ∀ c ∈ m.head?, letter c = true := by
 intro c hc
 cases m with
 | nil => cases hc
 | cons x r =>
  have : x = c := by simpa using hc
  subst this; have hk := (tokT_name h).2
  cases hl : letter x
  · exfalso
    simp only [firstTok, hl, if_false, Bool.false_eq_true] at hk
    split at hk
    · simp at hk
    · split at hk
      · simp at hk
      · split at hk <;> simp at hk
  · rfl
end Bk
namespace Bk
open Go
theorem dec_val (u : Nat) : digitsVal (Lib.decDigits u) = u ∧ (∀ c ∈ Lib.decDigits u, digit c = true) ∧ Lib.decDigits u ≠ [] := by
 induction u using Nat.strongRecOn with
 | _ u ih =>
  have hd : ∀ k, k < 10 → (UInt8.ofNat (48 + k)).toNat = 48 + k := fun k hk => by rw [UInt8.toNat_ofNat']; omega
  have hdig : ∀ k, k < 10 → digit (UInt8.ofNat (48 + k)) = true := fun k hk => by
   simp only [digit, hd k hk, Bool.and_eq_true, decide_eq_true_eq]; omega
  rw [Lib.decDigits]
  split
  · rename_i h
    refine ⟨?_, ?_, by simp⟩
    · unfold digitsVal
      simp only [List.foldl_cons, List.foldl_nil, hd u h]; omega
    · intro c hc
      have : c = UInt8.ofNat (48 + u) := by simpa using hc
      subst this; exact hdig u h
  · rename_i h
    obtain ⟨h1, h2, h3⟩ := ih (u / 10) (by omega); refine ⟨?_, ?_, by simp⟩
    · unfold digitsVal at *
      rw [List.foldl_append, h1]; simp only [List.foldl_cons, List.foldl_nil, hd (u % 10) (by omega)]
      omega
    · intro c hc
      rcases List.mem_append.1 hc with hc | hc
      · exact h2 c hc
      · have : c = UInt8.ofNat (48 + u % 10) := by simpa using hc
        subst this; exact hdig _ (by omega)
theorem itoa_dec {n : Int} (h : 0 ≤ n) : Lib.itoa n = Lib.decDigits n.toNat := by unfold Lib.itoa; rw [if_neg (by omega)]
theorem span_all' {p : UInt8 → Bool} : ∀ (s : List UInt8), (∀ c ∈ s, p c = true) → span p s = s.length
 | [], _ => rfl
 | c :: r, h => by
  have := span_all' r (fun d hd => h d (by simp [hd]))
  unfold span at *
  rw [List.takeWhile_cons, if_pos (h c (by simp)), List.length_cons, List.length_cons, this]
theorem tokT_num {ds : List UInt8} (hne : ds ≠ []) (h : ∀ c ∈ ds, digit c = true) : TokT ds ∧ (firstTok ds).1 = 2 := by
 have : firstTok ds = (2, ds.length) := by
  cases ds with
  | nil => exact absurd rfl hne
  | cons c r =>
   have hd := h c (by simp)
   have hl : letter c = false := by
    cases hl : letter c
    · rfl
    · rw [letter_digit c hl] at hd; cases hd
   have hs := span_all' (p := digit) (c :: r) h; simp only [firstTok, hl, hd, if_true, if_false, Bool.false_eq_true, hs]
 exact ⟨⟨hne, by rw [this], by rw [this]; exact Or.inr (Or.inl rfl)⟩, by rw [this]⟩
def pw (b : Bool) (L : List Pc) : List Pc := if b then .tk [40] :: (L ++ [.tk [41]]) else L
theorem flat_pw (b : Bool) (L : List Pc) : flat (pw b L) = wrap (flat L) b := by
 unfold pw wrap
 cases b
 · rfl
 · simp only [if_true, flat, flat_append, List.append_nil]; simp
theorem toks_pw (b : Bool) (L : List Pc) : toks (pw b L) = if b then [40] :: (toks L ++ [[41]]) else toks L := by
 unfold pw
 cases b
 · rfl
 · simp only [if_true, toks, toks_append]
def OpenP (p : Option (List UInt8)) : Prop := ∀ t ∈ p, (firstTok t).1 = 3
def CloseT (t : List UInt8) : Prop := Adj t 41 ∧ Adj t 93 ∧ Adj t 59 ∧ Adj t 44
theorem closeT_name {m : List UInt8} (h : (firstTok m).1 = 1) : CloseT m := by
 refine ⟨?_, ?_, ?_, ?_⟩ <;> exact ⟨fun _ => (by decide), fun e => (by rw [h] at e; cases e), fun e => (by rw [h] at e; cases e)⟩
theorem closeT_num {m : List UInt8} (h : (firstTok m).1 = 2) : CloseT m := by
 refine ⟨?_, ?_, ?_, ?_⟩ <;> exact ⟨fun e => (by rw [h] at e; cases e), fun _ => (by decide), fun e => (by rw [h] at e; cases e)⟩
theorem closeT_sign {m : List UInt8} (h : (firstTok m).1 = 3) : CloseT m := by
 refine ⟨?_, ?_, ?_, ?_⟩ <;> exact ⟨fun e => (by rw [h] at e; cases e), fun e => (by rw [h] at e; cases e), fun _ => (by decide)⟩
theorem adj_open {t : List UInt8} {c : UInt8} (h : (firstTok t).1 = 3) (hc : c ≠ 61 ∧ c ≠ 62 ∧ c ≠ 38 ∧ c ≠ 124) : Adj t c := ⟨fun e => (by rw [h] at e; cases e), fun e => (by rw [h] at e; cases e), fun _ => hc⟩
theorem letter_open {c : UInt8} (h : letter c = true) : c ≠ 61 ∧ c ≠ 62 ∧ c ≠ 38 ∧ c ≠ 124 := by
 simp only [letter, Bool.and_eq_true, decide_eq_true_eq] at h
 refine ⟨?_, ?_, ?_, ?_⟩ <;> (rintro rfl; simp at h)
theorem digit_open {c : UInt8} (h : digit c = true) : c ≠ 61 ∧ c ≠ 62 ∧ c ≠ 38 ∧ c ≠ 124 := by
 simp only [digit, Bool.and_eq_true, decide_eq_true_eq] at h
 refine ⟨?_, ?_, ?_, ?_⟩ <;> (rintro rfl; simp at h)
theorem tokT_lit {t : List UInt8} (h : (!t.isEmpty && ((firstTok t).2 == t.length) && (((firstTok t).1 == 1) || ((firstTok t).1 == 3))) = true) : TokT t := by
 simp only [Bool.and_eq_true, Bool.or_eq_true, beq_iff_eq, Bool.not_eq_true'] at h; obtain ⟨⟨h1, h2⟩, h3⟩ := h; refine ⟨by rintro rfl; simp at h1, h2, ?_⟩
 rcases h3 with h3 | h3
 · exact Or.inl h3
 · exact Or.inr (Or.inr h3)
theorem symbol_tok {k : Int} (h0 : 6 ≤ k) (h1 : k ≤ 23) : TokT (symbol k) ∧ (firstTok (symbol k)).1 = 3 := by
 have : k = 6 ∨ k = 7 ∨ k = 8 ∨ k = 9 ∨ k = 10 ∨ k = 11 ∨ k = 12 ∨ k = 13 ∨ k = 14 ∨ k = 15 ∨ k = 16 ∨ k = 17 ∨ k = 18 ∨ k = 19 ∨ k = 20 ∨ k = 21 ∨ k = 22 ∨ k = 23 := by omega
 rcases this with rfl | rfl | rfl | rfl | rfl | rfl | rfl | rfl | rfl | rfl | rfl | rfl | rfl | rfl | rfl | rfl | rfl | rfl <;> exact ⟨tokT_lit (by decide), by decide⟩
structure Nice (L : List Pc) : Prop where
 wf : ∀ p, OpenP p → wf p L
 fin : ∀ p, ∃ t, endOf p L = some t ∧ CloseT t
theorem openP_sign {t : List UInt8} (h : (firstTok t).1 = 3) : OpenP (some t) := fun u hu => by
 have : t = u := by simpa using hu
 rw [← this]; exact h
theorem openP_none : OpenP none := fun u hu => by cases hu
theorem Nice.par {L : List Pc} (h : Nice L) : Nice (.tk [40] :: (L ++ [.tk [41]])) := by
 have ho : TokT [40] := tokT_lit (by decide); have hc : TokT [41] := tokT_lit (by decide); refine ⟨fun p hp => ⟨ho, fun t ht c hc' => ?_, ?_⟩, fun p => ?_⟩
 · have : c = 40 := by simpa using hc'.symm
   subst this
   exact adj_open (hp t ht) (by decide)
 · rw [wf_append]
   refine ⟨h.wf _ (openP_sign (by decide)), ?_⟩; obtain ⟨t, e, ct⟩ := h.fin (some [40]); rw [e]
   exact ⟨hc, fun u hu c hc' => by
    have : c = 41 := by simpa using hc'.symm
    have : t = u := by simpa using hu
    subst_vars; exact ct.1, trivial⟩
 · refine ⟨[41], ?_, closeT_sign (by decide)⟩
   simp only [endOf, endOf_append]
theorem Nice.pw {L : List Pc} (h : Nice L) (b : Bool) : Nice (pw b L) := by
 unfold Bk.pw
 cases b
 · exact h
 · exact h.par
theorem nice_tok {t : List UInt8} (ht : TokT t) (ho : ∀ c ∈ t.head?, c ≠ 61 ∧ c ≠ 62 ∧ c ≠ 38 ∧ c ≠ 124) (hc : CloseT t) : Nice [.tk t] :=
 ⟨fun p hp => ⟨ht, fun u hu c hc => adj_open (hp u hu) (ho c hc), trivial⟩, fun p => ⟨t, rfl, hc⟩⟩
theorem head_of {t : List UInt8} {q : UInt8 → Prop} (h : ∀ c ∈ t, q c) : ∀ c ∈ t.head?, q c := fun c hc => by
 cases t with
 | nil => cases hc
 | cons x r => have : x = c := by simpa using hc
               subst this; exact h x (by simp)
end Bk
namespace Bk
open Go
theorem allTok {s : List UInt8} (hne : s ≠ []) (h : ∀ c ∈ s, letter c = true) : firstTok s = (1, s.length) := by
 cases s with
 | nil => exact absurd rfl hne
 | cons c r =>
  have hc := h c (by simp); have hs := span_all' (p := wordish) (c :: r) (fun d hd => by unfold wordish; rw [h d hd]; rfl); simp only [firstTok, hc, if_true, hs]
theorem funName_isName {s : List UInt8} (h : funName s = true) : isName s = true := by
 unfold funName at h
 simp only [Bool.and_eq_true, decide_eq_true_eq] at h; obtain ⟨⟨⟨⟨h1, h2⟩, h3⟩, h4⟩, -⟩ := h
 have hne : s ≠ [] := by rintro rfl; simp at h1
 have hf := allTok hne (fun c hc => List.all_eq_true.1 h4 c hc)
 unfold isName
 rw [hf, h1, h3]; have : decide (s.length ≤ 16) = true := decide_eq_true (by omega); rw [this]
 simp
mutual
def Nd.okR : Nd → Prop
 | .mk k n s l => formN k n s l.length = true ∧ (k = 81 ∨ k = 84 ∨ k = 85 → isName s = true) ∧ (80 ≤ k ∧ k ≤ 90) ∧ n ≤ 9223372036854775807 ∧ rowOkR l
def rowOkR : List Nd → Prop
 | [] => True
 | t :: r => t.okR ∧ rowOkR r
end
theorem rowOkR_mem {l : List Nd} (h : rowOkR l) {x : Nd} (hx : x ∈ l) : x.okR := by
 induction l with
 | nil => cases hx
 | cons a r ih =>
  rcases List.mem_cons.1 hx with rfl | hx
  · exact h.1
  · exact ih h.2 hx
theorem formN_kind {k n : Int} {s : List UInt8} {c : Nat} (h : formN k n s c = true) : 80 ≤ k ∧ k ≤ 90 := by
 unfold formN at h
 repeat' split at h
 all_goals first
  | omega
  | (simp at h)
mutual
theorem chk_okR {lib : List FD} (hlib : ∀ f ∈ lib, funName f.name = true) : ∀ (t : Nd) (v : Vis), t.wf → t.formed = true → (t.chk lib v).2 = 0 → (∀ p ∈ v, funName p.1 = true) → t.okR
 | .mk k n s l, v, hw, hf, hc, hv => by
  simp only [Nd.wf] at hw; obtain ⟨-, -, -, w4, -, -, w7⟩ := hw; simp only [Nd.formed, Bool.and_eq_true] at hf; obtain ⟨f1, f2⟩ := hf; rw [Nd.chk] at hc
  split at hc
  · rename_i h; exact absurd hc h
  · rename_i hr
    have hr : reachF lib v k s l.length = 0 := Decidable.not_not.1 hr
    split at hc
    · rename_i h; exact absurd hc h
    · rename_i hrow
      have hrow : (rowChk lib v k s [] l).2 = 0 := Decidable.not_not.1 hrow
      have h84 : k = 84 → funName s = true := fun h => by subst h; exact (formN_84 f1).1
      have hs : k = 81 ∨ k = 84 ∨ k = 85 → isName s = true := by
       rintro (k1 | k4 | k5)
       · subst k1
         simp only [reachF, if_true] at hr
         split at hr
         · rename_i hse
           obtain ⟨b, hb⟩ := Option.isSome_iff_exists.1 hse
           exact funName_isName (hv _ (seen_mem hb))
         · cases hr
       · exact funName_isName (h84 k4)
       · subst k5
         simp only [reachF, show ¬ (85 : Int) = 81 by decide, show ¬ (85 : Int) = 84 by decide, if_false, if_true] at hr
         cases hff : findF lib s with
         | none => rw [hff] at hr; cases hr
         | some i =>
          obtain ⟨f, hf, rfl⟩ := findF_name hff
          exact funName_isName (hlib f hf)
      simp only [Nd.okR]
      exact ⟨f1, hs, formN_kind f1, w4, row_okR hlib l v k s [] w7 f2 hrow hv h84⟩
theorem row_okR {lib : List FD} (hlib : ∀ f ∈ lib, funName f.name = true) : ∀ (l : List Nd) (v : Vis) (k : Int) (s : List UInt8) (acc : List Bool), rowWf l → rowFormed l = true → (rowChk lib v k s acc l).2 = 0 → (∀ p ∈ v, funName p.1 = true) → (k = 84 → funName s = true) → rowOkR l
 | [], _, _, _, _, _, _, _, _, _ => trivial
 | t :: r, v, k, s, acc, hw, hf, hc, hv, hs => by
  simp only [rowFormed, Bool.and_eq_true] at hf; rw [rowChk] at hc
  have hv2 : ∀ p ∈ (if k = 84 ∧ acc.length = 1 then (s, acc.getD 0 false) :: v else v), funName p.1 = true := fun p hp => by
   split at hp
   · rename_i h84
     rcases List.mem_cons.1 hp with rfl | hp
     · exact hs h84.1
     · exact hv p hp
   · exact hv p hp
  generalize (if k = 84 ∧ acc.length = 1 then (s, acc.getD 0 false) :: v else v) = v2 at hc hv2
  split at hc
  · rename_i h; exact absurd hc h
  · rename_i h
    have h := Decidable.not_not.1 h
    exact ⟨chk_okR hlib t _ hw.1 hf.1 h hv2, row_okR hlib r v k s _ hw.2 hf.2 hc hv hs⟩
end
structure GoodR (f : FD) : Prop where
 name : isName f.name = true
 len : f.params.length ≤ 8
 par : ∀ p ∈ f.params, isName p.name = true
 ok : f.body.okR
theorem lib_goodR {lib : List FD} (h : libErr lib = none) (hw : ∀ f ∈ lib, f.body.wf) : ∀ f ∈ lib, GoodR f := by
 have hz := libErrFrom_none lib 0 h
 have hn : ∀ f ∈ lib, funName f.name = true := fun f hf => by
  obtain ⟨i, hi, rfl⟩ := List.mem_iff_getElem.1 hf
  exact (fnErr_zero (hz i hi)).2.1
 intro f hf; have hfw := hw f hf; obtain ⟨i, hi, rfl⟩ := List.mem_iff_getElem.1 hf; obtain ⟨-, a2, a3, a4, a5, a6⟩ := fnErr_zero (hz i hi); obtain ⟨b1, b2, -⟩ := paramErr_zero a3; refine ⟨funName_isName a2, b1, fun p hp => funName_isName (b2 p hp), chk_okR hn _ _ hfw a4 a6 (fun p hp => ?_)⟩; obtain ⟨q, hq, rfl⟩ := List.mem_map.1 hp
 exact b2 q hq
def commaP : List (List Pc) → List Pc
 | [] => []
 | [x] => x
 | x :: y :: r => x ++ (.tk [44] :: .sp [32] :: commaP (y :: r))
def appP (w : List UInt8) (ls : List (List Pc)) : List Pc := .tk w :: .tk [40] :: (commaP ls ++ [.tk [41]])
def wrapB (lv : Int) (h : Int × Int) : Bool := decide (h.1 = 82) && decide (level h.2 < lv)
def spp : Pc := .sp [32]
def ifP (a b c : List Pc) : List Pc := .tk [105, 102] :: spp :: (a ++ (spp :: .tk [123] :: spp :: (b ++ (spp :: .tk [125] :: spp :: .tk [101, 108, 115, 101] :: spp :: .tk [123] :: spp :: (c ++ [spp, .tk [125]])))))
def letP (s : List UInt8) (a b : List Pc) : List Pc := .tk [108, 111, 99, 97, 108] :: spp :: .tk s :: spp :: .tk [61] :: spp :: (a ++ (spp :: .tk [123] :: spp :: (b ++ [spp, .tk [125]])))
def opP (n : Int) (a b : List Pc) : List Pc := a ++ (spp :: .tk (symbol n) :: spp :: b)
def pcsN (k n : Int) (s : List UInt8) (ps : List (List Pc)) (hs : List (Int × Int)) : List Pc :=
 if k = 80 then [.tk (Lib.itoa n)]
 else if k = 81 then [.tk s]
 else if k = 82 then opP n (pw (wrapB (level n) (hs.getD 0 (0, 0))) (ps.getD 0 [])) (pw (wrapB (level n + 1) (hs.getD 1 (0, 0))) (ps.getD 1 []))
 else if k = 83 then ifP (ps.getD 0 []) (ps.getD 1 []) (ps.getD 2 [])
 else if k = 84 then letP s (ps.getD 0 []) (ps.getD 1 [])
 else if k = 86 then [.tk [91], .tk [93]]
 else if k = 87 then appP [112, 117, 115, 104] ps
 else if k = 89 then appP [112, 111, 112] ps
 else if k = 88 then appP [116, 111, 112] ps
 else if k = 90 then .tk [33] :: pw (wrapB 9 (hs.getD 0 (0, 0))) (ps.getD 0 [])
 else appP s ps
mutual
def Nd.fpcs : Nd → List Pc
 | .mk k n s l => pcsN k n s (rowPcs l) (l.map fun t => (t.kind, t.num))
def rowPcs : List Nd → List (List Pc)
 | [] => []
 | t :: r => t.fpcs :: rowPcs r
end
theorem flat_comma : ∀ ls : List (List Pc), flat (commaP ls) = Lib.join (ls.map flat) [44, 32]
 | [] => rfl
 | [x] => by simp only [commaP, List.map_cons, List.map_nil, Lib.join_one]
 | x :: y :: r => by
  have := flat_comma (y :: r); simp only [List.map_cons] at this ⊢; rw [join_two, ← this]; simp only [commaP, flat_append, flat, List.append_assoc, List.cons_append, List.nil_append]
theorem flat_app (w : List UInt8) (ls : List (List Pc)) : flat (appP w ls) = appT w (ls.map flat) := by
 simp only [appP, flat, flat_append, flat_comma, appT, List.append_assoc, List.append_nil]
theorem wrapB_T (lv : Int) (h : Int × Int) (L : List Pc) : flat (pw (wrapB lv h) L) = wrapT lv h (flat L) := by
 rw [flat_pw]
 unfold wrap wrapT wrapB
 by_cases c : h.1 = 82 ∧ level h.2 < lv
 · rw [if_pos c, decide_eq_true c.1, decide_eq_true c.2]; simp
 · rw [if_neg c]
   have : (decide (h.1 = 82) && decide (level h.2 < lv)) = false := by
    rw [Bool.and_eq_false_iff, decide_eq_false_iff_not, decide_eq_false_iff_not]
    by_cases h1 : h.1 = 82
    · exact Or.inr (fun h2 => c ⟨h1, h2⟩)
    · exact Or.inl h1
   rw [this]; simp
theorem getD_flat (ls : List (List Pc)) (i : Nat) : flat (ls.getD i []) = (ls.map flat).getD i [] := by
 simp only [List.getD_eq_getElem?_getD, List.getElem?_map]
 cases ls[i]? <;> rfl
theorem flat_pcsN (k n : Int) (s : List UInt8) (ps : List (List Pc)) (hs : List (Int × Int)) : flat (pcsN k n s ps hs) = textN k n s (ps.map flat) hs := by
 unfold pcsN textN
 by_cases k0 : k = 80
 · rw [if_pos k0, if_pos k0]; simp only [flat, List.append_nil]
 rw [if_neg k0, if_neg k0]
 by_cases k1 : k = 81
 · rw [if_pos k1, if_pos k1]; simp only [flat, List.append_nil]
 rw [if_neg k1, if_neg k1]
 by_cases k2 : k = 82
 · rw [if_pos k2, if_pos k2]
   simp only [opP, spp, flat_append, flat, wrapB_T, getD_flat, List.append_assoc]
 rw [if_neg k2, if_neg k2]
 by_cases k3 : k = 83
 · rw [if_pos k3, if_pos k3]
   simp only [ifP, spp, flat_append, flat, getD_flat, List.append_assoc, List.append_nil, List.cons_append, List.nil_append]
 rw [if_neg k3, if_neg k3]
 by_cases k4 : k = 84
 · rw [if_pos k4, if_pos k4]
   simp only [letP, spp, flat_append, flat, getD_flat, List.append_assoc, List.append_nil, List.cons_append, List.nil_append]
 rw [if_neg k4, if_neg k4]
 by_cases k6 : k = 86
 · rw [if_pos k6, if_pos k6]; rfl
 rw [if_neg k6, if_neg k6]
 by_cases k7 : k = 87
 · rw [if_pos k7, if_pos k7, flat_app]
 rw [if_neg k7, if_neg k7]
 by_cases k9 : k = 89
 · rw [if_pos k9, if_pos k9, flat_app]
 rw [if_neg k9, if_neg k9]
 by_cases k8 : k = 88
 · rw [if_pos k8, if_pos k8, flat_app]
 rw [if_neg k8, if_neg k8]
 by_cases k10 : k = 90
 · rw [if_pos k10, if_pos k10]
   simp only [flat, wrapB_T, getD_flat]
 rw [if_neg k10, if_neg k10, flat_app]
mutual
theorem flat_fpcs : ∀ t : Nd, flat t.fpcs = t.ftext
 | .mk k n s l => by
  simp only [Nd.fpcs, Nd.ftext, flat_pcsN, flat_rowPcs l]
theorem flat_rowPcs : ∀ l : List Nd, (rowPcs l).map flat = rowText l
 | [] => rfl
 | t :: r => by simp only [rowPcs, rowText, List.map_cons, flat_fpcs t, flat_rowPcs r]
end
theorem Nice.cons {t : List UInt8} {R : List Pc} (ht : TokT t) (ho : ∀ c ∈ t.head?, c ≠ 61 ∧ c ≠ 62 ∧ c ≠ 38 ∧ c ≠ 124) (hR : Bk.wf (some t) R) (hf : ∃ u, endOf (some t) R = some u ∧ CloseT u) : Nice (.tk t :: R) :=
 ⟨fun p hp => ⟨ht, fun u hu c hc => adj_open (hp u hu) (ho c hc), hR⟩, fun p => hf⟩
theorem wf_spp {p : Option (List UInt8)} {R : List Pc} (h : wf none R) : wf p (spp :: R) := ⟨by decide, h⟩
theorem wf_none {t : List UInt8} {R : List Pc} (ht : TokT t) (h : wf (some t) R) : wf none (.tk t :: R) := ⟨ht, by simp, h⟩
theorem Nice.then {L : List Pc} (h : Nice L) {p : Option (List UInt8)} (hp : OpenP p) {R : List Pc} (hR : Bk.wf none R) : Bk.wf p (L ++ spp :: R) := by
 rw [wf_append]
 exact ⟨h.wf p hp, wf_spp hR⟩
theorem end_then {L : List Pc} {p : Option (List UInt8)} {R : List Pc} : endOf p (L ++ spp :: R) = endOf none R := by
 rw [endOf_append]; rfl
theorem tokB : TokT [123] ∧ TokT [125] ∧ TokT [40] ∧ TokT [41] ∧ TokT [44] ∧ TokT [61] ∧ TokT [105, 102] ∧ TokT [101, 108, 115, 101] ∧ TokT [108, 111, 99, 97, 108] ∧ TokT [91] ∧ TokT [93] ∧ TokT [33] := by
 refine ⟨?_, ?_, ?_, ?_, ?_, ?_, ?_, ?_, ?_, ?_, ?_, ?_⟩ <;> exact tokT_lit (by decide)
theorem nice_op {n : Int} {a b : List Pc} (h0 : 8 ≤ n) (h1 : n ≤ 23) (ha : Nice a) (hb : Nice b) : Nice (opP n a b) := by
 have hsy := symbol_tok (k := n) (by omega) (by omega)
 unfold opP
 refine ⟨fun p hp => ha.then hp (wf_none hsy.1 (wf_spp (hb.wf _ openP_none))), fun p => ?_⟩; rw [end_then]
 exact hb.fin _
theorem nice_if {a b c : List Pc} (ha : Nice a) (hb : Nice b) (hc : Nice c) : Nice (ifP a b c) := by
 obtain ⟨t1, t2, t3, t4, t5, t6, t7, t8, t9, -⟩ := tokB
 unfold ifP
 refine Nice.cons t7 (by decide) (wf_spp (ha.then openP_none (wf_none t1 (wf_spp (hb.then openP_none (wf_none t2 (wf_spp (wf_none t8 (wf_spp (wf_none t1 (wf_spp (hc.then openP_none (wf_none t2 trivial)))))))))))))
  ⟨[125], ?_, closeT_sign (by decide)⟩
 show endOf none (a ++ _) = _
 rw [end_then]
 show endOf none (b ++ _) = _
 rw [end_then]
 show endOf none (c ++ _) = _
 rw [end_then]; rfl
theorem nice_let {s : List UInt8} {a b : List Pc} (hs : TokT s) (ha : Nice a) (hb : Nice b) : Nice (letP s a b) := by
 obtain ⟨t1, t2, t3, t4, t5, t6, t7, t8, t9, -⟩ := tokB
 unfold letP
 refine Nice.cons t9 (by decide) (wf_spp (wf_none hs (wf_spp (wf_none t6 (wf_spp (ha.then openP_none (wf_none t1 (wf_spp (hb.then openP_none (wf_none t2 trivial))))))))))
  ⟨[125], ?_, closeT_sign (by decide)⟩
 show endOf none (a ++ _) = _
 rw [end_then]
 show endOf none (b ++ _) = _
 rw [end_then]; rfl
theorem nice_comma : ∀ ls : List (List Pc), (∀ x ∈ ls, Nice x) → ls ≠ [] → Nice (commaP ls)
 | [], _, h => absurd rfl h
 | [x], h, _ => h x (by simp)
 | x :: y :: r, h, _ => by
  have h1 := h x (by simp); have h2 := nice_comma (y :: r) (fun z hz => h z (by simp [hz])) (by simp); refine ⟨fun p hp => ?_, fun p => ?_⟩
  · show wf p (x ++ (.tk [44] :: .sp [32] :: commaP (y :: r)))
    rw [wf_append]; obtain ⟨t, e, ct⟩ := h1.fin p; refine ⟨h1.wf p hp, tokB.2.2.2.2.1, fun u hu c hc => ?_, wf_spp (h2.wf _ openP_none)⟩
    have : c = 44 := by simpa using hc.symm
    have : t = u := by rw [e] at hu; simpa using hu
    subst_vars; exact ct.2.2.2
  · show ∃ t, endOf p (x ++ (.tk [44] :: spp :: commaP (y :: r))) = some t ∧ CloseT t
    rw [endOf_append]
    exact h2.fin _
theorem nice_app {w : List UInt8} {ls : List (List Pc)} (hw : TokT w) (h1 : (firstTok w).1 = 1) (ho : ∀ c ∈ w.head?, letter c = true) (h : ∀ x ∈ ls, Nice x) : Nice (appP w ls) := by
 obtain ⟨t1, t2, t3, t4, -⟩ := tokB
 unfold appP
 have hadj : ∀ t0 ∈ some w, ∀ c ∈ ([40] : List UInt8).head?, Adj t0 c := fun u hu c hc => by
  have : c = 40 := by simpa using hc.symm
  have : w = u := by simpa using hu
  subst_vars
  exact ⟨fun _ => (by decide), fun e => (by rw [h1] at e; cases e), fun e => (by rw [h1] at e; cases e)⟩
 refine Nice.cons hw (fun c hc => letter_open (ho c hc)) ⟨t3, hadj, ?_⟩ ⟨[41], ?_, closeT_sign (by decide)⟩
 · by_cases hl : ls = []
   · subst hl
     refine ⟨t4, fun u hu c hc => ?_, trivial⟩
     have : c = 41 := by simpa using hc.symm
     have : [40] = u := by simpa using hu
     rw [← this]
     exact adj_open (by decide) (by subst_vars; decide)
   · have hn := nice_comma ls h hl
     rw [wf_append]; obtain ⟨t, e, ct⟩ := hn.fin (some [40]); refine ⟨hn.wf _ (openP_sign (by decide)), t4, fun u hu c hc => ?_, trivial⟩
     have : c = 41 := by simpa using hc.symm
     have : t = u := by rw [e] at hu; simpa using hu
     subst_vars; exact ct.1
 · show endOf (some [40]) (commaP ls ++ [.tk [41]]) = _
   rw [endOf_append]; rfl
mutual
theorem fpcs_nice : ∀ t : Nd, t.okR → Nice t.fpcs
 | .mk k n s l, h => by
  simp only [Nd.okR] at h; obtain ⟨f1, f2, f3, f4, f5⟩ := h; have hr := row_nice l f5; have h0 := formN_num f1; simp only [Nd.fpcs]
  unfold pcsN
  by_cases k0 : k = 80
  · rw [if_pos k0]
    obtain ⟨h1, h2, h3⟩ := dec_val n.toNat; rw [itoa_dec h0]
    exact nice_tok (tokT_num h3 h2).1 (head_of (fun c hc => digit_open (h2 c hc))) (closeT_num (tokT_num h3 h2).2)
  rw [if_neg k0]
  by_cases k1 : k = 81
  · rw [if_pos k1]
    have hn := f2 (Or.inl k1)
    exact nice_tok (tokT_name hn).1 (fun c hc => letter_open (name_letter hn c hc)) (closeT_name (tokT_name hn).2)
  rw [if_neg k1]
  by_cases k2 : k = 82
  · rw [if_pos k2]
    subst k2; obtain ⟨a1, a2, a3⟩ := formN_82 f1; obtain ⟨x, y, rfl⟩ := len2 a3
    exact nice_op a1 a2 ((hr _ (by simp [rowPcs])).pw _) ((hr _ (by simp [rowPcs])).pw _)
  rw [if_neg k2]
  by_cases k3 : k = 83
  · rw [if_pos k3]
    subst k3; obtain ⟨x, y, z, rfl⟩ := len3 (formN_83' f1)
    exact nice_if (hr _ (by simp [rowPcs])) (hr _ (by simp [rowPcs])) (hr _ (by simp [rowPcs]))
  rw [if_neg k3]
  by_cases k4 : k = 84
  · rw [if_pos k4]
    have hn := f2 (Or.inr (Or.inl k4)); subst k4; obtain ⟨x, y, rfl⟩ := len2 (formN_84 f1).2
    exact nice_let (tokT_name hn).1 (hr _ (by simp [rowPcs])) (hr _ (by simp [rowPcs]))
  rw [if_neg k4]
  by_cases k6 : k = 86
  · rw [if_pos k6]
    exact Nice.cons tokB.2.2.2.2.2.2.2.2.2.1 (by decide) ⟨tokB.2.2.2.2.2.2.2.2.2.2.1, fun u hu c hc => by
     have : [91] = u := by simpa using hu
     have : c = 93 := by simpa using hc.symm
     subst_vars
     exact adj_open (by decide) (by decide), trivial⟩ ⟨_, rfl, closeT_sign (by decide)⟩
  rw [if_neg k6]
  by_cases k7 : k = 87
  · rw [if_pos k7]; exact nice_app (tokT_lit (by decide)) (by decide) (by simp; decide) hr
  rw [if_neg k7]
  by_cases k9 : k = 89
  · rw [if_pos k9]; exact nice_app (tokT_lit (by decide)) (by decide) (by simp; decide) hr
  rw [if_neg k9]
  by_cases k8 : k = 88
  · rw [if_pos k8]; exact nice_app (tokT_lit (by decide)) (by decide) (by simp; decide) hr
  rw [if_neg k8]
  by_cases k10 : k = 90
  · rw [if_pos k10]
    subst k10; obtain ⟨x, rfl⟩ := len1 (formN_90 f1); have hx := (hr x.fpcs (by simp [rowPcs])).pw (wrapB 9 (x.kind, x.num))
    exact Nice.cons tokB.2.2.2.2.2.2.2.2.2.2.2 (by decide) (hx.wf _ (openP_sign (by decide))) (hx.fin _)
  rw [if_neg k10]; have hn := f2 (Or.inr (Or.inr (by omega)))
  exact nice_app (tokT_name hn).1 (tokT_name hn).2 (name_letter hn) hr
theorem row_nice : ∀ l : List Nd, rowOkR l → ∀ x ∈ rowPcs l, Nice x
 | [], _ => by intro x hx; simp [rowPcs] at hx
 | t :: r, h => by
  intro x hx; simp only [rowPcs, List.mem_cons] at hx
  rcases hx with rfl | hx
  · exact fpcs_nice t h.1
  · exact row_nice r h.2 x hx
end
end Bk
namespace Bk
open Go
def Nd.tks (t : Nd) : Txt := toks t.fpcs
def tailA : List Nd → Txt
 | [] => []
 | x :: r => [44] :: (x.tks ++ tailA r)
def argsA : List Nd → Txt
 | [] => []
 | x :: r => x.tks ++ tailA r
theorem toks_comma : ∀ l : List Nd, toks (commaP (rowPcs l)) = argsA l
 | [] => rfl
 | [x] => by simp [rowPcs, commaP, argsA, tailA, Nd.tks]
 | x :: y :: r => by
  have := toks_comma (y :: r); simp only [rowPcs] at this; simp only [rowPcs, commaP, toks_append, toks, this, argsA, tailA, Nd.tks]
theorem toks_app (w : List UInt8) (l : List Nd) : toks (appP w (rowPcs l)) = w :: [40] :: (argsA l ++ [[41]]) := by
 simp only [appP, toks, toks_append, toks_comma]
mutual
theorem tks_head : ∀ x : Nd, x.okR → ∃ t r, x.tks = t :: r ∧ t ≠ [41]
 | .mk k n s l, h => by
  simp only [Nd.okR] at h; obtain ⟨f1, f2, f3, f4, f5⟩ := h
  unfold Nd.tks
  simp only [Nd.fpcs]
  unfold pcsN
  by_cases k0 : k = 80
  · rw [if_pos k0]
    refine ⟨_, _, rfl, ?_⟩; obtain ⟨h1, h2, h3⟩ := dec_val n.toNat; rw [itoa_dec (formN_num f1)]; intro e; rw [e] at h2
    exact absurd (h2 41 (by simp)) (by decide)
  rw [if_neg k0]
  by_cases k1 : k = 81
  · rw [if_pos k1]
    refine ⟨_, _, rfl, ?_⟩; rintro rfl
    exact absurd (f2 (Or.inl k1)) (by decide)
  rw [if_neg k1]
  by_cases k2 : k = 82
  · rw [if_pos k2]
    subst k2; obtain ⟨a1, a2, a3⟩ := formN_82 f1; obtain ⟨t, r, e, hne⟩ := row_head l f5 (by omega); have e' : toks ((rowPcs l).getD 0 []) = t :: r := e
    unfold opP
    rw [toks_append, toks_pw]
    split
    · exact ⟨_, _, rfl, by decide⟩
    · rw [e']; exact ⟨_, _, rfl, hne⟩
  rw [if_neg k2]
  by_cases k3 : k = 83
  · rw [if_pos k3]; exact ⟨_, _, rfl, by decide⟩
  rw [if_neg k3]
  by_cases k4 : k = 84
  · rw [if_pos k4]; exact ⟨_, _, rfl, by decide⟩
  rw [if_neg k4]
  by_cases k6 : k = 86
  · rw [if_pos k6]; exact ⟨_, _, rfl, by decide⟩
  rw [if_neg k6]
  by_cases k7 : k = 87
  · rw [if_pos k7]; exact ⟨_, _, rfl, by decide⟩
  rw [if_neg k7]
  by_cases k9 : k = 89
  · rw [if_pos k9]; exact ⟨_, _, rfl, by decide⟩
  rw [if_neg k9]
  by_cases k8 : k = 88
  · rw [if_pos k8]; exact ⟨_, _, rfl, by decide⟩
  rw [if_neg k8]
  by_cases k10 : k = 90
  · rw [if_pos k10]; exact ⟨_, _, rfl, by decide⟩
  rw [if_neg k10]; refine ⟨_, _, rfl, ?_⟩; rintro rfl
  exact absurd (f2 (Or.inr (Or.inr (by omega)))) (by decide)
theorem row_head : ∀ l : List Nd, rowOkR l → 0 < l.length → ∃ t r, toks ((rowPcs l).getD 0 []) = t :: r ∧ t ≠ [41]
 | [], _, h => absurd h (by simp)
 | x :: r, h, _ => tks_head x h.1
end
def NoPar (b : Txt) : Prop := ∀ t ∈ b.head?, t ≠ [40]
section
variable {ts : List Tok} {n : Int}
theorem has_remF {σ : PS} {u : List UInt8} (hw : σ.at_ ≤ ts.length) (he : σ.err = 0) : hasP ts σ u = decide (((rem ts σ).head?).getD [] = u) := by unfold hasP; rw [peek_rem hw he]
theorem rem_leF {σ : PS} {a b : Txt} (hw : σ.at_ ≤ ts.length) (h : rem ts σ = a ++ b) : (adv σ a.length).at_ ≤ ts.length := by
 have := rem_len (ts := ts) σ; rw [h] at this; simp only [List.length_append] at this
 show σ.at_ + a.length ≤ ts.length
 omega
theorem primF_of {σ : PS} {t : List UInt8} {r : Txt} (k : Nat) (h : rem ts σ = t :: r) (he : σ.err = 0) : primF ts n (k + 1) σ =
 if t = [91] then (.mk 86 0 [] [], expectP ts n (adv σ 1) [93])
 else if t = [112, 117, 115, 104] then (.mk 87 0 [] (args2F ts n k (adv σ 1)).1, (args2F ts n k (adv σ 1)).2)
 else if t = [112, 111, 112] then (.mk 89 0 [] (args1F ts n k (adv σ 1)).1, (args1F ts n k (adv σ 1)).2)
 else if t = [116, 111, 112] then (.mk 88 0 [] (args1F ts n k (adv σ 1)).1, (args1F ts n k (adv σ 1)).2)
 else if t = [33] then (.mk 90 0 [] [(primF ts n k (adv σ 1)).1], (primF ts n k (adv σ 1)).2)
 else if t = [105, 102] then ifF ts n k σ
 else if t = [108, 111, 99, 97, 108] then letF ts n k σ
 else if t = [40] then ((exprF ts n k 1 (adv σ 1)).1, expectP ts n (exprF ts n k 1 (adv σ 1)).2 [41])
 else if (peekP ts σ).kind = 2 then fnumP ts σ
 else namedF ts n k σ := by
 rw [primF]; simp only [has_cons h he, decide_eq_true_eq, next_adv]
theorem climb_stopR {σ : PS} {k : Nat} {lv : Int} {x : Nd} (hw : σ.at_ ≤ ts.length) (he : σ.err = 0) (hk : 1 ≤ k) (h : StopL lv (rem ts σ)) : climbF ts n k lv x σ = (x, σ) := by
 obtain ⟨k, rfl⟩ : ∃ j, k = j + 1 := ⟨k - 1, by omega⟩; rw [climbF, peek_rem hw he]
 cases hr : rem ts σ with
 | nil => rfl
 | cons t b =>
  simp only [List.head?_cons, Option.getD_some]
  cases ho : binOf t with
  | none => rfl
  | some op =>
   have := h t (by rw [hr]; rfl) op ho; simp only [if_pos this]
theorem climb_op {σ : PS} {k : Nat} {lv op : Int} {x : Nd} {t : List UInt8} {b : Txt} (he : σ.err = 0) (h : rem ts σ = t :: b) (ho : binOf t = some op) (hl : lv ≤ level op) : climbF ts n (k + 1) lv x σ = climbF ts n k lv (.mk 82 op [] [x, (exprF ts n k (level op + 1) (adv σ 1)).1]) (exprF ts n k (level op + 1) (adv σ 1)).2 := by
 rw [climbF, peek_cons h he]; simp only [ho, next_adv]; rw [if_neg (by omega)]
structure RdC (ts : List Tok) (n : Int) (x : Nd) : Prop where
 p : ∀ (σ : PS) (k : Nat) (rest : Txt), σ.at_ ≤ ts.length → σ.err = 0 → x.kind ≠ 82 → rem ts σ = x.tks ++ rest → NoPar rest → 4 * x.tks.length + 3 ≤ k → primF ts n k σ = (x, adv σ x.tks.length)
 e : ∀ (σ : PS) (k : Nat) (lv : Int) (rest : Txt), σ.at_ ≤ ts.length → σ.err = 0 → rem ts σ = x.tks ++ rest → NoPar rest → (x.kind = 82 → lv ≤ level x.num ∧ StopL (level x.num + 1) rest) → 4 * x.tks.length + 4 ≤ k → ∃ k', k ≤ k' + 4 * x.tks.length ∧ exprF ts n k lv σ = climbF ts n k' lv x (adv σ x.tks.length)
theorem stop_of {u : List UInt8} (h : binOf u = none) (lv : Int) (r : Txt) : StopL lv (u :: r) := fun t ht op ho => by
 have : u = t := by simpa using ht
 subst this; rw [h] at ho; cases ho
theorem nopar_of {u : List UInt8} (h : u ≠ [40]) (r : Txt) : NoPar (u :: r) := fun t ht => by
 have : u = t := by simpa using ht
 subst this; exact h
theorem level_pos {op : Int} (h : 8 ≤ op ∧ op ≤ 23) : 1 ≤ level op ∧ level op ≤ 8 := by
 unfold level
 repeat' split
 all_goals omega
theorem okR_op {x : Nd} (h : x.okR) (hk : x.kind = 82) : 8 ≤ x.num ∧ x.num ≤ 23 := by
 obtain ⟨k, n, s, l⟩ := x; simp only [Nd.kind] at hk; simp only [Nd.okR] at h; obtain ⟨f1, -⟩ := h; subst hk; obtain ⟨a, b, -⟩ := formN_82 f1
 exact ⟨a, b⟩
theorem RdC.full {x : Nd} (h : RdC ts n x) (hx : x.okR) {σ : PS} {k : Nat} {u : List UInt8} {rest : Txt} (hw : σ.at_ ≤ ts.length) (he : σ.err = 0) (hr : rem ts σ = x.tks ++ u :: rest) (hu : binOf u = none) (hp : u ≠ [40]) (hk : 4 * x.tks.length + 4 ≤ k) : exprF ts n k 1 σ = (x, adv σ x.tks.length) := by
 obtain ⟨k', h1, h2⟩ := h.e σ k 1 _ hw he hr (nopar_of hp _) (fun hk => ⟨(level_pos (okR_op hx hk)).1, stop_of hu _ _⟩) hk; rw [h2]
 exact climb_stopR (rem_leF hw hr) he (by omega) (by rw [rem_adv hr]; exact stop_of hu _ _)
theorem RdC.par {x : Nd} (h : RdC ts n x) (hx : x.okR) {σ : PS} {k : Nat} {rest : Txt} (hw : σ.at_ ≤ ts.length) (he : σ.err = 0) (hr : rem ts σ = [40] :: (x.tks ++ [41] :: rest)) (hk : 4 * (x.tks.length + 2) + 3 ≤ k) : primF ts n k σ = (x, adv σ (x.tks.length + 2)) := by
 obtain ⟨k, rfl⟩ : ∃ j, k = j + 1 := ⟨k - 1, by omega⟩; have h1 := rem_cons hr; have hw1 : (adv σ 1).at_ ≤ ts.length := rem_lt hr; rw [primF_of k hr he, if_neg (by decide), if_neg (by decide), if_neg (by decide), if_neg (by decide), if_neg (by decide), if_neg (by decide), if_neg (by decide), if_pos rfl]; rw [h.full hx hw1 he h1 (by decide) (by decide) (by omega)]; have h2 := rem_adv h1; rw [adv_adv] at h2 ⊢; simp only; rw [expect_cons h2 he, adv_adv]
 congr 2; omega
theorem toks_pw' (b : Bool) (x : Nd) : toks (pw b x.fpcs) = if b then [40] :: (x.tks ++ [[41]]) else x.tks := toks_pw b x.fpcs
theorem RdC.opd {x : Nd} (h : RdC ts n x) (hx : x.okR) (b : Bool) {σ : PS} {k : Nat} {lv : Int} {rest : Txt} (hw : σ.at_ ≤ ts.length) (he : σ.err = 0) (hr : rem ts σ = toks (pw b x.fpcs) ++ rest) (hn : NoPar rest) (hs : b = false → x.kind = 82 → lv ≤ level x.num ∧ StopL (level x.num + 1) rest) (hk : 4 * (toks (pw b x.fpcs)).length + 4 ≤ k) :
 ∃ k', k ≤ k' + 4 * (toks (pw b x.fpcs)).length ∧ exprF ts n k lv σ = climbF ts n k' lv x (adv σ (toks (pw b x.fpcs)).length) := by
 rw [toks_pw'] at *
 cases b with
 | false =>
  simp only [Bool.false_eq_true, if_false] at *
  exact h.e σ k lv rest hw he hr hn (hs trivial) hk
 | true =>
  simp only [if_true] at *; obtain ⟨k, rfl⟩ : ∃ j, k = j + 1 := ⟨k - 1, by omega⟩; simp only [List.cons_append, List.append_assoc, List.nil_append, List.length_cons, List.length_append, List.length_nil] at hr hk ⊢; refine ⟨k, by omega, ?_⟩; rw [exprF, h.par hx hw he hr (by omega)]
theorem RdC.opdp {x : Nd} (h : RdC ts n x) (hx : x.okR) (b : Bool) {σ : PS} {k : Nat} {rest : Txt} (hw : σ.at_ ≤ ts.length) (he : σ.err = 0) (hr : rem ts σ = toks (pw b x.fpcs) ++ rest) (hn : NoPar rest) (hs : b = false → x.kind ≠ 82) (hk : 4 * (toks (pw b x.fpcs)).length + 3 ≤ k) :
 primF ts n k σ = (x, adv σ (toks (pw b x.fpcs)).length) := by
 rw [toks_pw'] at *
 cases b with
 | false =>
  simp only [Bool.false_eq_true, if_false] at *
  exact h.p σ k rest hw he (hs trivial) hr hn hk
 | true =>
  simp only [if_true] at *; simp only [List.cons_append, List.append_assoc, List.nil_append, List.length_cons, List.length_append, List.length_nil] at hr hk ⊢; rw [h.par hx hw he hr (by omega)]
theorem brace_read {x : Nd} (h : RdC ts n x) (hx : x.okR) {σ : PS} {k : Nat} {rest : Txt} (he : σ.err = 0) (hr : rem ts σ = [123] :: (x.tks ++ [125] :: rest)) (hk : 4 * x.tks.length + 5 ≤ k) : braceF ts n k σ = (x, adv σ (x.tks.length + 2)) := by
 obtain ⟨k, rfl⟩ : ∃ j, k = j + 1 := ⟨k - 1, by omega⟩; have h1 := rem_cons hr; have hw1 : (adv σ 1).at_ ≤ ts.length := rem_lt hr; rw [braceF]; rw [expect_cons hr he, h.full hx hw1 he h1 (by decide) (by decide) (by omega)]; have h2 := rem_adv h1; rw [adv_adv] at h2 ⊢; simp only; rw [expect_cons h2 he, adv_adv]
 congr 2; omega
theorem more_read : ∀ (r : List Nd) (acc : List Nd) (σ : PS) (k : Nat) (rest : Txt), (∀ x ∈ r, RdC ts n x ∧ x.okR) → σ.at_ ≤ ts.length → σ.err = 0 → rem ts σ = tailA r ++ [41] :: rest → 4 * (tailA r).length + 1 ≤ k → moreF ts n k acc σ = (acc ++ r, adv σ (tailA r).length)
 | [], acc, σ, k, rest, _, hw, he, hr, hk => by
  obtain ⟨k, rfl⟩ : ∃ j, k = j + 1 := ⟨k - 1, by omega⟩; rw [moreF, has_cons hr he]
  simp [tailA, adv_0]
 | x :: r, acc, σ, k, rest, hR, hw, he, hr, hk => by
  obtain ⟨k, rfl⟩ : ∃ j, k = j + 1 := ⟨k - 1, by omega⟩; simp only [tailA, List.cons_append, List.append_assoc, List.length_cons, List.length_append] at hr hk ⊢; rw [moreF, has_cons hr he, if_pos (by decide), next_adv]; obtain ⟨hx, hok⟩ := hR x (by simp); have h1 := rem_cons hr; have hw1 : (adv σ 1).at_ ≤ ts.length := rem_lt hr
  obtain ⟨u, w, e, hu, hp⟩ : ∃ u w, tailA r ++ [41] :: rest = u :: w ∧ binOf u = none ∧ u ≠ [40] := by
   cases r with
   | nil => exact ⟨_, _, rfl, by decide, by decide⟩
   | cons y r => exact ⟨_, _, rfl, by decide, by decide⟩
  rw [hx.full hok hw1 he (by rw [h1, e]) hu hp (by omega)]; simp only; have h2 := rem_adv h1; have hw2 : (adv (adv σ 1) x.tks.length).at_ ≤ ts.length := rem_leF hw1 h1; rw [more_read r (acc ++ [x]) _ k rest (fun y hy => hR y (by simp [hy])) hw2 he h2 (by omega), adv_adv, adv_adv]; simp only [List.append_assoc, List.singleton_append]
  congr 2; omega
theorem args1_read {x : Nd} (h : RdC ts n x) (hx : x.okR) {σ : PS} {k : Nat} {rest : Txt} (he : σ.err = 0) (hr : rem ts σ = [40] :: (x.tks ++ [41] :: rest)) (hk : 4 * x.tks.length + 5 ≤ k) : args1F ts n k σ = ([x], adv σ (x.tks.length + 2)) := by
 obtain ⟨k, rfl⟩ : ∃ j, k = j + 1 := ⟨k - 1, by omega⟩; have h1 := rem_cons hr; have hw1 : (adv σ 1).at_ ≤ ts.length := rem_lt hr; rw [args1F]; rw [expect_cons hr he, h.full hx hw1 he h1 (by decide) (by decide) (by omega)]; have h2 := rem_adv h1; rw [adv_adv] at h2 ⊢; simp only; rw [expect_cons h2 he, adv_adv]
 congr 2; omega
theorem args2_read {x y : Nd} (h : RdC ts n x) (hx : x.okR) (hh : RdC ts n y) (hy : y.okR) {σ : PS} {k : Nat} {rest : Txt} (he : σ.err = 0) (hr : rem ts σ = [40] :: (x.tks ++ [44] :: (y.tks ++ [41] :: rest))) (hk : 4 * x.tks.length + 4 * y.tks.length + 5 ≤ k) : args2F ts n k σ = ([x, y], adv σ (x.tks.length + y.tks.length + 3)) := by
 obtain ⟨k, rfl⟩ : ∃ j, k = j + 1 := ⟨k - 1, by omega⟩; have h1 := rem_cons hr; have hw1 : (adv σ 1).at_ ≤ ts.length := rem_lt hr; rw [args2F]; rw [expect_cons hr he, h.full hx hw1 he h1 (by decide) (by decide) (by omega)]; have h2 := rem_adv h1; rw [adv_adv] at h2 ⊢; simp only; have h3 := rem_cons h2; have hw3 : (adv (adv σ (1 + x.tks.length)) 1).at_ ≤ ts.length := rem_lt h2; rw [expect_cons h2 he, hh.full hy hw3 he h3 (by decide) (by decide) (by omega)]; have h4 := rem_adv h3; rw [adv_adv, adv_adv] at h4 ⊢; simp only; rw [expect_cons h4 he, adv_adv]
 congr 2; omega
theorem isName_ne' {s u : List UInt8} (h : isName s = true) (hu : isName u = false) : s ≠ u := by rintro rfl; rw [h] at hu; cases hu
theorem name_dig {s : List UInt8} (h : isName s = true) : startsDigit s = false := (name_not h).2.2.2.2.2
theorem call_read {s : List UInt8} (hs : isName s = true) {l : List Nd} (hR : ∀ x ∈ l, RdC ts n x ∧ x.okR) {σ : PS} {k : Nat} {rest : Txt} (he : σ.err = 0) (hr : rem ts σ = s :: [40] :: (argsA l ++ [41] :: rest)) (hk : 4 * (argsA l).length + 6 ≤ k) : namedF ts n k σ = (.mk 85 0 s l, adv σ ((argsA l).length + 3)) := by
 obtain ⟨k, rfl⟩ : ∃ j, k = j + 1 := ⟨k - 1, by omega⟩; have h1 := rem_cons hr; have h2 := rem_cons h1; rw [adv_adv] at h2; rw [namedF]; simp only; rw [name_cons hr he hs]; simp only; rw [has_cons h1 he, if_pos (by decide), next_adv, adv_adv]
 cases l with
 | nil =>
  simp only [argsA, List.nil_append] at h2; rw [has_cons h2 he, if_pos (by decide), next_adv, adv_adv]
  rfl
 | cons x r =>
  obtain ⟨hx, hok⟩ := hR x (by simp); simp only [argsA, List.append_assoc, List.length_append] at h2 hk ⊢; have hw2 : (adv σ 2).at_ ≤ ts.length := rem_lt h1
  obtain ⟨u, w, e, hu, hp⟩ : ∃ u w, tailA r ++ [41] :: rest = u :: w ∧ binOf u = none ∧ u ≠ [40] := by
   cases r with
   | nil => exact ⟨_, _, rfl, by decide, by decide⟩
   | cons y r => exact ⟨_, _, rfl, by decide, by decide⟩
  have hnp : hasP ts (adv σ (1 + 1)) [41] = false := by
   obtain ⟨t, q, e1, hne⟩ := tks_head x hok; rw [e1] at h2; rw [has_cons h2 he]
   exact decide_eq_false hne
  rw [hnp, if_neg (by simp), hx.full hok hw2 he (by rw [h2, e]) hu hp (by omega)]; simp only; have h3 := rem_adv h2; have hw3 : (adv (adv σ 2) x.tks.length).at_ ≤ ts.length := rem_leF hw2 h2; rw [more_read r [x] _ k rest (fun y hy => hR y (by simp [hy])) hw3 he h3 (by omega)]; simp only [List.singleton_append]; have h4 := rem_adv h3; rw [adv_adv, adv_adv] at h4 ⊢; rw [expect_cons h4 he, adv_adv]
  congr 2; omega
end
theorem formN_80 {n : Int} {s : List UInt8} {c : Nat} (h : formN 80 n s c = true) : s = [] ∧ c = 0 := by
 simp [formN] at h; exact ⟨h.1.2, h.2⟩
theorem formN_81 {n : Int} {s : List UInt8} {c : Nat} (h : formN 81 n s c = true) : n = 0 ∧ c = 0 := by
 simp [formN] at h; exact h
theorem formN_82s {n : Int} {s : List UInt8} {c : Nat} (h : formN 82 n s c = true) : s = [] := by
 simp [formN] at h; exact h.1.2
theorem formN_83s {n : Int} {s : List UInt8} {c : Nat} (h : formN 83 n s c = true) : n = 0 ∧ s = [] := by
 simp [formN] at h; exact h.1
theorem formN_84n {n : Int} {s : List UInt8} {c : Nat} (h : formN 84 n s c = true) : n = 0 := by
 simp [formN] at h; exact h.1.1
theorem formN_85n {n : Int} {s : List UInt8} {c : Nat} (h : formN 85 n s c = true) : n = 0 := by
 simp [formN] at h; exact h
theorem formN_86s {n : Int} {s : List UInt8} {c : Nat} (h : formN 86 n s c = true) : n = 0 ∧ s = [] ∧ c = 0 := by
 simp [formN] at h; exact ⟨h.1.1, h.1.2, h.2⟩
theorem formN_87s {n : Int} {s : List UInt8} {c : Nat} (h : formN 87 n s c = true) : n = 0 ∧ s = [] ∧ c = 2 := by
 simp [formN] at h; exact ⟨h.1.1, h.1.2, h.2⟩
theorem formN_88s {k n : Int} {s : List UInt8} {c : Nat} (hk : k = 88 ∨ k = 89 ∨ k = 90) (h : formN k n s c = true) : n = 0 ∧ s = [] ∧ c = 1 := by
 rcases hk with rfl | rfl | rfl <;> (simp [formN] at h; exact ⟨h.1.1, h.1.2, h.2⟩)
theorem dig_ne {s u : List UInt8} (h : startsDigit s = true) (hu : startsDigit u = false) : s ≠ u := by rintro rfl; rw [h] at hu; cases hu
theorem toks_op (n : Int) (a b : List Pc) : toks (opP n a b) = toks a ++ symbol n :: toks b := by
 simp only [opP, spp, toks_append, toks]
theorem toks_if (a b c : List Pc) : toks (ifP a b c) = [105, 102] :: (toks a ++ [123] :: (toks b ++ [125] :: [101, 108, 115, 101] :: [123] :: (toks c ++ [[125]]))) := by
 simp only [ifP, spp, toks_append, toks]
theorem toks_let (s : List UInt8) (a b : List Pc) : toks (letP s a b) = [108, 111, 99, 97, 108] :: s :: [61] :: (toks a ++ [123] :: (toks b ++ [[125]])) := by
 simp only [letP, spp, toks_append, toks]
theorem wrapB_false {lv : Int} {h : Int × Int} (e : wrapB lv h = false) (hk : h.1 = 82) : lv ≤ level h.2 := by
 unfold wrapB at e
 rw [decide_eq_true hk, Bool.true_and, decide_eq_false_iff_not] at e
 omega
theorem sym_ne {op : Int} (h0 : 8 ≤ op) (h1 : op ≤ 23) : symbol op ≠ [40] := by
 have : op = 8 ∨ op = 9 ∨ op = 10 ∨ op = 11 ∨ op = 12 ∨ op = 13 ∨ op = 14 ∨ op = 15 ∨ op = 16 ∨ op = 17 ∨ op = 18 ∨ op = 19 ∨ op = 20 ∨ op = 21 ∨ op = 22 ∨ op = 23 := by omega
 rcases this with rfl | rfl | rfl | rfl | rfl | rfl | rfl | rfl | rfl | rfl | rfl | rfl | rfl | rfl | rfl | rfl <;> decide
theorem binOf_sym {k : Int} (h0 : 8 ≤ k) (h1 : k ≤ 23) : binOf (symbol k) = some k := by
 have : k = 8 ∨ k = 9 ∨ k = 10 ∨ k = 11 ∨ k = 12 ∨ k = 13 ∨ k = 14 ∨ k = 15 ∨ k = 16 ∨ k = 17 ∨ k = 18 ∨ k = 19 ∨ k = 20 ∨ k = 21 ∨ k = 22 ∨ k = 23 := by omega
 rcases this with rfl | rfl | rfl | rfl | rfl | rfl | rfl | rfl | rfl | rfl | rfl | rfl | rfl | rfl | rfl | rfl <;> decide
section
variable {ts : List Tok} {n : Int}
theorem rd_prim {x : Nd} (hx : x.okR) (hk : x.kind ≠ 82) (p : ∀ (σ : PS) (k : Nat) (rest : Txt), σ.at_ ≤ ts.length → σ.err = 0 → rem ts σ = x.tks ++ rest → NoPar rest → 4 * x.tks.length + 3 ≤ k → primF ts n k σ = (x, adv σ x.tks.length)) : RdC ts n x := by
 refine ⟨fun σ k rest hw he _ hr hn hk => p σ k rest hw he hr hn hk, fun σ k lv rest hw he hr hn _ hk => ?_⟩; obtain ⟨k, rfl⟩ : ∃ j, k = j + 1 := ⟨k - 1, by omega⟩; obtain ⟨t, r, e, -⟩ := tks_head x hx
 have hl : 1 ≤ x.tks.length := by rw [e]; simp
 exact ⟨k, by omega, by rw [exprF, p σ k rest hw he hr hn (by omega)]⟩
theorem rd_op {op : Int} {a b : Nd} (h0 : 8 ≤ op) (h1 : op ≤ 23) (ha : RdC ts n a) (hb : RdC ts n b) (oa : a.okR) (ob : b.okR) : RdC ts n (.mk 82 op [] [a, b]) := by
 refine ⟨fun σ k rest hw he hk => absurd rfl hk, fun σ k lv rest hw he hr hn hs hk => ?_⟩; obtain ⟨hl, hs⟩ := hs rfl
 have et : (Nd.mk 82 op [] [a, b]).tks = toks (pw (wrapB (level op) (a.kind, a.num)) a.fpcs) ++ symbol op :: toks (pw (wrapB (level op + 1) (b.kind, b.num)) b.fpcs) := by
  show toks (opP op _ _) = _
  rw [toks_op]; rfl
 rw [et] at hr hk ⊢; simp only [List.append_assoc, List.cons_append, List.length_append, List.length_cons] at hr hk ⊢; have hl' : lv ≤ level op := hl; have hs' : StopL (level op + 1) rest := hs
 obtain ⟨k1, e1, e2⟩ := ha.opd oa _ (lv := lv) hw he hr (nopar_of (sym_ne h0 h1) _) (fun e hk => by
  have this0 := wrapB_false e hk; refine ⟨Int.le_trans hl' this0, fun t ht o ho => ?_⟩
  have : symbol op = t := by simpa using ht
  subst this; rw [binOf_sym h0 h1] at ho
  cases ho
  have this : level op ≤ level a.num := this0
  omega) (k := k) (by omega)
 generalize hA : toks (pw (wrapB (level op) (a.kind, a.num)) a.fpcs) = A at *
 have hr1 := rem_adv hr; have hw1 := rem_leF hw hr; obtain ⟨k1, rfl⟩ : ∃ j, k1 = j + 1 := ⟨k1 - 1, by omega⟩; have hr2 := rem_cons hr1; have hw2 : (adv (adv σ A.length) 1).at_ ≤ ts.length := rem_lt hr1
 obtain ⟨k2, e3, e4⟩ := hb.opd ob _ (lv := level op + 1) (k := k1) hw2 he hr2 hn (fun e hk => by
  have this0 : level op + 1 ≤ level b.num := wrapB_false e hk
  exact ⟨this0, fun t ht o ho => by have := hs' t ht o ho; omega⟩) (by omega)
 generalize hB : toks (pw (wrapB (level op + 1) (b.kind, b.num)) b.fpcs) = B at *
 have hr3 := rem_adv hr2; have hw3 := rem_leF hw2 hr2
 have e5 : exprF ts n k1 (level op + 1) (adv (adv σ A.length) 1) = (b, adv (adv (adv σ A.length) 1) B.length) := by
  rw [e4]
  exact climb_stopR hw3 he (by omega) (by rw [hr3]; exact hs')
 refine ⟨k1, by omega, ?_⟩; rw [e2, climb_op (σ := adv σ A.length) he hr1 (binOf_sym h0 h1) hl', e5, adv_adv, adv_adv]
 congr 1
 simp only [adv]
 congr 1; omega
theorem rd_all (hd : DigitKinds ts) (N : Nat) : ∀ t : Nd, t.size < N → t.okR → RdC ts n t := by
 induction N with
 | zero => intro t h; omega
 | succ N ih =>
  intro t hs hok; obtain ⟨k, m, s, l⟩ := t; have hok0 := hok; simp only [Nd.okR] at hok; obtain ⟨f1, f2, f3, f4, f5⟩ := hok; simp only [Nd.size] at hs
  have hI : ∀ x ∈ l, RdC ts n x ∧ x.okR := fun x hx => ⟨ih x (by have := size_mem hx; omega) (rowOkR_mem f5 hx), rowOkR_mem f5 hx⟩
  by_cases k2 : k = 82
  · subst k2
    obtain ⟨a1, a2, a3⟩ := formN_82 f1; obtain rfl := formN_82s f1; obtain ⟨x, y, rfl⟩ := len2 a3; obtain ⟨hx, ox⟩ := hI x (by simp); obtain ⟨hy, oy⟩ := hI y (by simp)
    exact rd_op a1 a2 hx hy ox oy
  refine rd_prim hok0 k2 (fun σ k' rest hw he hr hn hk => ?_); obtain ⟨k', rfl⟩ : ∃ j, k' = j + 1 := ⟨k' - 1, by omega⟩; have hT : (Nd.mk k m s l).tks = toks (pcsN k m s (rowPcs l) (l.map fun t => (t.kind, t.num))) := rfl; rw [hT] at hr hk ⊢
  unfold pcsN at hr hk ⊢
  by_cases k0 : k = 80
  · subst k0
    simp only [if_true, toks, List.cons_append, List.nil_append, List.length_cons, List.length_nil] at hr hk ⊢; obtain ⟨rfl, hl⟩ := formN_80 f1; obtain rfl : l = [] := List.eq_nil_of_length_eq_zero hl; have h0 := formN_num f1; obtain ⟨h1, h2, h3⟩ := dec_val m.toNat; rw [← itoa_dec h0] at h1 h2 h3
    have hsd : startsDigit (Lib.itoa m) = true := by
     cases hi : Lib.itoa m with
     | nil => exact absurd hi h3
     | cons c r => rw [hi] at h2; have := h2 c (by simp); simpa [startsDigit] using this
    have hne : ∀ u, startsDigit u = false → Lib.itoa m ≠ u := fun u hu => dig_ne hsd hu
    rw [primF_of k' hr he, if_neg (hne _ (by decide)), if_neg (hne _ (by decide)), if_neg (hne _ (by decide)), if_neg (hne _ (by decide)), if_neg (hne _ (by decide)), if_neg (hne _ (by decide)), if_neg (hne _ (by decide)), if_neg (hne _ (by decide)), if_pos ((kind_dig hd hr he).2 hsd)]
    unfold fnumP
    rw [peek_cons hr he, h1]
    have : ((m.toNat : Nat) : Int) = m := by omega
    rw [this, if_pos f4]; rfl
  rw [if_neg k0] at hr hk ⊢
  by_cases k1 : k = 81
  · subst k1
    simp only [if_true, toks, List.cons_append, List.nil_append, List.length_cons, List.length_nil] at hr hk ⊢; obtain ⟨rfl, hl⟩ := formN_81 f1; obtain rfl : l = [] := List.eq_nil_of_length_eq_zero hl; have hnm := f2 (Or.inl rfl)
    have hne : ∀ u, isName u = false → s ≠ u := fun u hu => isName_ne' hnm hu
    rw [primF_of k' hr he, if_neg (hne _ (by decide)), if_neg (hne _ (by decide)), if_neg (hne _ (by decide)), if_neg (hne _ (by decide)), if_neg (hne _ (by decide)), if_neg (hne _ (by decide)), if_neg (hne _ (by decide)), if_neg (hne _ (by decide)), if_neg (fun e => by rw [kind_dig hd hr he, name_dig hnm] at e; cases e)]; obtain ⟨k', rfl⟩ : ∃ j, k' = j + 1 := ⟨k' - 1, by omega⟩; rw [namedF]; simp only; rw [name_cons hr he hnm]; simp only; have h1 := rem_cons hr; have hw1 : (adv σ 1).at_ ≤ ts.length := rem_lt hr
    have : hasP ts (adv σ 1) [40] = false := by
     rw [has_remF hw1 he, h1]
     cases rest with
     | nil => decide
     | cons u r => exact decide_eq_false (hn u rfl)
    rw [this]; rfl
  rw [if_neg k1] at hr hk ⊢; rw [if_neg k2] at hr hk ⊢
  by_cases k3 : k = 83
  · subst k3
    simp only [if_true] at hr hk ⊢; obtain ⟨rfl, rfl⟩ := formN_83s f1; obtain ⟨x, y, z, rfl⟩ := len3 (formN_83' f1); obtain ⟨hx, ox⟩ := hI x (by simp); obtain ⟨hy, oy⟩ := hI y (by simp); obtain ⟨hz, oz⟩ := hI z (by simp); rw [toks_if] at hr hk ⊢; simp only [rowPcs, List.getD_cons_zero, List.getD_cons_succ] at hr hk ⊢; rw [show toks x.fpcs = x.tks from rfl, show toks y.fpcs = y.tks from rfl, show toks z.fpcs = z.tks from rfl] at hr hk ⊢; simp only [List.append_assoc, List.cons_append, List.nil_append, List.length_append, List.length_cons, List.length_nil] at hr hk ⊢; rw [primF_of k' hr he, if_neg (by decide), if_neg (by decide), if_neg (by decide), if_neg (by decide), if_neg (by decide), if_pos rfl]; obtain ⟨k', rfl⟩ : ∃ j, k' = j + 1 := ⟨k' - 1, by omega⟩; rw [ifF]; have h1 := rem_cons hr; have hw1 : (adv σ 1).at_ ≤ ts.length := rem_lt hr; rw [expect_cons hr he, hx.full ox hw1 he h1 (by decide) (by decide) (by omega)]; simp only; have h2 := rem_adv h1; rw [adv_adv] at h2 ⊢; rw [brace_read hy oy (by exact he) h2 (by omega)]; simp only
    have h3 : rem ts (adv (adv σ (1 + x.tks.length)) (y.tks.length + 2)) = [101, 108, 115, 101] :: [123] :: (z.tks ++ [125] :: rest) := by
     have := rem_adv (a := [123] :: (y.tks ++ [[125]])) (b := [101, 108, 115, 101] :: [123] :: (z.tks ++ [125] :: rest)) (by rw [h2]; simp)
     have e : ([123] :: (y.tks ++ [[125]])).length = y.tks.length + 2 := by simp
     rw [e] at this; exact this
    rw [adv_adv] at h3 ⊢; have h4 := rem_cons h3; rw [expect_cons h3 he, brace_read hz oz (by exact he) h4 (by omega), adv_adv, adv_adv]; simp only
    congr 2; omega
  rw [if_neg k3] at hr hk ⊢
  by_cases k4 : k = 84
  · subst k4
    simp only [if_true] at hr hk ⊢; obtain rfl := formN_84n f1; obtain ⟨x, y, rfl⟩ := len2 (formN_84 f1).2; obtain ⟨hx, ox⟩ := hI x (by simp); obtain ⟨hy, oy⟩ := hI y (by simp); have hnm := f2 (Or.inr (Or.inl rfl)); rw [toks_let] at hr hk ⊢; simp only [rowPcs, List.getD_cons_zero, List.getD_cons_succ] at hr hk ⊢; rw [show toks x.fpcs = x.tks from rfl, show toks y.fpcs = y.tks from rfl] at hr hk ⊢; simp only [List.append_assoc, List.cons_append, List.nil_append, List.length_append, List.length_cons, List.length_nil] at hr hk ⊢; rw [primF_of k' hr he, if_neg (by decide), if_neg (by decide), if_neg (by decide), if_neg (by decide), if_neg (by decide), if_neg (by decide), if_pos rfl]; obtain ⟨k', rfl⟩ : ∃ j, k' = j + 1 := ⟨k' - 1, by omega⟩; rw [letF]; have h1 := rem_cons hr; rw [expect_cons hr he, name_cons h1 he hnm]; simp only; have h2 := rem_cons h1; rw [adv_adv] at h2 ⊢; have h3 := rem_cons h2; have hw3 : (adv (adv σ (1 + 1)) 1).at_ ≤ ts.length := rem_lt h2; rw [expect_cons h2 he, hx.full ox hw3 he h3 (by decide) (by decide) (by omega)]; simp only; have h4 := rem_adv h3; rw [brace_read hy oy (by exact he) h4 (by omega), adv_adv, adv_adv, adv_adv]; simp only
    congr 2; omega
  rw [if_neg k4] at hr hk ⊢
  by_cases k6 : k = 86
  · subst k6
    obtain ⟨rfl, rfl, hl⟩ := formN_86s f1; obtain rfl : l = [] := List.eq_nil_of_length_eq_zero hl; simp only [if_true, toks, List.cons_append, List.nil_append, List.length_cons, List.length_nil] at hr hk ⊢; rw [primF_of k' hr he, if_pos rfl, expect_cons (rem_cons hr) he, adv_adv]
  rw [if_neg k6] at hr hk ⊢
  by_cases k7 : k = 87
  · subst k7
    simp only [if_true] at hr hk ⊢; obtain ⟨rfl, rfl, hl⟩ := formN_87s f1; obtain ⟨x, y, rfl⟩ := len2 hl; obtain ⟨hx, ox⟩ := hI x (by simp); obtain ⟨hy, oy⟩ := hI y (by simp); rw [toks_app] at hr hk ⊢; simp only [argsA, tailA, List.append_nil, List.append_assoc, List.cons_append, List.nil_append, List.length_append, List.length_cons, List.length_nil] at hr hk ⊢; rw [primF_of k' hr he, if_neg (by decide), if_pos rfl, args2_read (σ := adv σ 1) hx ox hy oy he (rem_cons hr) (by omega), adv_adv]; simp only
    congr 2; omega
  rw [if_neg k7] at hr hk ⊢
  by_cases k9 : k = 89
  · subst k9
    simp only [if_true] at hr hk ⊢; obtain ⟨rfl, rfl, hl⟩ := formN_88s (Or.inr (Or.inl rfl)) f1; obtain ⟨x, rfl⟩ := len1 hl; obtain ⟨hx, ox⟩ := hI x (by simp); rw [toks_app] at hr hk ⊢; simp only [argsA, tailA, List.append_nil, List.append_assoc, List.cons_append, List.nil_append, List.length_append, List.length_cons, List.length_nil] at hr hk ⊢; rw [primF_of k' hr he, if_neg (by decide), if_neg (by decide), if_pos rfl, args1_read (σ := adv σ 1) hx ox he (rem_cons hr) (by omega), adv_adv]; simp only
    congr 2; omega
  rw [if_neg k9] at hr hk ⊢
  by_cases k8 : k = 88
  · subst k8
    simp only [if_true] at hr hk ⊢; obtain ⟨rfl, rfl, hl⟩ := formN_88s (Or.inl rfl) f1; obtain ⟨x, rfl⟩ := len1 hl; obtain ⟨hx, ox⟩ := hI x (by simp); rw [toks_app] at hr hk ⊢; simp only [argsA, tailA, List.append_nil, List.append_assoc, List.cons_append, List.nil_append, List.length_append, List.length_cons, List.length_nil] at hr hk ⊢; rw [primF_of k' hr he, if_neg (by decide), if_neg (by decide), if_neg (by decide), if_pos rfl, args1_read (σ := adv σ 1) hx ox he (rem_cons hr) (by omega), adv_adv]; simp only
    congr 2; omega
  rw [if_neg k8] at hr hk ⊢
  by_cases k10 : k = 90
  · subst k10
    simp only [if_true] at hr hk ⊢; obtain ⟨rfl, rfl, hl⟩ := formN_88s (Or.inr (Or.inr rfl)) f1; obtain ⟨x, rfl⟩ := len1 hl; obtain ⟨hx, ox⟩ := hI x (by simp); simp only [rowPcs, List.map_cons, List.map_nil, List.getD_cons_zero, toks, List.cons_append, List.length_cons] at hr hk ⊢; rw [primF_of k' hr he, if_neg (by decide), if_neg (by decide), if_neg (by decide), if_neg (by decide), if_pos rfl]; have hw1 : (adv σ 1).at_ ≤ ts.length := rem_lt hr
    rw [hx.opdp ox _ hw1 he (rem_cons hr) hn (fun e hk => by
     have h1 := wrapB_false e hk; have h2 := (level_pos (okR_op ox hk)).2; simp only at h1
     omega) (by omega), adv_adv]
    simp only
    congr 2; omega
  rw [if_neg k10] at hr hk ⊢
  obtain rfl : k = 85 := by omega
  obtain rfl := formN_85n f1; have hnm := f2 (Or.inr (Or.inr rfl)); rw [toks_app] at hr hk ⊢; simp only [List.append_assoc, List.cons_append, List.nil_append, List.length_append, List.length_cons, List.length_nil] at hr hk ⊢
  have hne : ∀ u, isName u = false → s ≠ u := fun u hu => isName_ne' hnm hu
  rw [primF_of k' hr he, if_neg (hne _ (by decide)), if_neg (hne _ (by decide)), if_neg (hne _ (by decide)), if_neg (hne _ (by decide)), if_neg (hne _ (by decide)), if_neg (hne _ (by decide)), if_neg (hne _ (by decide)), if_neg (hne _ (by decide)), if_neg (fun e => by rw [kind_dig hd hr he, name_dig hnm] at e; cases e)]; rw [call_read hnm hI he hr (by omega)]
end
end Bk
namespace Bk
open Go
def paramP (p : FP) : List Pc := [.tk (typeT p.list), spp, .tk p.name]
def tailFn (f : FD) : List Pc := spp :: .tk (typeT f.list) :: spp :: .tk [123] :: spp :: (f.body.fpcs ++ (spp :: .tk [125] :: [.sp [10]]))
def fnP (f : FD) : List Pc := .tk [112, 114, 111, 99] :: spp :: .tk f.name :: .tk [40] :: (commaP (f.params.map paramP) ++ (.tk [41] :: tailFn f))
def fnsP (l : List FD) : List Pc := (l.map fnP).flatten
theorem flat_fnP (f : FD) : flat (fnP f) = funT f := by
 have hp : (f.params.map paramP).map flat = f.params.map paramT := by
  rw [List.map_map]
  congr 1
  funext p
  simp [paramP, spp, flat, paramT]
 simp only [fnP, tailFn, spp, flat, flat_append, flat_comma, hp, flat_fpcs, funT, headT, tailT, List.append_assoc, List.cons_append, List.nil_append, List.append_nil]
theorem flat_fnsP : ∀ l : List FD, flat (fnsP l) = libT l
 | [] => rfl
 | f :: r => by
  have := flat_fnsP r
  unfold fnsP libT at *
  simp only [List.map_cons, List.flatten_cons, flat_append, flat_fnP, this]
theorem typeT_tok (b : Bool) : TokT (typeT b) ∧ (firstTok (typeT b)).1 = 1 ∧ ∀ c ∈ (typeT b).head?, letter c = true := by
 cases b
 · exact ⟨tokT_lit (by decide), by decide, by simp [typeT]; decide⟩
 · exact ⟨tokT_lit (by decide), by decide, by simp [typeT]; decide⟩
theorem paramP_nice {p : FP} (h : isName p.name = true) : Nice (paramP p) := by
 obtain ⟨t1, t2, t3⟩ := typeT_tok p.list
 exact Nice.cons t1 (fun c hc => letter_open (t3 c hc)) (wf_spp (wf_none (tokT_name h).1 trivial)) ⟨_, rfl, closeT_name (tokT_name h).2⟩
theorem tailFn_wf {f : FD} (h : f.body.okR) (p : Option (List UInt8)) : wf p (tailFn f) ∧ endOf p (tailFn f) = none := by
 obtain ⟨t1, t2, -⟩ := tokB; have hb := fpcs_nice _ h; refine ⟨wf_spp (wf_none (typeT_tok f.list).1 (wf_spp (wf_none t1 (wf_spp (hb.then openP_none (wf_none t2 ⟨by decide, trivial⟩)))))), ?_⟩
 show endOf none (f.body.fpcs ++ _) = _
 rw [end_then]; rfl
theorem fnP_wf {f : FD} (h : GoodR f) : wf none (fnP f) ∧ endOf none (fnP f) = none := by
 obtain ⟨t1, t2, t3, t4, -⟩ := tokB; have hw := tokT_name h.name; have hT := tailFn_wf h.ok
 have hadj : ∀ t0 ∈ some f.name, ∀ c ∈ ([40] : List UInt8).head?, Adj t0 c := fun u hu c hc => by
  have : c = 40 := by simpa using hc.symm
  have : f.name = u := by simpa using hu
  subst_vars
  exact ⟨fun _ => (by decide), fun e => (by rw [hw.2] at e; cases e), fun e => (by rw [hw.2] at e; cases e)⟩
 have hn : ∀ x ∈ f.params.map paramP, Nice x := fun x hx => by
  obtain ⟨p, hp, rfl⟩ := List.mem_map.1 hx
  exact paramP_nice (h.par p hp)
 have hmid : wf (some [40]) (commaP (f.params.map paramP) ++ (.tk [41] :: tailFn f)) := by
  by_cases hl : f.params.map paramP = []
  · rw [hl]
    refine ⟨t4, fun u hu c hc => ?_, (hT _).1⟩
    have : c = 41 := by simpa using hc.symm
    have : [40] = u := by simpa using hu
    rw [← this]
    exact adj_open (by decide) (by subst_vars; decide)
  · have hc := nice_comma _ hn hl
    rw [wf_append]; obtain ⟨t, e, ct⟩ := hc.fin (some [40]); refine ⟨hc.wf _ (openP_sign (by decide)), t4, fun u hu c hc => ?_, (hT _).1⟩
    have : c = 41 := by simpa using hc.symm
    have : t = u := by rw [e] at hu; simpa using hu
    subst_vars; exact ct.1
 refine ⟨wf_none (tokT_lit (by decide)) (wf_spp ⟨hw.1, by simp, t3, hadj, hmid⟩), ?_⟩
 show endOf (some [40]) (commaP (f.params.map paramP) ++ (.tk [41] :: tailFn f)) = none
 rw [endOf_append]
 exact (hT (some [41])).2
theorem fnsP_wf : ∀ l : List FD, (∀ f ∈ l, GoodR f) → wf none (fnsP l)
 | [], _ => trivial
 | f :: r, h => by
  have h1 := fnP_wf (h f (by simp)); have h2 := fnsP_wf r (fun g hg => h g (by simp [hg]))
  show wf none ((List.map fnP (f :: r)).flatten)
  rw [List.map_cons, List.flatten_cons, wf_append, h1.2]
  exact ⟨h1.1, h2⟩
def tailQ : List FP → Txt
 | [] => []
 | p :: r => [44] :: typeT p.list :: p.name :: tailQ r
def parsQ : List FP → Txt
 | [] => []
 | p :: r => typeT p.list :: p.name :: tailQ r
theorem toks_params : ∀ l : List FP, toks (commaP (l.map paramP)) = parsQ l
 | [] => rfl
 | [p] => rfl
 | p :: q :: r => by
  have := toks_params (q :: r); simp only [List.map_cons] at this; simp only [List.map_cons, commaP, toks_append, toks, this]
  rfl
def FD.tks (f : FD) : Txt := [112, 114, 111, 99] :: f.name :: [40] :: (parsQ f.params ++ ([41] :: typeT f.list :: [123] :: (f.body.tks ++ [[125]])))
theorem toks_fnP (f : FD) : toks (fnP f) = f.tks := by
 simp only [fnP, tailFn, spp, toks, toks_append, toks_params, FD.tks, Nd.tks]
section
variable {ts : List Tok} {n : Int}
theorem list_read {b : Bool} {σ : PS} {r : Txt} (he : σ.err = 0) (hr : rem ts σ = typeT b :: r) : listP ts n σ = (b, adv σ 1) := by
 unfold listP
 rw [has_cons hr he]
 cases b with
 | false =>
  rw [if_neg (by decide)]; have : rem ts σ = [105, 110, 116] :: r := hr; rw [expect_cons this he]
 | true => rw [if_pos (by decide)]; rfl
theorem fparam_read {p : FP} (hp : isName p.name = true) {σ : PS} {r : Txt} (he : σ.err = 0) (hr : rem ts σ = typeT p.list :: p.name :: r) : fparamP ts n σ = (p, adv σ 2) := by
 unfold fparamP
 rw [list_read he hr]; simp only; rw [name_cons (rem_cons hr) he hp, adv_adv]
theorem fparams_read : ∀ (r : List FP) (p : FP) (acc : List FP) (σ : PS) (k : Nat) (rest : Txt), (∀ q ∈ p :: r, isName q.name = true) → σ.err = 0 → rem ts σ = typeT p.list :: p.name :: (tailQ r ++ [41] :: rest) → r.length + 1 ≤ k → fparamsP ts n k acc σ = (acc ++ p :: r, adv σ (2 + (tailQ r).length))
 | [], p, acc, σ, k, rest, hq, he, hr, hk => by
  obtain ⟨k, rfl⟩ : ∃ j, k = j + 1 := ⟨k - 1, by omega⟩; rw [fparamsP]; rw [fparam_read (hq p (by simp)) he hr]; simp only; have h1 := rem_cons (rem_cons hr); rw [adv_adv] at h1; rw [has_cons h1 he, if_neg (by decide)]
  rfl
 | q :: r, p, acc, σ, k, rest, hq, he, hr, hk => by
  obtain ⟨k, rfl⟩ : ∃ j, k = j + 1 := ⟨k - 1, by simp at hk; omega⟩; rw [fparamsP]; rw [fparam_read (hq p (by simp)) he hr]; simp only; have h1 := rem_cons (rem_cons hr); rw [adv_adv] at h1; simp only [tailQ, List.cons_append] at h1; have h2 := rem_cons h1; rw [has_cons h1 he, if_pos (by decide), next_adv]; rw [fparams_read r q (acc ++ [p]) _ k rest (fun x hx => hq x (List.mem_cons_of_mem _ hx)) (by exact he) h2 (by simp at hk; omega), adv_adv, adv_adv]; simp only [List.append_assoc, List.singleton_append, tailQ, List.length_cons]
  congr 2; omega
theorem tailQ_len : ∀ r : List FP, (tailQ r).length = 3 * r.length
 | [] => rfl
 | p :: r => by simp only [tailQ, List.length_cons, tailQ_len r]; omega
theorem parsQ_len (l : List FP) : l.length ≤ (parsQ l).length := by
 cases l with
 | nil => simp
 | cons p r => simp only [parsQ, List.length_cons, tailQ_len]; omega
theorem function_read (hd : DigitKinds ts) {f : FD} (h : GoodR f) {σ : PS} {k : Nat} {rest : Txt} (he : σ.err = 0) (hr : rem ts σ = f.tks ++ rest) (hk : 4 * f.tks.length + 5 ≤ k) : functionP ts n k σ = (f, adv σ f.tks.length) := by
 have hB := rd_all (n := n) hd (f.body.size + 1) f.body (Nat.lt_succ_self _) h.ok; have hpl := parsQ_len f.params
 unfold FD.tks at hr hk ⊢
 simp only [List.cons_append, List.append_assoc, List.nil_append, List.length_cons, List.length_append, List.length_nil] at hr hk ⊢; have h1 := rem_cons hr; have h2 := rem_cons h1; have h3 := rem_cons h2; rw [adv_adv] at h2; rw [adv_adv, adv_adv] at h3
 have key : ∀ τ : PS, τ = adv σ (3 + (parsQ f.params).length + 1) → rem ts τ = typeT f.list :: [123] :: (f.body.tks ++ [125] :: rest) → braceF ts n k (listP ts n τ).2 = (f.body, adv σ ((parsQ f.params).length + (f.body.tks.length + (0 + 1) + 1 + 1 + 1) + 1 + 1 + 1)) ∧ (listP ts n τ).1 = f.list := by
  intro τ e hq
  have heτ : τ.err = 0 := by rw [e]; exact he
  rw [list_read heτ hq]; refine ⟨?_, rfl⟩; simp only; rw [brace_read hB h.ok (by exact heτ) (rem_cons hq) (by omega), e, adv_adv, adv_adv]
  congr 2; omega
 unfold functionP
 rw [expect_cons hr he, name_cons h1 he h.name]; simp only; rw [adv_adv, expect_cons h2 he, adv_adv]; obtain ⟨nm, ps, ls, bd⟩ := f
 cases ps with
 | nil =>
  simp only [parsQ, List.nil_append, List.length_nil] at h3 key hk ⊢; rw [has_cons h3 he, if_pos (by decide)]; simp only; obtain ⟨k1, k2⟩ := key (nextP (adv σ (1 + 1 + 1))) (by simp [next_adv, adv_adv]) (by rw [next_adv]; exact rem_cons h3); rw [k1, k2]
 | cons p r =>
  simp only [parsQ, List.cons_append] at h3 key hk ⊢
  have hnp : hasP ts (adv σ (1 + 1 + 1)) [41] = false := by
   rw [has_cons h3 he]
   cases p.list <;> decide
  rw [hnp, if_neg (by simp)]; rw [fparams_read r p [] (adv σ (1 + 1 + 1)) k _ h.par he h3 (by have := tailQ_len r; simp only [List.length_cons] at hk; omega)]; simp only [List.nil_append]
  have h4 : rem ts (adv σ (3 + (typeT p.list :: p.name :: tailQ r).length)) = [41] :: typeT ls :: [123] :: (bd.tks ++ [125] :: rest) := by
   have := rem_adv (a := typeT p.list :: p.name :: tailQ r) h3
   rw [adv_adv] at this; exact this
  have e4 : adv (adv σ (1 + 1 + 1)) (2 + (tailQ r).length) = adv σ (3 + (typeT p.list :: p.name :: tailQ r).length) := by
   rw [adv_adv]; congr 1; simp only [List.length_cons]; omega
  rw [e4, expect_cons h4 he]; obtain ⟨k1, k2⟩ := key (adv (adv σ (3 + (typeT p.list :: p.name :: tailQ r).length)) 1) (by rw [adv_adv]) (rem_cons h4); rw [k1, k2]
def libQ (l : List FD) : Txt := (l.map FD.tks).flatten
theorem toks_fnsP : ∀ l : List FD, toks (fnsP l) = libQ l
 | [] => rfl
 | f :: r => by
  have := toks_fnsP r
  unfold fnsP libQ at *
  simp only [List.map_cons, List.flatten_cons, toks_append, toks_fnP, this]
theorem lib_read (hd : DigitKinds ts) : ∀ (l : List FD) (acc : List FD) (at_ : List Int) (σ : PS) (k : Nat), (∀ f ∈ l, GoodR f) → σ.at_ ≤ ts.length → σ.err = 0 → rem ts σ = libQ l → 4 * (libQ l).length + 6 ≤ k → (libP ts n k acc at_ σ).1.1 = acc ++ l ∧ (libP ts n k acc at_ σ).2.err = 0
 | [], acc, at_, σ, k, hl, hw, he, hr, hk => by
  obtain ⟨k, rfl⟩ : ∃ j, k = j + 1 := ⟨k - 1, by omega⟩; have hlen := rem_len (ts := ts) σ; rw [hr] at hlen; simp only [libQ, List.map_nil, List.flatten_nil, List.length_nil] at hlen; rw [libP, if_neg (by omega)]
  exact ⟨by simp, he⟩
 | f :: r, acc, at_, σ, k, hl, hw, he, hr, hk => by
  obtain ⟨k, rfl⟩ : ∃ j, k = j + 1 := ⟨k - 1, by omega⟩
  have e0 : libQ (f :: r) = f.tks ++ libQ r := by simp [libQ]
  rw [e0] at hr hk; simp only [List.length_append] at hk; have hlt : σ.at_ < ts.length := rem_lt (t := [112, 114, 111, 99]) (b := f.name :: [40] :: (parsQ f.params ++ ([41] :: typeT f.list :: [123] :: (f.body.tks ++ [[125]]))) ++ libQ r) (by rw [hr]; rfl)
  have hlen : 1 ≤ f.tks.length := by unfold FD.tks; simp
  rw [libP, if_pos ⟨he, hlt⟩, function_read hd (hl f (by simp)) he hr (by omega)]; simp only; have := lib_read hd r (acc ++ [f]) (at_ ++ [(ts.getD σ.at_ Tok.zero).pos]) (adv σ f.tks.length) k (fun g hg => hl g (by simp [hg])) (rem_leF hw hr) he (rem_adv hr) (by omega); rw [List.append_assoc] at this
  exact this
end
theorem parse_libT {lib : List FD} (h : libErr lib = none) (hw : ∀ f ∈ lib, f.body.wf) (hl : ¬ 65536 < (libT lib).length) : parseLib (libT lib) = (lib, 0, 0) := by
 have hg := lib_goodR h hw; obtain ⟨us, h1, h2⟩ := pcs_solid (fnsP lib) none (fnsP_wf lib hg); rw [flat_fnsP] at h1; rw [toks_fnsP] at h2; have hd := digitKinds_start (libT lib); rw [startOk hl (by rw [h1]), h1] at hd; simp only at hd
 have hul : (libQ lib).length = us.length := by rw [← h2]; simp [txt]
 have hr := lib_read (n := (libT lib).length) hd lib [] [] ⟨0, 0, 0⟩ (4 * us.length + 6) hg (Nat.zero_le _) rfl (by unfold rem; rw [h2]; rfl) (by omega); rw [parseLib_at hl h1 (Nat.le_refl _)]
 unfold finL
 rw [hr.1, hr.2, if_neg (by simp)]; simp only [List.nil_append, h]
end Bk
namespace Bk
open Go
def sizeF (l : List FD) : Nat := (l.map fun f => f.params.length + f.body.size + 1).sum
theorem sizeF_app (a b : List FD) : sizeF (a ++ b) = sizeF a + sizeF b := by simp [sizeF, List.sum_append]
section
variable {ts : List Tok} {n : Int}
theorem libP_sum (hL : ts.length ≤ 1000000) (hT : ∀ t ∈ ts, t.text.length ≤ 1000000) (k : Nat) : ∀ (acc : List FD) (at_ : List Int) (σ : PS), σ.at_ ≤ ts.length → 4 * mS ts σ + 6 ≤ k → (libP ts n k acc at_ σ).2.err = 0 → sizeF (libP ts n k acc at_ σ).1.1 + σ.at_ ≤ sizeF acc + ts.length := by
 induction k with
 | zero => intro acc at_ σ _ h; omega
 | succ k ih =>
  intro acc at_ σ hw hk he; rw [libP] at he ⊢
  by_cases hc : σ.err = 0 ∧ σ.at_ < ts.length
  · rw [if_pos hc] at he ⊢
    have l1 := (good_function k).le ts n σ hw; have l2 := libP_le (n := n) k (acc ++ [(functionP ts n k σ).1]) (at_ ++ [(ts.getD σ.at_ Tok.zero).pos]) _ l1.wf; have hm := mS_pos hc; obtain ⟨f1, f2, f3, f4⟩ := po_function (n := n) hL hT k (mS ts σ) (by omega) σ hw (Nat.le_refl _) (l2.ok he); have h2 := l1.wf; dsimp only at f1 f2 f3 f4 h2 l1; have h3 := mS_lt l1 (lt_function k ts n σ hw); have r1 := ih (acc ++ [(functionP ts n k σ).1]) (at_ ++ [(ts.getD σ.at_ Tok.zero).pos]) _ l1.wf (by omega) he; rw [sizeF_app] at r1
    have e1 : sizeF [(functionP ts n k σ).1] = (functionP ts n k σ).1.params.length + (functionP ts n k σ).1.body.size + 1 := by simp [sizeF]
    omega
  · rw [if_neg hc]
    dsimp only
    omega
end
theorem funT_short {f : FD} (h : GoodFD f) : (funT f).length ≤ 40 * (f.params.length + f.body.size + 1) := by
 have h1 := join_len [44, 32] (f.params.map paramT)
 have h2 := sum_le (l := f.params.map paramT) (m := 18) (fun x hx => by
  obtain ⟨p, hp, rfl⟩ := List.mem_map.1 hx
  exact paramT_len (h.par p hp))
 have h3 := h.len; have h4 := h.name; have h5 := ftext_len _ h.ok; have h6 := typeT_len f.list; simp only [List.length_map, List.length_cons, List.length_nil] at h1 h2
 unfold funT headT tailT
 simp only [List.length_append, List.length_cons, List.length_nil] at h1 h5 ⊢
 omega
theorem libT_short {lib : List FD} (h : ∀ f ∈ lib, GoodFD f) : (libT lib).length ≤ 40 * sizeF lib := by
 induction lib with
 | nil => simp [libT]
 | cons f r ih =>
  have h1 := ih (fun g hg => h g (by simp [hg])); have h2 := funT_short (h f (by simp))
  have e1 : sizeF (f :: r) = (f.params.length + f.body.size + 1) + sizeF r := by simp [sizeF]
  have e2 : libT (f :: r) = funT f ++ libT r := by simp [libT]
  rw [e1, e2, List.length_append]
  omega
theorem lex_solidF {s : List UInt8} (hs : ¬ 65536 < s.length) (h : (startP s).2.err = 0) : ∃ ts, solidFrom s 0 = (ts, none) := by
 cases hsf : (solidFrom s 0).2 with
 | none => exact ⟨_, Prod.ext rfl hsf⟩
 | some q =>
  have hst := startBad hs hsf
  rw [hst] at h; cases h
theorem parse_start {s : List UInt8} (h : (startP s).2.err ≠ 0) : parseLib s = ([], (startP s).2.off, (startP s).2.err) := by
 unfold parseLib
 rw [if_pos h]
theorem solid_pos {s : List UInt8} {ts : List Tok} (h : solidFrom s 0 = (ts, none)) : TokIn s.length ts := fun t ht => by
 obtain ⟨i, hi, rfl⟩ := List.mem_iff_getElem.1 ht; obtain ⟨q, C⟩ := solid_cut s s.length 0 ts (by omega) (by omega) h i hi
 have e : ts.getD i Tok.zero = ts[i] := by rw [List.getD_eq_getElem?_getD, List.getElem?_eq_getElem hi]; rfl
 have h1 := C.pos; have h2 := C.len; rw [e] at h1 h2
 omega
theorem solid_errq (s : List UInt8) {q : Nat} : ∀ (m p : Nat), s.length - p ≤ m → p ≤ s.length → (solidFrom s p).2 = some q → q ≤ s.length := by
 intro m
 induction m with
 | zero =>
  intro p hm hp h; rw [solidFrom_end (by omega)] at h
  cases h
 | succ m ih =>
  intro p hm hp h
  by_cases hlt : p < s.length
  · have hle := firstTok_le (s.drop p)
    simp only [List.length_drop] at hle
    by_cases h0 : (firstTok (s.drop p)).2 = 0
    · rw [solidFrom_err hlt h0] at h
      simp only [Option.some.injEq] at h
      omega
    · by_cases h4 : (firstTok (s.drop p)).1 = 4 ∨ (firstTok (s.drop p)).1 = 5
      · rw [solidFrom_skip hlt h0 h4] at h
        exact ih _ (by omega) (by omega) h
      · rw [solidFrom_tok hlt h0 (fun e => h4 (Or.inl e)) (fun e => h4 (Or.inr e))] at h
        refine ih (p + (firstTok (s.drop p)).2) (by omega) (by omega) ?_
        generalize solidFrom s (p + (firstTok (s.drop p)).2) = r at *
        obtain ⟨l, e⟩ := r
        cases e with
        | none => simp [pre] at h
        | some x => simpa [pre] using h
  · rw [solidFrom_end (by omega)] at h
    cases h
theorem parse_can {s : List UInt8} (hs : s.length ≤ 800) :
 ((parseLib s).2.2 ≠ 0 → (parseLib s).1 = [] ∧ 0 ≤ (parseLib s).2.1 ∧ (parseLib s).2.1 ≤ s.length) ∧
 ((parseLib s).2.2 = 0 → libErr (parseLib s).1 = none ∧ (∀ f ∈ (parseLib s).1, FewF f) ∧ (parseLib s).1.length ≤ 1000 ∧ (libT (parseLib s).1).length ≤ 65536 ∧ parseLib (libT (parseLib s).1) = ((parseLib s).1, 0, 0)) := by
 have h65 : ¬ 65536 < s.length := by omega
 by_cases he : (startP s).2.err = 0
 · obtain ⟨ts, hts⟩ := lex_solidF h65 he
   have hst := startOk h65 (by rw [hts]); rw [hts] at hst; simp only at hst; have hd := digitKinds_start s; have hsl := start_len s; have hok := solid_ok s; rw [hst] at hd hsl hok; simp only at hd hsl hok
   have htx : ∀ t ∈ ts, t.text.length ≤ 1000000 := fun t ht => by have := (hok t ht).len; omega
   have hm : mS ts ⟨0, 0, 0⟩ = ts.length := by simp [mS]
   have hsum := libP_sum (ts := ts) (n := s.length) (by omega) htx (4 * ts.length + 6) [] [] ⟨0, 0, 0⟩ (Nat.zero_le _) (by omega); have hfew := libP_few (ts := ts) (n := s.length) (by omega) htx (4 * ts.length + 6) [] [] ⟨0, 0, 0⟩ (Nat.zero_le _) (by omega) (by simp); have hoff := lib_off (ts := ts) (n := s.length) (by omega) (solid_pos hts) hd (4 * ts.length + 6) [] [] ⟨0, 0, 0⟩ (Nat.zero_le _) ⟨Int.le_refl _, by simp⟩ (by simp); rw [parseLib_at h65 hts (Nat.le_refl _)]
   generalize libP ts s.length (4 * ts.length + 6) [] [] ⟨0, 0, 0⟩ = A at *
   refine ⟨fun hne => ?_, fun hz => ?_⟩
   · unfold finL at hne ⊢
     split
     · rename_i hc
       exact ⟨rfl, hoff.1.1, hoff.1.2⟩
     · rename_i hc
       rw [if_neg hc] at hne
       cases hv : libErr A.1.1 with
       | none => rw [hv] at hne; exact absurd rfl hne
       | some q =>
        obtain ⟨i, e⟩ := q; simp only; refine ⟨trivial, ?_⟩; rw [List.getD_eq_getElem?_getD]
        cases hi : A.1.2[i]? with
        | none => simp
        | some x => exact hoff.2 x (List.mem_of_getElem? hi)
   · obtain ⟨k1, k2, k3⟩ := finL_ok hz
     rw [k3]; simp only; obtain ⟨f1, f2, f3⟩ := hfew k1; have s1 := hsum k1; simp only [sizeF, List.map_nil, List.sum_nil, List.length_nil] at s1 f2
     have hw : ∀ f ∈ A.1.1, f.body.wf := fun f hf => (f1 f hf).2.2.2.2
     obtain ⟨-, hg⟩ := lib_good k2 hw; have hl := libT_short hg
     have hl2 : (libT A.1.1).length ≤ 65536 := by unfold sizeF at hl; omega
     exact ⟨k2, f1, by omega, hl2, parse_libT k2 hw (by omega)⟩
 · rw [parse_start he]
   refine ⟨fun _ => ⟨rfl, ?_⟩, fun h => absurd h he⟩
   cases hsf : (solidFrom s 0).2 with
   | none => exact absurd (by rw [startOk h65 hsf]) he
   | some q =>
    rw [startBad h65 hsf]; have : q ≤ s.length := solid_errq s s.length 0 (by omega) (by omega) hsf; simp only
    omega
end Bk
namespace Bk
open Go Go.RowKit Go.Proofs
attribute [local irreducible] Go.Calls
theorem printL_none {lib : List FD} (h : libErr lib = none) : printL lib = (libT lib, 0) := by unfold printL; rw [h]
theorem validI_none {lib : List FD} (h : libErr lib = none) : validI lib = (-1, 0) := by unfold validI; rw [h]
set_option maxRecDepth 100000 in
set_option maxHeartbeats 4000000 in
theorem canon36_c (s : List UInt8) (w : World) (hs : s.length ≤ 9223372036854775807) (ht : TabsF w) (hE : Errs w) :
 Calls Tryd.prog 3 #[str s] w fun e w' => e = .returned (.bool true) ∧ Ext w w' := by
 have X := Ext.refl w; have hS : Syms w := ⟨ht.t.sym⟩
 by_cases h8 : 800 < s.length
 · refine calls_in Tryd.func3 Tryd.ntmps3 rfl rfl ?_
   focus
    refine cS (cA rfl rfl (cT (cw_seq (cS ?_)))); refine cC (by kernel_rfl) rfl (awake36_c _ (by assumption) (by assumption)) rfl ?_; rintro _ w2 ⟨⟨⟩, x1⟩; have z3 := x1.size; replace ht := ht.ext x1; replace hE := hE.ext x1; replace X := X.ext x1; replace hS := hS.ext x1; clear x1; refine lw_pure (pur_not rfl) rfl (cM rfl rfl (lw_on rfl rfl rfl (rfl) (cM rfl rfl (lw_on rfl rfl rfl (rfl) (lw_pure (pur_len_s tabOk rfl rfl) rfl (lw_on rfl rfl rfl (rfl) (lw_pure (pur_gtr rfl rfl) rfl (lw_pure (pur_pick_f rfl rfl rfl) rfl (cT ?_))))))))); refine cw_yes rfl (by omega) ?_; refine cS ?_; refine cC (by kernel_rfl) rfl (awake36_c _ (by assumption) (by assumption)) rfl ?_; rintro _ w5 ⟨⟨⟩, x4⟩; have z6 := x4.size; replace ht := ht.ext x4; replace hE := hE.ext x4; replace X := X.ext x4; replace hS := hS.ext x4; clear x4; refine cA rfl rfl (cT (cw_ret (qw_then_ret (qw_ret1 rfl rfl ?_)))); rotate_left 1
   exact ⟨rfl, X⟩
 obtain ⟨c1, c2⟩ := parse_can (s := s) (by omega); have HA := Lib.hid (fun w hS hE => funParse_c s w (by omega) hS hE)
 by_cases he : (parseLib s).2.2 = 0
 · obtain ⟨v1, v2, v3, v4, v5⟩ := c2 he
   clear c1 c2
   generalize parseLib s = r at *
   obtain ⟨lib, off, err⟩ := r; simp only at he v1 v2 v3 v4 v5 HA; subst he; have hL := few_libF v2 (by omega); have HL := Lib.hid hL; have HV := Lib.hid (Valid_v (validI_none v1)); have HP := Lib.hid (fun (S : Nat → Prop) (a : Option Addr) (c : Nat) (w : World) hs ht => Print_c lib S a c w hL hs ht); rw [printL_none v1] at HP; have HR := Lib.hid (fun w hS hE => funParse_c (libT lib) w (by omega) hS hE); rw [v5] at HR; obtain ⟨hf1, hf2⟩ := hL.same
   have HS := Lib.hid hf2; clear hf2
   clear v1 v2 v5 hL
   generalize libT lib = T at *
   refine calls_in Tryd.func3 Tryd.ntmps3 rfl rfl ?_
   focus
    refine cS (cA rfl rfl (cT (cw_seq (cS ?_)))); refine cC (by kernel_rfl) rfl (awake36_c _ (by assumption) (by assumption)) rfl ?_; rintro _ wa2 ⟨⟨⟩, xa1⟩; have za3 := xa1.size; replace ht := ht.ext xa1; replace hE := hE.ext xa1; replace X := X.ext xa1; replace hS := hS.ext xa1; clear xa1; refine lw_pure (pur_not rfl) rfl (cM rfl rfl (lw_on rfl rfl rfl (rfl) (cM rfl rfl (lw_on rfl rfl rfl (rfl) (lw_pure (pur_len_s tabOk rfl rfl) rfl (lw_on rfl rfl rfl (rfl) (lw_pure (pur_gtr rfl rfl) rfl (lw_pure (pur_pick_f rfl rfl rfl) rfl (cT ?_))))))))); refine cw_no rfl (by omega) ?_; refine cw_skip (qw_then (cS (cM rfl rfl ?_))); refine cR (by kernel_rfl) rfl (HA.out _ (by assumption) (by assumption)) (fun _ _ h => h.ret) rfl ?_; rintro _ wa8 ⟨laa4, ⟨lca5, ⟨⟨⟩, ⟨ha6, xa7⟩⟩⟩⟩; have za9 := xa7.size; replace ht := ht.ext xa7; replace hE := hE.ext xa7; replace X := X.ext xa7; replace hS := hS.ext xa7; clear xa7; refine cM rfl rfl (lw_pure (pur_extract rfl rfl) rfl (lw_pure (pur_extract rfl rfl) rfl (lw_pure (pur_extract rfl rfl) rfl (cA rfl rfl (cA rfl rfl (cA rfl rfl (cT (cw_seq (cS (cM rfl rfl (lw_pure (pur_neq rfl rfl) rfl ?_))))))))))); refine cT (cw_no rfl (not_not_intro rfl) (cw_skip (qw_then (cS (cM rfl rfl ?_))))); refine cC (by kernel_rfl) rfl (HV.out _ _ _ _ HL.out (by assumption)) rfl ?_; rintro _ wa11 ⟨⟨⟩, xa10⟩; have za12 := xa10.size; replace ha6 := ha6.ext xa10; replace ht := ht.ext xa10; replace hE := hE.ext xa10; replace X := X.ext xa10; replace hS := hS.ext xa10; clear xa10
    refine cM rfl rfl (lw_pure (pur_extract rfl rfl) rfl (lw_pure (pur_extract rfl rfl) rfl (cA rfl rfl (cA rfl rfl (cN (cM rfl rfl ?_)))))); refine cC (by kernel_rfl) rfl (HP.out _ _ _ _ (by assumption) (by assumption)) rfl ?_; rintro _ wa14 ⟨⟨⟩, xa13⟩; have za15 := xa13.size; replace ha6 := ha6.ext xa13; replace ht := ht.ext xa13; replace hE := hE.ext xa13; replace X := X.ext xa13; replace hS := hS.ext xa13; clear xa13; refine cM rfl rfl (lw_pure (pur_extract rfl rfl) rfl (lw_pure (pur_extract rfl rfl) rfl (cA rfl rfl (cA rfl rfl (cN (cM rfl rfl ?_)))))); refine cR (by kernel_rfl) rfl (HR.out _ (by assumption) (by assumption)) (fun _ _ h => h.ret) rfl ?_; rintro _ wa20 ⟨laa16, ⟨lca17, ⟨⟨⟩, ⟨ha18, xa19⟩⟩⟩⟩; have za21 := xa19.size; replace ha6 := ha6.ext xa19; replace ht := ht.ext xa19; replace hE := hE.ext xa19; replace X := X.ext xa19; replace hS := hS.ext xa19; clear xa19; refine cM rfl rfl (lw_pure (pur_extract rfl rfl) rfl (lw_pure (pur_extract rfl rfl) rfl (lw_pure (pur_extract rfl rfl) rfl (cA rfl rfl (cA rfl rfl (cA rfl rfl (cN (cM rfl rfl ?_)))))))); refine cC (by kernel_rfl) rfl (HP.out _ _ _ _ (by assumption) (by assumption)) rfl ?_; rintro _ wa23 ⟨⟨⟩, xa22⟩; have za24 := xa22.size; replace ha18 := ha18.ext xa22; replace ha6 := ha6.ext xa22; replace ht := ht.ext xa22; replace hE := hE.ext xa22; replace X := X.ext xa22; replace hS := hS.ext xa22; clear xa22; refine cM rfl rfl (lw_pure (pur_extract rfl rfl) rfl (lw_pure (pur_extract rfl rfl) rfl (cA rfl rfl (cA rfl rfl (cN (cM rfl rfl (lw_pure (pur_eql rfl rfl) rfl (cM rfl rfl ?_))))))))
    refine lw_on rfl rfl rfl (gd_tt (by decide)) ?_; refine cM rfl rfl ?_; refine lw_on rfl rfl rfl (gd_tt (by decide)) ?_; refine lw_pure (pur_eql rfl rfl) rfl ?_; refine lw_pure (pur_pick_yes rfl rfl (by decide)) rfl ?_; refine cM rfl rfl ?_; refine lw_on rfl rfl rfl (gd_tt (by omega)) ?_; refine cM rfl rfl ?_; refine lw_on rfl rfl rfl (gd_tt (by omega)) ?_; refine lw_pure (pur_eql rfl rfl) rfl ?_; refine lw_pure (pur_pick_yes rfl rfl (by omega)) rfl ?_; refine cM rfl rfl (lw_on rfl rfl rfl (gd_tt (rfl)) (cM rfl rfl (lw_on rfl rfl rfl (gd_tt (rfl)) (lw_pure (pur_eql rfl rfl) rfl (lw_pure (pur_pick_yes rfl rfl (rfl)) rfl (cM rfl rfl ?_)))))); refine lw_on rfl rfl rfl (gd_tt (by omega)) ?_; refine cM rfl rfl ?_; refine lw_on rfl rfl rfl (gd_tt (by omega)) ?_; refine cM rfl rfl ?_; refine lw_on rfl rfl rfl (gd_tt (by omega)) ?_; refine cC (by kernel_rfl) rfl (same36_t _ _ _ _ _ _ _ _ hf1 HS.out (by assumption) (by assumption)) rfl ?_; rintro _ wa26 ⟨⟨⟩, xa25⟩; have za27 := xa25.size; replace ha18 := ha18.ext xa25; replace ha6 := ha6.ext xa25; replace ht := ht.ext xa25; replace hE := hE.ext xa25; replace X := X.ext xa25; replace hS := hS.ext xa25; clear xa25; refine lw_pure (pur_pick_yes rfl rfl (by omega)) rfl ?_; refine cM rfl rfl (lw_on rfl rfl rfl (rfl) (cM rfl rfl (lw_on rfl rfl rfl (rfl) (cM rfl rfl (lw_on rfl rfl rfl (rfl) (lw_pure (pur_seql rfl rfl) rfl (lw_pure (pur_pick_t rfl rfl rfl) rfl (cA rfl rfl (cT (cw_ret (qw_ret1 rfl rfl ?_))))))))))); rotate_left 1
   exact ⟨by simp, X⟩
 · obtain ⟨v1, v2, v3⟩ := c1 he
   clear c1 c2
   generalize parseLib s = r at *
   obtain ⟨lib, off, err⟩ := r; simp only at he v1 v2 v3 HA; subst v1; refine calls_in Tryd.func3 Tryd.ntmps3 rfl rfl ?_
   focus
    refine cS (cA rfl rfl (cT (cw_seq (cS ?_)))); refine cC (by kernel_rfl) rfl (awake36_c _ (by assumption) (by assumption)) rfl ?_; rintro _ wb2 ⟨⟨⟩, xb1⟩; have zb3 := xb1.size; replace ht := ht.ext xb1; replace hE := hE.ext xb1; replace X := X.ext xb1; replace hS := hS.ext xb1; clear xb1; refine lw_pure (pur_not rfl) rfl (cM rfl rfl (lw_on rfl rfl rfl (rfl) (cM rfl rfl (lw_on rfl rfl rfl (rfl) (lw_pure (pur_len_s tabOk rfl rfl) rfl (lw_on rfl rfl rfl (rfl) (lw_pure (pur_gtr rfl rfl) rfl (lw_pure (pur_pick_f rfl rfl rfl) rfl (cT ?_))))))))); refine cw_no rfl (by omega) ?_; refine cw_skip (qw_then (cS (cM rfl rfl ?_))); refine cR (by kernel_rfl) rfl (HA.out _ (by assumption) (by assumption)) (fun _ _ h => h.ret) rfl ?_; rintro _ wb8 ⟨lab4, ⟨lcb5, ⟨⟨⟩, ⟨hb6, xb7⟩⟩⟩⟩; have zb9 := xb7.size; replace ht := ht.ext xb7; replace hE := hE.ext xb7; replace X := X.ext xb7; replace hS := hS.ext xb7; clear xb7; refine cM rfl rfl (lw_pure (pur_extract rfl rfl) rfl (lw_pure (pur_extract rfl rfl) rfl (lw_pure (pur_extract rfl rfl) rfl (cA rfl rfl (cA rfl rfl (cA rfl rfl (cT (cw_seq (cS (cM rfl rfl (lw_pure (pur_neq rfl rfl) rfl ?_))))))))))); refine cT ?_; refine cw_yes rfl (by assumption) ?_; refine cS (cM rfl rfl (lw_pure (pur_len_slice tabOk rfl rfl) rfl (lw_pure (pur_eql rfl rfl) rfl (cM rfl rfl (lw_on rfl rfl rfl (gd_tt (rfl)) (cM rfl rfl (lw_on rfl rfl rfl (gd_tt (rfl)) (lw_pure (pur_geq rfl rfl) rfl (lw_pure (pur_pick_yes rfl rfl (rfl)) rfl (cM rfl rfl ?_)))))))))); refine lw_on rfl rfl rfl (gd_tt (by assumption)) ?_
    refine cM rfl rfl ?_; refine lw_on rfl rfl rfl (gd_tt (by assumption)) ?_; refine cM rfl rfl ?_; refine lw_on rfl rfl rfl (gd_tt (by assumption)) ?_; refine lw_pure (pur_len_s tabOk rfl rfl) rfl ?_; refine lw_on rfl rfl rfl (gd_tt (by assumption)) ?_; refine lw_pure (pur_leq rfl rfl) rfl ?_; refine lw_pure (pur_pick_yes rfl rfl (by assumption)) rfl ?_; refine cA rfl rfl (cT (cw_ret (qw_then_ret (qw_ret1 rfl rfl ?_)))); rotate_left 1
   exact ⟨by rw [decide_eq_true (show off ≤ (s.length : Int) from v3)], X⟩
end Bk
namespace Bk
open Go Go.RowKit Go.Proofs
theorem FuntextCanonical_d (s : List UInt8) (w : World) (hs : s.length ≤ 9223372036854775807) (ht : TabsF w) (hE : Errs w) :
 Calls Tryd.prog 3 #[str s] w fun e w' => e = .returned (.bool true) ∧ Ext w w' := canon36_c s w hs ht hE
end Bk
namespace Bk
open Go Go.RowKit Go.Proofs
attribute [local irreducible] Go.Calls
set_option maxRecDepth 100000 in
set_option maxHeartbeats 8000000 in
theorem cut36_c (s : List UInt8) (k : Int) (hk : 0 ≤ k ∧ k ≤ 65535) (w : World) (hs : s.length ≤ 9223372036854775807) (ht : TabsF w) (hE : Errs w) :
 Calls Tryd.prog 6 #[str s, .int .u16 k] w fun e w' => e = .returned (.bool true) ∧ Ext w w' := by
 have X := Ext.refl w; have hS : Syms w := ⟨ht.t.sym⟩
 by_cases h65 : 65536 < s.length
 · refine calls_in Tryd.func6 Tryd.ntmps6 rfl rfl ?_
   focus
    refine cS (cA rfl rfl (cN (cM rfl rfl ?_))); refine cR (by kernel_rfl) rfl (lexLong_c _ _ h65 (by omega)) (fun _ _ h => h.ret) rfl ?_; rintro _ w5 ⟨a1, ⟨k2, ⟨⟨⟩, ⟨h3, x4⟩⟩⟩⟩; have z6 := x4.size; replace ht := ht.ext x4; replace hE := hE.ext x4; replace X := X.ext x4; replace hS := hS.ext x4; clear x4; refine cM rfl rfl (lw_pure (pur_extract rfl rfl) rfl (lw_pure (pur_extract rfl rfl) rfl (lw_pure (pur_extract rfl rfl) rfl (cA rfl rfl (cA rfl rfl (cA rfl rfl (cT (cw_seq (cS ?_))))))))); refine cC (by kernel_rfl) rfl (awake36_c _ (by assumption) (by assumption)) rfl ?_; rintro _ w8 ⟨⟨⟩, x7⟩; have z9 := x7.size; replace h3 := h3.ext x7; replace ht := ht.ext x7; replace hE := hE.ext x7; replace X := X.ext x7; replace hS := hS.ext x7; clear x7; refine lw_pure (pur_not rfl) rfl (cM rfl rfl (lw_on rfl rfl rfl (rfl) (cM rfl rfl (lw_on rfl rfl rfl (rfl) (lw_pure (pur_len_s tabOk rfl rfl) rfl (lw_on rfl rfl rfl (rfl) (lw_pure (pur_gtr rfl rfl) rfl (lw_pure (pur_pick_f rfl rfl rfl) rfl (cM rfl rfl ?_))))))))); refine lw_off rfl rfl rfl (gd_ft (by omega)) rfl ?_; refine lw_off rfl rfl rfl (gd_ft (by omega)) rfl ?_; refine lw_pure (pur_pick_yes rfl rfl (by omega)) rfl ?_; refine cT (cw_cond_t rfl (cS ?_)); refine cC (by kernel_rfl) rfl (awake36_c _ (by assumption) (by assumption)) rfl ?_; rintro _ w11 ⟨⟨⟩, x10⟩; have z12 := x10.size; replace h3 := h3.ext x10; replace ht := ht.ext x10; replace hE := hE.ext x10; replace X := X.ext x10; replace hS := hS.ext x10; clear x10; refine cA rfl rfl (cT (cw_ret (qw_then_ret (qw_ret1 rfl rfl ?_))))
    rotate_left 1
   exact ⟨rfl, X⟩
 by_cases h8 : 800 < s.length
 · refine calls_in Tryd.func6 Tryd.ntmps6 rfl rfl ?_
   focus
    refine cS (cA rfl rfl (cN (cM rfl rfl ?_))); refine cR (by kernel_rfl) rfl (Lex_c _ _ (by omega)) (fun _ _ h => h.ret) rfl ?_; rintro _ wa5 ⟨aa1, ⟨ka2, ⟨⟨⟩, ⟨ha3, xa4⟩⟩⟩⟩; have za6 := xa4.size; replace ht := ht.ext xa4; replace hE := hE.ext xa4; replace X := X.ext xa4; replace hS := hS.ext xa4; clear xa4; refine cM rfl rfl (lw_pure (pur_extract rfl rfl) rfl (lw_pure (pur_extract rfl rfl) rfl (lw_pure (pur_extract rfl rfl) rfl (cA rfl rfl (cA rfl rfl (cA rfl rfl (cT (cw_seq (cS ?_))))))))); refine cC (by kernel_rfl) rfl (awake36_c _ (by assumption) (by assumption)) rfl ?_; rintro _ wa8 ⟨⟨⟩, xa7⟩; have za9 := xa7.size; replace ha3 := ha3.ext xa7; replace ht := ht.ext xa7; replace hE := hE.ext xa7; replace X := X.ext xa7; replace hS := hS.ext xa7; clear xa7; refine lw_pure (pur_not rfl) rfl (cM rfl rfl (lw_on rfl rfl rfl (rfl) (cM rfl rfl (lw_on rfl rfl rfl (rfl) (lw_pure (pur_len_s tabOk rfl rfl) rfl (lw_on rfl rfl rfl (rfl) (lw_pure (pur_gtr rfl rfl) rfl (lw_pure (pur_pick_f rfl rfl rfl) rfl (cM rfl rfl ?_))))))))); refine lw_off rfl rfl rfl (gd_ft (by omega)) rfl ?_; refine lw_off rfl rfl rfl (gd_ft (by omega)) rfl ?_; refine lw_pure (pur_pick_yes rfl rfl (by omega)) rfl ?_; refine cT (cw_cond_t rfl (cS ?_)); refine cC (by kernel_rfl) rfl (awake36_c _ (by assumption) (by assumption)) rfl ?_; rintro _ wa11 ⟨⟨⟩, xa10⟩; have za12 := xa10.size; replace ha3 := ha3.ext xa10; replace ht := ht.ext xa10; replace hE := hE.ext xa10; replace X := X.ext xa10; replace hS := hS.ext xa10
    clear xa10; refine cA rfl rfl (cT (cw_ret (qw_then_ret (qw_ret1 rfl rfl ?_)))); rotate_left 1
   exact ⟨rfl, X⟩
 by_cases he : (lexT s).2.2 = 0
 case neg =>
  refine calls_in Tryd.func6 Tryd.ntmps6 rfl rfl ?_
  focus
   refine cS (cA rfl rfl (cN (cM rfl rfl ?_))); refine cR (by kernel_rfl) rfl (Lex_c _ _ (by omega)) (fun _ _ h => h.ret) rfl ?_; rintro _ wb5 ⟨ab1, ⟨kb2, ⟨⟨⟩, ⟨hb3, xb4⟩⟩⟩⟩; have zb6 := xb4.size; replace ht := ht.ext xb4; replace hE := hE.ext xb4; replace X := X.ext xb4; replace hS := hS.ext xb4; clear xb4; refine cM rfl rfl (lw_pure (pur_extract rfl rfl) rfl (lw_pure (pur_extract rfl rfl) rfl (lw_pure (pur_extract rfl rfl) rfl (cA rfl rfl (cA rfl rfl (cA rfl rfl (cT (cw_seq (cS ?_))))))))); refine cC (by kernel_rfl) rfl (awake36_c _ (by assumption) (by assumption)) rfl ?_; rintro _ wb8 ⟨⟨⟩, xb7⟩; have zb9 := xb7.size; replace hb3 := hb3.ext xb7; replace ht := ht.ext xb7; replace hE := hE.ext xb7; replace X := X.ext xb7; replace hS := hS.ext xb7; clear xb7; refine lw_pure (pur_not rfl) rfl (cM rfl rfl (lw_on rfl rfl rfl (rfl) (cM rfl rfl (lw_on rfl rfl rfl (rfl) (lw_pure (pur_len_s tabOk rfl rfl) rfl (lw_on rfl rfl rfl (rfl) (lw_pure (pur_gtr rfl rfl) rfl (lw_pure (pur_pick_f rfl rfl rfl) rfl (cM rfl rfl ?_))))))))); refine lw_on rfl rfl rfl (gd_ff (by omega)) ?_; refine cM rfl rfl ?_; refine lw_on rfl rfl rfl (gd_ff (by omega)) ?_; refine lw_pure (pur_neq rfl rfl) rfl ?_; refine lw_pure (pur_pick_no rfl rfl (by omega)) rfl ?_; refine cT ?_; refine cw_yes rfl (by assumption) ?_; refine cS ?_; refine cC (by kernel_rfl) rfl (awake36_c _ (by assumption) (by assumption)) rfl ?_; rintro _ wb11 ⟨⟨⟩, xb10⟩; have zb12 := xb10.size; replace hb3 := hb3.ext xb10; replace ht := ht.ext xb10
   replace hE := hE.ext xb10; replace X := X.ext xb10; replace hS := hS.ext xb10; clear xb10; refine cA rfl rfl (cT (cw_ret (qw_then_ret (qw_ret1 rfl rfl ?_)))); rotate_left 1
  all_goals exact ⟨rfl, X⟩
 obtain ⟨ts, hts, hte⟩ : ∃ ts, solidFrom s 0 = (ts, none) ∧ solidT (lexT s).1 = ts := by
  cases hsf : (solidFrom s 0).2 with
  | some q =>
   have h1 := startBad h65 hsf; have h2 := congrArg (fun x => x.2.err) h1; simp only [startP] at h2
   omega
  | none =>
   have h1 := congrArg Prod.fst (startOk h65 hsf)
   exact ⟨(solidFrom s 0).1, Prod.ext rfl hsf, h1⟩
 have hlx := lexT_len s; have HS := Lib.hid (fun (w : World) (S : Nat → Prop) a c (h : Toks S w (lexT s).1 a) hSd => Solid_c (lexT s).1 S a c w (by omega) h hSd); rw [hte] at HS; have HA := Lib.hid (fun w hS hE => funParse_c s w (by omega) hS hE)
 by_cases hp : (parseLib s).2.2 = 0
 case neg =>
  generalize parseLib s = r at *
  obtain ⟨lib, off, err⟩ := r; simp only at hp HA; refine calls_in Tryd.func6 Tryd.ntmps6 rfl rfl ?_
  focus
   refine cS (cA rfl rfl (cN (cM rfl rfl ?_))); refine cR (by kernel_rfl) rfl (Lex_c _ _ (by omega)) (fun _ _ h => h.ret) rfl ?_; rintro _ wc5 ⟨ac1, ⟨kc2, ⟨⟨⟩, ⟨hc3, xc4⟩⟩⟩⟩; have zc6 := xc4.size; replace ht := ht.ext xc4; replace hE := hE.ext xc4; replace X := X.ext xc4; replace hS := hS.ext xc4; clear xc4; refine cM rfl rfl (lw_pure (pur_extract rfl rfl) rfl (lw_pure (pur_extract rfl rfl) rfl (lw_pure (pur_extract rfl rfl) rfl (cA rfl rfl (cA rfl rfl (cA rfl rfl (cT (cw_seq (cS ?_))))))))); refine cC (by kernel_rfl) rfl (awake36_c _ (by assumption) (by assumption)) rfl ?_; rintro _ wc8 ⟨⟨⟩, xc7⟩; have zc9 := xc7.size; replace hc3 := hc3.ext xc7; replace ht := ht.ext xc7; replace hE := hE.ext xc7; replace X := X.ext xc7; replace hS := hS.ext xc7; clear xc7; refine lw_pure (pur_not rfl) rfl (cM rfl rfl (lw_on rfl rfl rfl (rfl) (cM rfl rfl (lw_on rfl rfl rfl (rfl) (lw_pure (pur_len_s tabOk rfl rfl) rfl (lw_on rfl rfl rfl (rfl) (lw_pure (pur_gtr rfl rfl) rfl (lw_pure (pur_pick_f rfl rfl rfl) rfl (cM rfl rfl ?_))))))))); refine lw_on rfl rfl rfl (gd_ff (by omega)) ?_; refine cM rfl rfl ?_; refine lw_on rfl rfl rfl (gd_ff (by omega)) ?_; refine lw_pure (pur_neq rfl rfl) rfl ?_; refine lw_pure (pur_pick_no rfl rfl (by omega)) rfl ?_; refine cT ?_; refine cw_no rfl (by omega) ?_; refine cw_skip (qw_then (cS (cM rfl rfl ?_))); refine cR (by kernel_rfl) rfl (HS.out _ _ _ _ (by assumption) (by intro b h; have := h.2; omega)) (fun _ _ h => h.ret) rfl ?_; rintro _ wc14 ⟨ac10, ⟨kc11, ⟨⟨⟩, ⟨hc12, xc13⟩⟩⟩⟩
   have zc15 := xc13.size; replace hc3 := hc3.ext xc13; replace ht := ht.ext xc13; replace hE := hE.ext xc13; replace X := X.ext xc13; replace hS := hS.ext xc13; clear xc13; refine cA rfl rfl (cT (cw_seq (cS (cM rfl rfl ?_)))); refine cR (by kernel_rfl) rfl (HA.out _ (by assumption) (by assumption)) (fun _ _ h => h.ret) rfl ?_; rintro _ wc20 ⟨lac16, ⟨lcc17, ⟨⟨⟩, ⟨hc18, xc19⟩⟩⟩⟩; have zc21 := xc19.size; replace hc12 := hc12.ext xc19; replace hc3 := hc3.ext xc19; replace ht := ht.ext xc19; replace hE := hE.ext xc19; replace X := X.ext xc19; replace hS := hS.ext xc19; clear xc19; refine cM rfl rfl (lw_pure (pur_extract rfl rfl) rfl (lw_pure (pur_extract rfl rfl) rfl (lw_pure (pur_extract rfl rfl) rfl (cA rfl rfl (cA rfl rfl (cA rfl rfl (cN (cM rfl rfl (lw_pure (pur_neq rfl rfl) rfl (cM rfl rfl ?_)))))))))); refine lw_off rfl rfl rfl (gd_ft (by assumption)) rfl ?_; refine lw_off rfl rfl rfl (gd_ft (by assumption)) rfl ?_; refine lw_off rfl rfl rfl (gd_ft (by assumption)) rfl ?_; refine lw_pure (pur_pick_yes rfl rfl (by assumption)) rfl ?_; refine cT (cw_cond_t rfl (cS (cA rfl rfl (cT (cw_ret (qw_then_ret (qw_ret1 rfl rfl ?_))))))); rotate_left 1
  all_goals exact ⟨rfl, X⟩
 have HC := Lib.hid (fun (i q : Nat) (hi : i < ts.length) (hC : CutAt s 0 ts i q) => parse_cut36 h65 hts hi hC hp); have HQ := Lib.hid (fun (i : Nat) (hi : i < ts.length) => solid_cut s s.length 0 ts (by omega) (by omega) hts i hi)
 have htq : ∀ q, (s.take q).length ≤ 800 := fun q => by simp only [List.length_take]; omega
 have HB := Lib.hid (fun (q : Nat) w hS hE => funParse_c (s.take q) w (by have := htq q; omega) hS hE)
 generalize parseLib s = r at *
 obtain ⟨lib, off, err⟩ := r; simp only at hp HA; subst hp
 have htn : ts.length ≤ 800 := by
  have := start_len s; rw [startOk h65 (by rw [hts]), hts] at this; simp only at this
  omega
 clear hts hte
 by_cases h0 : ts.length = 0
 · refine calls_in Tryd.func6 Tryd.ntmps6 rfl rfl ?_
   focus
    refine cS (cA rfl rfl (cN (cM rfl rfl ?_))); refine cR (by kernel_rfl) rfl (Lex_c _ _ (by omega)) (fun _ _ h => h.ret) rfl ?_; rintro _ wd5 ⟨ad1, ⟨kd2, ⟨⟨⟩, ⟨hd3, xd4⟩⟩⟩⟩; have zd6 := xd4.size; replace ht := ht.ext xd4; replace hE := hE.ext xd4; replace X := X.ext xd4; replace hS := hS.ext xd4; clear xd4; refine cM rfl rfl (lw_pure (pur_extract rfl rfl) rfl (lw_pure (pur_extract rfl rfl) rfl (lw_pure (pur_extract rfl rfl) rfl (cA rfl rfl (cA rfl rfl (cA rfl rfl (cT (cw_seq (cS ?_))))))))); refine cC (by kernel_rfl) rfl (awake36_c _ (by assumption) (by assumption)) rfl ?_; rintro _ wd8 ⟨⟨⟩, xd7⟩; have zd9 := xd7.size; replace hd3 := hd3.ext xd7; replace ht := ht.ext xd7; replace hE := hE.ext xd7; replace X := X.ext xd7; replace hS := hS.ext xd7; clear xd7; refine lw_pure (pur_not rfl) rfl (cM rfl rfl (lw_on rfl rfl rfl (rfl) (cM rfl rfl (lw_on rfl rfl rfl (rfl) (lw_pure (pur_len_s tabOk rfl rfl) rfl (lw_on rfl rfl rfl (rfl) (lw_pure (pur_gtr rfl rfl) rfl (lw_pure (pur_pick_f rfl rfl rfl) rfl (cM rfl rfl ?_))))))))); refine lw_on rfl rfl rfl (gd_ff (by omega)) ?_; refine cM rfl rfl ?_; refine lw_on rfl rfl rfl (gd_ff (by omega)) ?_; refine lw_pure (pur_neq rfl rfl) rfl ?_; refine lw_pure (pur_pick_no rfl rfl (by omega)) rfl ?_; refine cT ?_; refine cw_no rfl (by omega) ?_; refine cw_skip (qw_then (cS (cM rfl rfl ?_))); refine cR (by kernel_rfl) rfl (HS.out _ _ _ _ (by assumption) (by intro b h; have := h.2; omega)) (fun _ _ h => h.ret) rfl ?_; rintro _ wd14 ⟨ad10, ⟨kd11, ⟨⟨⟩, ⟨hd12, xd13⟩⟩⟩⟩
    have zd15 := xd13.size; replace hd3 := hd3.ext xd13; replace ht := ht.ext xd13; replace hE := hE.ext xd13; replace X := X.ext xd13; replace hS := hS.ext xd13; clear xd13; refine cA rfl rfl (cT (cw_seq (cS (cM rfl rfl ?_)))); refine cR (by kernel_rfl) rfl (HA.out _ (by assumption) (by assumption)) (fun _ _ h => h.ret) rfl ?_; rintro _ wd20 ⟨lad16, ⟨lcd17, ⟨⟨⟩, ⟨hd18, xd19⟩⟩⟩⟩; have zd21 := xd19.size; replace hd12 := hd12.ext xd19; replace hd3 := hd3.ext xd19; replace ht := ht.ext xd19; replace hE := hE.ext xd19; replace X := X.ext xd19; replace hS := hS.ext xd19; clear xd19; refine cM rfl rfl (lw_pure (pur_extract rfl rfl) rfl (lw_pure (pur_extract rfl rfl) rfl (lw_pure (pur_extract rfl rfl) rfl (cA rfl rfl (cA rfl rfl (cA rfl rfl (cN (cM rfl rfl (lw_pure (pur_neq rfl rfl) rfl (cM rfl rfl (lw_on rfl rfl rfl (gd_ff (not_not_intro rfl)) ?_))))))))))); refine cM rfl rfl (lw_on rfl rfl rfl (gd_ff (not_not_intro rfl)) (lw_pure (pur_len_slice tabOk rfl rfl) rfl (lw_on rfl rfl rfl (gd_ff (not_not_intro rfl)) (lw_pure (pur_eql rfl rfl) rfl (lw_pure (pur_pick_no rfl rfl (not_not_intro rfl)) rfl (cT ?_)))))); refine cw_yes rfl (by omega) ?_; refine cS (cA rfl rfl (cT (cw_ret (qw_then_ret (qw_ret1 rfl rfl ?_))))); rotate_left 1
   all_goals exact ⟨rfl, X⟩
 · obtain ⟨i, hki, hi⟩ : ∃ i : Nat, k % (ts.length : Int) = i ∧ i < ts.length := by
    have h1 := Int.emod_nonneg k (show (ts.length : Int) ≠ 0 by omega); have h2 := Int.emod_lt_of_pos k (show (0 : Int) < (ts.length : Int) by omega)
    exact ⟨(k % (ts.length : Int)).toNat, by omega, by omega⟩
   obtain ⟨q, hq⟩ := HQ.out i hi; obtain ⟨hc1, hc2⟩ := HC.out i q hi hq; have hqp := hq.pos; have hql := hq.len; have HB := Lib.hid (HB.out q); rw [List.getD_eq_getElem?_getD, List.getElem?_eq_getElem hi, Option.getD_some] at hqp hql hc1 hc2; clear HQ HC hq
   generalize parseLib (s.take q) = r at *
   obtain ⟨lib2, off2, err2⟩ := r; simp only at hc1 hc2 HB; refine calls_in Tryd.func6 Tryd.ntmps6 rfl rfl ?_
   focus
    refine cS (cA rfl rfl (cN (cM rfl rfl ?_))); refine cR (by kernel_rfl) rfl (Lex_c _ _ (by omega)) (fun _ _ h => h.ret) rfl ?_; rintro _ we5 ⟨ae1, ⟨ke2, ⟨⟨⟩, ⟨he3, xe4⟩⟩⟩⟩; have ze6 := xe4.size; replace ht := ht.ext xe4; replace hE := hE.ext xe4; replace X := X.ext xe4; replace hS := hS.ext xe4; clear xe4; refine cM rfl rfl (lw_pure (pur_extract rfl rfl) rfl (lw_pure (pur_extract rfl rfl) rfl (lw_pure (pur_extract rfl rfl) rfl (cA rfl rfl (cA rfl rfl (cA rfl rfl (cT (cw_seq (cS ?_))))))))); refine cC (by kernel_rfl) rfl (awake36_c _ (by assumption) (by assumption)) rfl ?_; rintro _ we8 ⟨⟨⟩, xe7⟩; have ze9 := xe7.size; replace he3 := he3.ext xe7; replace ht := ht.ext xe7; replace hE := hE.ext xe7; replace X := X.ext xe7; replace hS := hS.ext xe7; clear xe7; refine lw_pure (pur_not rfl) rfl (cM rfl rfl (lw_on rfl rfl rfl (rfl) (cM rfl rfl (lw_on rfl rfl rfl (rfl) (lw_pure (pur_len_s tabOk rfl rfl) rfl (lw_on rfl rfl rfl (rfl) (lw_pure (pur_gtr rfl rfl) rfl (lw_pure (pur_pick_f rfl rfl rfl) rfl (cM rfl rfl ?_))))))))); refine lw_on rfl rfl rfl (gd_ff (by omega)) ?_; refine cM rfl rfl ?_; refine lw_on rfl rfl rfl (gd_ff (by omega)) ?_; refine lw_pure (pur_neq rfl rfl) rfl ?_; refine lw_pure (pur_pick_no rfl rfl (by omega)) rfl ?_; refine cT ?_; refine cw_no rfl (by omega) ?_; refine cw_skip (qw_then (cS (cM rfl rfl ?_))); refine cR (by kernel_rfl) rfl (HS.out _ _ _ _ (by assumption) (by intro b h; have := h.2; omega)) (fun _ _ h => h.ret) rfl ?_; rintro _ we14 ⟨ae10, ⟨ke11, ⟨⟨⟩, ⟨he12, xe13⟩⟩⟩⟩
    have ze15 := xe13.size; replace he3 := he3.ext xe13; replace ht := ht.ext xe13; replace hE := hE.ext xe13; replace X := X.ext xe13; replace hS := hS.ext xe13; clear xe13; refine cA rfl rfl (cT (cw_seq (cS (cM rfl rfl ?_)))); refine cR (by kernel_rfl) rfl (HA.out _ (by assumption) (by assumption)) (fun _ _ h => h.ret) rfl ?_; rintro _ we20 ⟨lae16, ⟨lce17, ⟨⟨⟩, ⟨he18, xe19⟩⟩⟩⟩; have ze21 := xe19.size; replace he12 := he12.ext xe19; replace he3 := he3.ext xe19; replace ht := ht.ext xe19; replace hE := hE.ext xe19; replace X := X.ext xe19; replace hS := hS.ext xe19; clear xe19; refine cM rfl rfl (lw_pure (pur_extract rfl rfl) rfl (lw_pure (pur_extract rfl rfl) rfl (lw_pure (pur_extract rfl rfl) rfl (cA rfl rfl (cA rfl rfl (cA rfl rfl (cN (cM rfl rfl (lw_pure (pur_neq rfl rfl) rfl (cM rfl rfl (lw_on rfl rfl rfl (gd_ff (not_not_intro rfl)) ?_))))))))))); refine cM rfl rfl (lw_on rfl rfl rfl (gd_ff (not_not_intro rfl)) (lw_pure (pur_len_slice tabOk rfl rfl) rfl (lw_on rfl rfl rfl (gd_ff (not_not_intro rfl)) (lw_pure (pur_eql rfl rfl) rfl (lw_pure (pur_pick_no rfl rfl (not_not_intro rfl)) rfl (cT ?_)))))); refine cw_no rfl (by omega) ?_; refine cw_skip (qw_then (cS (cM rfl rfl (cM rfl rfl ?_)))); refine lw_pure (pur_conv tabOk rfl rfl rfl (IntWalk.i64_in _ (by omega))) rfl ?_; refine cM rfl rfl (lw_pure (pur_len_slice tabOk rfl rfl) rfl ?_); refine lw_pure (pur_rem rfl rfl (by omega) (rem_known (by assumption) (by omega))) rfl ?_; rotate_left 1
   obtain ⟨tb, to, rfl, hkS, hrw⟩ := he12.get (by omega); have hr : Row we20 ⟨tb, to + i * 3, none⟩ ts[i].cells := hrw _ _ (List.getElem?_eq_getElem hi); clear hrw he12 he3 he18 HA HS
   generalize ts[i] = t at *
   obtain ⟨tk, tt, tp⟩ := t; simp only at hqp hql hc1 hc2; subst hqp; replace hr : Row we20 ⟨tb, to + i * 3, none⟩ [.int .u8 tk, str tt, .int .i64 (q : Int)] := hr
   have hqs : q ≤ s.length := by omega
   by_cases hpc : tt = [112, 114, 111, 99]
   · have h06 := hc2 hpc
     clear hc1 hc2
     rcases h06 with h06 | h06
     · subst h06
       focus
        refine lw_pure (pur_indexAddr tabOk rfl rfl rfl rfl (by omega) (by omega)) rfl ?_; refine lw_loads_r0 tabOk rfl rfl rfl hr rfl rfl ?_; (refine lw_alloc' [_, _, _] zOk rfl rfl ?_; intro bf1 wf2 nf3); (refine lw_init' [_, _, _] tabOk rfl rfl rfl rfl rfl rfl nf3 rfl ?_; clear nf3; clear wf2; intro wf4 nf3); have hf5 := nf3.blk; have xf6 := nf3.ext; have pf7 := nf3.pos; have zf8 := nf3.size; clear nf3; replace ht := ht.ext xf6; replace hE := hE.ext xf6; replace X := X.ext xf6; replace hS := hS.ext xf6; replace hr := hr.ext xf6; clear xf6; refine cN (cM rfl rfl (lw_pure (pur_fieldAddr tabOk rfl rfl rfl) rfl (lw_load_b tabOk rfl rfl rfl hf5 rfl rfl ?_))); refine lw_pure (pur_supto tabOk rfl rfl rfl (by omega) (by omega)) rfl ?_; refine cR (by kernel_rfl) rfl (HB.out _ (by assumption) (by assumption)) (fun _ _ h => h.ret) rfl ?_; rintro _ wf13 ⟨laf9, ⟨lcf10, ⟨⟨⟩, ⟨hf11, xf12⟩⟩⟩⟩; have zf14 := xf12.size; replace hf5 := hf5.ext xf12; replace ht := ht.ext xf12; replace hE := hE.ext xf12; replace X := X.ext xf12; replace hS := hS.ext xf12; replace hr := hr.ext xf12; clear xf12; refine cM rfl rfl (lw_pure (pur_extract rfl rfl) rfl (lw_pure (pur_extract rfl rfl) rfl (lw_pure (pur_extract rfl rfl) rfl (cA rfl rfl (cA rfl rfl (cA rfl rfl (cT (cw_seq (cS (lw_pure (pur_fieldAddr tabOk rfl rfl rfl) rfl (lw_load_b tabOk rfl rfl rfl hf5 rfl rfl ?_))))))))))); refine lw_pure (pur_sneq rfl rfl) rfl (cT ?_); refine cw_no rfl (not_not_intro (by assumption)) ?_; refine cw_skip (qw_then (cS (cM rfl rfl (lw_pure (pur_eql rfl rfl) rfl (cM rfl rfl (lw_off rfl rfl rfl (gd_ft (rfl)) rfl (lw_off rfl rfl rfl (gd_ft (rfl)) rfl (lw_pure (pur_pick_yes rfl rfl (rfl)) rfl (cA rfl rfl (cT (cw_ret ?_)))))))))))
        refine qw_ret1 rfl rfl ?_; rotate_left 1
       all_goals exact ⟨by simp, X⟩
     · subst h06
       focus
        refine lw_pure (pur_indexAddr tabOk rfl rfl rfl rfl (by omega) (by omega)) rfl ?_; refine lw_loads_r0 tabOk rfl rfl rfl hr rfl rfl ?_; (refine lw_alloc' [_, _, _] zOk rfl rfl ?_; intro bg1 wg2 ng3); (refine lw_init' [_, _, _] tabOk rfl rfl rfl rfl rfl rfl ng3 rfl ?_; clear ng3; clear wg2; intro wg4 ng3); have hg5 := ng3.blk; have xg6 := ng3.ext; have pg7 := ng3.pos; have zg8 := ng3.size; clear ng3; replace ht := ht.ext xg6; replace hE := hE.ext xg6; replace X := X.ext xg6; replace hS := hS.ext xg6; replace hr := hr.ext xg6; clear xg6; refine cN (cM rfl rfl (lw_pure (pur_fieldAddr tabOk rfl rfl rfl) rfl (lw_load_b tabOk rfl rfl rfl hg5 rfl rfl ?_))); refine lw_pure (pur_supto tabOk rfl rfl rfl (by omega) (by omega)) rfl ?_; refine cR (by kernel_rfl) rfl (HB.out _ (by assumption) (by assumption)) (fun _ _ h => h.ret) rfl ?_; rintro _ wg13 ⟨lag9, ⟨lcg10, ⟨⟨⟩, ⟨hg11, xg12⟩⟩⟩⟩; have zg14 := xg12.size; replace hg5 := hg5.ext xg12; replace ht := ht.ext xg12; replace hE := hE.ext xg12; replace X := X.ext xg12; replace hS := hS.ext xg12; replace hr := hr.ext xg12; clear xg12; refine cM rfl rfl (lw_pure (pur_extract rfl rfl) rfl (lw_pure (pur_extract rfl rfl) rfl (lw_pure (pur_extract rfl rfl) rfl (cA rfl rfl (cA rfl rfl (cA rfl rfl (cT (cw_seq (cS (lw_pure (pur_fieldAddr tabOk rfl rfl rfl) rfl (lw_load_b tabOk rfl rfl rfl hg5 rfl rfl ?_))))))))))); refine lw_pure (pur_sneq rfl rfl) rfl (cT ?_); refine cw_no rfl (not_not_intro (by assumption)) ?_; refine cw_skip (qw_then (cS (cM rfl rfl (lw_pure (pur_eql rfl rfl) rfl (cM rfl rfl ?_)))))
        refine lw_dec rfl rfl rfl (fun cg15 => ?_) (fun cg15 => ?_); refine lw_off rfl rfl rfl (gd_ft (by assumption)) rfl ?_; refine lw_off rfl rfl rfl (gd_ft (by assumption)) rfl ?_; refine lw_pure (pur_pick_yes rfl rfl (by assumption)) rfl ?_; refine cA rfl rfl (cT (cw_ret (qw_ret1 rfl rfl ?_))); rotate_left 1; refine lw_on rfl rfl rfl (gd_ff (by assumption)) ?_; refine cM rfl rfl ?_; refine lw_on rfl rfl rfl (gd_ff (by assumption)) ?_; refine lw_pure (pur_eql rfl rfl) rfl ?_; refine lw_pure (pur_pick_no rfl rfl (by assumption)) rfl ?_; refine cA rfl rfl (cT (cw_ret (qw_ret1 rfl rfl ?_))); rotate_left 1
       all_goals exact ⟨by simp, X⟩
   · have h04 := hc1 hpc
     clear hc1 hc2; simp only [Prod.mk.injEq] at h04; obtain ⟨rfl, rfl, rfl⟩ := h04
     focus
      refine lw_pure (pur_indexAddr tabOk rfl rfl rfl rfl (by omega) (by omega)) rfl ?_; refine lw_loads_r0 tabOk rfl rfl rfl hr rfl rfl ?_; (refine lw_alloc' [_, _, _] zOk rfl rfl ?_; intro bh1 wh2 nh3); (refine lw_init' [_, _, _] tabOk rfl rfl rfl rfl rfl rfl nh3 rfl ?_; clear nh3; clear wh2; intro wh4 nh3); have hh5 := nh3.blk; have xh6 := nh3.ext; have ph7 := nh3.pos; have zh8 := nh3.size; clear nh3; replace ht := ht.ext xh6; replace hE := hE.ext xh6; replace X := X.ext xh6; replace hS := hS.ext xh6; replace hr := hr.ext xh6; clear xh6; refine cN (cM rfl rfl (lw_pure (pur_fieldAddr tabOk rfl rfl rfl) rfl (lw_load_b tabOk rfl rfl rfl hh5 rfl rfl ?_))); refine lw_pure (pur_supto tabOk rfl rfl rfl (by omega) (by omega)) rfl ?_; refine cR (by kernel_rfl) rfl (HB.out _ (by assumption) (by assumption)) (fun _ _ h => h.ret) rfl ?_; rintro _ wh13 ⟨lah9, ⟨lch10, ⟨⟨⟩, ⟨hh11, xh12⟩⟩⟩⟩; have zh14 := xh12.size; replace hh5 := hh5.ext xh12; replace ht := ht.ext xh12; replace hE := hE.ext xh12; replace X := X.ext xh12; replace hS := hS.ext xh12; replace hr := hr.ext xh12; clear xh12; refine cM rfl rfl (lw_pure (pur_extract rfl rfl) rfl (lw_pure (pur_extract rfl rfl) rfl (lw_pure (pur_extract rfl rfl) rfl (cA rfl rfl (cA rfl rfl (cA rfl rfl (cT (cw_seq (cS (lw_pure (pur_fieldAddr tabOk rfl rfl rfl) rfl (lw_load_b tabOk rfl rfl rfl hh5 rfl rfl ?_))))))))))); refine lw_pure (pur_sneq rfl rfl) rfl (cT ?_); refine cw_yes rfl (by assumption) ?_; refine cS (cM rfl rfl (lw_pure (pur_eql rfl rfl) rfl (cM rfl rfl (lw_on rfl rfl rfl (gd_tt (rfl)) (cM rfl rfl (lw_on rfl rfl rfl (gd_tt (rfl)) (lw_pure (pur_fieldAddr tabOk rfl rfl rfl) rfl (lw_on rfl rfl rfl (gd_tt (rfl)) (lw_load_b tabOk rfl rfl rfl hh5 rfl rfl (lw_on rfl rfl rfl (gd_tt (rfl)) (lw_pure (pur_eql rfl rfl) rfl ?_)))))))))))
      refine lw_pure (pur_pick_yes rfl rfl (rfl)) rfl (cM rfl rfl (lw_on rfl rfl rfl (gd_tt (rfl)) (cM rfl rfl (lw_on rfl rfl rfl (gd_tt (rfl)) (lw_pure (pur_len_slice tabOk rfl rfl) rfl (lw_on rfl rfl rfl (gd_tt (rfl)) (lw_pure (pur_eql rfl rfl) rfl (lw_pure (pur_pick_yes rfl rfl (rfl)) rfl (cA rfl rfl (cT (cw_ret ?_))))))))))); refine qw_then_ret (qw_ret1 rfl rfl ?_); rotate_left 1
     all_goals exact ⟨by simp, X⟩
end Bk
