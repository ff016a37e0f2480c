/- Texts that the proofs of FuntextParse need. No condition. (Part 8 of 8.) -/
import Derived.Test.YthfjhbdgdaebnaaGreatDoorPFpa7
set_option linter.unusedSimpArgs false
set_option linter.unusedVariables false
namespace Bk
open Go Go.RowKit Go.Proofs
attribute [local irreducible] Go.Calls
theorem libErr_at {lib : List FD} {j : Nat} (hj : j < lib.length) : libErrFrom lib j (lib.drop j) = if fnErr lib j lib[j] ≠ 0 then some (j, fnErr lib j lib[j]) else libErrFrom lib (j + 1) (lib.drop (j + 1)) := by
 rw [List.drop_eq_getElem_cons hj, libErrFrom]
theorem gOne_v {lib : List FD} {i : Nat} {q : Int} (hi : i < lib.length) (h : fnErr lib i lib[i] = q) (S : Nat → Prop) (a : Option Addr) (c : Nat) (w : World) (hl : LibFew lib) (hs : FDs S w lib a) :
 Calls Tryz.prog 20 #[.slice a lib.length c, .int .i64 i] w fun e w' => e = .returned (.int .i64 q) ∧ Ext w w' := by
 have := gOne_c lib i S a c w hl hi hs
 rw [h] at this; exact this
set_option maxRecDepth 100000 in
set_option maxHeartbeats 4000000 in
theorem gValid_c (lib : List FD) (S : Nat → Prop) (a : Option Addr) (c : Nat) (w : World) (hl : LibFew lib) (hs : FDs S w lib a) :
 Calls Tryz.prog 8 #[.slice a lib.length c] w fun r w' => r = .returned (.tuple #[.int .i64 (validI lib).1, .int .i64 (validI lib).2]) ∧ Ext w w' := by
 have X := Ext.refl w; replace hs := hs.ltA; have hL := hl.len; have HL := Lib.hid hl; clear hl; refine calls_in Tryz.func8 Tryz.ntmps8 rfl rfl ?_
 focus
  refine cS (C1 Pa (C1 Pa (cT (cw_seq (cS (C1 Pa (cT (cw_block ?_)))))))); rotate_left 1
 refine cw_loop (ι := Nat) (fun j => [(0, .slice a lib.length c), (4, .int .i64 j)]) (fun j w' => FDs (· < w.heap.size) w' lib a ∧ Ext w w' ∧ j ≤ lib.length ∧ libErr lib = libErrFrom lib j (lib.drop j)) (fun j => lib.length - j) 0 (by (refine sub_cons rfl ?_; refine sub_cons rfl ?_; exact sub_nil)) ⟨hs, X, Nat.zero_le _, rfl⟩ ?_; clear hs X; rintro j w1 ⟨hs, X, hj, he⟩; have HE := Lib.hid he; clear he
 by_cases hlt : j < lib.length
 · have hq := HE.out
   rw [libErr_at hlt] at hq
   by_cases hz : fnErr lib j lib[j] = 0
   · have HO := Lib.hid (gOne_v hlt hz)
     rw [if_neg (by simpa using hz)] at hq; have HQ := Lib.hid hq; clear hq hz HE
     focus
      refine cw_seq (cS (C1 Mv (C1 Mv (C1 Pz (C1 V3 (cT (Wyo (cw_skip (qw_then (cw_seq (cw_block ?_))))))))))); refine cS (C1 Mv (C1 Mv ?_)); refine cC rfl (HO.out _ _ _ _ HL.out (by assumption)) ?_; rintro _ wa2 ⟨⟨⟩, xa1⟩; have za3 := xa1.size; replace hs := hs.ext xa1; replace X := X.ext xa1; clear xa1; refine C1 Pa (cN (C1 Mv (C1 V2 (cT (Wnd (cw_skip (qw_block_norm (qw_then (cw_region (C1 Mv (C1 V7 ?_))))))))))); refine C1 Pa (lw_nil ?_); rotate_left 1
     exact qw_round (j + 1) (by (refine sub_cons rfl ?_; refine sub_cons rfl ?_; exact sub_nil)) ⟨hs, X, by omega, HQ.out⟩ (by omega)
   · have HO := Lib.hid (gOne_v hlt rfl)
     rw [if_pos hz] at hq
     generalize fnErr lib j lib[j] = q at *
     have HQ := Lib.hid (show validI lib = ((j : Int), q) by unfold validI; rw [hq]); clear hq HE
     focus
      refine cw_seq (cS (C1 Mv (C1 Mv (C1 Pz (C1 V3 (cT (Wyo (cw_skip (qw_then (cw_seq (cw_block ?_))))))))))); refine cS (C1 Mv (C1 Mv ?_)); refine cC rfl (HO.out _ _ _ _ HL.out (by assumption)) ?_; rintro _ wb2 ⟨⟨⟩, xb1⟩; have zb3 := xb1.size; replace hs := hs.ext xb1; replace X := X.ext xb1; clear xb1; refine C1 Pa (cN (C1 Mv (C1 V2 (cT (Wya (cS (C1 Mv (C1 Mv (C1 Pa (C1 Pa (cT ?_))))))))))); refine cw_ret (qw_block_ret (qw_then_ret (qw_then_ret (qw_block_ret (qw_then_ret (qw_ret2 rfl rfl rfl ?_)))))); rotate_left 1
     rw [HQ.out]
     exact ⟨rfl, X⟩
 · have hje : j = lib.length := by omega
   subst hje; have hq := HE.out; rw [List.drop_length, libErrFrom] at hq; have HQ := Lib.hid (show validI lib = (-1, 0) by unfold validI; rw [hq]); clear hq HE
   focus
    refine cw_seq (cS (C1 Mv (C1 Mv (C1 Pz (C1 V3 (cT (Wno (cw_exit (qw_then_exit (qw_then_exit (qw_block_exit ?_))))))))))); refine qw_then (cS (C1 Pa (C1 Pa (cT (cw_ret (qw_ret2 rfl rfl rfl ?_)))))); rotate_left 1
   rw [HQ.out]
   exact ⟨rfl, X⟩
end Bk
namespace Bk
open Go Go.RowKit Go.Proofs
attribute [local irreducible] Go.Calls
theorem gValidH_v {lib : List FD} {i e : Int} (h : validI lib = (i, e)) (S : Nat → Prop) (a : Option Addr) (c : Nat) (w : World) (hl : LibFew lib) (hs : FDs S w lib a) :
 Calls Tryz.prog 8 #[.slice a lib.length c] w fun r w' => r = .returned (.tuple #[.int .i64 i, .int .i64 e]) ∧ Ext w w' := by
 have := gValid_c lib S a c w hl hs
 rw [h] at this; exact this
set_option maxRecDepth 100000 in
set_option maxHeartbeats 16000000 in
theorem gParse_c (s : List UInt8) (w : World) (hs : s.length ≤ 65536) : Calls Tryz.prog 11 #[str s] w (LibR w (parseLib s)) := by
 have X := Ext.refl w
 cases h1 : (solidFrom s 0).2 with
 | some q =>
  have hno : (solidFrom s 0).2.isNone = false := by rw [h1]; rfl
  have hgd : (solidFrom s 0).2.getD 0 = q := by rw [h1]; rfl
  rw [parseLib_bad (by omega) h1]; refine calls_in Tryz.func11 Tryz.ntmps11 rfl rfl ?_
  focus
   refine cS (C1 Pa (C1 Pa (C1 Pa (cT (cw_seq (cS (C1 Mv (C1 Py (C1 V5 (cT (Wno ?_))))))))))); refine cw_skip (qw_then (cS (C1 Mv ?_))); refine cR (by kernel_rfl) rfl (rTokens_c _ _ (by omega)) (fun _ _ h => h.ret) rfl ?_; rintro _ w5 ⟨a1, ⟨k2, ⟨⟨⟩, ⟨h3, x4⟩⟩⟩⟩; have z6 := x4.size; replace X := X.ext x4; clear x4; refine C1 Mv (C1 Px (C1 Px (C1 Px (C1 Pa (C1 Pa (C1 Pa (cT (cw_seq (cS (C1 Mv (C1 Pt ?_))))))))))); refine cT ?_; refine cw_nt rfl (by assumption) ?_; refine cS (C1 Mv (C1 Pa (C1 Pa (C1 Pa (cT (cw_ret (qw_then_ret (qw_ret3 rfl rfl rfl rfl ?_)))))))); rotate_left 1
  rw [hgd]
  exact libR_mk (r' := ([], (q : Int), 3)) rfl (Or.inl rfl) X
 | none =>
  have hno : (solidFrom s 0).2.isNone = true := by rw [h1]; rfl
  have e := start_ok (by omega) h1; have hln := start_len s; have hok := solid_ok s; have hnm := solid_nm s; rw [e] at hln hok hnm; simp only at hln hok hnm
  have HO := Lib.hid hok; clear hok
  have HN := Lib.hid hnm; clear hnm
  have hfew := libS_few (s := s) (by omega) h1; rw [parseLib_ok (by omega) h1]; have HW := Lib.hid hfew; clear e hfew; refine calls_in Tryz.func11 Tryz.ntmps11 rfl rfl ?_
  focus
   refine cS (C1 Pa (C1 Pa (C1 Pa (cT (cw_seq (cS (C1 Mv (C1 Py (C1 V5 (cT (Wno ?_))))))))))); refine cw_skip (qw_then (cS (C1 Mv ?_))); refine cR (by kernel_rfl) rfl (rTokens_c _ _ (by omega)) (fun _ _ h => h.ret) rfl ?_; rintro _ wa5 ⟨aa1, ⟨ka2, ⟨⟨⟩, ⟨ha3, xa4⟩⟩⟩⟩; have za6 := xa4.size; replace X := X.ext xa4; clear xa4; refine C1 Mv (C1 Px (C1 Px (C1 Px (C1 Pa (C1 Pa (C1 Pa (cT (cw_seq (cS (C1 Mv (C1 Pt ?_))))))))))); refine cT ?_; refine cw_nf rfl (by assumption) ?_; refine cw_skip (qw_then (cS (C1 Mv (C1 Mv (C1 Py (C1 (pur_build' [_, _, _, _, _] tabOk zOk rfl rfl rfl rfl) ?_)))))); (refine lw_box' [_, _, _, _, _] rfl rfl rfl ?_; intro ba7 wa8 na9); have ha10 := na9.blk; have xa11 := na9.ext; have pa12 := na9.pos; have za13 := na9.size; clear na9; replace ha3 := ha3.ext xa11; replace X := X.ext xa11; clear xa11; refine C1 Pa (cN (C1 Pa (cN (C1 Pa (cT ?_))))); rotate_left 1
  have hPP0 : RP ⟨ba7, wa8.heap.size, (solidFrom s 0).1, s.length, aa1, ka2⟩ ⟨0, 0, 0⟩ wa8 := by
   refine ⟨ha10, ha3.wide (fun b h => ⟨by simp only; omega, by simp only; omega⟩), by simp only; omega, Nat.le_refl _, Nat.zero_le _, by simp only; omega, fun t ht => ?_, HN.out, fun t ht hd => ?_⟩
   · have := (HO.out t ht).len; omega
   · exact ((HO.out t ht).num ((HO.out t ht).dig.2 hd)).2
  clear HO HN ha10 ha3; obtain ⟨c, hc1, hc2, hc3, hc4, hPP⟩ : ∃ c : RC, c.pb = ba7 ∧ c.B = wa8.heap.size ∧ c.ts = (solidFrom s 0).1 ∧ c.n = s.length ∧ RP c ⟨0, 0, 0⟩ wa8 := ⟨_, rfl, rfl, rfl, rfl, hPP0⟩; clear hPP0; obtain rfl := hc1; rw [← hc3] at HW hln ⊢; rw [← hc4] at HW ⊢
  have hfu : 13 * mS c.ts ⟨0, 0, 0⟩ + 13 ≤ 13 * s.length + 30 := by have := mS_len (ts := c.ts) (σ := ⟨0, 0, 0⟩); omega
  generalize 13 * s.length + 30 = K at *
  have hcp := hPP.pbB; clear h1 hno hc3 hc4
  focus
   refine cw_seq (cw_block ?_); rotate_left 1
  refine cw_loop (ι := Nat × List FD × List Int × (Option Addr × Nat) × (Option Addr × Nat) × PS) (fun y => [(8, .pointer (some ⟨c.pb, 0, none⟩)), (9, .slice y.2.2.2.1.1 y.2.1.length y.2.2.2.1.2), (10, .slice y.2.2.2.2.1.1 y.2.2.1.length y.2.2.2.2.1.2)])
   (fun y w' => RP c y.2.2.2.2.2 w' ∧ OwnQ intShape w' (fun _ => False) c.B 3 (.slice y.2.2.2.2.1.1 y.2.2.1.length y.2.2.2.2.1.2) y.2.2.1 ∧ OwnQ fdShape w' (fun b => c.B ≤ b ∧ (Value.slice y.2.2.2.2.1.1 y.2.2.1.length y.2.2.2.2.1.2).ownBlock ≠ some b) c.B 42 (.slice y.2.2.2.1.1 y.2.1.length y.2.2.2.1.2) y.2.1 ∧
    (∀ g, (Value.slice y.2.2.2.1.1 y.2.1.length y.2.2.2.1.2).ownBlock = some g → (Value.slice y.2.2.2.2.1.1 y.2.2.1.length y.2.2.2.2.1.2).ownBlock ≠ some g) ∧ Ext w w' ∧ c.B ≤ w'.heap.size ∧ libS c.ts c.n K [] [] ⟨0, 0, 0⟩ = libS c.ts c.n y.1 y.2.1 y.2.2.1 y.2.2.2.2.2 ∧ 13 * mS c.ts y.2.2.2.2.2 + 13 ≤ y.1 ∧ y.2.1.length + mS c.ts y.2.2.2.2.2 ≤ 1000000 ∧ y.2.2.1.length = y.2.1.length) (fun y => y.1) (K, [], [], (none, 0), (none, 0), ⟨0, 0, 0⟩) (by (refine sub_cons rfl ?_; refine sub_cons rfl ?_; refine sub_cons rfl ?_; exact sub_nil))
   ⟨by assumption, OwnQ.nil, OwnQ.nil, (fun g h => nomatch h), X, by omega, rfl, hfu, by have := mS_len (ts := c.ts) (σ := ⟨0, 0, 0⟩); simp only [List.length_nil]; omega, rfl⟩ ?_
  clear hPP X hfu; rintro ⟨k, fs, at_, ⟨fa, fc⟩, ⟨sa, sc⟩, σ⟩ w2 ⟨hP, ho1, ho2, hdis, X, hB, heq, hk, hfl, hal⟩; simp only at hP ho1 ho2 hdis heq hk hfl hal; have HQ := Lib.hid heq; clear heq; refine CW.sub (m := [(8, .pointer (some ⟨c.pb, 0, none⟩)), (9, .slice fa fs.length fc), (10, .slice sa at_.length sc)]) ?_ (by (refine sub_cons rfl ?_; refine sub_cons rfl ?_; refine sub_cons rfl ?_; exact sub_nil))
  have hob1 : ∀ g, (Value.slice sa at_.length sc).ownBlock = some g → c.B ≤ g ∧ g < w2.heap.size := fun g h => ⟨ho1.ge h, ho1.lt h⟩
  have hob2 : ∀ g, (Value.slice fa fs.length fc).ownBlock = some g → c.B ≤ g ∧ g < w2.heap.size := fun g h => ⟨ho2.ge h, ho2.lt h⟩
  have hat := hP.at_; have hlen := hP.len
  by_cases hgo : σ.err = 0 ∧ σ.at_ < c.ts.length
  · obtain ⟨hg, hlt⟩ := hgo
    obtain ⟨k, rfl⟩ : ∃ j, k = j + 1 := ⟨k - 1, by omega⟩; have he := HQ.out; rw [libS, if_pos ⟨hg, hlt⟩] at he
    have hpos : (c.ts.getD σ.at_ Tok.zero).pos = c.ts[σ.at_].pos := by simp [List.getElem?_eq_getElem hlt]
    rw [hpos] at he; have HQ := Lib.hid he; obtain ⟨tb, tof, hta, htS, hrow⟩ := hP.toks.get (by omega); have hr : Row w2 ⟨tb, tof + σ.at_ * 2, none⟩ c.ts[σ.at_].rcells := hrow σ.at_ _ (List.getElem?_eq_getElem hlt); clear hrow he hpos
    generalize c.ts[σ.at_] = tk at *
    replace ho2 := ho2.ltR; have lf := (good_functionS k).le c.ts c.n σ hat; have mf := mS_lt lf (lt_functionS k c.ts c.n σ hat); have mp := mS_pos (ts := c.ts) (σ := σ) ⟨hg, hlt⟩; have m0 := mS_len (ts := c.ts) (σ := σ); (try dsimp only at mf); have l1 := expect_le (n := c.n) (t := [112, 114, 111, 99]) hat (by decide); have l2 := name_le (n := c.n) l1.wf; have l3 := expect_le (n := c.n) (t := [40]) l2.wf (by decide); have m3 := mS_le ((l1.trans l2).trans l3); have hwf3 := l3.wf; clear lf l1 l2 l3
    focus
     refine cw_seq (cw_seq ?_); (refine cw_tdraw (fun wz => Ext w2 wz) 15 (.pure 0 (.pure 1 (.pure 2 (.pure 3 (.pure 4 (.pure 5 (.pure 6 (.pure 7 (.pure 8 (.pure 9 (.pure 10 (.pure 11 (.pure 12 (.pure 13 (.pure 14 .tail))))))))))))))) mixed (by kernel_rfl) (panicOk_then (panicOk_then (panicOk_then (panicOk_block (panicOk_then panicOk_body))))) ?_; intro wc1 xc2 _); have qsc3 : (fun wz => Ext w2 wz) wc1 := xc2; simp only at qsc3; have d_hP := hP; have d_ho1 := ho1; have d_hr := hr; have d_ho2 := ho2; have zc4 := xc2.size; replace hP := hP.ext xc2; replace ho1 := ho1.ext xc2; replace X := X.ext xc2; replace hr := hr.ext xc2; replace ho2 := ho2.ext xc2; clear xc2; refine ⟨qsc3, ?_⟩; refine Tq rfl Mv (Tq rfl Pn (Tq rfl Pf (Tq rfl (pur_load tabOk rfl rfl rfl (fun wz hz => Blk.cell (Blk.ext (RP.blk d_hP) hz) rfl)) (Tq rfl V1 (Tq rfl Mv ?_))))); refine tw_on rfl rfl rfl rfl (gd_tt (by assumption)) (pur_move rfl) rfl ?_; refine tw_on rfl rfl rfl rfl (gd_tt (by assumption)) (pur_nilCheck rfl) rfl ?_; refine tw_on rfl rfl rfl rfl (gd_tt (by assumption)) (pur_fieldAddr tabOk rfl rfl rfl) rfl ?_; refine tw_on rfl rfl rfl rfl (gd_tt (by assumption)) (pur_load tabOk rfl rfl rfl (fun wz hz => Blk.cell (Blk.ext (RP.blk d_hP) hz) rfl)) rfl ?_; refine tw_on rfl rfl rfl rfl (gd_tt (by assumption)) (pur_move rfl) rfl ?_; refine tw_on rfl rfl rfl rfl (gd_tt (by assumption)) (pur_nilCheck rfl) rfl ?_; refine tw_on rfl rfl rfl rfl (gd_tt (by assumption)) (pur_fieldAddr0 tabOk rfl rfl rfl) rfl ?_; refine tw_on rfl rfl rfl rfl (gd_tt (by assumption)) (pur_load tabOk rfl rfl rfl (fun wz hz => Blk.cell (Blk.ext (RP.blk d_hP) hz) rfl)) rfl ?_
     refine tw_on rfl rfl rfl rfl (gd_tt (by assumption)) (pur_len_slice tabOk rfl rfl) rfl ?_; clear qsc3 d_hP d_ho1 d_hr d_ho2; refine tw_tail rfl (Gya (C1 V3 (C1 Qya (cT (Wyo (cw_skip (qw_then (cw_block (cw_seq ?_))))))))); (refine cw_tdraw (fun wz => Ext wc1 wz) 13 (.pure 0 (.pure 1 (.pure 2 (.pure 3 (.pure 4 (.pure 5 (.pure 6 (.pure 7 (.pure 8 (.pure 9 (.pure 10 (.pure 11 (.fork 12 .tail .none))))))))))))) mixed (by kernel_rfl) (panicOk_then (panicOk_block (panicOk_then (panicOk_block (panicOk_then panicOk_body))))) ?_; intro wc5 xc6 _); have qsc7 : (fun wz => Ext wc1 wz) wc5 := xc6; simp only at qsc7; have d_hP := hP; have d_ho1 := ho1; have d_hr := hr; have d_ho2 := ho2; have zc8 := xc6.size; replace hP := hP.ext xc6; replace ho1 := ho1.ext xc6; replace X := X.ext xc6; replace hr := hr.ext xc6; replace ho2 := ho2.ext xc6; clear xc6; refine ⟨qsc7, ?_⟩; refine Tq rfl Mv (Tq rfl Mv (Tq rfl Pn (Tq rfl Pg (Tq rfl (pur_load tabOk rfl rfl rfl (fun wz hz => Blk.cell (Blk.ext (RP.blk d_hP) hz) rfl)) (Tq rfl Mv (Tq rfl Pn (Tq rfl Pf (Tq rfl (pur_load tabOk rfl rfl rfl (fun wz hz => Blk.cell (Blk.ext (RP.blk d_hP) hz) rfl)) ?_)))))))); refine Tq rfl (pur_indexAddr_eq tabOk rfl rfl rfl (by assumption) rfl (by omega) (by omega)) ?_; refine Tq rfl Pf (Tq rfl (Dr d_hr) ?_); (refine tw_does rfl (does_slice' [_] tabOk zOk rfl rfl rfl rfl rfl rfl rfl rfl rfl) rfl ?_ (fun _ h => h) tw_none; rintro _ wc11 ⟨bc10, rfl, nc12, tc13⟩); clear tc13; have hc14 := nc12.blk; have xc15 := nc12.ext; have pc16 := nc12.pos
     have zc17 := nc12.size; clear nc12; replace qsc7 := qsc7.ext xc15; replace hP := hP.ext xc15; replace ho1 := ho1.ext xc15; replace X := X.ext xc15; replace hr := hr.ext xc15; replace ho2 := ho2.ext xc15; clear xc15; refine ⟨qsc7, ?_⟩; clear d_hP d_ho1 d_hr d_ho2 qsc7; refine tw_tail rfl ?_; refine lw_does (does_appendQ (R := fun _ => False) (sh := intShape) (z := tk.pos) tabOk zOk rfl rfl rfl rfl (by kernel_rfl) rfl rfl rfl (by assumption) (fun _ h => by exact h) (Blk.row (by assumption)) rfl (by omega) (by omega)) rfl ?_ (fun _ h => h); rintro _ wc24 ⟨gc18, ⟨capc19, ⟨rfl, ⟨hc20, ⟨hc21, ⟨hc22, fc23⟩⟩⟩⟩⟩⟩; have zc25 := fc23.size; replace hc14 := Blk.fr hc14 fc23 (fun e => by have := hob1 _ e; omega); replace hP := RP.fr hP fc23 (fun k hk => by have := hob1 _ hk; omega); clear ho1; replace X := Ext.fr X fc23 (fun k hk => by have := hob1 _ hk; omega); clear hr; replace ho2 := OwnQ.fr ho2 fc23 (fun k hk => ⟨fun h => h.1.2 hk, fun e => hdis k e hk⟩); clear fc23; refine C1 Pa (cT ?_); rotate_left 1
    have hgB : c.B ≤ gc18 := hc20.ge rfl
    have hdis2 : ∀ g, (Value.slice fa fs.length fc).ownBlock = some g → g ≠ gc18 := by
     intro g hg e; subst e
     rcases hc21 with h | h
     · exact hdis g hg h
     · have := hob2 g hg; omega
    have ho3 : OwnQ fdShape wc24 (fun b => (c.B ≤ b ∧ b ≠ gc18) ∧ b < wc24.heap.size) c.B 42 (.slice fa fs.length fc) fs := ho2.wide (fun b h => ⟨⟨h.1.1, fun e => by
     subst e
     rcases hc21 with h' | h'
     · exact h.1.2 h'
     · have := h.2; omega⟩, by have := h.2; omega⟩)
    clear ho2 hc21 hob1 hdis hc14
    have hob3 : ∀ g, (Value.slice fa fs.length fc).ownBlock = some g → c.B ≤ g ∧ g ≠ gc18 ∧ g < wc24.heap.size := fun g h => ⟨(hob2 g h).1, hdis2 g h, by have := hob2 g h; omega⟩
    clear hob2 hdis2
    focus
     refine cS (C1 Mv ?_); refine cC rfl (gtake_c _ _ _ _ (by assumption) (by decide)) ?_; rintro _ wd3 ⟨⟨⟩, ⟨hd1, fd2⟩⟩; have zd4 := fd2.size; replace hc20 := OwnQ.fr hc20 fd2 (fun k hk => ⟨fun h => h.elim, fun e => by simp only [Value.ownBlock, Option.some.injEq] at e; (try dsimp only at hk); omega⟩); clear hP; replace X := X.fr fd2 (by omega); replace ho3 := OwnQ.fr ho3 fd2 (fun k hk => ⟨fun h => by (try dsimp only at hk h); omega, fun e => by have := hob3 _ e; (try dsimp only at hk); omega⟩); clear fd2; refine cN (C1 Mv ?_); refine cC rfl (gname_c _ _ _ (by assumption)) ?_; rintro _ wd7 ⟨⟨⟩, ⟨hd5, fd6⟩⟩; have zd8 := fd6.size; clear hd1; replace hc20 := OwnQ.fr hc20 fd6 (fun k hk => ⟨fun h => h.elim, fun e => by simp only [Value.ownBlock, Option.some.injEq] at e; (try dsimp only at hk); omega⟩); replace X := X.fr fd6 (by omega); replace ho3 := OwnQ.fr ho3 fd6 (fun k hk => ⟨fun h => by (try dsimp only at hk h); omega, fun e => by have := hob3 _ e; (try dsimp only at hk); omega⟩); clear fd6; refine C1 (pur_build' [_, _, _, _, _, _, _] tabOk zOk rfl rfl rfl rfl) ?_; (refine lw_alloc' [_, _, _, _, _, _, _] zOk rfl rfl ?_; intro bd9 wd10 nd11); (refine lw_init' [_, _, _, _, _, _, _] tabOk rfl rfl rfl rfl rfl rfl nd11 rfl ?_; clear nd11; clear wd10; intro wd12 nd11); have hd13 := nd11.blk; have xd14 := nd11.ext; have pd15 := nd11.pos; have zd16 := nd11.size; clear nd11; replace hd5 := hd5.ext xd14; replace hc20 := hc20.ext xd14; replace X := X.ext xd14; replace ho3 := ho3.ext xd14
     clear xd14; refine cN (C1 Mv ?_); refine cC rfl (gtake_c _ _ _ _ (by assumption) (by decide)) ?_; rintro _ wd19 ⟨⟨⟩, ⟨hd17, fd18⟩⟩; have zd20 := fd18.size; replace hd13 := hd13.fr fd18 (by omega); clear hd5; replace hc20 := OwnQ.fr hc20 fd18 (fun k hk => ⟨fun h => h.elim, fun e => by simp only [Value.ownBlock, Option.some.injEq] at e; (try dsimp only at hk); omega⟩); replace X := X.fr fd18 (by omega); replace ho3 := OwnQ.fr ho3 fd18 (fun k hk => ⟨fun h => by (try dsimp only at hk h); omega, fun e => by have := hob3 _ e; (try dsimp only at hk); omega⟩); clear fd18; refine cT (cw_seq ?_); rotate_left 1
    have hfo := fun ps τ h => functionS_of (ts := c.ts) (n := c.n) (k := k) (σ := σ) (ps := ps) (τ := τ) h
    generalize expectP c.ts c.n (nameP c.ts c.n (expectP c.ts c.n σ [112, 114, 111, 99])).2 [40] = σ1 at *
    generalize (nameP c.ts c.n (expectP c.ts c.n σ [112, 114, 111, 99])).1 = nm at *
    have HFO := Lib.hid hfo; clear hfo; refine cw_meet (ι := Bool) (fun m => [(8, .pointer (some ⟨c.pb, 0, none⟩)), (9, .slice fa fs.length fc), (10, .slice (some ⟨gc18, 0, none⟩) (at_ ++ [tk.pos]).length capc19), (11, .pointer (some ⟨bd9, 0, none⟩)), (12, .bool m)]) (fun m w' => RP c σ1 w' ∧ Blk w' bd9 [str nm, .slice none 0 0, .bool false, .int .u8 0, .int .i64 0, .string ⟨#[]⟩, .slice none 0 0] ∧ OwnQ intShape w' (fun _ => False) c.B 3 (.slice (some ⟨gc18, 0, none⟩) (at_ ++ [tk.pos]).length capc19) (at_ ++ [tk.pos]) ∧ OwnQ fdShape w' (fun b => (c.B ≤ b ∧ b ≠ gc18) ∧ b < wc24.heap.size) c.B 42 (.slice fa fs.length fc) fs ∧ Ext w w' ∧ wd19.heap.size ≤ w'.heap.size ∧ (m = true → σ1.err = 0 ∧ (peekP c.ts σ1).text ≠ [41]) ∧ (m = false → ¬ (σ1.err = 0 ∧ (peekP c.ts σ1).text ≠ [41]))) ?_ ?_
    · by_cases e1 : σ1.err = 0
      · by_cases e2 : (peekP c.ts σ1).text = [41]
        · focus
           refine cw_region (C1 Mv (C1 Pn (C1 Pf (lw_load_b tabOk rfl rfl rfl (RP.blk hd17) rfl rfl (C1 V1 (C1 Mv (Gya (C1 Mv (Gya ?_))))))))); refine cC rfl (gpeek_c _ _ _ (by assumption)) ?_; rintro _ we2 ⟨⟨⟩, xe1⟩; have ze3 := xe1.size; replace hc20 := hc20.ext xe1; replace X := X.ext xe1; replace ho3 := ho3.ext xe1; replace hd17 := hd17.ext xe1; replace hd13 := hd13.ext xe1; clear xe1; refine Gya (C1 V9 (C1 Qya (C1 Pa (lw_nil ?_)))); rotate_left 1
          exact qw_meet false (sub_cons rfl (sub_cons rfl (sub_cons rfl (sub_cons rfl (sub_cons' rfl (by simp [e2]) sub_nil))))) ⟨by assumption, by assumption, by assumption, by assumption, X, by omega, (fun h => nomatch h), fun _ h => h.2 e2⟩
        · focus
           refine cw_region (C1 Mv (C1 Pn (C1 Pf (lw_load_b tabOk rfl rfl rfl (RP.blk hd17) rfl rfl (C1 V1 (C1 Mv (Gya (C1 Mv (Gya ?_))))))))); refine cC rfl (gpeek_c _ _ _ (by assumption)) ?_; rintro _ wf2 ⟨⟨⟩, xf1⟩; have zf3 := xf1.size; replace hc20 := hc20.ext xf1; replace X := X.ext xf1; replace ho3 := ho3.ext xf1; replace hd17 := hd17.ext xf1; replace hd13 := hd13.ext xf1; clear xf1; refine Gya (C1 V9 (C1 Qya (C1 Pa (lw_nil ?_)))); rotate_left 1
          exact qw_meet true (sub_cons rfl (sub_cons rfl (sub_cons rfl (sub_cons rfl (sub_cons' rfl (by simp [e2]) sub_nil))))) ⟨by assumption, by assumption, by assumption, by assumption, X, by omega, fun _ => ⟨e1, e2⟩, (fun h => nomatch h)⟩
      · focus
         refine cw_region (C1 Mv (C1 Pn (C1 Pf (lw_load_b tabOk rfl rfl rfl (RP.blk hd17) rfl rfl (C1 V1 (C1 Mv (Ona (Ona (Ona (C1 Qna (C1 Pa ?_))))))))))); refine lw_nil ?_; rotate_left 1
        exact qw_meet false (sub_cons rfl (sub_cons rfl (sub_cons rfl (sub_cons rfl (sub_cons' rfl (by simp [e1]) sub_nil))))) ⟨by assumption, by assumption, by assumption, by assumption, X, by omega, (fun h => nomatch h), fun _ h => e1 h.1⟩
    clear hd17 hd13 hc20 X ho3; rintro m w3 ⟨hP, hb5, hc20, ho3, X, hz3, hmt, hmf⟩
    have hR : ∀ r, (m = true → fparamsP c.ts c.n k [] σ1 = r) → (m = false → ([], σ1) = r) → (if σ1.err = 0 ∧ (peekP c.ts σ1).text ≠ [41] then fparamsP c.ts c.n k [] σ1 else ([], σ1)) = r := by
     intro r h1 h2
     cases m with
     | true => rw [if_pos (hmt rfl)]; exact h1 rfl
     | false => rw [if_neg (hmf rfl)]; exact h2 rfl
    have HR := Lib.hid hR; clear hmt hmf hR
    focus
     refine cw_block ?_; rotate_left 1
    refine cw_loop (ι := Bool × Nat × List FP × Option Addr × Nat × PS) (fun x => [(8, .pointer (some ⟨c.pb, 0, none⟩)), (9, .slice fa fs.length fc), (10, .slice (some ⟨gc18, 0, none⟩) (at_ ++ [tk.pos]).length capc19), (11, .pointer (some ⟨bd9, 0, none⟩)), (12, .bool x.1)])
     (fun x w' => RP c x.2.2.2.2.2 w' ∧ Blk w' bd9 [str nm, .slice x.2.2.2.1 x.2.2.1.length x.2.2.2.2.1, .bool false, .int .u8 0, .int .i64 0, .string ⟨#[]⟩, .slice none 0 0] ∧ OwnQ intShape w' (fun _ => False) c.B 3 (.slice (some ⟨gc18, 0, none⟩) (at_ ++ [tk.pos]).length capc19) (at_ ++ [tk.pos]) ∧ OwnQ fdShape w' (fun b => (c.B ≤ b ∧ b ≠ gc18) ∧ b < wc24.heap.size) c.B 42 (.slice fa fs.length fc) fs ∧ Ext w w' ∧ wd19.heap.size ≤ w'.heap.size ∧ OwnQ fpShape w' (fun _ => False) (bd9 + 1) 52 (.slice x.2.2.2.1 x.2.2.1.length x.2.2.2.2.1) x.2.2.1 ∧
      (x.1 = true → ∀ r, fparamsP c.ts c.n x.2.1 x.2.2.1 x.2.2.2.2.2 = r → (m = true → fparamsP c.ts c.n k [] σ1 = r) ∧ (m = false → ([], σ1) = r)) ∧ (x.1 = false → (m = true → fparamsP c.ts c.n k [] σ1 = (x.2.2.1, x.2.2.2.2.2)) ∧ (m = false → ([], σ1) = (x.2.2.1, x.2.2.2.2.2))) ∧
      (x.1 = true → mS c.ts x.2.2.2.2.2 + 1 ≤ x.2.1 ∧ x.2.2.1.length + mS c.ts x.2.2.2.2.2 ≤ 1000001) ∧ mS c.ts x.2.2.2.2.2 ≤ mS c.ts σ) (fun x => x.2.1) (m, k, [], none, 0, σ1) (by (refine sub_cons rfl ?_; refine sub_cons rfl ?_; refine sub_cons rfl ?_; refine sub_cons rfl ?_; refine sub_cons rfl ?_; exact sub_nil))
     ⟨hP, hb5, hc20, ho3, X, hz3, OwnQ.nil, fun h r hr => ⟨fun _ => hr, fun h2 => (by simp only at h; rw [h] at h2; cases h2)⟩, fun h => ⟨fun h2 => (by simp only at h; rw [h] at h2; cases h2), fun _ => rfl⟩, fun _ => ⟨by simp only; omega, by simp only [List.length_nil]; omega⟩, m3⟩ ?_
    clear hP hb5 hc20 ho3 X hz3; rintro ⟨q, j, acc, pa, pc, σ''⟩ w4 ⟨hP, hb5, hc20, ho3, X, hz3, hown, hqt, hqf, hjj, hmj⟩; simp only at hP hb5 hown hqt hqf hjj hmj; refine CW.sub (m := [(8, .pointer (some ⟨c.pb, 0, none⟩)), (9, .slice fa fs.length fc), (10, .slice (some ⟨gc18, 0, none⟩) (at_ ++ [tk.pos]).length capc19), (11, .pointer (some ⟨bd9, 0, none⟩)), (12, .bool q)]) ?_ (by (refine sub_cons rfl ?_; refine sub_cons rfl ?_; refine sub_cons rfl ?_; refine sub_cons rfl ?_; refine sub_cons rfl ?_; exact sub_nil))
    have hobp : ∀ g, (Value.slice pa acc.length pc).ownBlock = some g → bd9 + 1 ≤ g ∧ g < w4.heap.size := fun g h => ⟨hown.ge h, hown.lt h⟩
    have hat2 := hP.at_; have hpb2 := hP.pbB
    cases q with
    | true =>
     have HT := Lib.hid (hqt rfl); obtain ⟨hj, hacc⟩ := hjj rfl; clear hqt hqf hjj; obtain ⟨j, rfl⟩ : ∃ i, j = i + 1 := ⟨j - 1, by omega⟩; have l1 := listP_le (n := c.n) hat2; have m1 := mS_lt l1 (lt_list c.ts c.n σ'' hat2); have l2 := name_le (n := c.n) l1.wf; have m2 := mS_le l2; have hwt := l2.wf; clear l1 l2
     cases hh : hasP c.ts (nameP c.ts c.n (listP c.ts c.n σ'').2).2 [44]
     · have hR2 : fparamsP c.ts c.n (j + 1) acc σ'' = (acc ++ [⟨(nameP c.ts c.n (listP c.ts c.n σ'').2).1, (listP c.ts c.n σ'').1⟩], (nameP c.ts c.n (listP c.ts c.n σ'').2).2) := by rw [fparamsP]; simp only [fparamP, hh, Bool.false_eq_true, if_false]
       have HT := Lib.hid (HT.out _ hR2); clear hR2
       focus
        refine cw_seq (cS (C1 Mv (cT (cw_cond_t rfl (cw_skip (qw_then (cw_seq (cw_block (cS (C1 Mv ?_)))))))))); refine cC rfl (gkind_c _ _ _ (by assumption)) ?_; rintro _ wi3 ⟨⟨⟩, ⟨hi1, fi2⟩⟩; have zi4 := fi2.size; clear hP; replace hb5 := hb5.fr fi2 (by omega); replace hc20 := OwnQ.fr hc20 fi2 (fun k hk => ⟨fun h => h.elim, fun e => by simp only [Value.ownBlock, Option.some.injEq] at e; (try dsimp only at hk); omega⟩); replace ho3 := OwnQ.fr ho3 fi2 (fun k hk => ⟨fun h => by (try dsimp only at hk h); omega, fun e => by have := hob3 _ e; (try dsimp only at hk); omega⟩); replace X := X.fr fi2 (by omega); replace hown := OwnQ.fr hown fi2 (fun k hk => ⟨fun h => h.elim, fun e => by have := OwnQ.ge (by assumption) e; (try dsimp only at hk); omega⟩); clear fi2; refine C1 (pur_build' [_, _] tabOk zOk rfl rfl rfl rfl) ?_; (refine lw_alloc' [_, _] zOk rfl rfl ?_; intro bi5 wi6 ni7); (refine lw_init' [_, _] tabOk rfl rfl rfl rfl rfl rfl ni7 rfl ?_; clear ni7; clear wi6; intro wi8 ni7); have hi9 := ni7.blk; have xi10 := ni7.ext; have pi11 := ni7.pos; have zi12 := ni7.size; clear ni7; replace hi1 := hi1.ext xi10; replace hb5 := hb5.ext xi10; replace hc20 := hc20.ext xi10; replace ho3 := ho3.ext xi10; replace X := X.ext xi10; replace hown := hown.ext xi10; clear xi10; refine cN (C1 Mv ?_); refine cC rfl (gname_c _ _ _ (by assumption)) ?_; rintro _ wi15 ⟨⟨⟩, ⟨hi13, fi14⟩⟩; have zi16 := fi14.size; replace hi9 := hi9.fr fi14 (by omega); clear hi1; replace hb5 := hb5.fr fi14 (by omega); replace hc20 := OwnQ.fr hc20 fi14 (fun k hk => ⟨fun h => h.elim, fun e => by simp only [Value.ownBlock, Option.some.injEq] at e; (try dsimp only at hk); omega⟩)
        replace ho3 := OwnQ.fr ho3 fi14 (fun k hk => ⟨fun h => by (try dsimp only at hk h); omega, fun e => by have := hob3 _ e; (try dsimp only at hk); omega⟩); replace X := X.fr fi14 (by omega); replace hown := OwnQ.fr hown fi14 (fun k hk => ⟨fun h => h.elim, fun e => by have := OwnQ.ge (by assumption) e; (try dsimp only at hk); omega⟩); clear fi14; refine C1 Pg ?_; (refine lw_store' [_] [_, _] tabOk rfl rfl rfl rfl rfl rfl hi9 rfl rfl ?_; intro wi17 ni18); have hi21 := ni18.blk; have fi19 := ni18.fr; have zi20 := ni18.size; clear ni18 hi9; replace hi13 := hi13.fr fi19 (by omega); replace hb5 := hb5.fr fi19 (by omega); replace hc20 := OwnQ.fr hc20 fi19 (fun k hk => ⟨fun h => h.elim, fun e => by simp only [Value.ownBlock, Option.some.injEq] at e; (try dsimp only at hk); omega⟩); replace ho3 := OwnQ.fr ho3 fi19 (fun k hk => ⟨fun h => by (try dsimp only at hk h); omega, fun e => by have := hob3 _ e; (try dsimp only at hk); omega⟩); replace X := X.fr fi19 (by omega); replace hown := OwnQ.fr hown fi19 (fun k hk => ⟨fun h => h.elim, fun e => by have := hobp _ e; (try dsimp only at hk); omega⟩); clear fi19; refine cT (cw_region (C1 Pf (C1 (Pl hb5) (lw_loads_b' [_, _] tabOk rfl rfl rfl hi21 rfl rfl rfl ?_)))); (refine lw_does (does_slice' [_, _] tabOk zOk rfl rfl rfl rfl rfl rfl rfl rfl rfl) rfl ?_ (fun _ h => h); rintro _ wi23 ⟨bi22, rfl, ni24, ti25⟩); clear ti25; have hi26 := ni24.blk; have xi27 := ni24.ext; have pi28 := ni24.pos; have zi29 := ni24.size; clear ni24; replace hi21 := hi21.ext xi27
        replace hi13 := hi13.ext xi27; replace hb5 := hb5.ext xi27; replace hc20 := hc20.ext xi27; replace ho3 := ho3.ext xi27; replace X := X.ext xi27; replace hown := hown.ext xi27; clear xi27; refine lw_does (does_appendQ (R := fun _ => False) (sh := fpShape) (z := ⟨(nameP c.ts c.n (listP c.ts c.n σ'').2).1, (listP c.ts c.n σ'').1⟩) tabOk zOk rfl rfl rfl rfl (by kernel_rfl) rfl rfl rfl (by assumption) (fun _ h => by exact h) (Blk.row (by assumption)) rfl (by omega) (by omega)) rfl ?_ (fun _ h => h); rintro _ wi36 ⟨gi30, ⟨capi31, ⟨rfl, ⟨hi32, ⟨hi33, ⟨hi34, fi35⟩⟩⟩⟩⟩⟩; have zi37 := fi35.size; replace hi26 := Blk.fr hi26 fi35 (fun e => by have := hobp _ e; omega); replace hi21 := Blk.fr hi21 fi35 (fun e => by have := hobp _ e; omega); replace hi13 := RP.fr hi13 fi35 (fun k hk => by have := hobp _ hk; omega); replace hb5 := Blk.fr hb5 fi35 (fun e => by have := hobp _ e; omega); replace hc20 := OwnQ.fr hc20 fi35 (fun k hk => ⟨fun h => h.elim, fun e => by simp only [Value.ownBlock, Option.some.injEq] at e; have := hobp _ hk; omega⟩); replace ho3 := OwnQ.fr ho3 fi35 (fun k hk => ⟨fun h => by have := hobp _ hk; (try dsimp only at h); omega, fun e => by have := hob3 _ e; have := hobp _ hk; omega⟩); replace X := Ext.fr X fi35 (fun k hk => by have := hobp _ hk; omega); clear hown fi35; refine C1 Pf ?_; (refine lw_store' [_] [_, _, _, _, _, _, _] tabOk rfl rfl rfl rfl rfl rfl hb5 rfl rfl ?_; intro wi38 ni39); have hi42 := ni39.blk; have fi40 := ni39.fr; have zi41 := ni39.size; clear ni39 hb5
        replace hi32 := OwnQ.fr hi32 fi40 (fun k hk => ⟨fun h => h.elim, fun e => by have := OwnQ.ge (by assumption) e; (try dsimp only at hk); omega⟩); replace hi26 := hi26.fr fi40 (by omega); replace hi21 := hi21.fr fi40 (by omega); replace hi13 := hi13.fr fi40 (by omega); replace hc20 := OwnQ.fr hc20 fi40 (fun k hk => ⟨fun h => h.elim, fun e => by simp only [Value.ownBlock, Option.some.injEq] at e; (try dsimp only at hk); omega⟩); replace ho3 := OwnQ.fr ho3 fi40 (fun k hk => ⟨fun h => by (try dsimp only at hk h); omega, fun e => by have := hob3 _ e; (try dsimp only at hk); omega⟩); replace X := X.fr fi40 (by omega); clear fi40; refine lw_nil (qw_block_norm (qw_then (cw_region (C1 Mv ?_)))); refine cC rfl (ghas_f _ _ _ _ (by assumption) (by decide) (by assumption)) ?_; rintro _ wi45 ⟨⟨⟩, ⟨hi43, fi44⟩⟩; have zi46 := fi44.size; replace hi42 := hi42.fr fi44 (by omega); replace hi32 := OwnQ.fr hi32 fi44 (fun k hk => ⟨fun h => h.elim, fun e => by have := OwnQ.ge (by assumption) e; (try dsimp only at hk); omega⟩); replace hi26 := hi26.fr fi44 (by omega); replace hi21 := hi21.fr fi44 (by omega); clear hi13; replace hc20 := OwnQ.fr hc20 fi44 (fun k hk => ⟨fun h => h.elim, fun e => by simp only [Value.ownBlock, Option.some.injEq] at e; (try dsimp only at hk); omega⟩); replace ho3 := OwnQ.fr ho3 fi44 (fun k hk => ⟨fun h => by (try dsimp only at hk h); omega, fun e => by have := hob3 _ e; (try dsimp only at hk); omega⟩); replace X := X.fr fi44 (by omega); clear fi44; refine C1 Pa (lw_nil ?_)
        rotate_left 1
       exact qw_round (false, j, acc ++ [⟨(nameP c.ts c.n (listP c.ts c.n σ'').2).1, (listP c.ts c.n σ'').1⟩], some ⟨_, 0, none⟩, _, (nameP c.ts c.n (listP c.ts c.n σ'').2).2) (by (refine sub_cons rfl ?_; refine sub_cons rfl ?_; refine sub_cons rfl ?_; refine sub_cons rfl ?_; refine sub_cons rfl ?_; exact sub_nil)) ⟨by assumption, by assumption, by assumption, by assumption, X, by omega, by assumption, (fun h => nomatch h), fun _ => HT.out, (fun h => nomatch h), by simp only; omega⟩ (by simp)
     · have hR2 : fparamsP c.ts c.n (j + 1) acc σ'' = fparamsP c.ts c.n j (acc ++ [⟨(nameP c.ts c.n (listP c.ts c.n σ'').2).1, (listP c.ts c.n σ'').1⟩]) (nextP (nameP c.ts c.n (listP c.ts c.n σ'').2).2) := by rw [fparamsP]; simp only [fparamP, hh, if_true]
       have HT := Lib.hid (fun r (h : fparamsP c.ts c.n j (acc ++ [⟨(nameP c.ts c.n (listP c.ts c.n σ'').2).1, (listP c.ts c.n σ'').1⟩]) (nextP (nameP c.ts c.n (listP c.ts c.n σ'').2).2) = r) => HT.out r (hR2.trans h)); have i1 := has_in hwt hh (by decide); have m4 := mS_next i1; clear hR2 i1
       focus
        refine cw_seq (cS (C1 Mv (cT (cw_cond_t rfl (cw_skip (qw_then (cw_seq (cw_block (cS (C1 Mv ?_)))))))))); refine cC rfl (gkind_c _ _ _ (by assumption)) ?_; rintro _ wj3 ⟨⟨⟩, ⟨hj1, fj2⟩⟩; have zj4 := fj2.size; clear hP; replace hb5 := hb5.fr fj2 (by omega); replace hc20 := OwnQ.fr hc20 fj2 (fun k hk => ⟨fun h => h.elim, fun e => by simp only [Value.ownBlock, Option.some.injEq] at e; (try dsimp only at hk); omega⟩); replace ho3 := OwnQ.fr ho3 fj2 (fun k hk => ⟨fun h => by (try dsimp only at hk h); omega, fun e => by have := hob3 _ e; (try dsimp only at hk); omega⟩); replace X := X.fr fj2 (by omega); replace hown := OwnQ.fr hown fj2 (fun k hk => ⟨fun h => h.elim, fun e => by have := OwnQ.ge (by assumption) e; (try dsimp only at hk); omega⟩); clear fj2; refine C1 (pur_build' [_, _] tabOk zOk rfl rfl rfl rfl) ?_; (refine lw_alloc' [_, _] zOk rfl rfl ?_; intro bj5 wj6 nj7); (refine lw_init' [_, _] tabOk rfl rfl rfl rfl rfl rfl nj7 rfl ?_; clear nj7; clear wj6; intro wj8 nj7); have hj9 := nj7.blk; have xj10 := nj7.ext; have pj11 := nj7.pos; have zj12 := nj7.size; clear nj7; replace hj1 := hj1.ext xj10; replace hb5 := hb5.ext xj10; replace hc20 := hc20.ext xj10; replace ho3 := ho3.ext xj10; replace X := X.ext xj10; replace hown := hown.ext xj10; clear xj10; refine cN (C1 Mv ?_); refine cC rfl (gname_c _ _ _ (by assumption)) ?_; rintro _ wj15 ⟨⟨⟩, ⟨hj13, fj14⟩⟩; have zj16 := fj14.size; replace hj9 := hj9.fr fj14 (by omega); clear hj1; replace hb5 := hb5.fr fj14 (by omega); replace hc20 := OwnQ.fr hc20 fj14 (fun k hk => ⟨fun h => h.elim, fun e => by simp only [Value.ownBlock, Option.some.injEq] at e; (try dsimp only at hk); omega⟩)
        replace ho3 := OwnQ.fr ho3 fj14 (fun k hk => ⟨fun h => by (try dsimp only at hk h); omega, fun e => by have := hob3 _ e; (try dsimp only at hk); omega⟩); replace X := X.fr fj14 (by omega); replace hown := OwnQ.fr hown fj14 (fun k hk => ⟨fun h => h.elim, fun e => by have := OwnQ.ge (by assumption) e; (try dsimp only at hk); omega⟩); clear fj14; refine C1 Pg ?_; (refine lw_store' [_] [_, _] tabOk rfl rfl rfl rfl rfl rfl hj9 rfl rfl ?_; intro wj17 nj18); have hj21 := nj18.blk; have fj19 := nj18.fr; have zj20 := nj18.size; clear nj18 hj9; replace hj13 := hj13.fr fj19 (by omega); replace hb5 := hb5.fr fj19 (by omega); replace hc20 := OwnQ.fr hc20 fj19 (fun k hk => ⟨fun h => h.elim, fun e => by simp only [Value.ownBlock, Option.some.injEq] at e; (try dsimp only at hk); omega⟩); replace ho3 := OwnQ.fr ho3 fj19 (fun k hk => ⟨fun h => by (try dsimp only at hk h); omega, fun e => by have := hob3 _ e; (try dsimp only at hk); omega⟩); replace X := X.fr fj19 (by omega); replace hown := OwnQ.fr hown fj19 (fun k hk => ⟨fun h => h.elim, fun e => by have := hobp _ e; (try dsimp only at hk); omega⟩); clear fj19; refine cT (cw_region (C1 Pf (C1 (Pl hb5) (lw_loads_b' [_, _] tabOk rfl rfl rfl hj21 rfl rfl rfl ?_)))); (refine lw_does (does_slice' [_, _] tabOk zOk rfl rfl rfl rfl rfl rfl rfl rfl rfl) rfl ?_ (fun _ h => h); rintro _ wj23 ⟨bj22, rfl, nj24, tj25⟩); clear tj25; have hj26 := nj24.blk; have xj27 := nj24.ext; have pj28 := nj24.pos; have zj29 := nj24.size; clear nj24; replace hj21 := hj21.ext xj27
        replace hj13 := hj13.ext xj27; replace hb5 := hb5.ext xj27; replace hc20 := hc20.ext xj27; replace ho3 := ho3.ext xj27; replace X := X.ext xj27; replace hown := hown.ext xj27; clear xj27; refine lw_does (does_appendQ (R := fun _ => False) (sh := fpShape) (z := ⟨(nameP c.ts c.n (listP c.ts c.n σ'').2).1, (listP c.ts c.n σ'').1⟩) tabOk zOk rfl rfl rfl rfl (by kernel_rfl) rfl rfl rfl (by assumption) (fun _ h => by exact h) (Blk.row (by assumption)) rfl (by omega) (by omega)) rfl ?_ (fun _ h => h); rintro _ wj36 ⟨gj30, ⟨capj31, ⟨rfl, ⟨hj32, ⟨hj33, ⟨hj34, fj35⟩⟩⟩⟩⟩⟩; have zj37 := fj35.size; replace hj26 := Blk.fr hj26 fj35 (fun e => by have := hobp _ e; omega); replace hj21 := Blk.fr hj21 fj35 (fun e => by have := hobp _ e; omega); replace hj13 := RP.fr hj13 fj35 (fun k hk => by have := hobp _ hk; omega); replace hb5 := Blk.fr hb5 fj35 (fun e => by have := hobp _ e; omega); replace hc20 := OwnQ.fr hc20 fj35 (fun k hk => ⟨fun h => h.elim, fun e => by simp only [Value.ownBlock, Option.some.injEq] at e; have := hobp _ hk; omega⟩); replace ho3 := OwnQ.fr ho3 fj35 (fun k hk => ⟨fun h => by have := hobp _ hk; (try dsimp only at h); omega, fun e => by have := hob3 _ e; have := hobp _ hk; omega⟩); replace X := Ext.fr X fj35 (fun k hk => by have := hobp _ hk; omega); clear hown fj35; refine C1 Pf ?_; (refine lw_store' [_] [_, _, _, _, _, _, _] tabOk rfl rfl rfl rfl rfl rfl hb5 rfl rfl ?_; intro wj38 nj39); have hj42 := nj39.blk; have fj40 := nj39.fr; have zj41 := nj39.size; clear nj39 hb5
        replace hj32 := OwnQ.fr hj32 fj40 (fun k hk => ⟨fun h => h.elim, fun e => by have := OwnQ.ge (by assumption) e; (try dsimp only at hk); omega⟩); replace hj26 := hj26.fr fj40 (by omega); replace hj21 := hj21.fr fj40 (by omega); replace hj13 := hj13.fr fj40 (by omega); replace hc20 := OwnQ.fr hc20 fj40 (fun k hk => ⟨fun h => h.elim, fun e => by simp only [Value.ownBlock, Option.some.injEq] at e; (try dsimp only at hk); omega⟩); replace ho3 := OwnQ.fr ho3 fj40 (fun k hk => ⟨fun h => by (try dsimp only at hk h); omega, fun e => by have := hob3 _ e; (try dsimp only at hk); omega⟩); replace X := X.fr fj40 (by omega); clear fj40; refine lw_nil (qw_block_norm (qw_then (cw_region (C1 Mv ?_)))); refine cC rfl (ghas_t _ _ _ _ (by assumption) (by decide) (by assumption)) ?_; rintro _ wj45 ⟨⟨⟩, ⟨hj43, fj44⟩⟩; have zj46 := fj44.size; replace hj42 := hj42.fr fj44 (by omega); replace hj32 := OwnQ.fr hj32 fj44 (fun k hk => ⟨fun h => h.elim, fun e => by have := OwnQ.ge (by assumption) e; (try dsimp only at hk); omega⟩); replace hj26 := hj26.fr fj44 (by omega); replace hj21 := hj21.fr fj44 (by omega); clear hj13; replace hc20 := OwnQ.fr hc20 fj44 (fun k hk => ⟨fun h => h.elim, fun e => by simp only [Value.ownBlock, Option.some.injEq] at e; (try dsimp only at hk); omega⟩); replace ho3 := OwnQ.fr ho3 fj44 (fun k hk => ⟨fun h => by (try dsimp only at hk h); omega, fun e => by have := hob3 _ e; (try dsimp only at hk); omega⟩); replace X := X.fr fj44 (by omega); clear fj44; refine C1 Pa (lw_nil ?_)
        rotate_left 1
       exact qw_round (true, j, acc ++ [⟨(nameP c.ts c.n (listP c.ts c.n σ'').2).1, (listP c.ts c.n σ'').1⟩], some ⟨_, 0, none⟩, _, nextP (nameP c.ts c.n (listP c.ts c.n σ'').2).2) (by (refine sub_cons rfl ?_; refine sub_cons rfl ?_; refine sub_cons rfl ?_; refine sub_cons rfl ?_; refine sub_cons rfl ?_; exact sub_nil)) ⟨by assumption, by assumption, by assumption, by assumption, X, by omega, by assumption, fun _ => HT.out, (fun h => nomatch h), fun _ => ⟨by simp only; omega, by simp only [List.length_append, List.length_cons, List.length_nil]; omega⟩, by simp only; omega⟩ (by simp)
    | false =>
     obtain ⟨r1, r2⟩ := hqf rfl; have hf1 := HFO.out acc σ'' (HR.out _ r1 r2); have he := HQ.out; rw [hf1] at he mf; (try dsimp only at mf); have HQ := Lib.hid he; clear he hf1 HFO HR hqt hqf hjj r1 r2; have l4 := expect_le (n := c.n) (t := [41]) hat2 (by decide); have l5 := listP_le (n := c.n) l4.wf; have m5 := mS_le (l4.trans l5); clear l4 l5
     focus
      refine cw_seq (cS (C1 Mv (cT (cw_cond_f rfl (cw_exit (qw_then_exit (qw_then_exit (qw_block_exit (qw_then (cS (C1 Mv ?_))))))))))); refine cC rfl (gtake_c _ _ _ _ (by assumption) (by decide)) ?_; rintro _ wk3 ⟨⟨⟩, ⟨hk1, fk2⟩⟩; have zk4 := fk2.size; clear hP; replace hb5 := hb5.fr fk2 (by omega); replace hc20 := OwnQ.fr hc20 fk2 (fun k hk => ⟨fun h => h.elim, fun e => by simp only [Value.ownBlock, Option.some.injEq] at e; (try dsimp only at hk); omega⟩); replace ho3 := OwnQ.fr ho3 fk2 (fun k hk => ⟨fun h => by (try dsimp only at hk h); omega, fun e => by have := hob3 _ e; (try dsimp only at hk); omega⟩); replace X := X.fr fk2 (by omega); replace hown := OwnQ.fr hown fk2 (fun k hk => ⟨fun h => h.elim, fun e => by have := OwnQ.ge (by assumption) e; (try dsimp only at hk); omega⟩); clear fk2; refine cN (C1 Mv ?_); refine cC rfl (gkind_c _ _ _ (by assumption)) ?_; rintro _ wk7 ⟨⟨⟩, ⟨hk5, fk6⟩⟩; have zk8 := fk6.size; clear hk1; replace hb5 := hb5.fr fk6 (by omega); replace hc20 := OwnQ.fr hc20 fk6 (fun k hk => ⟨fun h => h.elim, fun e => by simp only [Value.ownBlock, Option.some.injEq] at e; (try dsimp only at hk); omega⟩); replace ho3 := OwnQ.fr ho3 fk6 (fun k hk => ⟨fun h => by (try dsimp only at hk h); omega, fun e => by have := hob3 _ e; (try dsimp only at hk); omega⟩); replace X := X.fr fk6 (by omega); replace hown := OwnQ.fr hown fk6 (fun k hk => ⟨fun h => h.elim, fun e => by have := OwnQ.ge (by assumption) e; (try dsimp only at hk); omega⟩); clear fk6; refine C1 Pf ?_; (refine lw_store' [_] [_, _, _, _, _, _, _] tabOk rfl rfl rfl rfl rfl rfl hb5 rfl rfl ?_; intro wk9 nk10)
      have hk13 := nk10.blk; have fk11 := nk10.fr; have zk12 := nk10.size; clear nk10 hb5; replace hk5 := hk5.fr fk11 (by omega); replace hc20 := OwnQ.fr hc20 fk11 (fun k hk => ⟨fun h => h.elim, fun e => by simp only [Value.ownBlock, Option.some.injEq] at e; (try dsimp only at hk); omega⟩); replace ho3 := OwnQ.fr ho3 fk11 (fun k hk => ⟨fun h => by (try dsimp only at hk h); omega, fun e => by have := hob3 _ e; (try dsimp only at hk); omega⟩); replace X := X.fr fk11 (by omega); replace hown := OwnQ.fr hown fk11 (fun k hk => ⟨fun h => h.elim, fun e => by have := OwnQ.ge (by assumption) e; (try dsimp only at hk); omega⟩); clear fk11; refine cN (C1 Mv ?_); refine cR (by kernel_rfl) rfl ((exprs_gc c k).b _ _ (by assumption) (by omega)) (fun _ _ h => h.ret) rfl ?_; rintro _ wk19 ⟨ak14, ⟨kk15, ⟨⟨⟩, ⟨hk16, ⟨hk17, fk18⟩⟩⟩⟩⟩; have zk20 := fk18.size; replace hk13 := hk13.fr fk18 (by omega); clear hk5; replace hc20 := OwnQ.fr hc20 fk18 (fun k hk => ⟨fun h => h.elim, fun e => by simp only [Value.ownBlock, Option.some.injEq] at e; (try dsimp only at hk); omega⟩); replace ho3 := OwnQ.fr ho3 fk18 (fun k hk => ⟨fun h => by (try dsimp only at hk h); omega, fun e => by have := hob3 _ e; (try dsimp only at hk); omega⟩); replace X := X.fr fk18 (by omega); replace hown := OwnQ.fr hown fk18 (fun k hk => ⟨fun h => h.elim, fun e => by have := OwnQ.ge (by assumption) e; (try dsimp only at hk); omega⟩); clear fk18; refine C1 Pf ?_; (refine lw_store' [_, _, _, _] [_, _, _, _, _, _, _] tabOk rfl rfl rfl rfl rfl rfl hk13 rfl rfl ?_; intro wk21 nk22)
      have hk25 := nk22.blk; have fk23 := nk22.fr; have zk24 := nk22.size; clear nk22 hk13; replace hk16 := Nd.sits.fr hk16 fk23 (by omega); replace hk17 := hk17.fr fk23 (by omega); replace hc20 := OwnQ.fr hc20 fk23 (fun k hk => ⟨fun h => h.elim, fun e => by simp only [Value.ownBlock, Option.some.injEq] at e; (try dsimp only at hk); omega⟩); replace ho3 := OwnQ.fr ho3 fk23 (fun k hk => ⟨fun h => by (try dsimp only at hk h); omega, fun e => by have := hob3 _ e; (try dsimp only at hk); omega⟩); replace X := X.fr fk23 (by omega); replace hown := OwnQ.fr hown fk23 (fun k hk => ⟨fun h => h.elim, fun e => by have := OwnQ.ge (by assumption) e; (try dsimp only at hk); omega⟩); clear fk23; refine cT (cw_region (C1 Mv (lw_loads_b' [_, _, _, _, _, _, _] tabOk rfl rfl rfl hk25 rfl rfl rfl ?_))); (refine lw_does (does_slice' [_, _, _, _, _, _, _] tabOk zOk rfl rfl rfl rfl rfl rfl rfl rfl rfl) rfl ?_ (fun _ h => h); rintro _ wk27 ⟨bk26, rfl, nk28, tk29⟩); clear tk29; have hk30 := nk28.blk; have xk31 := nk28.ext; have pk32 := nk28.pos; have zk33 := nk28.size; clear nk28; replace hk25 := hk25.ext xk31; replace hk16 := Nd.sits.ext hk16 xk31; replace hk17 := hk17.ext xk31; replace hc20 := hc20.ext xk31; replace ho3 := ho3.ext xk31; replace X := X.ext xk31; replace hown := hown.ext xk31; clear xk31; refine lw_does (does_appendQ (R := fun b => c.B ≤ b ∧ b ≠ gc18) (sh := fdShape) (z := ⟨nm, acc, (listP c.ts c.n (expectP c.ts c.n σ'' [41])).1, (braceS c.ts c.n k (listP c.ts c.n (expectP c.ts c.n σ'' [41])).2).1⟩) tabOk zOk rfl rfl rfl rfl (by kernel_rfl) rfl rfl rfl (by assumption) (fun _ h => by exact h.1) (Blk.row (by assumption)) ⟨_, _, _, _, rfl, OwnQ.fps (by assumption) (fun b h h2 => ⟨⟨by omega, by omega⟩, fun e => by have := hob3 _ e; omega⟩), Nd.sits.wide (by assumption) (fun b h => ⟨⟨by (try dsimp only at h); omega, by (try dsimp only at h); omega⟩, fun e => by have := hob3 _ e; (try dsimp only at h); omega⟩)⟩ (by omega) (by omega)) rfl ?_ (fun _ h => h)
      rintro _ wk40 ⟨gk34, ⟨capk35, ⟨rfl, ⟨hk36, ⟨hk37, ⟨hk38, fk39⟩⟩⟩⟩⟩⟩; have zk41 := fk39.size; replace hk30 := Blk.fr hk30 fk39 (fun e => by have := hob3 _ e; omega); replace hk25 := Blk.fr hk25 fk39 (fun e => by have := hob3 _ e; omega); clear hk16; replace hk17 := RP.fr hk17 fk39 (fun k hk => by have := hob3 _ hk; omega); replace hc20 := OwnQ.fr hc20 fk39 (fun k hk => ⟨fun h => h.elim, fun e => by simp only [Value.ownBlock, Option.some.injEq] at e; exact (hob3 _ hk).2.1 e.symm⟩); clear ho3; replace X := Ext.fr X fk39 (fun k hk => by have := hob3 _ hk; omega); clear hown fk39; refine C1 Pa (lw_nil (qw_block_norm ?_)); rotate_left 1
     refine qw_round (k, fs ++ [⟨nm, acc, (listP c.ts c.n (expectP c.ts c.n σ'' [41])).1, (braceS c.ts c.n k (listP c.ts c.n (expectP c.ts c.n σ'' [41])).2).1⟩], at_ ++ [tk.pos], (some ⟨gk34, 0, none⟩, _), (some ⟨gc18, 0, none⟩, _), (braceS c.ts c.n k (listP c.ts c.n (expectP c.ts c.n σ'' [41])).2).2) (by (refine sub_cons rfl ?_; refine sub_cons rfl ?_; refine sub_cons rfl ?_; exact sub_nil)) ⟨by assumption, by assumption, OwnQ.wide hk36 (fun b h => ⟨h.1, fun e => h.2 (by simpa [Value.ownBlock] using e.symm)⟩), ?_, X, by omega, HQ.out, by simp only; omega, by simp only [List.length_append, List.length_cons, List.length_nil]; omega, by simp only [List.length_append, List.length_cons, List.length_nil]; omega⟩ (by simp only; omega); intro g hg' e; simp only [Value.ownBlock, Option.some.injEq] at hg' e; subst hg'
     rcases hk37 with h | h
     · exact (hob3 _ h).2.1 e.symm
     · omega
  · have he := HQ.out
    have hend := libS_end (ts := c.ts) (n := c.n) (k := k) (acc := fs) (at_ := at_) (σ := σ) (by
     rcases Decidable.em (σ.err = 0) with h | h
     · exact Or.inr (fun h' => hgo ⟨h, h'⟩)
     · exact Or.inl h)
    rw [hend] at he; rw [he] at HW ⊢; have hw := HW.out; clear HQ he HW; simp only at hw; have hfd := ho2.fds (S := fun b => c.B ≤ b) (fun b h => h.1) (fun b h => h); have hel := ho1.els (S := fun b => c.B ≤ b ∧ b < w2.heap.size) (fun b h h' => ⟨h, h'⟩); clear ho1 ho2 hdis hob1 hob2
    by_cases hz : σ.err = 0
    · have hat3 : ¬ σ.at_ < c.ts.length := fun h => hgo ⟨hz, h⟩
      have HL := Lib.hid (hw hz); have hlen2 := HL.out.len; clear hw hgo
      cases hv : libErr fs with
      | none =>
       have hfin : finLib ((fs, at_), σ) = (fs, 0, 0) := by unfold finLib; rw [if_neg (by simp [hz])]; simp only [hv]
       have hval : validI fs = (-1, 0) := by unfold validI; rw [hv]
       have HV := Lib.hid (gValidH_v hval); rw [hfin]; clear hfin hval hv
       focus
        refine cw_seq (cw_seq ?_); (refine cw_tdraw (fun wz => Ext w2 wz) 15 (.pure 0 (.pure 1 (.pure 2 (.pure 3 (.pure 4 (.pure 5 (.pure 6 (.pure 7 (.pure 8 (.pure 9 (.pure 10 (.pure 11 (.pure 12 (.pure 13 (.pure 14 .tail))))))))))))))) mixed (by kernel_rfl) (panicOk_then (panicOk_then (panicOk_then (panicOk_block (panicOk_then panicOk_body))))) ?_; intro wl1 xl2 _); have qsl3 : (fun wz => Ext w2 wz) wl1 := xl2; simp only at qsl3; have d_hP := hP; have d_hfd := hfd; have d_hel := hel; have zl4 := xl2.size; replace hP := hP.ext xl2; replace X := X.ext xl2; replace hfd := hfd.ext xl2; replace hel := hel.ext xl2; clear xl2; refine ⟨qsl3, ?_⟩; refine Tq rfl Mv (Tq rfl Pn (Tq rfl Pf (Tq rfl (pur_load tabOk rfl rfl rfl (fun wz hz => Blk.cell (Blk.ext (RP.blk d_hP) hz) rfl)) (Tq rfl V1 (Tq rfl Mv ?_))))); refine tw_on rfl rfl rfl rfl (gd_tt (by assumption)) (pur_move rfl) rfl ?_; refine tw_on rfl rfl rfl rfl (gd_tt (by assumption)) (pur_nilCheck rfl) rfl ?_; refine tw_on rfl rfl rfl rfl (gd_tt (by assumption)) (pur_fieldAddr tabOk rfl rfl rfl) rfl ?_; refine tw_on rfl rfl rfl rfl (gd_tt (by assumption)) (pur_load tabOk rfl rfl rfl (fun wz hz => Blk.cell (Blk.ext (RP.blk d_hP) hz) rfl)) rfl ?_; refine tw_on rfl rfl rfl rfl (gd_tt (by assumption)) (pur_move rfl) rfl ?_; refine tw_on rfl rfl rfl rfl (gd_tt (by assumption)) (pur_nilCheck rfl) rfl ?_; refine tw_on rfl rfl rfl rfl (gd_tt (by assumption)) (pur_fieldAddr0 tabOk rfl rfl rfl) rfl ?_; refine tw_on rfl rfl rfl rfl (gd_tt (by assumption)) (pur_load tabOk rfl rfl rfl (fun wz hz => Blk.cell (Blk.ext (RP.blk d_hP) hz) rfl)) rfl ?_
        refine tw_on rfl rfl rfl rfl (gd_tt (by assumption)) (pur_len_slice tabOk rfl rfl) rfl ?_; clear qsl3 d_hP d_hfd d_hel; refine tw_tail rfl (Gya (C1 V3 (C1 Qya (cT (Wno (cw_exit (qw_then_exit (qw_then_exit (qw_block_exit (qw_then (cw_seq ?_))))))))))); refine cS (C1 Mv (C1 Pn (C1 Pf (lw_load_b tabOk rfl rfl rfl (RP.blk hP) rfl rfl (C1 V2 (cT (Wno (cw_skip (qw_then (cw_seq (cS ?_))))))))))); refine C1 Mv ?_; refine cC rfl (HV.out _ _ _ _ HL.out (by assumption)) ?_; rintro _ wl6 ⟨⟨⟩, xl5⟩; have zl7 := xl5.size; replace hP := hP.ext xl5; replace X := X.ext xl5; replace hfd := hfd.ext xl5; replace hel := hel.ext xl5; clear xl5; refine C1 Mv (C1 Px (C1 Px (C1 Pa (C1 Pa (cN (C1 Mv (C1 V2 (cT (Wnd (cw_skip (qw_then ?_))))))))))); refine cS (C1 Mv (C1 Pa (C1 Pa (C1 Pa (cT (cw_ret (qw_ret3 rfl rfl rfl rfl ?_))))))); rotate_left 1
       exact libR_mk (r' := (fs, 0, 0)) rfl (FDs.wide (by assumption) (fun b h => by omega)) X
      | some q =>
       obtain ⟨i, e⟩ := q; obtain ⟨hi, hne⟩ := libErr_some hv
       have hil : i < at_.length := by omega
       have hfin : finLib ((fs, at_), σ) = ([], at_[i], e) := by unfold finLib; rw [if_neg (by simp [hz])]; simp only [hv, List.getD_eq_getElem?_getD, List.getElem?_eq_getElem hil, Option.getD_some]
       have hval : validI fs = ((i : Int), e) := by unfold validI; rw [hv]
       have HV := Lib.hid (gValidH_v hval); rw [hfin]; clear hfin hval hv; obtain ⟨gb, go, ⟨⟩, ⟨hg3, hg4⟩, hgk⟩ := Arr.get hel (by omega); have rg := hgk i _ (List.getElem?_eq_getElem hil); clear hel hgk
       generalize at_[i] = ai at *
       focus
        refine cw_seq (cw_seq ?_); (refine cw_tdraw (fun wz => Ext w2 wz) 15 (.pure 0 (.pure 1 (.pure 2 (.pure 3 (.pure 4 (.pure 5 (.pure 6 (.pure 7 (.pure 8 (.pure 9 (.pure 10 (.pure 11 (.pure 12 (.pure 13 (.pure 14 .tail))))))))))))))) mixed (by kernel_rfl) (panicOk_then (panicOk_then (panicOk_then (panicOk_block (panicOk_then panicOk_body))))) ?_; intro wm1 xm2 _); have qsm3 : (fun wz => Ext w2 wz) wm1 := xm2; simp only at qsm3; have d_hP := hP; have d_hfd := hfd; have d_rg := rg; have zm4 := xm2.size; replace hP := hP.ext xm2; replace X := X.ext xm2; replace hfd := hfd.ext xm2; replace rg := rg.ext xm2; clear xm2; refine ⟨qsm3, ?_⟩; refine Tq rfl Mv (Tq rfl Pn (Tq rfl Pf (Tq rfl (pur_load tabOk rfl rfl rfl (fun wz hz => Blk.cell (Blk.ext (RP.blk d_hP) hz) rfl)) (Tq rfl V1 (Tq rfl Mv ?_))))); refine tw_on rfl rfl rfl rfl (gd_tt (by assumption)) (pur_move rfl) rfl ?_; refine tw_on rfl rfl rfl rfl (gd_tt (by assumption)) (pur_nilCheck rfl) rfl ?_; refine tw_on rfl rfl rfl rfl (gd_tt (by assumption)) (pur_fieldAddr tabOk rfl rfl rfl) rfl ?_; refine tw_on rfl rfl rfl rfl (gd_tt (by assumption)) (pur_load tabOk rfl rfl rfl (fun wz hz => Blk.cell (Blk.ext (RP.blk d_hP) hz) rfl)) rfl ?_; refine tw_on rfl rfl rfl rfl (gd_tt (by assumption)) (pur_move rfl) rfl ?_; refine tw_on rfl rfl rfl rfl (gd_tt (by assumption)) (pur_nilCheck rfl) rfl ?_; refine tw_on rfl rfl rfl rfl (gd_tt (by assumption)) (pur_fieldAddr0 tabOk rfl rfl rfl) rfl ?_; refine tw_on rfl rfl rfl rfl (gd_tt (by assumption)) (pur_load tabOk rfl rfl rfl (fun wz hz => Blk.cell (Blk.ext (RP.blk d_hP) hz) rfl)) rfl ?_
        refine tw_on rfl rfl rfl rfl (gd_tt (by assumption)) (pur_len_slice tabOk rfl rfl) rfl ?_; clear qsm3 d_hP d_hfd d_rg; refine tw_tail rfl (Gya (C1 V3 (C1 Qya (cT (Wno (cw_exit (qw_then_exit (qw_then_exit (qw_block_exit (qw_then (cw_seq ?_))))))))))); refine cS (C1 Mv (C1 Pn (C1 Pf (lw_load_b tabOk rfl rfl rfl (RP.blk hP) rfl rfl (C1 V2 (cT (Wno (cw_skip (qw_then (cw_seq (cS ?_))))))))))); refine C1 Mv ?_; refine cC rfl (HV.out _ _ _ _ HL.out (by assumption)) ?_; rintro _ wm6 ⟨⟨⟩, xm5⟩; have zm7 := xm5.size; replace hP := hP.ext xm5; replace X := X.ext xm5; replace hfd := hfd.ext xm5; replace rg := rg.ext xm5; clear xm5; refine C1 Mv (C1 Px (C1 Px (C1 Pa (C1 Pa (cN (C1 Mv (C1 V2 (cT (Wya (cw_seq ?_)))))))))); (refine cw_tdraw (fun wz => Ext wm6 wz) 7 (.pure 0 (.pure 1 (.pure 2 (.pure 3 (.pure 4 (.pure 5 (.pure 6 .tail))))))) mixed (by kernel_rfl) (panicOk_then (panicOk_then panicOk_body)) ?_; intro wm8 xm9 _); have qsm10 : (fun wz => Ext wm6 wz) wm8 := xm9; simp only at qsm10; have d_hP := hP; have d_hfd := hfd; have d_rg := rg; have zm11 := xm9.size; replace hP := hP.ext xm9; replace X := X.ext xm9; replace hfd := hfd.ext xm9; replace rg := rg.ext xm9; clear xm9; refine ⟨qsm10, ?_⟩; refine Tq rfl Mv (Tq rfl Mv (Tq rfl Pi (Tq rfl (pur_load tabOk rfl rfl rfl (fun wz hz => Row.at0 (Row.ext d_rg hz) rfl)) (Tq rfl Mv (Tq rfl Pa (Tq rfl Pa ?_)))))); clear qsm10 d_hP d_hfd d_rg; refine tw_tail rfl (C1 Pa (cT (cw_ret (qw_then_ret (qw_ret3 rfl rfl rfl rfl ?_))))); rotate_left 1
       exact libR_mk (r' := ([], ai, e)) rfl (Or.inl rfl) X
    · have hfin : finLib ((fs, at_), σ) = ([], σ.off, σ.err) := by unfold finLib; rw [if_pos hz]
      rw [hfin]; clear hw
      focus
       refine cw_seq (cw_seq ?_); (refine cw_tdraw (fun wz => Ext w2 wz) 15 (.pure 0 (.pure 1 (.pure 2 (.pure 3 (.pure 4 (.pure 5 (.pure 6 (.pure 7 (.pure 8 (.pure 9 (.pure 10 (.pure 11 (.pure 12 (.pure 13 (.pure 14 .tail))))))))))))))) mixed (by kernel_rfl) (panicOk_then (panicOk_then (panicOk_then (panicOk_block (panicOk_then panicOk_body))))) ?_; intro wn1 xn2 _); have qsn3 : (fun wz => Ext w2 wz) wn1 := xn2; simp only at qsn3; have d_hP := hP; have d_hfd := hfd; have d_hel := hel; have zn4 := xn2.size; replace hP := hP.ext xn2; replace X := X.ext xn2; replace hfd := hfd.ext xn2; replace hel := hel.ext xn2; clear xn2; refine ⟨qsn3, ?_⟩; refine Tq rfl Mv (Tq rfl Pn (Tq rfl Pf (Tq rfl (pur_load tabOk rfl rfl rfl (fun wz hz => Blk.cell (Blk.ext (RP.blk d_hP) hz) rfl)) (Tq rfl V1 (Tq rfl Mv ?_))))); refine tw_off rfl rfl rfl rfl (gd_tf (by assumption)) rfl ?_; refine tw_off rfl rfl rfl rfl (gd_tf (by assumption)) rfl ?_; refine tw_off rfl rfl rfl rfl (gd_tf (by assumption)) rfl ?_; refine tw_off rfl rfl rfl rfl (gd_tf (by assumption)) rfl ?_; refine tw_off rfl rfl rfl rfl (gd_tf (by assumption)) rfl ?_; refine tw_off rfl rfl rfl rfl (gd_tf (by assumption)) rfl ?_; refine tw_off rfl rfl rfl rfl (gd_tf (by assumption)) rfl ?_; refine tw_off rfl rfl rfl rfl (gd_tf (by assumption)) rfl ?_; refine tw_off rfl rfl rfl rfl (gd_tf (by assumption)) rfl ?_; clear qsn3 d_hP d_hfd d_hel; refine tw_tail rfl (Ona (C1 Qna (cT (cw_cond_f rfl (cw_exit (qw_then_exit (qw_then_exit (qw_block_exit (qw_then (cw_seq (cS ?_)))))))))))
       refine C1 Mv (C1 Pn (C1 Pf (lw_load_b tabOk rfl rfl rfl (RP.blk hP) rfl rfl (C1 V2 (cT (Wya (cw_seq ?_))))))); (refine cw_tdraw (fun wz => Ext wn1 wz) 10 (.pure 0 (.pure 1 (.pure 2 (.pure 3 (.pure 4 (.pure 5 (.pure 6 (.pure 7 (.pure 8 (.pure 9 .tail)))))))))) mixed (by kernel_rfl) (panicOk_then (panicOk_then panicOk_body)) ?_; intro wn5 xn6 _); have qsn7 : (fun wz => Ext wn1 wz) wn5 := xn6; simp only at qsn7; have d_hP := hP; have d_hfd := hfd; have d_hel := hel; have zn8 := xn6.size; replace hP := hP.ext xn6; replace X := X.ext xn6; replace hfd := hfd.ext xn6; replace hel := hel.ext xn6; clear xn6; refine ⟨qsn7, ?_⟩; refine Tq rfl Mv (Tq rfl Pn (Tq rfl Pf (Tq rfl (pur_load tabOk rfl rfl rfl (fun wz hz => Blk.cell (Blk.ext (RP.blk d_hP) hz) rfl)) (Tq rfl Mv (Tq rfl Pn (Tq rfl Pf (Tq rfl (pur_load tabOk rfl rfl rfl (fun wz hz => Blk.cell (Blk.ext (RP.blk d_hP) hz) rfl)) (Tq rfl Pa (Tq rfl Pa ?_))))))))); clear qsn7 d_hP d_hfd d_hel; refine tw_tail rfl (C1 Pa (cT (cw_ret (qw_then_ret (qw_ret3 rfl rfl rfl rfl ?_))))); rotate_left 1
      exact libR_mk rfl (Or.inl rfl) X
end Bk
namespace Bk
open Go Go.RowKit Go.Proofs
attribute [local irreducible] Go.Calls
set_option maxRecDepth 100000 in
set_option maxHeartbeats 4000000 in
theorem parse36_c (s : List UInt8) (w : World) (ht : TabsF w) (hE : Errs w) (hl : s.length ≤ 9223372036854775807) :
 Calls Tryz.prog 4 #[str s] w fun e w' => e = .returned (.bool true) ∧ Ext w w' := by
 have X := Ext.refl w; have hS : Syms w := ⟨ht.t.sym⟩
 by_cases h8 : 800 < s.length
 · refine calls_in Tryz.func4 Tryz.ntmps4 rfl rfl ?_
   focus
    refine cS (C1 Pa (cT (cw_seq (cS ?_)))); refine cC rfl (awake36_c _ (by assumption) (by assumption)) ?_; rintro _ w2 ⟨⟨⟩, x1⟩; have z3 := x1.size; replace ht := ht.ext x1; replace hE := hE.ext x1; replace X := X.ext x1; replace hS := hS.ext x1; clear x1; refine C1 Pt (C1 Mv (lw_on rfl rfl rfl (rfl) (C1 Mv (lw_on rfl rfl rfl (rfl) (C1 Py (lw_on rfl rfl rfl (rfl) (C1 V5 (C1 (pur_pick_f rfl rfl rfl) (cT (Wyo (cS ?_))))))))))); refine cC rfl (awake36_c _ (by assumption) (by assumption)) ?_; rintro _ w5 ⟨⟨⟩, x4⟩; have z6 := x4.size; replace ht := ht.ext x4; replace hE := hE.ext x4; replace X := X.ext x4; replace hS := hS.ext x4; clear x4; refine C1 Pa (cT (cw_ret (qw_then_ret (qw_ret1 rfl rfl ?_)))); rotate_left 1
   exact ⟨rfl, X⟩
 · have hL := parseLib_few (s := s) (by omega)
   obtain ⟨hf1, hf2⟩ := hL.same
   have HS := Lib.hid hf2; clear hf2
   have HR := Lib.hid (fun w hS hE => funParse_c s w (by omega) hS hE); have HQ := Lib.hid (fun w => gParse_c s w (by omega))
   generalize parseLib s = q at *
   obtain ⟨ql, qo, qe⟩ := q; (try dsimp only at hf1); clear hL; refine calls_in Tryz.func4 Tryz.ntmps4 rfl rfl ?_
   focus
    refine cS (C1 Pa (cT (cw_seq (cS ?_)))); refine cC rfl (awake36_c _ (by assumption) (by assumption)) ?_; rintro _ wa2 ⟨⟨⟩, xa1⟩; have za3 := xa1.size; replace ht := ht.ext xa1; replace hE := hE.ext xa1; replace X := X.ext xa1; replace hS := hS.ext xa1; clear xa1; refine C1 Pt (C1 Mv (lw_on rfl rfl rfl (rfl) (C1 Mv (lw_on rfl rfl rfl (rfl) (C1 Py (lw_on rfl rfl rfl (rfl) (C1 V5 (C1 (pur_pick_f rfl rfl rfl) (cT (Wno (cw_skip ?_))))))))))); refine qw_then (cS (C1 Mv ?_)); refine cR (by kernel_rfl) rfl (HR.out _ (by assumption) (by assumption)) (fun _ _ h => h.ret) rfl ?_; rintro _ wa8 ⟨laa4, ⟨lca5, ⟨⟨⟩, ⟨ha6, xa7⟩⟩⟩⟩; have za9 := xa7.size; replace ht := ht.ext xa7; replace hE := hE.ext xa7; replace X := X.ext xa7; replace hS := hS.ext xa7; clear xa7; refine C1 Mv (C1 Px (C1 Px (C1 Px (C1 Pa (C1 Pa (C1 Pa (cN (C1 Mv ?_)))))))); refine cR (by kernel_rfl) rfl (HQ.out _) (fun _ _ h => h.ret) rfl ?_; rintro _ wa14 ⟨laa10, ⟨lca11, ⟨⟨⟩, ⟨ha12, xa13⟩⟩⟩⟩; have za15 := xa13.size; replace ha6 := ha6.ext xa13; replace ht := ht.ext xa13; replace hE := hE.ext xa13; replace X := X.ext xa13; replace hS := hS.ext xa13; clear xa13; refine C1 Mv (C1 Px (C1 Px (C1 Px (C1 Pa (C1 Pa (C1 Pa (cN (C1 Mv (C1 Mv (C1 V1 (C1 Mv ?_))))))))))); refine Gyo (C1 Mv (Gyo (C1 Mv (Gyo (C1 V1 (C1 Qyo (C1 Mv (Gyo (C1 Mv (Gyo (C1 Mv ?_))))))))))); refine Gyo ?_; refine cC rfl (same36_t _ _ _ _ _ _ _ _ hf1 HS.out (by assumption) (by assumption)) ?_; rintro _ wa17 ⟨⟨⟩, xa16⟩; have za18 := xa16.size; replace ha12 := ha12.ext xa16
    replace ha6 := ha6.ext xa16; replace ht := ht.ext xa16; replace hE := hE.ext xa16; replace X := X.ext xa16; replace hS := hS.ext xa16; clear xa16; refine C1 Qyo (C1 Pa (cT (cw_ret (qw_ret1 rfl rfl ?_)))); rotate_left 1
   exact ⟨by simp, X⟩
end Bk
namespace Bk
open Go Go.RowKit Go.Proofs
theorem FuntextParse_d (s : List UInt8) (w : World) (hl : s.length ≤ 9223372036854775807) (ht : TabsF w) (hE : Errs w) :
 Calls Tryz.prog 4 #[str s] w fun e w' => e = .returned (.bool true) ∧ Ext w w' := parse36_c s w ht hE hl
end Bk
namespace Bk
open Go Go.RowKit Go.Proofs Go.Lib
theorem cells_of_strs {H : Type} {enc : TypeId × Value → H} {P : Program} {w : World} {base : Nat} {sp : Nat → Bool} {held : Bool} {fuel : Nat} {t e : TypeId} {n : Nat} {cs : List Value} {zs : List (List UInt8)} {p : List MemPlace}
 (ht : P.underlying t = some (.array n e)) (he : P.underlying e = some .string) (hce : P.cellsOf e = 1) (hct : P.cellsOf t = n)
 (h : DataW.trod enc P w base sp held fuel t cs = some (.agg (zs.map fun z => .lit (.string z)), p)) : cs = zs.map str := by
 cases fuel with
 | zero => simp [DataW.trod] at h
 | succ fuel =>
  simp only [DataW.trod, ht, hce, hct, Nat.mul_one] at h
  split at h
  · rename_i hl
    obtain ⟨xs, hm, hx⟩ := Option.map_eq_some_iff.1 h
    have hxs : xs.map (·.1) = zs.map fun z => (DataW.lit (.string z) : DataW H) := by
     have := congrArg Prod.fst hx
     simpa using this
    have hxl : xs.length = n := by simpa using mapM_length hm
    have hzl : zs.length = n := by
     have := congrArg List.length hxs
     simp at this
     omega
    apply List.ext_getElem?
    intro i
    by_cases hi : i < n
    · obtain ⟨b, hb, hf⟩ := mapM_at hm i i (by simp [hi])
      obtain ⟨z, hc, rfl, _⟩ := DataW.trod_string he hf
      have h1 : cs[i]? = some (.string z) := by
       have := congrArg (·[0]?) hc
       simpa [List.getElem?_take, List.getElem?_drop] using this
      have h2 : (xs.map (·.1))[i]? = some (DataW.lit (.string z.data.toList) : DataW H) := by simp [hb]
      rw [hxs] at h2; simp only [List.getElem?_map, Option.map_eq_some_iff, DataW.lit.injEq, Lit.string.injEq] at h2; obtain ⟨z', hz', rfl⟩ := h2
      simp [h1, hz']
    · rw [List.getElem?_eq_none (by omega), List.getElem?_eq_none (by simp; omega)]
  · cases h
end Bk
namespace Bk
open Go Go.RowKit Go.Proofs Go.Lib
theorem gSym4 : Tryz.prog.globalNamed "backstep/arith.symbols" = some 0 := by kernel_rfl
theorem gSymT4 : (Tryz.prog.globals[0]?).map (·.type) = some 102 := by kernel_rfl
theorem uSymT4 : Tryz.prog.underlying 102 = some (.array 43 9) := by kernel_rfl
theorem cSymT4 : Tryz.prog.cellsOf 102 = 43 := by kernel_rfl
theorem uStr4 : Tryz.prog.underlying 9 = some .string := by kernel_rfl
theorem cStr4 : Tryz.prog.cellsOf 9 = 1 := by kernel_rfl
theorem gErr4 : Tryz.prog.globalNamed "strconv.ErrRange" = some 6 := by kernel_rfl
theorem gErrT4 : (Tryz.prog.globals[6]?).map (·.type) = some 55 := by kernel_rfl
theorem uErr4 : ∃ ms, Tryz.prog.underlying 55 = some (.interface ms) := ⟨_, Tryz.underlying55⟩
theorem symData4 : (YthfjhbdgdaebnaaGreatDoor.Rows.laid_backstep_arith_symbols : DataW Unit) = .agg (symbols.map fun z => .lit (.string z)) := rfl
abbrev laid4 : List (String × DataW Unit) := [("backstep/arith.symbols", YthfjhbdgdaebnaaGreatDoor.Rows.laid_backstep_arith_symbols), ("math/bits.deBruijn32tab", YthfjhbdgdaebnaaGreatDoor.Rows.laid_math_bits_deBruijn32tab), ("math/bits.deBruijn64tab", YthfjhbdgdaebnaaGreatDoor.Rows.laid_math_bits_deBruijn64tab), ("internal/strconv.uint64pow10", YthfjhbdgdaebnaaGreatDoor.Rows.laid_internal_strconv_uint64pow10), ("strconv.ErrRange", YthfjhbdgdaebnaaGreatDoor.Rows.laid_strconv_ErrRange), ("strconv.ErrSyntax", YthfjhbdgdaebnaaGreatDoor.Rows.laid_strconv_ErrSyntax)]
theorem syms_of_laid {W : World} (h : laidMetH Tryz.prog laid4 W) : Syms W ∧ Errs W := by
 have h' : laidMet Tryz.prog laid4 W := h; obtain ⟨ps, ⟨g1, t1, cs1, f1, p1, q1, hg1, ht1, hv1, hd1, ⟨g2, t2, cs2, f2, p2, q2, hg2, ht2, hv2, hd2, ⟨g3, t3, cs3, f3, p3, q3, hg3, ht3, hv3, hd3, ⟨g4, t4, cs4, f4, p4, q4, hg4, ht4, hv4, hd4, ⟨g5, t5, cs5, f5, p5, q5, hg5, ht5, hv5, hd5, -, -⟩, -⟩, -⟩, -⟩, -⟩, -⟩ := h'; obtain rfl := Option.some.inj (gSym4.symm.trans hg1); obtain rfl := Option.some.inj (gSymT4.symm.trans ht1); obtain rfl := Option.some.inj (gErr4.symm.trans hg5); obtain rfl := Option.some.inj (gErrT4.symm.trans ht5); rw [symData4] at hd1; have e1 := cells_of_strs uSymT4 uStr4 cStr4 cSymT4 hd1; refine ⟨⟨fun i hi => ?_⟩, ?_⟩
 · rw [World.var?_cell gSym4 hv1 i, ← Array.getElem?_toList, e1, List.getElem?_map]
   have : symbols[i]? = some (symbols.getD i []) := by
    rw [List.getD_eq_getElem?_getD, List.getElem?_eq_getElem (show i < symbols.length from hi)]; rfl
   rw [this]; rfl
 · obtain ⟨ms, hu⟩ := uErr4
   obtain ⟨f, u, v, hc, -, -⟩ := iface_of_trod hu hd5; refine ⟨⟨u, v, ?_⟩⟩; rw [World.var?_cell gErr4 hv5 0, ← Array.getElem?_toList, hc]
   rfl
end Bk
namespace Bk
open Go Go.RowKit Go.Proofs
end Bk
namespace Bk
open Go Go.RowKit Go.Proofs Go.Lib
theorem gPow36 : Tryz.prog.globalNamed "internal/strconv.uint64pow10" = some 2 := by kernel_rfl
theorem gPowT36 : (Tryz.prog.globals[2]?).map (·.type) = some 144 := by kernel_rfl
theorem uPowT36 : Tryz.prog.underlying 144 = some (.array 20 137) := by kernel_rfl
theorem uU6436 : Tryz.prog.underlying 137 = some (.int .u64) := by kernel_rfl
theorem cU6436 : Tryz.prog.cellsOf 137 = 1 := by kernel_rfl
theorem cPowT36 : Tryz.prog.cellsOf 144 = 20 := by kernel_rfl
theorem powData36 : (YthfjhbdgdaebnaaGreatDoor.Rows.laid_internal_strconv_uint64pow10 : DataW Unit) = tabData .u64 pow10Tab := rfl
theorem heap36_of_laid {W : World} (h : laidMetH Tryz.prog laid4 W) : Tryz.prog.globals.size ≤ W.heap.size := by
 have h' : laidMet Tryz.prog laid4 W := h; obtain ⟨ps, ⟨g1, t1, cs1, f1, p1, q1, hg1, ht1, hv1, hd1, ⟨g2, t2, cs2, f2, p2, q2, hg2, ht2, hv2, hd2, ⟨g3, t3, cs3, f3, p3, q3, hg3, ht3, hv3, hd3, ⟨g4, t4, cs4, f4, p4, q4, hg4, ht4, hv4, hd4, ⟨g5, t5, cs5, f5, p5, q5, hg5, ht5, hv5, hd5, ⟨g6, t6, cs6, f6, p6, q6, hg6, ht6, hv6, hd6, -, -⟩, -⟩, -⟩, -⟩, -⟩, -⟩, -⟩ := h'
 have key : ∀ (nm : String) (g : Nat) (v : _), Tryz.prog.globalNamed nm = some g → W.var? Tryz.prog nm = some v → g < W.heap.size := by
  intro nm g v hg hv
  rcases Nat.lt_or_ge g W.heap.size with hlt | hge
  · exact hlt
  · unfold World.var? at hv
    rw [hg] at hv
    simp [Array.getElem?_eq_none hge] at hv
 have k5 := key _ 6 _ (by kernel_rfl) hv5; have k6 := key _ 5 _ (by kernel_rfl) hv6; have k4 := key _ 2 _ (by kernel_rfl) hv4; have k3 := key _ 4 _ (by kernel_rfl) hv3; have hn : Tryz.prog.globals.size ≤ max (max 6 5) (max 2 4) + 1 := of_decide_eq_true (by kernel_rfl)
 omega
theorem tabs36_of_laid {W : World} (h : laidMetH Tryz.prog laid4 W) : TabsF W ∧ Errs W := by
 obtain ⟨hS, hE⟩ := syms_of_laid h; have hg := heap36_of_laid h; have h' : laidMet Tryz.prog laid4 W := h; obtain ⟨ps, ⟨g1, t1, cs1, f1, p1, q1, hg1, ht1, hv1, hd1, ⟨g2, t2, cs2, f2, p2, q2, hg2, ht2, hv2, hd2, ⟨g3, t3, cs3, f3, p3, q3, hg3, ht3, hv3, hd3, ⟨g4, t4, cs4, f4, p4, q4, hg4, ht4, hv4, hd4, -, -⟩, -⟩, -⟩, -⟩, -⟩ := h'; obtain rfl := Option.some.inj (gPow36.symm.trans hg4); obtain rfl := Option.some.inj (gPowT36.symm.trans ht4); rw [powData36] at hd4; have e4 := cells_of_tab uPowT36 uU6436 cU6436 cPowT36 hd4; refine ⟨⟨⟨hS.sym, ?_⟩, hg⟩, hE⟩
 unfold TabIs
 rw [hv4, ← e4]
end Bk
