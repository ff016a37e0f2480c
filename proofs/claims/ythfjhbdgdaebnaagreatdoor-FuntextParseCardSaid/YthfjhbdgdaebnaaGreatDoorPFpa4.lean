/- Texts that the proofs of FuntextParse need. No condition. (Part 4 of 8.) -/
import Derived.Test.YthfjhbdgdaebnaaGreatDoorPFpa3
set_option linter.unusedSimpArgs false
set_option linter.unusedVariables false
namespace Bk
open Go Go.RowKit Go.Proofs
attribute [local irreducible] Go.Calls
theorem rowWideF {S S' : Nat → Prop} {w : World} {l : List Nd} {a : Option Addr} (h : rowSits S w l a) (hS : ∀ b, S b → S' b) : rowSits S' w l a := rowSits_mono hS (fun _ _ _ _ h => h) l a h
theorem has_of {ts : List Tok} {σ : PS} {t : List UInt8} (h : (peekP ts σ).text = t) : hasP ts σ t = true := decide_eq_true h
set_option maxRecDepth 100000 in
set_option maxHeartbeats 4000000 in
theorem primary_fw (c : PCF) (k : Nat) (IH : ∀ j, j ≤ k → ExprsFC c j) : PrimFC c (k + 1) := by
 intro σ w hP hk; have X := Fr.refl (· = c.pb) w; have hpb := hP.pbB; have hB := hP.B; have hlen := hP.len
 by_cases t0 : (peekP c.ts σ).text = [91]
 · have hh := has_of t0
   have i1 := has_in hP.at_ hh (by decide); have h3 := i1.2; have m1 := mS_next i1; rw [show primF c.ts c.n (k + 1) σ = (.mk 86 0 [] [], expectP c.ts c.n (nextP σ) [93]) from by rw [primF]; simp [hasP, t0]]; clear i1 hh; refine calls_in Tryz.func106 Tryz.ntmps106 rfl rfl ?_
   focus
    refine cS ?_; (refine lw_alloc' [_, _, _, _] zOk rfl rfl ?_; intro b1 w2 n3); have h5 := n3.blk; have x6 := n3.ext; have p7 := n3.pos; have z8 := n3.size; clear n3; replace hP := hP.ext x6; replace X := X.ext x6; clear x6; refine cN (C1 Mv ?_); refine cC rfl (fpeek_c _ _ _ (by assumption)) ?_; rintro _ w10 ⟨⟨⟩, x9⟩; have z11 := x9.size; replace h5 := h5.ext x9; replace hP := hP.ext x9; replace X := X.ext x9; clear x9; (refine lw_alloc' [_, _, _] zOk rfl rfl ?_; intro b12 w13 n14); (refine lw_init' [_, _, _] tabOk rfl rfl rfl rfl rfl rfl n14 rfl ?_; clear n14; clear w13; intro w15 n14); have h16 := n14.blk; have x17 := n14.ext; have p18 := n14.pos; have z19 := n14.size; clear n14; replace h5 := h5.ext x17; replace hP := hP.ext x17; replace X := X.ext x17; clear x17; refine cT (cw_seq (cS (C1 Pf (C1 (Pl h16) (cT (cw_block (cS (C1 V8 (C1 Pa (cT (Wya ?_))))))))))); refine cS (C1 Mv (C1 Pn (C1 Pf (lw_load_b tabOk rfl rfl rfl (PPF.blk hP) rfl rfl (C1 V7 (C1 Pn (C1 Pf ?_))))))); refine lw_ppf_at tabOk rfl rfl rfl rfl (by assumption) h3 ?_; rintro w20 h21 f22; have z23 := f22.size; replace h16 := h16.fr f22 (by omega); replace h5 := h5.fr f22 (by omega); clear hP; replace X := X.fr f22 (by omega); clear f22; refine cN (C1 Mv ?_); refine cC rfl (fexpect_c _ _ _ _ (by assumption) (by decide)) ?_; rintro _ w26 ⟨⟨⟩, ⟨h24, f25⟩⟩; have z27 := f25.size; clear h21; replace h16 := h16.fr f25 (by omega); replace h5 := h5.fr f25 (by omega); replace X := X.fr f25 (by omega); clear f25; refine cN (C1 (pur_build' [_, _, _, _] tabOk zOk rfl rfl rfl rfl) ?_)
    (refine lw_store' [_, _, _, _] [_, _, _, _] tabOk rfl rfl rfl rfl rfl rfl h5 rfl rfl ?_; intro w28 n29); have h32 := n29.blk; have f30 := n29.fr; have z31 := n29.size; clear n29 h5; replace h24 := h24.fr f30 (by omega); replace h16 := h16.fr f30 (by omega); replace X := X.fr f30 (by omega); clear f30; refine cT (cw_ret (qw_block_ret (qw_then_ret (qw_retc rfl tabOk rfl rfl rfl h32 rfl ?_)))); rotate_left 1
   exact treeF_ret sits_nil (by assumption) X
 by_cases t1 : (peekP c.ts σ).text = [112, 117, 115, 104]
 · have hh := has_of t1
   have i1 := has_in hP.at_ hh (by decide); have h3 := i1.2; have m1 := mS_next i1; rw [show primF c.ts c.n (k + 1) σ = (.mk 87 0 [] (args2F c.ts c.n k (nextP σ)).1, (args2F c.ts c.n k (nextP σ)).2) from by rw [primF]; simp [hasP, t1]]; clear i1 hh; refine calls_in Tryz.func106 Tryz.ntmps106 rfl rfl ?_
   focus
    refine cS ?_; (refine lw_alloc' [_, _, _, _] zOk rfl rfl ?_; intro ba1 wa2 na3); have ha5 := na3.blk; have xa6 := na3.ext; have pa7 := na3.pos; have za8 := na3.size; clear na3; replace hP := hP.ext xa6; replace X := X.ext xa6; clear xa6; refine cN (C1 Mv ?_); refine cC rfl (fpeek_c _ _ _ (by assumption)) ?_; rintro _ wa10 ⟨⟨⟩, xa9⟩; have za11 := xa9.size; replace ha5 := ha5.ext xa9; replace hP := hP.ext xa9; replace X := X.ext xa9; clear xa9; (refine lw_alloc' [_, _, _] zOk rfl rfl ?_; intro ba12 wa13 na14); (refine lw_init' [_, _, _] tabOk rfl rfl rfl rfl rfl rfl na14 rfl ?_; clear na14; clear wa13; intro wa15 na14); have ha16 := na14.blk; have xa17 := na14.ext; have pa18 := na14.pos; have za19 := na14.size; clear na14; replace ha5 := ha5.ext xa17; replace hP := hP.ext xa17; replace X := X.ext xa17; clear xa17; refine cT (cw_seq (cS (C1 Pf (C1 (Pl ha16) (cT (cw_block (cS (C1 V8 (C1 Pa (cT (Wna ?_))))))))))); refine cS (C1 V8 (C1 Pa (cT (Wya (cS (C1 Mv (C1 Pn (C1 Pf (lw_load_b tabOk rfl rfl rfl (PPF.blk hP) rfl rfl (C1 V7 (C1 Pn ?_))))))))))); refine C1 Pf ?_; refine lw_ppf_at tabOk rfl rfl rfl rfl (by assumption) h3 ?_; rintro wa20 ha21 fa22; have za23 := fa22.size; replace ha16 := ha16.fr fa22 (by omega); replace ha5 := ha5.fr fa22 (by omega); clear hP; replace X := X.fr fa22 (by omega); clear fa22; refine cN (C1 Mv ?_); refine cR (by kernel_rfl) rfl ((IH k (Nat.le_refl _)).a2 _ _ (by assumption) (by omega)) (fun _ _ h => h.ret) rfl ?_; rintro _ wa29 ⟨aa24, ⟨ka25, ⟨⟨⟩, ⟨ha26, ⟨ha27, fa28⟩⟩⟩⟩⟩
    have za30 := fa28.size; clear ha21; replace ha16 := ha16.fr fa28 (by omega); replace ha5 := ha5.fr fa28 (by omega); replace X := X.fr fa28 (by omega); clear fa28; refine C1 (pur_build' [_, _, _, _] tabOk zOk rfl rfl rfl rfl) ?_; (refine lw_store' [_, _, _, _] [_, _, _, _] tabOk rfl rfl rfl rfl rfl rfl ha5 rfl rfl ?_; intro wa31 na32); have ha35 := na32.blk; have fa33 := na32.fr; have za34 := na32.size; clear na32 ha5; replace ha26 := Bk.rowSits.fr ha26 fa33 (by omega); replace ha27 := ha27.fr fa33 (by omega); replace ha16 := ha16.fr fa33 (by omega); replace X := X.fr fa33 (by omega); clear fa33; refine cT (cw_ret (qw_block_ret (qw_then_ret (qw_retc rfl tabOk rfl rfl rfl ha35 rfl ?_)))); rotate_left 1
   exact treeF_ret (r := (Nd.mk 87 0 [] (args2F c.ts c.n k (nextP σ)).1, _)) (sits_mk (rowWideF (by assumption) (fun b h => by omega))) (by assumption) X
 by_cases t2 : (peekP c.ts σ).text = [112, 111, 112]
 · have hh := has_of t2
   have i1 := has_in hP.at_ hh (by decide); have h3 := i1.2; have m1 := mS_next i1; rw [show primF c.ts c.n (k + 1) σ = (.mk 89 0 [] (args1F c.ts c.n k (nextP σ)).1, (args1F c.ts c.n k (nextP σ)).2) from by rw [primF]; simp [hasP, t2]]; clear i1 hh; refine calls_in Tryz.func106 Tryz.ntmps106 rfl rfl ?_
   focus
    refine cS ?_; (refine lw_alloc' [_, _, _, _] zOk rfl rfl ?_; intro bb1 wb2 nb3); have hb5 := nb3.blk; have xb6 := nb3.ext; have pb7 := nb3.pos; have zb8 := nb3.size; clear nb3; replace hP := hP.ext xb6; replace X := X.ext xb6; clear xb6; refine cN (C1 Mv ?_); refine cC rfl (fpeek_c _ _ _ (by assumption)) ?_; rintro _ wb10 ⟨⟨⟩, xb9⟩; have zb11 := xb9.size; replace hb5 := hb5.ext xb9; replace hP := hP.ext xb9; replace X := X.ext xb9; clear xb9; (refine lw_alloc' [_, _, _] zOk rfl rfl ?_; intro bb12 wb13 nb14); (refine lw_init' [_, _, _] tabOk rfl rfl rfl rfl rfl rfl nb14 rfl ?_; clear nb14; clear wb13; intro wb15 nb14); have hb16 := nb14.blk; have xb17 := nb14.ext; have pb18 := nb14.pos; have zb19 := nb14.size; clear nb14; replace hb5 := hb5.ext xb17; replace hP := hP.ext xb17; replace X := X.ext xb17; clear xb17; refine cT (cw_seq (cS (C1 Pf (C1 (Pl hb16) (cT (cw_block (cS (C1 V8 (C1 Pa (cT (Wna ?_))))))))))); refine cS (C1 V8 (C1 Pa (cT (Wna (cS (C1 V8 (C1 Pa (cT (Wya (cS (C1 Mv ?_))))))))))); refine C1 Pn (C1 Pf (lw_load_b tabOk rfl rfl rfl (PPF.blk hP) rfl rfl (C1 V7 (C1 Pn (C1 Pf ?_))))); refine lw_ppf_at tabOk rfl rfl rfl rfl (by assumption) h3 ?_; rintro wb20 hb21 fb22; have zb23 := fb22.size; replace hb16 := hb16.fr fb22 (by omega); replace hb5 := hb5.fr fb22 (by omega); clear hP; replace X := X.fr fb22 (by omega); clear fb22; refine cN (C1 Mv ?_); refine cR (by kernel_rfl) rfl ((IH k (Nat.le_refl _)).a1 _ _ (by assumption) (by omega)) (fun _ _ h => h.ret) rfl ?_; rintro _ wb29 ⟨ab24, ⟨kb25, ⟨⟨⟩, ⟨hb26, ⟨hb27, fb28⟩⟩⟩⟩⟩
    have zb30 := fb28.size; clear hb21; replace hb16 := hb16.fr fb28 (by omega); replace hb5 := hb5.fr fb28 (by omega); replace X := X.fr fb28 (by omega); clear fb28; refine C1 (pur_build' [_, _, _, _] tabOk zOk rfl rfl rfl rfl) ?_; (refine lw_store' [_, _, _, _] [_, _, _, _] tabOk rfl rfl rfl rfl rfl rfl hb5 rfl rfl ?_; intro wb31 nb32); have hb35 := nb32.blk; have fb33 := nb32.fr; have zb34 := nb32.size; clear nb32 hb5; replace hb26 := Bk.rowSits.fr hb26 fb33 (by omega); replace hb27 := hb27.fr fb33 (by omega); replace hb16 := hb16.fr fb33 (by omega); replace X := X.fr fb33 (by omega); clear fb33; refine cT (cw_ret (qw_block_ret (qw_then_ret (qw_retc rfl tabOk rfl rfl rfl hb35 rfl ?_)))); rotate_left 1
   exact treeF_ret (r := (Nd.mk 89 0 [] (args1F c.ts c.n k (nextP σ)).1, _)) (sits_mk (rowWideF (by assumption) (fun b h => by omega))) (by assumption) X
 by_cases t3 : (peekP c.ts σ).text = [116, 111, 112]
 · have hh := has_of t3
   have i1 := has_in hP.at_ hh (by decide); have h3 := i1.2; have m1 := mS_next i1; rw [show primF c.ts c.n (k + 1) σ = (.mk 88 0 [] (args1F c.ts c.n k (nextP σ)).1, (args1F c.ts c.n k (nextP σ)).2) from by rw [primF]; simp [hasP, t3]]; clear i1 hh; refine calls_in Tryz.func106 Tryz.ntmps106 rfl rfl ?_
   focus
    refine cS ?_; (refine lw_alloc' [_, _, _, _] zOk rfl rfl ?_; intro bc1 wc2 nc3); have hc5 := nc3.blk; have xc6 := nc3.ext; have pc7 := nc3.pos; have zc8 := nc3.size; clear nc3; replace hP := hP.ext xc6; replace X := X.ext xc6; clear xc6; refine cN (C1 Mv ?_); refine cC rfl (fpeek_c _ _ _ (by assumption)) ?_; rintro _ wc10 ⟨⟨⟩, xc9⟩; have zc11 := xc9.size; replace hc5 := hc5.ext xc9; replace hP := hP.ext xc9; replace X := X.ext xc9; clear xc9; (refine lw_alloc' [_, _, _] zOk rfl rfl ?_; intro bc12 wc13 nc14); (refine lw_init' [_, _, _] tabOk rfl rfl rfl rfl rfl rfl nc14 rfl ?_; clear nc14; clear wc13; intro wc15 nc14); have hc16 := nc14.blk; have xc17 := nc14.ext; have pc18 := nc14.pos; have zc19 := nc14.size; clear nc14; replace hc5 := hc5.ext xc17; replace hP := hP.ext xc17; replace X := X.ext xc17; clear xc17; refine cT (cw_seq (cS (C1 Pf (C1 (Pl hc16) (cT (cw_block (cS (C1 V8 (C1 Pa (cT (Wna ?_))))))))))); refine cS (C1 V8 (C1 Pa (cT (Wna (cS (C1 V8 (C1 Pa (cT (Wna (cS (C1 V8 ?_))))))))))); refine C1 Pa (cT (Wya (cS (C1 Mv (C1 Pn (C1 Pf (lw_load_b tabOk rfl rfl rfl (PPF.blk hP) rfl rfl (C1 V7 (C1 Pn (C1 Pf ?_)))))))))); refine lw_ppf_at tabOk rfl rfl rfl rfl (by assumption) h3 ?_; rintro wc20 hc21 fc22; have zc23 := fc22.size; replace hc16 := hc16.fr fc22 (by omega); replace hc5 := hc5.fr fc22 (by omega); clear hP; replace X := X.fr fc22 (by omega); clear fc22; refine cN (C1 Mv ?_); refine cR (by kernel_rfl) rfl ((IH k (Nat.le_refl _)).a1 _ _ (by assumption) (by omega)) (fun _ _ h => h.ret) rfl ?_
    rintro _ wc29 ⟨ac24, ⟨kc25, ⟨⟨⟩, ⟨hc26, ⟨hc27, fc28⟩⟩⟩⟩⟩; have zc30 := fc28.size; clear hc21; replace hc16 := hc16.fr fc28 (by omega); replace hc5 := hc5.fr fc28 (by omega); replace X := X.fr fc28 (by omega); clear fc28; refine C1 (pur_build' [_, _, _, _] tabOk zOk rfl rfl rfl rfl) ?_; (refine lw_store' [_, _, _, _] [_, _, _, _] tabOk rfl rfl rfl rfl rfl rfl hc5 rfl rfl ?_; intro wc31 nc32); have hc35 := nc32.blk; have fc33 := nc32.fr; have zc34 := nc32.size; clear nc32 hc5; replace hc26 := Bk.rowSits.fr hc26 fc33 (by omega); replace hc27 := hc27.fr fc33 (by omega); replace hc16 := hc16.fr fc33 (by omega); replace X := X.fr fc33 (by omega); clear fc33; refine cT (cw_ret (qw_block_ret (qw_then_ret (qw_retc rfl tabOk rfl rfl rfl hc35 rfl ?_)))); rotate_left 1
   exact treeF_ret (r := (Nd.mk 88 0 [] (args1F c.ts c.n k (nextP σ)).1, _)) (sits_mk (rowWideF (by assumption) (fun b h => by omega))) (by assumption) X
 by_cases t4 : (peekP c.ts σ).text = [33]
 · have hh := has_of t4
   have i1 := has_in hP.at_ hh (by decide); have h3 := i1.2; have m1 := mS_next i1; rw [show primF c.ts c.n (k + 1) σ = (.mk 90 0 [] [(primF c.ts c.n k (nextP σ)).1], (primF c.ts c.n k (nextP σ)).2) from by rw [primF]; simp [hasP, t4]]; clear i1 hh; refine calls_in Tryz.func106 Tryz.ntmps106 rfl rfl ?_
   focus
    refine cS ?_; (refine lw_alloc' [_, _, _, _] zOk rfl rfl ?_; intro bd1 wd2 nd3); have hd5 := nd3.blk; have xd6 := nd3.ext; have pd7 := nd3.pos; have zd8 := nd3.size; clear nd3; replace hP := hP.ext xd6; replace X := X.ext xd6; clear xd6; refine cN (C1 Mv ?_); refine cC rfl (fpeek_c _ _ _ (by assumption)) ?_; rintro _ wd10 ⟨⟨⟩, xd9⟩; have zd11 := xd9.size; replace hd5 := hd5.ext xd9; replace hP := hP.ext xd9; replace X := X.ext xd9; clear xd9; (refine lw_alloc' [_, _, _] zOk rfl rfl ?_; intro bd12 wd13 nd14); (refine lw_init' [_, _, _] tabOk rfl rfl rfl rfl rfl rfl nd14 rfl ?_; clear nd14; clear wd13; intro wd15 nd14); have hd16 := nd14.blk; have xd17 := nd14.ext; have pd18 := nd14.pos; have zd19 := nd14.size; clear nd14; replace hd5 := hd5.ext xd17; replace hP := hP.ext xd17; replace X := X.ext xd17; clear xd17; refine cT (cw_seq (cS (C1 Pf (C1 (Pl hd16) (cT (cw_block (cS (C1 V8 (C1 Pa (cT (Wna ?_))))))))))); refine cS (C1 V8 (C1 Pa (cT (Wna (cS (C1 V8 (C1 Pa (cT (Wna (cS (C1 V8 ?_))))))))))); refine C1 Pa (cT (Wna (cS (C1 V8 (C1 Pa (cT (Wya (cS (C1 Mv (C1 Pn (C1 Pf ?_))))))))))); refine lw_load_b tabOk rfl rfl rfl (PPF.blk hP) rfl rfl (C1 V7 (C1 Pn (C1 Pf ?_))); refine lw_ppf_at tabOk rfl rfl rfl rfl (by assumption) h3 ?_; rintro wd20 hd21 fd22; have zd23 := fd22.size; replace hd16 := hd16.fr fd22 (by omega); replace hd5 := hd5.fr fd22 (by omega); clear hP; replace X := X.fr fd22 (by omega); clear fd22; refine cN (C1 Mv ?_); refine cR (by kernel_rfl) rfl ((IH k (Nat.le_refl _)).p _ _ (by assumption) (by omega)) (fun _ _ h => h.ret) rfl ?_
    rintro _ wd29 ⟨ad24, ⟨kd25, ⟨⟨⟩, ⟨hd26, ⟨hd27, fd28⟩⟩⟩⟩⟩; have zd30 := fd28.size; clear hd21; replace hd16 := hd16.fr fd28 (by omega); replace hd5 := hd5.fr fd28 (by omega); replace X := X.fr fd28 (by omega); clear fd28; (refine lw_does (does_slice' [_, _, _, _] tabOk zOk rfl rfl rfl rfl rfl rfl rfl rfl rfl) rfl ?_ (fun _ h => h); rintro _ wd32 ⟨bd31, rfl, nd33, td34⟩); clear td34; have hd35 := nd33.blk; have xd36 := nd33.ext; have pd37 := nd33.pos; have zd38 := nd33.size; clear nd33; replace hd26 := Nd.sits.ext hd26 xd36; replace hd27 := hd27.ext xd36; replace hd16 := hd16.ext xd36; replace hd5 := hd5.ext xd36; replace X := X.ext xd36; clear xd36; refine C1 (pur_build' [_, _, _, _] tabOk zOk rfl rfl rfl rfl) ?_; (refine lw_store' [_, _, _, _] [_, _, _, _] tabOk rfl rfl rfl rfl rfl rfl hd5 rfl rfl ?_; intro wd39 nd40); have hd43 := nd40.blk; have fd41 := nd40.fr; have zd42 := nd40.size; clear nd40 hd5; replace hd35 := hd35.fr fd41 (by omega); replace hd26 := Nd.sits.fr hd26 fd41 (by omega); replace hd27 := hd27.fr fd41 (by omega); replace hd16 := hd16.fr fd41 (by omega); replace X := X.fr fd41 (by omega); clear fd41; refine cT (cw_ret (qw_block_ret (qw_then_ret (qw_retc rfl tabOk rfl rfl rfl hd43 rfl ?_)))); rotate_left 1
   exact treeF_ret (sits_1 (by assumption) (by omega) (by assumption) (fun b h => by omega)) (by assumption) X
 by_cases t5 : (peekP c.ts σ).text = [105, 102]
 · have hh := has_of t5
   have i1 := has_in hP.at_ hh (by decide); have h3 := i1.2; have m1 := mS_next i1; rw [show primF c.ts c.n (k + 1) σ = ifF c.ts c.n k σ from by rw [primF]; simp [hasP, t5]]; clear i1 hh; refine calls_in Tryz.func106 Tryz.ntmps106 rfl rfl ?_
   focus
    refine cS ?_; (refine lw_alloc' [_, _, _, _] zOk rfl rfl ?_; intro be1 we2 ne3); have he5 := ne3.blk; have xe6 := ne3.ext; have pe7 := ne3.pos; have ze8 := ne3.size; clear ne3; replace hP := hP.ext xe6; replace X := X.ext xe6; clear xe6; refine cN (C1 Mv ?_); refine cC rfl (fpeek_c _ _ _ (by assumption)) ?_; rintro _ we10 ⟨⟨⟩, xe9⟩; have ze11 := xe9.size; replace he5 := he5.ext xe9; replace hP := hP.ext xe9; replace X := X.ext xe9; clear xe9; (refine lw_alloc' [_, _, _] zOk rfl rfl ?_; intro be12 we13 ne14); (refine lw_init' [_, _, _] tabOk rfl rfl rfl rfl rfl rfl ne14 rfl ?_; clear ne14; clear we13; intro we15 ne14); have he16 := ne14.blk; have xe17 := ne14.ext; have pe18 := ne14.pos; have ze19 := ne14.size; clear ne14; replace he5 := he5.ext xe17; replace hP := hP.ext xe17; replace X := X.ext xe17; clear xe17; refine cT (cw_seq (cS (C1 Pf (C1 (Pl he16) (cT (cw_block (cS (C1 V8 (C1 Pa (cT (Wna ?_))))))))))); refine cS (C1 V8 (C1 Pa (cT (Wna (cS (C1 V8 (C1 Pa (cT (Wna (cS (C1 V8 ?_))))))))))); refine C1 Pa (cT (Wna (cS (C1 V8 (C1 Pa (cT (Wna (cS (C1 V8 (C1 Pa (cT ?_))))))))))); refine Wya (cS (C1 Mv ?_)); refine cR (by kernel_rfl) rfl ((IH k (Nat.le_refl _)).i _ _ (by assumption) (by omega) (by omega)) (fun _ _ h => h.ret) rfl ?_; rintro _ we25 ⟨ae20, ⟨ke21, ⟨⟨⟩, ⟨he22, ⟨he23, fe24⟩⟩⟩⟩⟩; have ze26 := fe24.size; replace he16 := he16.fr fe24 (by omega); replace he5 := he5.fr fe24 (by omega); clear hP; replace X := X.fr fe24 (by omega); clear fe24; (refine lw_store' [_, _, _, _] [_, _, _, _] tabOk rfl rfl rfl rfl rfl rfl he5 rfl rfl ?_; intro we27 ne28)
    have he31 := ne28.blk; have fe29 := ne28.fr; have ze30 := ne28.size; clear ne28 he5; replace he22 := Nd.sits.fr he22 fe29 (by omega); replace he23 := he23.fr fe29 (by omega); replace he16 := he16.fr fe29 (by omega); replace X := X.fr fe29 (by omega); clear fe29; refine cT (cw_ret (qw_block_ret (qw_then_ret (qw_retc rfl tabOk rfl rfl rfl he31 rfl ?_)))); rotate_left 1
   exact treeF_ret (Nd.sits.wide (by assumption) (fun b h => by omega)) (by assumption) X
 by_cases t6 : (peekP c.ts σ).text = [108, 111, 99, 97, 108]
 · have hh := has_of t6
   have i1 := has_in hP.at_ hh (by decide); have h3 := i1.2; have m1 := mS_next i1; rw [show primF c.ts c.n (k + 1) σ = letF c.ts c.n k σ from by rw [primF]; simp [hasP, t6]]; clear i1 hh; refine calls_in Tryz.func106 Tryz.ntmps106 rfl rfl ?_
   focus
    refine cS ?_; (refine lw_alloc' [_, _, _, _] zOk rfl rfl ?_; intro bf1 wf2 nf3); have hf5 := nf3.blk; have xf6 := nf3.ext; have pf7 := nf3.pos; have zf8 := nf3.size; clear nf3; replace hP := hP.ext xf6; replace X := X.ext xf6; clear xf6; refine cN (C1 Mv ?_); refine cC rfl (fpeek_c _ _ _ (by assumption)) ?_; rintro _ wf10 ⟨⟨⟩, xf9⟩; have zf11 := xf9.size; replace hf5 := hf5.ext xf9; replace hP := hP.ext xf9; replace X := X.ext xf9; clear xf9; (refine lw_alloc' [_, _, _] zOk rfl rfl ?_; intro bf12 wf13 nf14); (refine lw_init' [_, _, _] tabOk rfl rfl rfl rfl rfl rfl nf14 rfl ?_; clear nf14; clear wf13; intro wf15 nf14); have hf16 := nf14.blk; have xf17 := nf14.ext; have pf18 := nf14.pos; have zf19 := nf14.size; clear nf14; replace hf5 := hf5.ext xf17; replace hP := hP.ext xf17; replace X := X.ext xf17; clear xf17; refine cT (cw_seq (cS (C1 Pf (C1 (Pl hf16) (cT (cw_block (cS (C1 V8 (C1 Pa (cT (Wna ?_))))))))))); refine cS (C1 V8 (C1 Pa (cT (Wna (cS (C1 V8 (C1 Pa (cT (Wna (cS (C1 V8 ?_))))))))))); refine C1 Pa (cT (Wna (cS (C1 V8 (C1 Pa (cT (Wna (cS (C1 V8 (C1 Pa (cT ?_))))))))))); refine Wna (cS (C1 V8 (C1 Pa (cT (Wya (cS (C1 Mv ?_))))))); refine cR (by kernel_rfl) rfl ((IH k (Nat.le_refl _)).l _ _ (by assumption) (by omega) (by omega)) (fun _ _ h => h.ret) rfl ?_; rintro _ wf25 ⟨af20, ⟨kf21, ⟨⟨⟩, ⟨hf22, ⟨hf23, ff24⟩⟩⟩⟩⟩; have zf26 := ff24.size; replace hf16 := hf16.fr ff24 (by omega); replace hf5 := hf5.fr ff24 (by omega); clear hP; replace X := X.fr ff24 (by omega); clear ff24
    (refine lw_store' [_, _, _, _] [_, _, _, _] tabOk rfl rfl rfl rfl rfl rfl hf5 rfl rfl ?_; intro wf27 nf28); have hf31 := nf28.blk; have ff29 := nf28.fr; have zf30 := nf28.size; clear nf28 hf5; replace hf22 := Nd.sits.fr hf22 ff29 (by omega); replace hf23 := hf23.fr ff29 (by omega); replace hf16 := hf16.fr ff29 (by omega); replace X := X.fr ff29 (by omega); clear ff29; refine cT (cw_ret (qw_block_ret (qw_then_ret (qw_retc rfl tabOk rfl rfl rfl hf31 rfl ?_)))); rotate_left 1
   exact treeF_ret (Nd.sits.wide (by assumption) (fun b h => by omega)) (by assumption) X
 by_cases t7 : (peekP c.ts σ).text = [40]
 · have hh := has_of t7
   have i1 := has_in hP.at_ hh (by decide); have h3 := i1.2; have m1 := mS_next i1; rw [show primF c.ts c.n (k + 1) σ = ((exprF c.ts c.n k 1 (nextP σ)).1, expectP c.ts c.n (exprF c.ts c.n k 1 (nextP σ)).2 [41]) from by rw [primF]; simp [hasP, t7]]; clear i1 hh; refine calls_in Tryz.func106 Tryz.ntmps106 rfl rfl ?_
   focus
    refine cS ?_; (refine lw_alloc' [_, _, _, _] zOk rfl rfl ?_; intro bg1 wg2 ng3); have hg5 := ng3.blk; have xg6 := ng3.ext; have pg7 := ng3.pos; have zg8 := ng3.size; clear ng3; replace hP := hP.ext xg6; replace X := X.ext xg6; clear xg6; refine cN (C1 Mv ?_); refine cC rfl (fpeek_c _ _ _ (by assumption)) ?_; rintro _ wg10 ⟨⟨⟩, xg9⟩; have zg11 := xg9.size; replace hg5 := hg5.ext xg9; replace hP := hP.ext xg9; replace X := X.ext xg9; clear xg9; (refine lw_alloc' [_, _, _] zOk rfl rfl ?_; intro bg12 wg13 ng14); (refine lw_init' [_, _, _] tabOk rfl rfl rfl rfl rfl rfl ng14 rfl ?_; clear ng14; clear wg13; intro wg15 ng14); have hg16 := ng14.blk; have xg17 := ng14.ext; have pg18 := ng14.pos; have zg19 := ng14.size; clear ng14; replace hg5 := hg5.ext xg17; replace hP := hP.ext xg17; replace X := X.ext xg17; clear xg17; refine cT (cw_seq (cS (C1 Pf (C1 (Pl hg16) (cT (cw_block (cS (C1 V8 (C1 Pa (cT (Wna ?_))))))))))); refine cS (C1 V8 (C1 Pa (cT (Wna (cS (C1 V8 (C1 Pa (cT (Wna (cS (C1 V8 ?_))))))))))); refine C1 Pa (cT (Wna (cS (C1 V8 (C1 Pa (cT (Wna (cS (C1 V8 (C1 Pa (cT ?_))))))))))); refine Wna (cS (C1 V8 (C1 Pa (cT (Wna (cS (C1 V8 (C1 Pa (cT (Wya (cS ?_))))))))))); refine C1 Mv (C1 Pn (C1 Pf (lw_load_b tabOk rfl rfl rfl (PPF.blk hP) rfl rfl (C1 V7 (C1 Pn (C1 Pf ?_)))))); refine lw_ppf_at tabOk rfl rfl rfl rfl (by assumption) h3 ?_; rintro wg20 hg21 fg22; have zg23 := fg22.size; replace hg16 := hg16.fr fg22 (by omega); replace hg5 := hg5.fr fg22 (by omega); clear hP; replace X := X.fr fg22 (by omega)
    clear fg22; refine cN (C1 Mv ?_); refine cR (by kernel_rfl) rfl ((IH k (Nat.le_refl _)).e _ _ _ (by assumption) (by omega) (by decide) (by decide)) (fun _ _ h => h.ret) rfl ?_; rintro _ wg29 ⟨ag24, ⟨kg25, ⟨⟨⟩, ⟨hg26, ⟨hg27, fg28⟩⟩⟩⟩⟩; have zg30 := fg28.size; clear hg21; replace hg16 := hg16.fr fg28 (by omega); replace hg5 := hg5.fr fg28 (by omega); replace X := X.fr fg28 (by omega); clear fg28; (refine lw_alloc' [_, _, _, _] zOk rfl rfl ?_; intro bg31 wg32 ng33); (refine lw_init' [_, _, _, _] tabOk rfl rfl rfl rfl rfl rfl ng33 rfl ?_; clear ng33; clear wg32; intro wg34 ng33); have hg35 := ng33.blk; have xg36 := ng33.ext; have pg37 := ng33.pos; have zg38 := ng33.size; clear ng33; replace hg26 := Nd.sits.ext hg26 xg36; replace hg27 := hg27.ext xg36; replace hg16 := hg16.ext xg36; replace hg5 := hg5.ext xg36; replace X := X.ext xg36; clear xg36; refine cN (C1 Mv ?_); refine cC rfl (fexpect_c _ _ _ _ (by assumption) (by decide)) ?_; rintro _ wg41 ⟨⟨⟩, ⟨hg39, fg40⟩⟩; have zg42 := fg40.size; replace hg35 := hg35.fr fg40 (by omega); replace hg26 := Nd.sits.fr hg26 fg40 (by omega); clear hg27; replace hg16 := hg16.fr fg40 (by omega); replace hg5 := hg5.fr fg40 (by omega); replace X := X.fr fg40 (by omega); clear fg40; refine cN (lw_loads_b' [_, _, _, _] tabOk rfl rfl rfl hg35 rfl rfl rfl ?_); (refine lw_store' [_, _, _, _] [_, _, _, _] tabOk rfl rfl rfl rfl rfl rfl hg5 rfl rfl ?_; intro wg43 ng44); have hg47 := ng44.blk; have fg45 := ng44.fr; have zg46 := ng44.size; clear ng44 hg5
    replace hg39 := hg39.fr fg45 (by omega); replace hg35 := hg35.fr fg45 (by omega); replace hg26 := Nd.sits.fr hg26 fg45 (by omega); replace hg16 := hg16.fr fg45 (by omega); replace X := X.fr fg45 (by omega); clear fg45; refine cT (cw_ret (qw_block_ret (qw_then_ret (qw_retc rfl tabOk rfl rfl rfl hg47 rfl ?_)))); rotate_left 1
   exact treeF_ret (Nd.sits.wide (by assumption) (fun b h => by omega)) (by assumption) X
 by_cases hk2 : (peekP c.ts σ).kind = 2
 · rw [show primF c.ts c.n (k + 1) σ = fnumP c.ts σ from by rw [primF]; simp [hasP, t0, t1, t2, t3, t4, t5, t6, t7, hk2]]
   refine calls_in Tryz.func106 Tryz.ntmps106 rfl rfl ?_
   focus
    refine cS ?_; (refine lw_alloc' [_, _, _, _] zOk rfl rfl ?_; intro bh1 wh2 nh3); have hh5 := nh3.blk; have xh6 := nh3.ext; have ph7 := nh3.pos; have zh8 := nh3.size; clear nh3; replace hP := hP.ext xh6; replace X := X.ext xh6; clear xh6; refine cN (C1 Mv ?_); refine cC rfl (fpeek_c _ _ _ (by assumption)) ?_; rintro _ wh10 ⟨⟨⟩, xh9⟩; have zh11 := xh9.size; replace hh5 := hh5.ext xh9; replace hP := hP.ext xh9; replace X := X.ext xh9; clear xh9; (refine lw_alloc' [_, _, _] zOk rfl rfl ?_; intro bh12 wh13 nh14); (refine lw_init' [_, _, _] tabOk rfl rfl rfl rfl rfl rfl nh14 rfl ?_; clear nh14; clear wh13; intro wh15 nh14); have hh16 := nh14.blk; have xh17 := nh14.ext; have ph18 := nh14.pos; have zh19 := nh14.size; clear nh14; replace hh5 := hh5.ext xh17; replace hP := hP.ext xh17; replace X := X.ext xh17; clear xh17; refine cT (cw_seq (cS (C1 Pf (C1 (Pl hh16) (cT (cw_block (cS (C1 V8 (C1 Pa (cT (Wna ?_))))))))))); refine cS (C1 V8 (C1 Pa (cT (Wna (cS (C1 V8 (C1 Pa (cT (Wna (cS (C1 V8 ?_))))))))))); refine C1 Pa (cT (Wna (cS (C1 V8 (C1 Pa (cT (Wna (cS (C1 V8 (C1 Pa (cT ?_))))))))))); refine Wna (cS (C1 V8 (C1 Pa (cT (Wna (cS (C1 V8 (C1 Pa (cT (Wna (cw_skip ?_))))))))))); refine qw_block_norm (qw_then (cw_seq (cS (C1 Pg (C1 (Pl hh16) (C1 V1 (cT (Wya (cS (C1 Mv ?_)))))))))); refine cR (by kernel_rfl) rfl (fnumber_c _ _ _ (by assumption) (by assumption)) (fun _ _ h => h.ret) rfl ?_; rintro _ wh25 ⟨ah20, ⟨kh21, ⟨⟨⟩, ⟨hh22, ⟨hh23, fh24⟩⟩⟩⟩⟩; have zh26 := fh24.size; replace hh16 := hh16.fr fh24 (by omega)
    replace hh5 := hh5.fr fh24 (by omega); clear hP; replace X := X.fr fh24 (by omega); clear fh24; (refine lw_store' [_, _, _, _] [_, _, _, _] tabOk rfl rfl rfl rfl rfl rfl hh5 rfl rfl ?_; intro wh27 nh28); have hh31 := nh28.blk; have fh29 := nh28.fr; have zh30 := nh28.size; clear nh28 hh5; replace hh22 := Nd.sits.fr hh22 fh29 (by omega); replace hh23 := hh23.fr fh29 (by omega); replace hh16 := hh16.fr fh29 (by omega); replace X := X.fr fh29 (by omega); clear fh29; refine cT (cw_ret (qw_then_ret (qw_retc rfl tabOk rfl rfl rfl hh31 rfl ?_))); rotate_left 1
   exact treeF_ret (Nd.sits.wide (by assumption) (fun b h => by omega)) (by assumption) X
 · rw [show primF c.ts c.n (k + 1) σ = namedF c.ts c.n k σ from by rw [primF]; simp [hasP, t0, t1, t2, t3, t4, t5, t6, t7, hk2]]
   refine calls_in Tryz.func106 Tryz.ntmps106 rfl rfl ?_
   focus
    refine cS ?_; (refine lw_alloc' [_, _, _, _] zOk rfl rfl ?_; intro bi1 wi2 ni3); have hi5 := ni3.blk; have xi6 := ni3.ext; have pi7 := ni3.pos; have zi8 := ni3.size; clear ni3; replace hP := hP.ext xi6; replace X := X.ext xi6; clear xi6; refine cN (C1 Mv ?_); refine cC rfl (fpeek_c _ _ _ (by assumption)) ?_; rintro _ wi10 ⟨⟨⟩, xi9⟩; have zi11 := xi9.size; replace hi5 := hi5.ext xi9; replace hP := hP.ext xi9; replace X := X.ext xi9; clear xi9; (refine lw_alloc' [_, _, _] zOk rfl rfl ?_; intro bi12 wi13 ni14); (refine lw_init' [_, _, _] tabOk rfl rfl rfl rfl rfl rfl ni14 rfl ?_; clear ni14; clear wi13; intro wi15 ni14); have hi16 := ni14.blk; have xi17 := ni14.ext; have pi18 := ni14.pos; have zi19 := ni14.size; clear ni14; replace hi5 := hi5.ext xi17; replace hP := hP.ext xi17; replace X := X.ext xi17; clear xi17; refine cT (cw_seq (cS (C1 Pf (C1 (Pl hi16) (cT (cw_block (cS (C1 V8 (C1 Pa (cT (Wna ?_))))))))))); refine cS (C1 V8 (C1 Pa (cT (Wna (cS (C1 V8 (C1 Pa (cT (Wna (cS (C1 V8 ?_))))))))))); refine C1 Pa (cT (Wna (cS (C1 V8 (C1 Pa (cT (Wna (cS (C1 V8 (C1 Pa (cT ?_))))))))))); refine Wna (cS (C1 V8 (C1 Pa (cT (Wna (cS (C1 V8 (C1 Pa (cT (Wna (cw_skip ?_))))))))))); refine qw_block_norm (qw_then (cw_seq (cS (C1 Pg (C1 (Pl hi16) (C1 V1 (cT (Wna (cw_skip (qw_then (cS ?_))))))))))); refine C1 Mv ?_; refine cR (by kernel_rfl) rfl ((IH k (Nat.le_refl _)).d _ _ (by assumption) (by omega)) (fun _ _ h => h.ret) rfl ?_; rintro _ wi25 ⟨ai20, ⟨ki21, ⟨⟨⟩, ⟨hi22, ⟨hi23, fi24⟩⟩⟩⟩⟩; have zi26 := fi24.size
    replace hi16 := hi16.fr fi24 (by omega); replace hi5 := hi5.fr fi24 (by omega); clear hP; replace X := X.fr fi24 (by omega); clear fi24; (refine lw_store' [_, _, _, _] [_, _, _, _] tabOk rfl rfl rfl rfl rfl rfl hi5 rfl rfl ?_; intro wi27 ni28); have hi31 := ni28.blk; have fi29 := ni28.fr; have zi30 := ni28.size; clear ni28 hi5; replace hi22 := Nd.sits.fr hi22 fi29 (by omega); replace hi23 := hi23.fr fi29 (by omega); replace hi16 := hi16.fr fi29 (by omega); replace X := X.fr fi29 (by omega); clear fi29; refine cT (cw_ret (qw_retc rfl tabOk rfl rfl rfl hi31 rfl ?_)); rotate_left 1
   exact treeF_ret (Nd.sits.wide (by assumption) (fun b h => by omega)) (by assumption) X
theorem getS_binF (t : List UInt8) : getS binMap t = (binOf t).map fun k => .int .u8 k := by
 unfold binMap binOf
 generalize hL : [(8 : Int), 9, 10, 11, 12, 13, 14, 15, 16, 17, 18, 19, 20, 21, 22, 23] = L
 clear hL
 induction L with
 | nil => rfl
 | cons k r ih =>
  simp only [List.map_cons, getS, List.find?_cons]
  by_cases h : symbol k = t
  · simp [h]
  · rw [if_neg (fun e => h e.symm), ih]; simp [h]
set_option maxRecDepth 100000 in
set_option maxHeartbeats 2000000 in
theorem expr_fw (c : PCF) (k : Nat) (IH : ∀ j, j ≤ k → ExprsFC c j) : ExprFC c (k + 1) := by
 intro lv σ w hP hk hl0 hl1; have X := Fr.refl (· = c.pb) w; have hpb := hP.pbB; have hB := hP.B; have hlen := hP.len; rw [show exprF c.ts c.n (k + 1) lv σ = climbF c.ts c.n k lv (primF c.ts c.n k σ).1 (primF c.ts c.n k σ).2 from by rw [exprF]]; have hu : Le c.ts σ (primF c.ts c.n k σ).2 := (good_F k).p.le c.ts c.n σ hP.at_
 have hf : 4 * mS c.ts σ + 3 ≤ k := by omega
 have hf2 : 4 * mS c.ts (primF c.ts c.n k σ).2 + 1 ≤ k := by have := mS_le hu; omega
 refine calls_in Tryz.func90 Tryz.ntmps90 rfl rfl ?_
 focus
  refine cS ?_; (refine lw_alloc' [_, _, _, _] zOk rfl rfl ?_; intro b1 w2 n3); have h5 := n3.blk; have x6 := n3.ext; have p7 := n3.pos; have z8 := n3.size; clear n3; replace hP := hP.ext x6; replace X := X.ext x6; clear x6; refine cN (C1 Mv ?_); refine cR (by kernel_rfl) rfl ((IH k (Nat.le_refl _)).p _ _ (by assumption) hf) (fun _ _ h => h.ret) rfl ?_; rintro _ w14 ⟨a9, ⟨k10, ⟨⟨⟩, ⟨h11, ⟨h12, f13⟩⟩⟩⟩⟩; have z15 := f13.size; replace h5 := h5.fr f13 (by omega); clear hP; replace X := X.fr f13 (by omega); clear f13; (refine lw_alloc' [_, _, _, _] zOk rfl rfl ?_; intro b16 w17 n18); (refine lw_init' [_, _, _, _] tabOk rfl rfl rfl rfl rfl rfl n18 rfl ?_; clear n18; clear w17; intro w19 n18); have h20 := n18.blk; have x21 := n18.ext; have p22 := n18.pos; have z23 := n18.size; clear n18; replace h11 := Nd.sits.ext h11 x21; replace h12 := h12.ext x21; replace h5 := h5.ext x21; replace X := X.ext x21; clear x21; refine cT (cw_block ?_); rotate_left 1
 refine cw_loop (ι := Nat × Nd × Option Addr × Nat × PS) (fun _ => [(0, .pointer (some ⟨c.pb, 0, none⟩)), (1, .int .i64 lv), (4, .pointer (some ⟨b1, 0, none⟩)), (5, .pointer (some ⟨b16, 0, none⟩))])
  (fun x w' => PPF c x.2.2.2.2 w' ∧ Blk w' b16 (x.2.1.cells x.2.2.1 x.2.2.2.1) ∧ x.2.1.sits (fun b => w.heap.size ≤ b ∧ b ≠ b1 ∧ b ≠ b16) w' x.2.2.1 ∧ Blk w' b1 [.int .u8 0, .int .i64 0, .string ⟨#[]⟩, .slice none 0 0] ∧ Fr (· = c.pb) w w' ∧ w19.heap.size ≤ w'.heap.size ∧
   climbF c.ts c.n k lv (primF c.ts c.n k σ).1 (primF c.ts c.n k σ).2 = climbF c.ts c.n x.1 lv x.2.1 x.2.2.2.2 ∧ 4 * mS c.ts x.2.2.2.2 + 1 ≤ x.1 ∧ x.1 ≤ k) (fun x => x.1) (k, (primF c.ts c.n k σ).1, a9, k10, (primF c.ts c.n k σ).2) (by (refine sub_cons rfl ?_; refine sub_cons rfl ?_; refine sub_cons rfl ?_; refine sub_cons rfl ?_; exact sub_nil))
  ⟨h12, h20, h11.wide (fun b h => ⟨by omega, by omega, by omega⟩), h5, X, Nat.le_refl _, rfl, hf2, Nat.le_refl _⟩ ?_
 rintro ⟨j, x, xa, xc, σ'⟩ w1 ⟨hP, h5, hs, h4, X, hz, he, hfj, hjk⟩; simp only at hP h5 hs he hfj hjk; rw [he]; clear he hu hf hf2 h20 h11; obtain ⟨j, rfl⟩ : ∃ i, j = i + 1 := ⟨j - 1, by omega⟩; have hg := getS_binF (peekP c.ts σ').text
 cases hb : binOf (peekP c.ts σ').text with
 | none =>
  rw [show climbF c.ts c.n (j + 1) lv x σ' = (x, σ') from by rw [climbF]; simp [hb]]; rw [hb] at hg; simp only [Option.map_none] at hg
  focus
   refine cw_block (cw_seq ?_); (refine cw_tdraw (fun wz => Ext w1 wz) 12 (.pure 0 (.pure 1 (.pure 2 (.pure 3 (.pure 4 (.fork 5 (.pure 6 (.pure 7 (.pure 8 (.pure 9 (.pure 10 (.pure 11 .tail)))))) .none)))))) mixed (by kernel_rfl) (panicOk_then (panicOk_block (panicOk_then (panicOk_block panicOk_body)))) ?_; intro wa1 xa2 _); have qsa3 : (fun wz => Ext w1 wz) wa1 := xa2; simp only at qsa3; have d_hP := hP; have d_h5 := h5; have d_hs := hs; have d_h4 := h4; have za4 := xa2.size; replace hP := hP.ext xa2; replace h5 := h5.ext xa2; replace hs := Nd.sits.ext hs xa2; replace h4 := h4.ext xa2; replace X := X.ext xa2; clear xa2; refine ⟨qsa3, ?_⟩; refine Tq rfl Mv (Tq rfl Pn (Tq rfl Pf (Tq rfl (pur_load tabOk rfl rfl rfl (fun wz hz => Blk.cell (Blk.ext (PPF.blk d_hP) hz) rfl)) (Tq rfl Mv ?_)))); refine tw_does rfl (does_call (by kernel_rfl) rfl (fpeek_c _ _ _ (by assumption)) (fun _ _ h => ⟨_, h.1⟩)) rfl ?_ (fun _ h => h) tw_none; rintro _ wa7 ⟨⟨⟩, xa6⟩; have za8 := xa6.size; replace qsa3 := qsa3.ext xa6; replace hP := hP.ext xa6; replace h5 := h5.ext xa6; replace hs := Nd.sits.ext hs xa6; replace h4 := h4.ext xa6; replace X := X.ext xa6; clear xa6; refine ⟨qsa3, ?_⟩; refine Tq rfl (pur_field tabOk rfl rfl rfl rfl rfl rfl) ?_; refine Tq rfl (pur_look_none tabOk rfl rfl rfl rfl rfl (fun wz hz => MapIs.ext (PPF.map d_hP) hz) (by assumption)) ?_; refine Tq rfl Mv (Tq rfl Px (Tq rfl Px (Tq rfl Pa ?_))); clear d_hP d_h5 d_hs d_h4 qsa3; refine tw_tail rfl (C1 Pa (cT (cw_seq (cS (C1 Mv (C1 Pt (C1 Mv (lw_off rfl rfl rfl (rfl) rfl (lw_off rfl rfl rfl (rfl) rfl (lw_off rfl rfl rfl (rfl) rfl (lw_off rfl rfl rfl (rfl) rfl ?_)))))))))))
   refine C1 (pur_pick_t rfl rfl rfl) (cT (cw_cond_t rfl (cS (lw_loads_b' [_, _, _, _] tabOk rfl rfl rfl h5 rfl rfl rfl ?_)))); (refine lw_store' [_, _, _, _] [_, _, _, _] tabOk rfl rfl rfl rfl rfl rfl h4 rfl rfl ?_; intro wa9 na10); have ha13 := na10.blk; have fa11 := na10.fr; have za12 := na10.size; clear na10 h4; replace hP := hP.fr fa11 (by omega); replace h5 := h5.fr fa11 (by omega); replace hs := Nd.sits.fr hs fa11 (by omega); replace X := X.fr fa11 (by omega); clear fa11; refine cT (cw_ret (qw_then_ret (qw_block_ret (qw_then_ret (qw_block_ret (qw_retc rfl tabOk rfl rfl rfl ha13 rfl ?_)))))); rotate_left 1
  exact treeF_ret (Nd.sits.wide hs (fun b h => h.1)) (by assumption) X
 | some op =>
  rw [hb] at hg; simp only [Option.map_some] at hg; obtain ⟨hne, o1, o2, -⟩ := binOf_ne hb; obtain ⟨hin, hin2⟩ := peek_in hP.at_ (Or.inl hne); have hm := mS_next (ts := c.ts) (σ := σ') ⟨hin, hin2⟩; have hlv := level_bd o1 o2
  by_cases hl : level op < lv
  · rw [show climbF c.ts c.n (j + 1) lv x σ' = (x, σ') from by rw [climbF]; simp [hb, hl]]
    focus
     refine cw_block (cw_seq ?_); (refine cw_tdraw (fun wz => Ext w1 wz) 12 (.pure 0 (.pure 1 (.pure 2 (.pure 3 (.pure 4 (.fork 5 (.pure 6 (.pure 7 (.pure 8 (.pure 9 (.pure 10 (.pure 11 .tail)))))) .none)))))) mixed (by kernel_rfl) (panicOk_then (panicOk_block (panicOk_then (panicOk_block panicOk_body)))) ?_; intro wb1 xb2 _); have qsb3 : (fun wz => Ext w1 wz) wb1 := xb2; simp only at qsb3; have d_hP := hP; have d_h5 := h5; have d_hs := hs; have d_h4 := h4; have zb4 := xb2.size; replace hP := hP.ext xb2; replace h5 := h5.ext xb2; replace hs := Nd.sits.ext hs xb2; replace h4 := h4.ext xb2; replace X := X.ext xb2; clear xb2; refine ⟨qsb3, ?_⟩; refine Tq rfl Mv (Tq rfl Pn (Tq rfl Pf (Tq rfl (pur_load tabOk rfl rfl rfl (fun wz hz => Blk.cell (Blk.ext (PPF.blk d_hP) hz) rfl)) (Tq rfl Mv ?_)))); refine tw_does rfl (does_call (by kernel_rfl) rfl (fpeek_c _ _ _ (by assumption)) (fun _ _ h => ⟨_, h.1⟩)) rfl ?_ (fun _ h => h) tw_none; rintro _ wb7 ⟨⟨⟩, xb6⟩; have zb8 := xb6.size; replace qsb3 := qsb3.ext xb6; replace hP := hP.ext xb6; replace h5 := h5.ext xb6; replace hs := Nd.sits.ext hs xb6; replace h4 := h4.ext xb6; replace X := X.ext xb6; clear xb6; refine ⟨qsb3, ?_⟩; refine Tq rfl (pur_field tabOk rfl rfl rfl rfl rfl rfl) ?_; refine Tq rfl (pur_look_some tabOk rfl rfl rfl rfl rfl (fun wz hz => MapIs.ext (PPF.map d_hP) hz) (by assumption)) ?_; refine Tq rfl Mv (Tq rfl Px (Tq rfl Px (Tq rfl Pa ?_))); clear d_hP d_h5 d_hs d_h4 qsb3; refine tw_tail rfl (C1 Pa (cT (cw_seq (cS (C1 Mv (C1 Pt (C1 Mv (lw_on rfl rfl rfl (rfl) (C1 Mv (lw_on rfl rfl rfl (rfl) ?_))))))))))
     refine cC rfl (arith_Level_c _ _ (by omega) (by omega)) ?_; rintro _ wb9 ⟨⟨⟩, rfl⟩; refine lw_on rfl rfl rfl (rfl) (C1 Mv (lw_on rfl rfl rfl (rfl) (C1 V3 (C1 (pur_pick_f rfl rfl rfl) (cT (Wya (cS (lw_loads_b' [_, _, _, _] tabOk rfl rfl rfl h5 rfl rfl rfl ?_)))))))); (refine lw_store' [_, _, _, _] [_, _, _, _] tabOk rfl rfl rfl rfl rfl rfl h4 rfl rfl ?_; intro wb10 nb11); have hb14 := nb11.blk; have fb12 := nb11.fr; have zb13 := nb11.size; clear nb11 h4; replace hP := hP.fr fb12 (by omega); replace h5 := h5.fr fb12 (by omega); replace hs := Nd.sits.fr hs fb12 (by omega); replace X := X.fr fb12 (by omega); clear fb12; refine cT (cw_ret (qw_then_ret (qw_block_ret (qw_then_ret (qw_block_ret (qw_retc rfl tabOk rfl rfl rfl hb14 rfl ?_)))))); rotate_left 1
    exact treeF_ret (Nd.sits.wide hs (fun b h => h.1)) (by assumption) X
  · rw [show climbF c.ts c.n (j + 1) lv x σ' = climbF c.ts c.n j lv (.mk 82 op [] [x, (exprF c.ts c.n j (level op + 1) (nextP σ')).1]) (exprF c.ts c.n j (level op + 1) (nextP σ')).2 from by rw [climbF]; simp [hb, hl]]
    have hfe : 4 * mS c.ts (nextP σ') + 4 ≤ j := by omega
    have hle := exprF_le' (n := c.n) (k := j) (lv := level op + 1) (σ := nextP σ') hin2; have hml := mS_le hle
    focus
     refine cw_block (cw_seq ?_); (refine cw_tdraw (fun wz => Ext w1 wz) 12 (.pure 0 (.pure 1 (.pure 2 (.pure 3 (.pure 4 (.fork 5 (.pure 6 (.pure 7 (.pure 8 (.pure 9 (.pure 10 (.pure 11 .tail)))))) .none)))))) mixed (by kernel_rfl) (panicOk_then (panicOk_block (panicOk_then (panicOk_block panicOk_body)))) ?_; intro wc1 xc2 _); have qsc3 : (fun wz => Ext w1 wz) wc1 := xc2; simp only at qsc3; have d_hP := hP; have d_h5 := h5; have d_hs := hs; have d_h4 := h4; have zc4 := xc2.size; replace hP := hP.ext xc2; replace h5 := h5.ext xc2; replace hs := Nd.sits.ext hs xc2; replace h4 := h4.ext xc2; replace X := X.ext xc2; clear xc2; refine ⟨qsc3, ?_⟩; refine Tq rfl Mv (Tq rfl Pn (Tq rfl Pf (Tq rfl (pur_load tabOk rfl rfl rfl (fun wz hz => Blk.cell (Blk.ext (PPF.blk d_hP) hz) rfl)) (Tq rfl Mv ?_)))); refine tw_does rfl (does_call (by kernel_rfl) rfl (fpeek_c _ _ _ (by assumption)) (fun _ _ h => ⟨_, h.1⟩)) rfl ?_ (fun _ h => h) tw_none; rintro _ wc7 ⟨⟨⟩, xc6⟩; have zc8 := xc6.size; replace qsc3 := qsc3.ext xc6; replace hP := hP.ext xc6; replace h5 := h5.ext xc6; replace hs := Nd.sits.ext hs xc6; replace h4 := h4.ext xc6; replace X := X.ext xc6; clear xc6; refine ⟨qsc3, ?_⟩; refine Tq rfl (pur_field tabOk rfl rfl rfl rfl rfl rfl) ?_; refine Tq rfl (pur_look_some tabOk rfl rfl rfl rfl rfl (fun wz hz => MapIs.ext (PPF.map d_hP) hz) (by assumption)) ?_; refine Tq rfl Mv (Tq rfl Px (Tq rfl Px (Tq rfl Pa ?_))); clear d_hP d_h5 d_hs d_h4 qsc3; refine tw_tail rfl (C1 Pa (cT (cw_seq (cS (C1 Mv (C1 Pt (C1 Mv (lw_on rfl rfl rfl (rfl) (C1 Mv (lw_on rfl rfl rfl (rfl) ?_))))))))))
     refine cC rfl (arith_Level_c _ _ (by omega) (by omega)) ?_; rintro _ wc9 ⟨⟨⟩, rfl⟩; refine lw_on rfl rfl rfl (rfl) (C1 Mv (lw_on rfl rfl rfl (rfl) (C1 V3 (C1 (pur_pick_f rfl rfl rfl) (cT (Wna (cw_skip (qw_then (cS (C1 Mv (C1 Pn ?_))))))))))); refine C1 Pf (lw_load_b tabOk rfl rfl rfl (PPF.blk hP) rfl rfl (C1 V7 (C1 Pn (C1 Pf ?_)))); refine lw_ppf_at tabOk rfl rfl rfl rfl (by assumption) hin2 ?_; rintro wc10 hc11 fc12; have zc13 := fc12.size; clear hP; replace h5 := h5.fr fc12 (by omega); replace hs := Nd.sits.fr hs fc12 (by omega); replace h4 := h4.fr fc12 (by omega); replace X := X.fr fc12 (by omega); clear fc12; refine cN (C1 Mv (C1 Mv ?_)); refine cC rfl (arith_Level_c _ _ (by omega) (by omega)) ?_; rintro _ wc14 ⟨⟨⟩, rfl⟩; refine C1 V7 ?_; refine cR (by kernel_rfl) rfl ((IH j (by omega)).e _ _ _ (by assumption) hfe (by omega) (by omega)) (fun _ _ h => h.ret) rfl ?_; rintro _ wc20 ⟨ac15, ⟨kc16, ⟨⟨⟩, ⟨hc17, ⟨hc18, fc19⟩⟩⟩⟩⟩; have zc21 := fc19.size; clear hc11; replace h5 := h5.fr fc19 (by omega); replace hs := Nd.sits.fr hs fc19 (by omega); replace h4 := h4.fr fc19 (by omega); replace X := X.fr fc19 (by omega); clear fc19; (refine lw_alloc' [_, _, _, _] zOk rfl rfl ?_; intro bc22 wc23 nc24); (refine lw_init' [_, _, _, _] tabOk rfl rfl rfl rfl rfl rfl nc24 rfl ?_; clear nc24; clear wc23; intro wc25 nc24); have hc26 := nc24.blk; have xc27 := nc24.ext; have pc28 := nc24.pos; have zc29 := nc24.size; clear nc24; replace hc17 := Nd.sits.ext hc17 xc27; replace hc18 := hc18.ext xc27
     replace h5 := h5.ext xc27; replace hs := Nd.sits.ext hs xc27; replace h4 := h4.ext xc27; replace X := X.ext xc27; clear xc27; refine cT (cw_region (C1 Mv ?_)); refine C1 (pur_conv tabOk rfl rfl rfl (IntWalk.i64_in _ (by omega))) ?_; refine lw_loads_b' [_, _, _, _] tabOk rfl rfl rfl h5 rfl rfl rfl (lw_loads_b' [_, _, _, _] tabOk rfl rfl rfl hc26 rfl rfl rfl ?_); (refine lw_does (does_slice' [_, _, _, _, _, _, _, _] tabOk zOk rfl rfl rfl rfl rfl rfl rfl rfl rfl) rfl ?_ (fun _ h => h); rintro _ wc31 ⟨bc30, rfl, nc32, tc33⟩); clear tc33; have hc34 := nc32.blk; have xc35 := nc32.ext; have pc36 := nc32.pos; have zc37 := nc32.size; clear nc32; replace hc26 := hc26.ext xc35; replace hc17 := Nd.sits.ext hc17 xc35; replace hc18 := hc18.ext xc35; replace h5 := h5.ext xc35; replace hs := Nd.sits.ext hs xc35; replace h4 := h4.ext xc35; replace X := X.ext xc35; clear xc35; refine C1 (pur_build' [_, _, _, _] tabOk zOk rfl rfl rfl rfl) ?_; (refine lw_store' [_, _, _, _] [_, _, _, _] tabOk rfl rfl rfl rfl rfl rfl h5 rfl rfl ?_; intro wc38 nc39); have hc42 := nc39.blk; have fc40 := nc39.fr; have zc41 := nc39.size; clear nc39 h5; replace hc34 := hc34.fr fc40 (by omega); replace hc26 := hc26.fr fc40 (by omega); replace hc17 := Nd.sits.fr hc17 fc40 (by omega); replace hc18 := hc18.fr fc40 (by omega); replace hs := Nd.sits.fr hs fc40 (by omega); replace h4 := h4.fr fc40 (by omega); replace X := X.fr fc40 (by omega); clear fc40; refine lw_nil (qw_block_norm ?_); rotate_left 1
    refine qw_round (j, .mk 82 op [] [x, (exprF c.ts c.n j (level op + 1) (nextP σ')).1], some ⟨_, 0, none⟩, 2, (exprF c.ts c.n j (level op + 1) (nextP σ')).2) (by (refine sub_cons rfl ?_; refine sub_cons rfl ?_; refine sub_cons rfl ?_; refine sub_cons rfl ?_; exact sub_nil)) ⟨by assumption, by assumption, sits_2 (by assumption) ⟨by omega, by omega, by omega⟩ hs (fun b h => h) (by assumption) (fun b h => ⟨by omega, by omega, by omega⟩), by assumption, X, by omega, rfl, by simp only; omega, by simp only; omega⟩ (by simp)
theorem exprs_fc (c : PCF) (k : Nat) : ExprsFC c k := by
 induction k using Nat.strongRecOn with
 | _ k ih =>
  cases k with
  | zero => exact ⟨fun _ _ _ _ h => by omega, fun _ _ _ h => by omega, fun _ _ _ h h2 => by omega, fun _ _ _ h h2 => by omega, fun _ _ _ h => by omega, fun _ _ _ h => by omega, fun _ _ _ h => by omega, fun _ _ _ h => by omega⟩
  | succ k =>
   have IH : ∀ j, j ≤ k → ExprsFC c j := fun j hj => ih j (by omega)
   exact ⟨expr_fw c k IH, primary_fw c k IH, choice_fw c k IH, binding_fw c k IH, named_fw c k IH, args1_fw c k IH, args2_fw c k IH, block_fw c k IH⟩
end Bk
namespace Bk
open Go
def fnumSZ (z : Pr Nd) : Pr Nd := fun ts n σ => if startsDigit (peekP ts σ).text then fnumS ts σ else z ts n σ
theorem good_fnumSZ {z : Pr Nd} (hz : Good z) : Good (fnumSZ z) := by
 have gl : ∀ (ts : List Tok) (n : Int) (σ : PS), σ.at_ ≤ ts.length → Le ts σ (fnumSZ z ts n σ).2 := fun ts n σ h => by
  unfold fnumSZ
  split
  · rename_i hh
    have hn := peek_in h (Or.inl (startsDigit_ne hh))
    unfold fnumS
    split
    · exact next_le hn
    · exact fail_le h _ _
  · exact hz.le ts n σ h
 have gf : ∀ (ts : List Tok) (n : Int) (σ : PS), σ.at_ = ts.length → (fnumSZ z ts n σ).2 = σ ∨ (fnumSZ z ts n σ).2 = unexpP ts n σ := fun ts n σ h => by
  unfold fnumSZ
  rw [peek_end h, if_neg (by decide)]
  exact hz.fin ts n σ h
 refine ⟨gl, gf, fun ts us n m c Q S σ τ q => ?_⟩
 rcases S.syn σ τ q with d | s
 · exact Or.inr (d.of (gl _ _ _ d.w) (gl _ _ _ d.v) (gf us m τ))
 · obtain ⟨w1, w2⟩ := S.wf σ τ q
   unfold fnumSZ
   rw [← s.text]
   by_cases hk : startsDigit (peekP ts σ).text = true
   · have i1 := peek_in w1 (Or.inl (startsDigit_ne hk))
     have i2 := peek_in w2 (Or.inl (by rw [← s.text]; exact startsDigit_ne hk)); rw [if_pos hk, if_pos hk]
     unfold fnumS
     rw [← s.text]
     split
     · exact Or.inl ⟨rfl, s.next i1 i2⟩
     · exact Or.inl ⟨rfl, s.full 2 i1 i2⟩
   · rw [if_neg hk, if_neg hk]
     exact hz.sim ts us n m c Q S _ _ q
def ifT (e b : Pr Nd) : Pr Nd := bindP e (fun c => bindP b (fun x => bindP (expP [101, 108, 115, 101]) (fun _ => bindP b (fun y => retP (Nd.mk 83 0 [] [c, x, y])))))
def letT (e b : Pr Nd) : Pr Nd := bindP (fun ts n σ => nameP ts n σ) (fun m => bindP (expP [61]) (fun _ => bindP e (fun v => bindP b (fun y => retP (Nd.mk 84 0 m [v, y])))))
def argsT (r : Pr (List Nd)) (least : Nat) : Pr (List Nd) := rdP (fun _ t => decide (least = 0) && decide (t = [41])) (fun _ _ => retP []) (fun _ _ => bindP r (fun l => bindP (if l.length < least then unP () else retP ()) (fun _ => bindP (expP [41]) (fun _ => retP l))))
def listC (e : Pr Nd) (r : List Nd → Pr (List Nd)) (least : Nat) (acc : List Nd) : Pr (List Nd) := erP (retP acc) (bindP e (fun a => if 0 < least ∧ acc.length + 1 = least then retP (acc ++ [a]) else rdP (eqF [44]) (fun _ _ => r (acc ++ [a])) (fun _ _ => retP (acc ++ [a]))))
def namedT (a0 : Pr (List Nd)) : Pr Nd := bindP (fun ts n σ => nameP ts n σ) (fun m => rdP (eqF [40]) (fun _ _ => bindP a0 (fun l => retP (Nd.mk 85 0 m l))) (fun _ _ => retP (Nd.mk 81 0 m [])))
def primT (e p i l d : Pr Nd) (a1 a2 : Pr (List Nd)) (num : Pr Nd → Pr Nd) : Pr Nd :=
 rdP (eqF [91]) (fun _ _ => bindP (expP [93]) (fun _ => retP (Nd.mk 86 0 [] []))) (fun _ _ =>
 rdP (eqF [112, 117, 115, 104]) (fun _ _ => bindP a2 (fun x => retP (Nd.mk 87 0 [] x))) (fun _ _ =>
 rdP (eqF [112, 111, 112]) (fun _ _ => bindP a1 (fun x => retP (Nd.mk 89 0 [] x))) (fun _ _ =>
 rdP (eqF [116, 111, 112]) (fun _ _ => bindP a1 (fun x => retP (Nd.mk 88 0 [] x))) (fun _ _ =>
 rdP (eqF [33]) (fun _ _ => bindP p (fun x => retP (Nd.mk 90 0 [] [x]))) (fun _ _ =>
 rdP (eqF [105, 102]) (fun _ _ => i) (fun _ _ => rdP (eqF [108, 111, 99, 97, 108]) (fun _ _ => l) (fun _ _ =>
  rdP (eqF [40]) (fun _ _ => bindP e (fun x => bindP (expP [41]) (fun _ => retP x))) (fun _ _ => num d))))))))
theorem te_exp {α : Type} (t : List UInt8) (f : Unit → Pr α) (z : Pr α) (ts : List Tok) (n : Int) (σ : PS) : teP (eqF t) (bindP (expP t) f) z ts n σ = rdP (eqF t) (fun _ _ => f ()) (fun _ _ => z) ts n σ := by
 unfold teP rdP bindP
 by_cases h : decide ((peekP ts σ).text = t) = true
 · rw [if_pos h, if_pos h, ← exp_at]
   have e : expectP ts n σ t = nextP σ := by unfold expectP; rw [if_pos (show hasP ts σ t = true from h)]
   rw [e]
 · rw [if_neg h, if_neg h]
theorem rd_rd {α : Type} {c : Int → List UInt8 → Bool} {y z y' z' : Int → List UInt8 → Pr α} (hy : ∀ k t ts n σ, y k t ts n σ = y' k t ts n σ) (hz : ∀ k t ts n σ, z k t ts n σ = z' k t ts n σ) (ts : List Tok) (n : Int) (σ : PS) : rdP c y z ts n σ = rdP c y' z' ts n σ := by
 unfold rdP
 split
 · exact hy _ _ _ _ _
 · exact hz _ _ _ _ _
theorem primF_at' (k : Nat) (ts : List Tok) (n : Int) (σ : PS) : primF ts n (k + 2) σ = primT (fun ts n σ => exprF ts n (k + 1) 1 σ) (fun ts n σ => primF ts n (k + 1) σ) (ifT (fun ts n σ => exprF ts n k 1 σ) (fun ts n σ => braceF ts n k σ)) (letT (fun ts n σ => exprF ts n k 1 σ) (fun ts n σ => braceF ts n k σ)) (fun ts n σ => namedF ts n (k + 1) σ) (fun ts n σ => args1F ts n (k + 1) σ) (fun ts n σ => args2F ts n (k + 1) σ) fnumZ ts n σ := by
 rw [primF_at]
 unfold primC primT
 refine rd_rd (fun _ _ _ _ _ => rfl) (fun _ _ ts n σ => rd_rd (fun _ _ _ _ _ => rfl) (fun _ _ ts n σ => rd_rd (fun _ _ _ _ _ => rfl) (fun _ _ ts n σ => rd_rd (fun _ _ _ _ _ => rfl) (fun _ _ ts n σ => rd_rd (fun _ _ _ _ _ => rfl) (fun _ _ ts n σ => ?_) ts n σ) ts n σ) ts n σ) ts n σ) ts n σ
 have e1 : ∀ (z : Pr Nd), teP (eqF [105, 102]) (fun ts n σ => ifF ts n (k + 1) σ) z ts n σ = teP (eqF [105, 102]) (bindP (expP [105, 102]) (fun _ => ifT (fun ts n σ => exprF ts n k 1 σ) (fun ts n σ => braceF ts n k σ))) z ts n σ := fun z => by
  unfold teP
  split
  · exact ifF_at k ts n σ
  · rfl
 rw [e1, te_exp]; refine rd_rd (fun _ _ _ _ _ => rfl) (fun _ _ ts n σ => ?_) ts n σ
 have e2 : ∀ (z : Pr Nd), teP (eqF [108, 111, 99, 97, 108]) (fun ts n σ => letF ts n (k + 1) σ) z ts n σ = teP (eqF [108, 111, 99, 97, 108]) (bindP (expP [108, 111, 99, 97, 108]) (fun _ => letT (fun ts n σ => exprF ts n k 1 σ) (fun ts n σ => braceF ts n k σ))) z ts n σ := fun z => by
  unfold teP
  split
  · exact letF_at k ts n σ
  · rfl
 rw [e2, te_exp]
theorem exprS_at (k : Nat) (lv : Int) (ts : List Tok) (n : Int) (σ : PS) : exprS ts n (k + 1) lv σ = (if 8 < lv then fun ts n σ => primS ts n k σ else bindP (fun ts n σ => exprS ts n k (lv + 1) σ) (fun x ts n σ => loopS ts n k lv x σ)) ts n σ := by
 rw [exprS]
 split <;> rfl
theorem loopS_at (k : Nat) (lv : Int) (x : Nd) (ts : List Tok) (n : Int) (σ : PS) : loopS ts n (k + 1) lv x σ = erP (retP x) (rdP (fun _ t => match binOf t with | none => false | some op => decide (level op = lv)) (fun _ t => match binOf t with | none => retP x | some op => bindP (fun ts n σ => exprS ts n k (lv + 1) σ) (fun y ts n σ => loopS ts n k lv (.mk 82 op [] [x, y]) σ)) (fun _ _ => retP x)) ts n σ := by
 rw [loopS]
 unfold erP
 split
 · rfl
 · unfold rdP
   cases ho : binOf (peekP ts σ).text with
   | none => simp only [ho]; rfl
   | some op =>
    by_cases hl : level op = lv
    · simp only [ho, hl, decide_true, if_true, ne_eq, not_true, if_false]; rfl
    · simp only [ho, hl, decide_false, Bool.false_eq_true, if_false, ne_eq, not_false_iff, if_true]; rfl
theorem argsS_at (k least : Nat) (ts : List Tok) (n : Int) (σ : PS) : argsS ts n (k + 1) least σ = bindP (expP [40]) (fun _ => argsT (fun ts n σ => listS ts n k least [] σ) least) ts n σ := by
 rw [argsS]; simp only [exp_at]
 unfold argsT bindP rdP
 dsimp only
 by_cases h : least = 0 ∧ hasP ts (expP [40] ts n σ).2 [41] = true
 · have h' : (decide (least = 0) && decide ((peekP ts (expP [40] ts n σ).2).text = [41])) = true := by
    rw [Bool.and_eq_true]; exact ⟨decide_eq_true h.1, h.2⟩
   rw [if_pos h, if_pos h']; rfl
 · have h' : ¬ (decide (least = 0) && decide ((peekP ts (expP [40] ts n σ).2).text = [41])) = true := by
    rw [Bool.and_eq_true]; exact fun e => h ⟨of_decide_eq_true e.1, e.2⟩
   rw [if_neg h, if_neg h']
   by_cases hl : (listS ts n k least [] (expP [40] ts n σ).2).1.length < least
   · rw [if_pos hl, if_pos hl]; rfl
   · rw [if_neg hl, if_neg hl]; rfl
theorem listS_at (k least : Nat) (acc : List Nd) (ts : List Tok) (n : Int) (σ : PS) : listS ts n (k + 1) least acc σ = listC (fun ts n σ => exprS ts n k 1 σ) (fun a ts n σ => listS ts n k least a σ) least acc ts n σ := by
 rw [listS]
 unfold listC erP
 split
 · rfl
 · unfold bindP
   dsimp only
   by_cases h : 0 < least ∧ acc.length + 1 = least
   · rw [if_pos h, if_pos h]; rfl
   · rw [if_neg h, if_neg h]; rfl
theorem braceS_at (k : Nat) (ts : List Tok) (n : Int) (σ : PS) : braceS ts n (k + 1) σ = braceC (fun ts n σ => exprS ts n k 1 σ) ts n σ := by rw [braceS]; simp only [exp_at]; rfl
def namedQ (a0 : Pr (List Nd)) : Pr Nd := bindP (fun ts n σ => nameP ts n σ) (fun m => teP (eqF [40]) (bindP a0 (fun l => retP (Nd.mk 85 0 m l))) (retP (Nd.mk 81 0 m [])))
theorem bind_congr {α β : Type} {p : Pr α} {f g : α → Pr β} (h : ∀ x ts n σ, f x ts n σ = g x ts n σ) (ts : List Tok) (n : Int) (σ : PS) : bindP p f ts n σ = bindP p g ts n σ := h _ _ _ _
theorem namedQ_at (k : Nat) (ts : List Tok) (n : Int) (σ : PS) : namedQ (fun ts n σ => argsS ts n (k + 1) 0 σ) ts n σ = namedT (argsT (fun ts n σ => listS ts n k 0 [] σ) 0) ts n σ := by
 unfold namedQ namedT
 refine bind_congr (fun m ts n σ => ?_) ts n σ; refine Eq.trans ?_ (te_exp [40] (fun _ => bindP (argsT (fun ts n σ => listS ts n k 0 [] σ) 0) (fun l => retP (Nd.mk 85 0 m l))) (retP (Nd.mk 81 0 m [])) ts n σ)
 unfold teP
 split
 · unfold bindP; dsimp only; rw [argsS_at]; rfl
 · rfl
theorem primS_at (k : Nat) (ts : List Tok) (n : Int) (σ : PS) : primS ts n (k + 1) σ = primT (fun ts n σ => exprS ts n k 1 σ) (fun ts n σ => primS ts n k σ) (ifT (fun ts n σ => exprS ts n k 1 σ) (fun ts n σ => braceS ts n k σ)) (letT (fun ts n σ => exprS ts n k 1 σ) (fun ts n σ => braceS ts n k σ)) (namedQ (fun ts n σ => argsS ts n k 0 σ)) (fun ts n σ => argsS ts n k 1 σ) (fun ts n σ => argsS ts n k 2 σ) fnumSZ ts n σ := by
 rw [primS]; simp only [exp_at]
 unfold primT
 by_cases hs : startsDigit (peekP ts σ).text = true
 · have hne : ∀ t, startsDigit t = false → ¬ decide ((peekP ts σ).text = t) = true := fun t ht e => by rw [of_decide_eq_true e, ht] at hs; cases hs
   rw [if_pos hs]
   unfold rdP
   dsimp only; rw [if_neg (hne [91] (by decide)), if_neg (hne [112, 117, 115, 104] (by decide)), if_neg (hne [112, 111, 112] (by decide)), if_neg (hne [116, 111, 112] (by decide)), if_neg (hne [33] (by decide)), if_neg (hne [105, 102] (by decide)), if_neg (hne [108, 111, 99, 97, 108] (by decide)), if_neg (hne [40] (by decide))]
   unfold fnumSZ
   rw [if_pos hs]
 · rw [if_neg hs]
   have hlast : (if (peekP ts (nameP ts n σ).2).text = [40] then ((.mk 85 0 (nameP ts n σ).1 (argsS ts n k 0 (nameP ts n σ).2).1, (argsS ts n k 0 (nameP ts n σ).2).2) : Nd × PS) else (.mk 81 0 (nameP ts n σ).1 [], (nameP ts n σ).2)) = fnumSZ (namedQ (fun ts n σ => argsS ts n k 0 σ)) ts n σ := by
    unfold fnumSZ
    rw [if_neg hs]
    unfold namedQ bindP teP
    dsimp only
    by_cases h : (peekP ts (nameP ts n σ).2).text = [40]
    · rw [if_pos h, if_pos (decide_eq_true h)]; rfl
    · rw [if_neg h, if_neg (by simpa using h)]; rfl
   rw [hlast]
   rfl
structure GoodS (k : Nat) : Prop where
 e : ∀ lv, Good (fun ts n σ => exprS ts n k lv σ)
 c : ∀ lv x, Good (fun ts n σ => loopS ts n k lv x σ)
 p : Good (fun ts n σ => primS ts n k σ)
 a : ∀ least, Good (fun ts n σ => argsS ts n k least σ)
 b : Good (fun ts n σ => braceS ts n k σ)
 m : ∀ least acc, Good (fun ts n σ => listS ts n k least acc σ)
section
variable {e p i l d b : Pr Nd} {a1 a2 r0 : Pr (List Nd)} {r : List Nd → Pr (List Nd)} {num : Pr Nd → Pr Nd}
theorem good_ifT (he : Good e) (hb : Good b) : Good (ifT e b) := Good.bind he (fun _ => Good.bind hb (fun _ => Good.bind (good_exp (by decide)) (fun _ => Good.bind hb (fun _ => Good.ret _))))
theorem good_letT (he : Good e) (hb : Good b) : Good (letT e b) := Good.bind good_name (fun _ => Good.bind (good_exp (by decide)) (fun _ => Good.bind he (fun _ => Good.bind hb (fun _ => Good.ret _))))
theorem good_argsT (hr : Good r0) (least : Nat) : Good (argsT r0 least) := Good.rd (by simp) (fun _ _ => Good.ret _) (fun _ _ => Good.bind hr (fun l => by
 refine Good.bind ?_ (fun _ => Good.bind (good_exp (by decide)) (fun _ => Good.ret _))
 split
 · exact Good.un _
 · exact Good.ret _))
theorem good_listC (he : Good e) (hr : ∀ a, Good (r a)) (least : Nat) (acc : List Nd) : Good (listC e r least acc) := Good.er (Good.ret _) (Good.bind he (fun a => by
 split
 · exact Good.ret _
 · exact Good.rd (eqF_nil (by decide)) (fun _ _ => hr _) (fun _ _ => Good.ret _)))
theorem good_primT (he : Good e) (hp : Good p) (hi : Good i) (hl : Good l) (hd : Good (num d)) (h1 : Good a1) (h2 : Good a2) : Good (primT e p i l d a1 a2 num) :=
 Good.rd (eqF_nil (by decide)) (fun _ _ => Good.bind (good_exp (by decide)) (fun _ => Good.ret _)) (fun _ _ =>
 Good.rd (eqF_nil (by decide)) (fun _ _ => Good.bind h2 (fun _ => Good.ret _)) (fun _ _ =>
 Good.rd (eqF_nil (by decide)) (fun _ _ => Good.bind h1 (fun _ => Good.ret _)) (fun _ _ =>
 Good.rd (eqF_nil (by decide)) (fun _ _ => Good.bind h1 (fun _ => Good.ret _)) (fun _ _ =>
 Good.rd (eqF_nil (by decide)) (fun _ _ => Good.bind hp (fun _ => Good.ret _)) (fun _ _ =>
 Good.rd (eqF_nil (by decide)) (fun _ _ => hi) (fun _ _ => Good.rd (eqF_nil (by decide)) (fun _ _ => hl) (fun _ _ => Good.rd (eqF_nil (by decide)) (fun _ _ => Good.bind he (fun _ => Good.bind (good_exp (by decide)) (fun _ => Good.ret _))) (fun _ _ => hd))))))))
end
theorem good_namedQ {r0 : Pr (List Nd)} (h : Good r0) : Good (namedQ r0) := Good.bind good_name (fun _ => Good.te (Good.bind h (fun _ => Good.ret _)) (Good.ret _))
theorem good_S (k : Nat) : GoodS k := by
 induction k with
 | zero =>
  exact ⟨fun lv => Good.congr (fun ts n σ => by rw [exprS]; rfl) (Good.ret (Nd.mk 0 0 [] [])), fun lv x => Good.congr (fun ts n σ => by rw [loopS]; rfl) (Good.ret x), Good.congr (fun ts n σ => by rw [primS]; rfl) (Good.ret (Nd.mk 0 0 [] [])),
   fun least => Good.congr (fun ts n σ => by rw [argsS]; rfl) (Good.ret []), Good.congr (fun ts n σ => by rw [braceS]; rfl) (Good.ret (Nd.mk 0 0 [] [])), fun least acc => Good.congr (fun ts n σ => by rw [listS]; rfl) (Good.ret acc)⟩
 | succ k ih =>
  refine ⟨fun lv => Good.congr (exprS_at k lv) ?_, fun lv x => Good.congr (loopS_at k lv x) (Good.er (Good.ret _) (Good.rd (by rw [bin_nil0]) (fun _ t => ?_) (fun _ _ => Good.ret _))), Good.congr (primS_at k) (good_primT (ih.e 1) ih.p (good_ifT (ih.e 1) ih.b) (good_letT (ih.e 1) ih.b) (good_fnumSZ (good_namedQ (ih.a 0))) (ih.a 1) (ih.a 2)),
   fun least => Good.congr (argsS_at k least) (Good.bind (good_exp (by decide)) (fun _ => good_argsT (ih.m _ _) least)), Good.congr (braceS_at k) (good_braceC (ih.e 1)), fun least acc => Good.congr (listS_at k least acc) (good_listC (ih.e 1) (fun a => ih.m least a) least acc)⟩
  · split
    · exact ih.p
    · exact Good.bind (ih.e _) (fun x => ih.c lv x)
  · cases binOf t with
    | none => exact Good.ret _
    | some op => exact Good.bind (ih.e _) (fun y => ih.c lv _)
section
variable {ts : List Tok} {n : Int} {m : Nat}
theorem RQ.refl {α : Type} (p : Pr α) : RQ ts n m p p := fun _ _ _ => REq.refl _
theorem RQ.mono {α : Type} {p q : Pr α} {m' : Nat} (h : RQ ts n m p q) (hm : m' ≤ m) : RQ ts n m' p q := fun σ hw h' => h σ hw (Nat.le_trans h' hm)
theorem RQ.congr {α : Type} {p p' q q' : Pr α} (hp : ∀ ts n σ, p ts n σ = p' ts n σ) (hq : ∀ ts n σ, q ts n σ = q' ts n σ) (h : RQ ts n m p' q') : RQ ts n m p q := fun σ hw hm => by rw [hp, hq]; exact h σ hw hm
theorem RQ.bind {α β : Type} {p q : Pr α} {f g : α → Pr β} (hp : RQ ts n m p q) (gp : Good p) (gq : Good q) (gf : ∀ x, Good (f x)) (gg : ∀ x, Good (g x)) (hf : ∀ x, RQ ts n m (f x) (g x)) : RQ ts n m (bindP p f) (bindP q g) := fun σ hw hm => by
 have l := gp.le ts n σ hw; have l' := gq.le ts n σ hw; refine REq.bind (hp σ hw hm) (f := fun a => f a.1 ts n a.2) (g := fun b => g b.1 ts n b.2) (fun e => ((gf _).le ts n _ l.wf).err e) (fun e => ((gg _).le ts n _ l'.wf).err e) (fun e hab => ?_); rw [← hab]
 exact hf _ _ l.wf (Nat.le_trans (mS_le l) hm)
theorem RQ.bindL {α β : Type} {p q : Pr α} {f g : α → Pr β} (hp : RQ ts n m p q) (gp : Good p) (gq : Good q) (lp : LtP p) (gf : ∀ x, Good (f x)) (gg : ∀ x, Good (g x)) (hf : ∀ x, RQ ts n (m - 1) (f x) (g x)) : RQ ts n m (bindP p f) (bindP q g) := fun σ hw hm => by
 have l := gp.le ts n σ hw; have l' := gq.le ts n σ hw; refine REq.bind (hp σ hw hm) (f := fun a => f a.1 ts n a.2) (g := fun b => g b.1 ts n b.2) (fun e => ((gf _).le ts n _ l.wf).err e) (fun e => ((gg _).le ts n _ l'.wf).err e) (fun e hab => ?_); rw [← hab]; have := mS_lt l (lp ts n σ hw)
 exact hf _ _ l.wf (by omega)
theorem RQ.rd {α : Type} {c : Int → List UInt8 → Bool} {y z y' z' : Int → List UInt8 → Pr α} (hc : c 0 [] = false) (hy : 1 ≤ m → ∀ k t, RQ ts n (m - 1) (y k t) (y' k t)) (hz : ∀ k t, RQ ts n m (z k t) (z' k t)) : RQ ts n m (rdP c y z) (rdP c y' z') := fun σ hw hm => by
 unfold rdP
 split
 · rename_i hh
   have i := rd_in hc hw hh; have := mS_next i
   exact hy (by omega) _ _ _ (next_le i).wf (by omega)
 · exact hz _ _ σ hw hm
theorem REq.bad {α : Type} {p q : Pr α} (gp : Good p) (gq : Good q) {σ : PS} (hw : σ.at_ ≤ ts.length) (e : σ.err ≠ 0) : REq (p ts n σ) (q ts n σ) := by
 have h1 := (gp.le ts n σ hw).err e; have h2 := (gq.le ts n σ hw).err e
 exact ⟨by rw [h1, h2], by rw [h1, h2], fun z => absurd (by rw [h1] at z; exact z) e⟩
theorem RQ.good {α : Type} {p q : Pr α} (gp : Good p) (gq : Good q) (h : ∀ σ, σ.at_ ≤ ts.length → mS ts σ ≤ m → σ.err = 0 → REq (p ts n σ) (q ts n σ)) : RQ ts n m p q := fun σ hw hm => by
 by_cases e : σ.err = 0
 · exact h σ hw hm e
 · exact REq.bad gp gq hw e
theorem RQ.un {α β γ : Type} {f : α → Pr γ} {g : β → Pr γ} (x : α) (y : β) (gf : ∀ x, Good (f x)) (gg : ∀ x, Good (g x)) : RQ ts n m (bindP (unP x) f) (bindP (unP y) g) := fun σ hw hm => by
 have l := unexp_le (n := n) hw
 exact REq.bad (gf x) (gg y) l.wf unexp_err
theorem RQ.fnum (hd : DigitKinds ts) {z z' : Pr Nd} (hz : RQ ts n m z z') : RQ ts n m (fnumZ z) (fnumSZ z') := fun σ hw hm => by
 unfold fnumZ fnumSZ
 by_cases hk : (peekP ts σ).kind = 2
 · rw [if_pos hk, if_pos ((peek_digit hd hw).1 hk)]
   unfold fnumP fnumS
   have hn := peek_in hw (Or.inr (by rw [hk]; decide))
   split
   · exact REq.refl _
   · exact ⟨rfl, rfl, fun e => absurd e (fail_err (by decide))⟩
 · rw [if_neg hk, if_neg (fun e => hk ((peek_digit hd hw).2 e))]
   exact hz σ hw hm
end
end Bk
namespace Bk
open Go
section
variable {ts : List Tok} {n : Int}
theorem exprF_le {k : Nat} {lv : Int} {σ : PS} (h : σ.at_ ≤ ts.length) : Le ts σ (exprF ts n k lv σ).2 := ((good_F k).e lv).le ts n σ h
theorem climbF_stop (k : Nat) : ∀ lv x σ, σ.at_ ≤ ts.length → 4 * mS ts σ + 1 ≤ k → ∀ op, binOf (peekP ts (climbF ts n k lv x σ).2).text = some op → level op < lv := by
 induction k with
 | zero => intro lv x σ _ h; omega
 | succ k ih =>
  intro lv x σ h hk op; rw [climbF]
  split
  · rename_i hnone; intro he; rw [hnone] at he; cases he
  · rename_i op' hop
    obtain ⟨hne, -⟩ := binOf_ne hop; have hn := peek_in h (Or.inl hne)
    split
    · rename_i hlt; intro he; rw [hop] at he; obtain rfl := Option.some.inj he; exact hlt
    · have h1 := next_le hn
      have h2 := exprF_le (n := n) (k := k) (lv := level op' + 1) h1.wf; have hm := mS_next hn; have h3 := mS_le h2
      exact ih lv _ _ h2.wf (by omega) op
theorem exprF_stop {k : Nat} {lv : Int} {σ : PS} (h : σ.at_ ≤ ts.length) (hk : 4 * mS ts σ + 4 ≤ k) : ∀ op, binOf (peekP ts (exprF ts n k lv σ).2).text = some op → level op < lv := by
 obtain ⟨k, rfl⟩ : ∃ j, k = j + 3 := ⟨k - 3, by omega⟩; rw [exprF]; have hu := (good_F (k + 2)).p.le ts n σ h; have := mS_lt hu (lt_prim k ts n σ h)
 exact climbF_stop (k + 2) lv _ _ hu.wf (by omega)
theorem climbF_none {k : Nat} {lv : Int} {x : Nd} {σ : PS} (hk : 1 ≤ k) (hs : ∀ op, binOf (peekP ts σ).text = some op → level op < lv) : climbF ts n k lv x σ = (x, σ) := by
 cases k with
 | zero => omega
 | succ k =>
  rw [climbF]
  split
  · rfl
  · rename_i op hop
    rw [if_pos (hs op hop)]
theorem climbF_eq (m : Nat) (IH : ∀ σ, σ.at_ ≤ ts.length → mS ts σ < m → ∀ (lv : Int) (k k' : Nat), 1 ≤ lv → lv ≤ 9 → 4 * mS ts σ + 4 ≤ k → 12 * (mS ts σ : Int) + 12 - lv ≤ (k' : Int) → REq (exprF ts n k lv σ) (exprS ts n k' lv σ)) :
 ∀ j, j ≤ m → ∀ x σ, σ.at_ ≤ ts.length → mS ts σ ≤ j → ∀ lv k k1 k', 1 ≤ lv → lv ≤ 8 → 4 * j + 1 ≤ k → 4 * j + 1 ≤ k1 → 12 * j + 1 ≤ k' →
  REq (climbF ts n k lv x σ) (loopS ts n k' lv (climbF ts n k1 (lv + 1) x σ).1 (climbF ts n k1 (lv + 1) x σ).2) := by
 intro j
 induction j with
 | zero =>
  intro _ x σ h hm lv k k1 k' h1 h8 hk hk1 hk'
  have hno : ∀ op, binOf (peekP ts σ).text = some op → False := fun op hop => by
   have := mS_pos (peek_in h (Or.inl (binOf_ne hop).1))
   omega
  rw [climbF_none (by omega) (fun op hop => (hno op hop).elim), climbF_none (by omega) (fun op hop => (hno op hop).elim)]
  cases k' with
  | zero => omega
  | succ k' =>
   rw [loopS]
   split
   · exact REq.refl _
   · split
     · exact REq.refl _
     · rename_i op hop; exact (hno op hop).elim
 | succ j ih =>
  intro hjm x σ h hm lv k k1 k' h1 h8 hk hk1 hk'
  cases hb : binOf (peekP ts σ).text with
  | none =>
   rw [climbF_none (by omega) (fun op hop => by rw [hb] at hop; cases hop), climbF_none (by omega) (fun op hop => by rw [hb] at hop; cases hop)]
   cases k' with
   | zero => omega
   | succ k' =>
    rw [loopS]
    split
    · exact REq.refl _
    · rw [hb]; exact REq.refl _
  | some op =>
   obtain ⟨hne, ho8, ho23, -⟩ := binOf_ne hb; have hn := peek_in h (Or.inl hne); have hmn := mS_next hn; have hlb := level_bd ho8 ho23; have hnl := next_le hn
   by_cases c1 : level op < lv
   · rw [climbF_none (by omega) (fun op' hop => by rw [hb] at hop; obtain rfl := Option.some.inj hop; exact c1), climbF_none (by omega) (fun op' hop => by rw [hb] at hop; obtain rfl := Option.some.inj hop; omega)]
     cases k' with
     | zero => omega
     | succ k' =>
      rw [loopS, if_neg (by simp [hn.1]), hb]; simp only; rw [if_pos (by omega)]
      exact REq.refl _
   · by_cases c2 : level op = lv
     · rw [climbF_none (x := x) (lv := lv + 1) (by omega) (fun op' hop => by rw [hb] at hop; obtain rfl := Option.some.inj hop; omega)]
       cases k with
       | zero => omega
       | succ k =>
        cases k' with
        | zero => omega
        | succ k' =>
         rw [climbF, hb]; simp only; rw [if_neg c1, loopS, if_neg (by simp [hn.1]), hb]; simp only; rw [if_neg (by simp [c2]), c2]; have hE := IH (nextP σ) hnl.wf (by omega) (lv + 1) k k' (by omega) (by omega) (by omega) (by omega); have hl := exprF_le (n := n) (k := k) (lv := lv + 1) hnl.wf; have hlR := ((good_S k').e (lv + 1)).le ts n (nextP σ) hnl.wf; have hst := exprF_stop (n := n) (k := k) (lv := lv + 1) hnl.wf (by omega); refine REq.bind hE (f := fun a => climbF ts n k lv (.mk 82 op [] [x, a.1]) a.2) (g := fun b => loopS ts n k' lv (.mk 82 op [] [x, b.1]) b.2) (fun e => (((good_F k).c _ _).le ts n _ hl.wf).err e) (fun e => (((good_S k').c _ _).le ts n _ hlR.wf).err e) (fun e hab => ?_); rw [← hab]; have hi := ih (by omega) (.mk 82 op [] [x, (exprF ts n k (lv + 1) (nextP σ)).1]) (exprF ts n k (lv + 1) (nextP σ)).2 hl.wf (by have := mS_le hl; omega) lv k k k' h1 h8 (by omega) (by omega) (by omega); rw [climbF_none (lv := lv + 1) (by omega) hst] at hi
         exact hi
     · cases k with
       | zero => omega
       | succ k =>
        cases k1 with
        | zero => omega
        | succ k1 =>
         rw [climbF, hb]; simp only; rw [if_neg c1, climbF, hb]; simp only; rw [if_neg (show ¬ level op < lv + 1 by omega)]
         have hsame : exprF ts n k1 (level op + 1) (nextP σ) = exprF ts n k (level op + 1) (nextP σ) := by
          rcases Nat.le_total k k1 with hkk | hkk
          · exact exprF_same hkk _ _ hnl.wf (by omega)
          · exact (exprF_same hkk _ _ hnl.wf (by omega)).symm
         rw [hsame]; have hl := exprF_le (n := n) (k := k) (lv := level op + 1) hnl.wf
         exact ih (by omega) _ _ hl.wf (by have := mS_le hl; omega) lv k k1 k' h1 h8 (by omega) (by omega) (by omega)
structure SameF (ts : List Tok) (n : Int) (m : Nat) : Prop where
 e : ∀ (lv : Int) (k k' : Nat), 1 ≤ lv → lv ≤ 9 → 4 * m + 4 ≤ k → 12 * (m : Int) + 12 - lv ≤ (k' : Int) → RQ ts n m (fun ts n σ => exprF ts n k lv σ) (fun ts n σ => exprS ts n k' lv σ)
 p : ∀ (k k' : Nat), 4 * m + 3 ≤ k → 12 * m + 2 ≤ k' → RQ ts n m (fun ts n σ => primF ts n k σ) (fun ts n σ => primS ts n k' σ)
theorem SameF.e1 {m : Nat} (h : SameF ts n m) {k k' : Nat} (hk : 4 * m + 4 ≤ k) (hk' : 12 * m + 11 ≤ k') : RQ ts n m (fun ts n σ => exprF ts n k 1 σ) (fun ts n σ => exprS ts n k' 1 σ) := h.e 1 k k' (by omega) (by omega) hk (by omega)
theorem SameF.b {m : Nat} (h : SameF ts n (m - 1)) {k k' : Nat} (hk : 4 * m + 5 ≤ k) (hk' : 12 * m + 12 ≤ k') : RQ ts n m (fun ts n σ => braceF ts n k σ) (fun ts n σ => braceS ts n k' σ) := by
 obtain ⟨k, rfl⟩ : ∃ j, k = j + 1 := ⟨k - 1, by omega⟩; obtain ⟨k', rfl⟩ : ∃ j, k' = j + 1 := ⟨k' - 1, by omega⟩; refine RQ.congr (braceF_at k) (braceS_at k') ?_; have g := good_F k; have g' := good_S k'
 exact RQ.bindL (RQ.refl _) (good_exp (by decide)) (good_exp (by decide)) lt_exp (fun _ => Good.bind (g.e 1) (fun _ => Good.bind (good_exp (by decide)) (fun _ => Good.ret _))) (fun _ => Good.bind (g'.e 1) (fun _ => Good.bind (good_exp (by decide)) (fun _ => Good.ret _)))
  (fun _ => RQ.bind (h.e1 (by omega) (by omega)) (g.e 1) (g'.e 1) (fun _ => Good.bind (good_exp (by decide)) (fun _ => Good.ret _)) (fun _ => Good.bind (good_exp (by decide)) (fun _ => Good.ret _)) (fun _ => RQ.refl _))
theorem rd_bind {α β : Type} (c : Int → List UInt8 → Bool) (y z : Int → List UInt8 → Pr α) (f : α → Pr β) (ts : List Tok) (n : Int) (σ : PS) : bindP (rdP c y z) f ts n σ = rdP c (fun k t => bindP (y k t) f) (fun k t => bindP (z k t) f) ts n σ := by
 unfold bindP rdP
 split <;> rfl
theorem more_eq : ∀ (m : Nat), (∀ j, j ≤ m → SameF ts n j) → ∀ (acc : List Nd) (k k' : Nat), 4 * m + 4 ≤ k → 12 * m + 12 ≤ k' → RQ ts n m (bindP (fun ts n σ => exprF ts n k 1 σ) (fun a ts n σ => moreF ts n k (acc ++ [a]) σ)) (fun ts n σ => listS ts n k' 0 acc σ) := by
 intro m
 induction m with
 | zero =>
  intro IH acc k k' hk hk'; obtain ⟨k', rfl⟩ : ∃ j, k' = j + 1 := ⟨k' - 1, by omega⟩; obtain ⟨k, rfl⟩ : ∃ j, k = j + 1 := ⟨k - 1, by omega⟩; refine RQ.good (Good.bind ((good_F _).e 1) (fun _ => (good_F _).m _)) ((good_S _).m _ _) (fun σ hw hm e => ?_)
  show REq _ (listS ts n (k' + 1) 0 acc σ)
  rw [listS_at]
  unfold listC erP
  rw [if_neg (by simpa using e)]; refine RQ.bind (m := 0) ((IH 0 (by omega)).e1 (by omega) (by omega)) ((good_F _).e 1) ((good_S _).e 1) (fun _ => (good_F _).m _) (fun a => ?_) (fun a => ?_) σ hw hm
  · rw [if_neg (by omega)]; exact Good.rd (eqF_nil (by decide)) (fun _ _ => (good_S _).m _ _) (fun _ _ => Good.ret _)
  · rw [if_neg (by omega)]
    refine RQ.congr (moreF_at k _) (fun _ _ _ => rfl) ?_
    exact RQ.rd (eqF_nil (by decide)) (fun h1 => by omega) (fun _ _ => RQ.refl _)
 | succ m ih =>
  intro IH acc k k' hk hk'; obtain ⟨k', rfl⟩ : ∃ j, k' = j + 1 := ⟨k' - 1, by omega⟩; obtain ⟨k, rfl⟩ : ∃ j, k = j + 1 := ⟨k - 1, by omega⟩; refine RQ.good (Good.bind ((good_F _).e 1) (fun _ => (good_F _).m _)) ((good_S _).m _ _) (fun σ hw hm e => ?_)
  show REq _ (listS ts n (k' + 1) 0 acc σ)
  rw [listS_at]
  unfold listC erP
  rw [if_neg (by simpa using e)]; refine RQ.bind (m := m + 1) ((IH (m + 1) (by omega)).e1 (by omega) (by omega)) ((good_F _).e 1) ((good_S _).e 1) (fun _ => (good_F _).m _) (fun a => ?_) (fun a => ?_) σ hw hm
  · rw [if_neg (by omega)]; exact Good.rd (eqF_nil (by decide)) (fun _ _ => (good_S _).m _ _) (fun _ _ => Good.ret _)
  · rw [if_neg (by omega)]
    refine RQ.congr (moreF_at k _) (fun _ _ _ => rfl) ?_
    exact RQ.rd (eqF_nil (by decide)) (fun _ _ _ => ih (fun j hj => IH j (by omega)) _ k k' (by omega) (by omega)) (fun _ _ => RQ.refl _)
theorem args1_eq {m : Nat} (h : SameF ts n (m - 1)) {k k' : Nat} (hk : 4 * m + 5 ≤ k) (hk' : 12 * m + 13 ≤ k') : RQ ts n m (fun ts n σ => args1F ts n k σ) (fun ts n σ => argsS ts n k' 1 σ) := by
 obtain ⟨k, rfl⟩ : ∃ j, k = j + 1 := ⟨k - 1, by omega⟩; obtain ⟨k', rfl⟩ : ∃ j, k' = j + 2 := ⟨k' - 2, by omega⟩; refine RQ.congr (args1F_at k) (argsS_at (k' + 1) 1) ?_; have g := good_F k; have g' := good_S k'; refine RQ.bindL (RQ.refl _) (good_exp (by decide)) (good_exp (by decide)) lt_exp (fun _ => Good.bind (g.e 1) (fun _ => Good.bind (good_exp (by decide)) (fun _ => Good.ret _))) (fun _ => good_argsT ((good_S _).m _ _) 1) (fun _ => ?_); refine RQ.good (Good.bind (g.e 1) (fun _ => Good.bind (good_exp (by decide)) (fun _ => Good.ret _))) (good_argsT ((good_S _).m _ _) 1) (fun σ hw hm e => ?_)
 have e1 : argsT (fun ts n σ => listS ts n (k' + 1) 1 [] σ) 1 ts n σ = bindP (fun ts n σ => exprS ts n k' 1 σ) (fun a => bindP (expP [41]) (fun _ => retP [a])) ts n σ := by
  unfold argsT rdP
  rw [if_neg (by simp)]
  unfold bindP
  dsimp only; rw [listS_at]
  unfold listC erP
  rw [if_neg (by simpa using e)]
  rfl
 rw [e1]
 exact RQ.bind (h.e1 (by omega) (by omega)) (g.e 1) (g'.e 1) (fun _ => Good.bind (good_exp (by decide)) (fun _ => Good.ret _)) (fun _ => Good.bind (good_exp (by decide)) (fun _ => Good.ret _)) (fun _ => RQ.refl _) σ hw hm
theorem args2_eq {m : Nat} (h : SameF ts n (m - 1)) {k k' : Nat} (hk : 4 * m + 5 ≤ k) (hk' : 12 * m + 13 ≤ k') : RQ ts n m (fun ts n σ => args2F ts n k σ) (fun ts n σ => argsS ts n k' 2 σ) := by
 obtain ⟨k, rfl⟩ : ∃ j, k = j + 1 := ⟨k - 1, by omega⟩; obtain ⟨k', rfl⟩ : ∃ j, k' = j + 3 := ⟨k' - 3, by omega⟩; refine RQ.congr (args2F_at k) (argsS_at (k' + 2) 2) ?_; have g := good_F k; have g' := good_S k'; have g1 := good_S (k' + 1)
 have gA : ∀ a : Nd, Good (bindP (expP [44]) (fun _ => bindP (fun ts n σ => exprF ts n k 1 σ) (fun b => bindP (expP [41]) (fun _ => retP [a, b])))) := fun a => Good.bind (good_exp (by decide)) (fun _ => Good.bind (g.e 1) (fun _ => Good.bind (good_exp (by decide)) (fun _ => Good.ret _)))
 refine RQ.bindL (RQ.refl _) (good_exp (by decide)) (good_exp (by decide)) lt_exp (fun _ => Good.bind (g.e 1) gA) (fun _ => good_argsT ((good_S _).m _ _) 2) (fun _ => ?_); refine RQ.good (Good.bind (g.e 1) gA) (good_argsT ((good_S _).m _ _) 2) (fun σ hw hm e => ?_)
 have gT : ∀ l : List Nd, Good (bindP (if l.length < 2 then unP () else retP ()) (fun _ => bindP (expP [41]) (fun _ => retP l))) := fun l => by
  refine Good.bind ?_ (fun _ => Good.bind (good_exp (by decide)) (fun _ => Good.ret _))
  split
  · exact Good.un _
  · exact Good.ret _
 have e1 : argsT (fun ts n σ => listS ts n (k' + 2) 2 [] σ) 2 ts n σ = bindP (fun ts n σ => exprS ts n (k' + 1) 1 σ) (fun a => bindP (rdP (eqF [44]) (fun _ _ ts n σ => listS ts n (k' + 1) 2 [a] σ) (fun _ _ => retP [a])) (fun l => bindP (if l.length < 2 then unP () else retP ()) (fun _ => bindP (expP [41]) (fun _ => retP l)))) ts n σ := by
  unfold argsT rdP
  rw [if_neg (by simp)]
  unfold bindP
  dsimp only; rw [listS_at]
  unfold listC erP
  rw [if_neg (by simpa using e)]
  rfl
 rw [e1]; refine RQ.bind (h.e1 (by omega) (by omega)) (g.e 1) (g1.e 1) gA (fun a => Good.bind (Good.rd (eqF_nil (by decide)) (fun _ _ => g1.m _ _) (fun _ _ => Good.ret _)) gT) (fun a => ?_) σ hw hm; refine RQ.congr (fun _ _ _ => rd_bind _ _ _ _ _ _ _) (fun _ _ _ => rd_bind _ _ _ _ _ _ _) (RQ.rd (ne_dec (by decide)) (fun h1 _ _ => ?_) (fun _ _ => ?_))
 · have gB : Good (bindP (fun ts n σ => exprF ts n k 1 σ) (fun b => bindP (expP [41]) (fun _ => retP [a, b]))) := Good.bind (g.e 1) (fun _ => Good.bind (good_exp (by decide)) (fun _ => Good.ret _))
   refine RQ.good (p := bindP (fun ts n σ => exprF ts n k 1 σ) (fun b => bindP (expP [41]) (fun _ => retP [a, b]))) gB (Good.bind (g1.m _ _) gT) (fun σ hw hm e => ?_)
   have e2 : bindP (fun ts n σ => listS ts n (k' + 1) 2 [a] σ) (fun l => bindP (if l.length < 2 then unP () else retP ()) (fun _ => bindP (expP [41]) (fun _ => retP l))) ts n σ = bindP (fun ts n σ => exprS ts n k' 1 σ) (fun b => bindP (expP [41]) (fun _ => retP [a, b])) ts n σ := by
    unfold bindP
    dsimp only; rw [listS_at]
    unfold listC erP
    rw [if_neg (by simpa using e)]
    rfl
   rw [e2]
   exact RQ.bind (RQ.mono (h.e1 (k := k) (k' := k') (by omega) (by omega)) (by omega)) (g.e 1) (g'.e 1) (fun _ => Good.bind (good_exp (by decide)) (fun _ => Good.ret _)) (fun _ => Good.bind (good_exp (by decide)) (fun _ => Good.ret _)) (fun _ => RQ.refl _) σ hw hm
 · exact RQ.un (α := Unit) (β := Unit) () () (fun _ => Good.bind (g.e 1) (fun _ => Good.bind (good_exp (by decide)) (fun _ => Good.ret _))) (fun _ => Good.bind (good_exp (by decide)) (fun _ => Good.ret [a]))
theorem named_eq {m : Nat} (h : ∀ j, j < m → SameF ts n j) {k k' : Nat} (hk : 4 * m + 2 ≤ k) (hk' : 12 * m + 1 ≤ k') : RQ ts n m (fun ts n σ => namedF ts n k σ) (namedQ (fun ts n σ => argsS ts n k' 0 σ)) := by
 obtain ⟨k, rfl⟩ : ∃ j, k = j + 1 := ⟨k - 1, by omega⟩; obtain ⟨k', rfl⟩ : ∃ j, k' = j + 1 := ⟨k' - 1, by omega⟩; refine RQ.congr (namedF_at k) (namedQ_at k') ?_; have g := good_F k; have g' := good_S k'
 have gc : ∀ (mm : List UInt8), Good (rdP (eqF [41]) (fun _ _ => retP (Nd.mk 85 0 mm [])) (fun _ _ => bindP (fun ts n σ => exprF ts n k 1 σ) (fun a => bindP (fun ts n σ => moreF ts n k [a] σ) (fun l => bindP (expP [41]) (fun _ => retP (Nd.mk 85 0 mm l)))))) := fun mm =>
  Good.rd (eqF_nil (by decide)) (fun _ _ => Good.ret _) (fun _ _ => Good.bind (g.e 1) (fun _ => Good.bind (g.m _) (fun _ => Good.bind (good_exp (by decide)) (fun _ => Good.ret _))))
 refine RQ.bindL (RQ.refl _) good_name good_name lt_name (fun mm => Good.rd (eqF_nil (by decide)) (fun _ _ => gc mm) (fun _ _ => Good.ret _)) (fun _ => Good.rd (eqF_nil (by decide)) (fun _ _ => Good.bind (good_argsT (g'.m _ _) 0) (fun _ => Good.ret _)) (fun _ _ => Good.ret _)) (fun mm => ?_); refine RQ.rd (eqF_nil (by decide)) (fun h1 _ _ => ?_) (fun _ _ => RQ.refl _); refine RQ.congr (fun _ _ _ => rfl) (q' := rdP (eqF [41]) (fun _ _ => retP (Nd.mk 85 0 mm [])) (fun _ _ => bindP (fun ts n σ => listS ts n k' 0 [] σ) (fun l => bindP (expP [41]) (fun _ => retP (Nd.mk 85 0 mm l))))) (fun ts n σ => ?_) ?_
 · unfold argsT
   rw [rd_bind]
   unfold rdP
   simp only [decide_true, Bool.true_and]
   split
   · rfl
   · rfl
 · refine RQ.rd (eqF_nil (by decide)) (fun _ _ _ => RQ.refl _) (fun _ _ => ?_)
   exact RQ.bind (p := bindP (fun ts n σ => exprF ts n k 1 σ) (fun a ts n σ => moreF ts n k ([] ++ [a]) σ)) (f := fun l => bindP (expP [41]) (fun _ => retP (Nd.mk 85 0 mm l))) (more_eq (m - 1 - 1) (fun j hj => h j (by omega)) [] k k' (by omega) (by omega)) (Good.bind (g.e 1) (fun _ => g.m _)) (g'.m _ _) (fun _ => Good.bind (good_exp (by decide)) (fun _ => Good.ret _)) (fun _ => Good.bind (good_exp (by decide)) (fun _ => Good.ret _)) (fun _ => RQ.refl _)
theorem same_F (hd : DigitKinds ts) (m : Nat) : SameF ts n m := by
 induction m using Nat.strongRecOn with
 | _ m ih =>
  have hP : ∀ (k k' : Nat), 4 * m + 3 ≤ k → 12 * m + 2 ≤ k' → RQ ts n m (fun ts n σ => primF ts n k σ) (fun ts n σ => primS ts n k' σ) := by
   intro k k' hk hk'; obtain ⟨k, rfl⟩ : ∃ j, k = j + 2 := ⟨k - 2, by omega⟩; obtain ⟨k', rfl⟩ : ∃ j, k' = j + 1 := ⟨k' - 1, by omega⟩; refine RQ.congr (primF_at' k) (primS_at k') ?_; have g := good_F k; have g1 := good_F (k + 1); have g' := good_S k'
   refine RQ.rd (eqF_nil (by decide)) (fun _ _ _ => RQ.refl _) (fun _ _ => RQ.rd (eqF_nil (by decide)) (fun h1 _ _ => ?_) (fun _ _ => RQ.rd (eqF_nil (by decide)) (fun h1 _ _ => ?_) (fun _ _ => RQ.rd (eqF_nil (by decide)) (fun h1 _ _ => ?_) (fun _ _ => RQ.rd (eqF_nil (by decide)) (fun h1 _ _ => ?_) (fun _ _ =>
    RQ.rd (eqF_nil (by decide)) (fun h1 _ _ => ?_) (fun _ _ => RQ.rd (eqF_nil (by decide)) (fun h1 _ _ => ?_) (fun _ _ => RQ.rd (eqF_nil (by decide)) (fun h1 _ _ => ?_) (fun _ _ => RQ.fnum hd (named_eq ih (by omega) (by omega))))))))))
   · exact RQ.bind (args2_eq (ih _ (by omega)) (by omega) (by omega)) g1.a2 (g'.a 2) (fun _ => Good.ret _) (fun _ => Good.ret _) (fun _ => RQ.refl _)
   · exact RQ.bind (args1_eq (ih _ (by omega)) (by omega) (by omega)) g1.a1 (g'.a 1) (fun _ => Good.ret _) (fun _ => Good.ret _) (fun _ => RQ.refl _)
   · exact RQ.bind (args1_eq (ih _ (by omega)) (by omega) (by omega)) g1.a1 (g'.a 1) (fun _ => Good.ret _) (fun _ => Good.ret _) (fun _ => RQ.refl _)
   · exact RQ.bind ((ih (m - 1) (by omega)).p _ _ (by omega) (by omega)) g1.p g'.p (fun _ => Good.ret _) (fun _ => Good.ret _) (fun _ => RQ.refl _)
   · exact RQ.bind ((ih (m - 1) (by omega)).e1 (by omega) (by omega)) (g.e 1) (g'.e 1) (fun _ => Good.bind g.b (fun _ => Good.bind (good_exp (by decide)) (fun _ => Good.bind g.b (fun _ => Good.ret _)))) (fun _ => Good.bind g'.b (fun _ => Good.bind (good_exp (by decide)) (fun _ => Good.bind g'.b (fun _ => Good.ret _))))
      (fun _ => RQ.bind (SameF.b (ih _ (by omega)) (by omega) (by omega)) g.b g'.b (fun _ => Good.bind (good_exp (by decide)) (fun _ => Good.bind g.b (fun _ => Good.ret _))) (fun _ => Good.bind (good_exp (by decide)) (fun _ => Good.bind g'.b (fun _ => Good.ret _)))
       (fun _ => RQ.bind (RQ.refl _) (good_exp (by decide)) (good_exp (by decide)) (fun _ => Good.bind g.b (fun _ => Good.ret _)) (fun _ => Good.bind g'.b (fun _ => Good.ret _))
        (fun _ => RQ.bind (SameF.b (ih _ (by omega)) (by omega) (by omega)) g.b g'.b (fun _ => Good.ret _) (fun _ => Good.ret _) (fun _ => RQ.refl _))))
   · exact RQ.bind (RQ.refl _) good_name good_name (fun _ => Good.bind (good_exp (by decide)) (fun _ => Good.bind (g.e 1) (fun _ => Good.bind g.b (fun _ => Good.ret _)))) (fun _ => Good.bind (good_exp (by decide)) (fun _ => Good.bind (g'.e 1) (fun _ => Good.bind g'.b (fun _ => Good.ret _))))
      (fun _ => RQ.bind (RQ.refl _) (good_exp (by decide)) (good_exp (by decide)) (fun _ => Good.bind (g.e 1) (fun _ => Good.bind g.b (fun _ => Good.ret _))) (fun _ => Good.bind (g'.e 1) (fun _ => Good.bind g'.b (fun _ => Good.ret _)))
       (fun _ => RQ.bind ((ih (m - 1) (by omega)).e1 (by omega) (by omega)) (g.e 1) (g'.e 1) (fun _ => Good.bind g.b (fun _ => Good.ret _)) (fun _ => Good.bind g'.b (fun _ => Good.ret _))
        (fun _ => RQ.bind (SameF.b (ih _ (by omega)) (by omega) (by omega)) g.b g'.b (fun _ => Good.ret _) (fun _ => Good.ret _) (fun _ => RQ.refl _))))
   · exact RQ.bind ((ih (m - 1) (by omega)).e1 (by omega) (by omega)) (g1.e 1) (g'.e 1) (fun _ => Good.bind (good_exp (by decide)) (fun _ => Good.ret _)) (fun _ => Good.bind (good_exp (by decide)) (fun _ => Good.ret _)) (fun _ => RQ.refl _)
  refine ⟨?_, hP⟩; have hIH : ∀ σ', σ'.at_ ≤ ts.length → mS ts σ' < m → ∀ (lv : Int) (k k' : Nat), 1 ≤ lv → lv ≤ 9 → 4 * mS ts σ' + 4 ≤ k → 12 * (mS ts σ' : Int) + 12 - lv ≤ (k' : Int) → REq (exprF ts n k lv σ') (exprS ts n k' lv σ') :=
   fun σ' h' hlt lv k k' h1 h9 hk hk' => (ih (mS ts σ') hlt).e lv k k' h1 h9 hk hk' σ' h' (Nat.le_refl _)
  have key : ∀ d : Nat, ∀ (lv : Int) (k k' : Nat), lv = 9 - (d : Int) → 1 ≤ lv → 4 * m + 4 ≤ k → 12 * (m : Int) + 12 - lv ≤ (k' : Int) → RQ ts n m (fun ts n σ => exprF ts n k lv σ) (fun ts n σ => exprS ts n k' lv σ) := by
   intro d
   induction d with
   | zero =>
    intro lv k k' hlv h1 hk hk' σ h hm
    obtain rfl : lv = 9 := by omega
    obtain ⟨k, rfl⟩ : ∃ j, k = j + 1 := ⟨k - 1, by omega⟩; obtain ⟨k', rfl⟩ : ∃ j, k' = j + 1 := ⟨k' - 1, by omega⟩
    show REq (exprF ts n (k + 1) 9 σ) (exprS ts n (k' + 1) 9 σ)
    rw [exprF, exprS, if_pos (by omega)]; rw [climbF_none (by omega) (fun op hop => by have := binOf_ne hop; have := level_bd this.2.1 this.2.2.1; omega)]
    exact hP k k' (by omega) (by omega) σ h hm
   | succ d ihd =>
    intro lv k k' hlv h1 hk hk' σ h hm; obtain ⟨k, rfl⟩ : ∃ j, k = j + 3 := ⟨k - 3, by omega⟩; obtain ⟨k', rfl⟩ : ∃ j, k' = j + 1 := ⟨k' - 1, by omega⟩
    show REq (exprF ts n (k + 3) lv σ) (exprS ts n (k' + 1) lv σ)
    rw [exprF, exprS, if_neg (by omega)]; have hE := ihd (lv + 1) (k + 3) k' (by omega) (by omega) (by omega) (by omega) σ h hm; have hE' : REq (exprF ts n (k + 3) (lv + 1) σ) (exprS ts n k' (lv + 1) σ) := hE; rw [exprF] at hE'; have hu := (good_F (k + 2)).p.le ts n σ h; have hm2 := mS_lt hu (lt_prim k ts n σ h); have hlc := ((good_F (k + 2)).c (lv + 1) (primF ts n (k + 2) σ).1).le ts n _ hu.wf; have hlS := ((good_S k').e (lv + 1)).le ts n σ h; have hc := climbF_eq m hIH (m - 1) (by omega) (primF ts n (k + 2) σ).1 (primF ts n (k + 2) σ).2 hu.wf (by omega) lv (k + 2) (k + 2) k' h1 (by omega) (by omega) (by omega) (by omega); refine REq.trans hc ?_; refine REq.bind hE' (f := fun a => loopS ts n k' lv a.1 a.2) (g := fun b => loopS ts n k' lv b.1 b.2) (fun e => (((good_S k').c _ _).le ts n _ hlc.wf).err e) (fun e => (((good_S k').c _ _).le ts n _ hlS.wf).err e) (fun e hab => ?_); rw [← hab]
    exact REq.refl _
  intro lv k k' h1 h9 hk hk'
  exact key (9 - lv).toNat lv k k' (by omega) h1 hk hk'
end
end Bk
namespace Bk
open Go
def listC0 : Pr Bool := rdP (eqF [115, 116, 97, 99, 107]) (fun _ _ => retP true) (fun _ _ => bindP (expP [105, 110, 116]) (fun _ => retP false))
theorem listP_at (ts : List Tok) (n : Int) (σ : PS) : listP ts n σ = listC0 ts n σ := by
 unfold listP
 simp only [exp_at]
 rfl
theorem good_list : Good (fun ts n σ => listP ts n σ) := Good.congr listP_at (Good.rd (eqF_nil (by decide)) (fun _ _ => Good.ret _) (fun _ _ => Good.bind (good_exp (by decide)) (fun _ => Good.ret _)))
theorem lt_list : LtP (fun ts n σ => listP ts n σ) := LtP.congr listP_at (LtP.rd (eqF_nil (by decide)) (fun _ _ => Good.ret _) (fun _ _ => LtP.bind lt_exp (good_exp (by decide)) (fun _ => Good.ret _)))
theorem good_fparam : Good (fun ts n σ => fparamP ts n σ) := Good.congr (q := bindP (fun ts n σ => listP ts n σ) (fun l => bindP (fun ts n σ => nameP ts n σ) (fun m => retP (⟨m, l⟩ : FP)))) (fun ts n σ => rfl) (Good.bind good_list (fun _ => Good.bind good_name (fun _ => Good.ret _)))
theorem lt_fparam : LtP (fun ts n σ => fparamP ts n σ) := LtP.congr (q := bindP (fun ts n σ => listP ts n σ) (fun l => bindP (fun ts n σ => nameP ts n σ) (fun m => retP (⟨m, l⟩ : FP)))) (fun ts n σ => rfl) (LtP.bind lt_list good_list (fun _ => Good.bind good_name (fun _ => Good.ret _)))
theorem fparams_at (k : Nat) (acc : List FP) (ts : List Tok) (n : Int) (σ : PS) : fparamsP ts n (k + 1) acc σ = bindP (fun ts n σ => fparamP ts n σ) (fun p => rdP (eqF [44]) (fun _ _ ts n σ => fparamsP ts n k (acc ++ [p]) σ) (fun _ _ => retP (acc ++ [p]))) ts n σ := by
 rw [fparamsP]
 unfold bindP rdP
 dsimp only
 by_cases h : hasP ts (fparamP ts n σ).2 [44] = true
 · rw [if_pos h, if_pos (show decide _ = true from h)]
 · rw [if_neg h, if_neg (show ¬ decide _ = true from h)]; rfl
theorem good_fparams (k : Nat) : ∀ acc, Good (fun ts n σ => fparamsP ts n k acc σ) := by
 induction k with
 | zero => intro acc; exact Good.congr (fun ts n σ => by rw [fparamsP]; rfl) (Good.ret acc)
 | succ k ih => intro acc; exact Good.congr (fparams_at k acc) (Good.bind good_fparam (fun p => Good.rd (eqF_nil (by decide)) (fun _ _ => ih _) (fun _ _ => Good.ret _)))
theorem fuel_fparams {ts : List Tok} {n : Int} (k : Nat) : ∀ (m : Nat) acc, m + 1 ≤ k → EqB ts n m (fun ts n σ => fparamsP ts n (k + 1) acc σ) (fun ts n σ => fparamsP ts n k acc σ) := by
 induction k with
 | zero => intro m acc h; omega
 | succ k ih =>
  intro m acc h; refine EqB.congr (fparams_at (k + 1) acc) (fparams_at k acc) ?_
  exact EqB.bindL (EqB.refl _) good_fparam lt_fparam (fun p => EqB.rd (eqF_nil (by decide)) (fun h1 _ _ => ih _ _ (by omega)) (fun _ _ => EqB.refl _))
def paramsC (k : Nat) : Pr (List FP) := rdP (eqF [41]) (fun _ _ => retP []) (fun _ _ => bindP (fun ts n σ => fparamsP ts n k [] σ) (fun r => bindP (expP [41]) (fun _ => retP r)))
def headC {α : Type} (k : Nat) (f : List UInt8 → List FP → Bool → Pr α) : Pr α := bindP (expP [112, 114, 111, 99]) (fun _ => bindP (fun ts n σ => nameP ts n σ) (fun m => bindP (expP [40]) (fun _ => bindP (paramsC k) (fun q => bindP (fun ts n σ => listP ts n σ) (fun l => f m q l)))))
def functionC (k : Nat) (b : Pr Nd) : Pr FD := headC k (fun m q l => bindP b (fun x => retP (⟨m, q, l, x⟩ : FD)))
theorem functionP_at (k : Nat) (ts : List Tok) (n : Int) (σ : PS) : functionP ts n k σ = functionC k (fun ts n σ => braceF ts n k σ) ts n σ := by
 unfold functionP functionC headC
 simp only [exp_at]
 unfold bindP paramsC rdP
 dsimp only
 by_cases h : hasP ts (expP [40] ts n (nameP ts n (expP [112, 114, 111, 99] ts n σ).2).2).2 [41] = true
 · rw [if_pos h, if_pos (show decide _ = true from h)]; rfl
 · rw [if_neg h, if_neg (show ¬ decide _ = true from h)]; rfl
def paramsS (k : Nat) : Pr (List FP) := bindP (erP (retP []) (teP (fun _ t => decide (t ≠ [41])) (fun ts n σ => fparamsP ts n k [] σ) (retP []))) (fun r => bindP (expP [41]) (fun _ => retP r))
theorem functionS_at (k : Nat) (ts : List Tok) (n : Int) (σ : PS) : functionS ts n k σ = bindP (expP [112, 114, 111, 99]) (fun _ => bindP (fun ts n σ => nameP ts n σ) (fun m => bindP (expP [40]) (fun _ => bindP (paramsS k) (fun q => bindP (fun ts n σ => listP ts n σ) (fun l => bindP (fun ts n σ => braceS ts n k σ) (fun x => retP (⟨m, q, l, x⟩ : FD))))))) ts n σ := by
 unfold functionS
 simp only [exp_at]
 unfold bindP paramsS erP teP bindP
 dsimp only
 generalize (expP [40] ts n (nameP ts n (expP [112, 114, 111, 99] ts n σ).2).2).2 = τ
 by_cases h : τ.err = 0
 · by_cases h2 : (peekP ts τ).text ≠ [41]
   · rw [if_pos ⟨h, h2⟩, if_neg (by simpa using h), if_pos (by simpa using h2)]; rfl
   · rw [if_neg (fun e => h2 e.2), if_neg (by simpa using h), if_neg (by simpa using h2)]; rfl
 · rw [if_neg (fun e => h e.1), if_pos h]; rfl
theorem good_paramsC (k : Nat) : Good (paramsC k) := Good.rd (eqF_nil (by decide)) (fun _ _ => Good.ret _) (fun _ _ => Good.bind (good_fparams k _) (fun _ => Good.bind (good_exp (by decide)) (fun _ => Good.ret _)))
theorem good_paramsS (k : Nat) : Good (paramsS k) := Good.bind (Good.er (Good.ret _) (Good.te (good_fparams k _) (Good.ret _))) (fun _ => Good.bind (good_exp (by decide)) (fun _ => Good.ret _))
theorem good_headC {α : Type} (k : Nat) {f : List UInt8 → List FP → Bool → Pr α} (hf : ∀ m q l, Good (f m q l)) : Good (headC k f) := Good.bind (good_exp (by decide)) (fun _ => Good.bind good_name (fun _ => Good.bind (good_exp (by decide)) (fun _ => Good.bind (good_paramsC k) (fun _ => Good.bind good_list (fun _ => hf _ _ _)))))
theorem good_function (k : Nat) : Good (fun ts n σ => functionP ts n k σ) := Good.congr (functionP_at k) (good_headC k (fun _ _ _ => Good.bind (good_F k).b (fun _ => Good.ret _)))
theorem good_functionS (k : Nat) : Good (fun ts n σ => functionS ts n k σ) := Good.congr (functionS_at k) (Good.bind (good_exp (by decide)) (fun _ => Good.bind good_name (fun _ => Good.bind (good_exp (by decide)) (fun _ => Good.bind (good_paramsS k) (fun _ => Good.bind good_list (fun _ => Good.bind (good_S k).b (fun _ => Good.ret _)))))))
theorem lt_function (k : Nat) : LtP (fun ts n σ => functionP ts n k σ) := LtP.congr (functionP_at k) (LtP.bind lt_exp (good_exp (by decide)) (fun _ => Good.bind good_name (fun _ => Good.bind (good_exp (by decide)) (fun _ => Good.bind (good_paramsC k) (fun _ => Good.bind good_list (fun _ => Good.bind (good_F k).b (fun _ => Good.ret _)))))))
section
variable {ts : List Tok} {n : Int} {m : Nat}
theorem EqB.trans {α : Type} {p q r : Pr α} (h : EqB ts n m p q) (k : EqB ts n m q r) : EqB ts n m p r := fun σ hw hm => (h σ hw hm).trans (k σ hw hm)
theorem fparams_same {k k' : Nat} (hkk : k ≤ k') (acc : List FP) (hk : m + 1 ≤ k) : EqB ts n m (fun ts n σ => fparamsP ts n k' acc σ) (fun ts n σ => fparamsP ts n k acc σ) := by
 induction k' with
 | zero => omega
 | succ k' ih =>
  by_cases hlt : k ≤ k'
  · exact EqB.trans (fuel_fparams k' m acc (by omega)) (ih hlt)
  · obtain rfl : k = k' + 1 := by omega
    exact EqB.refl _
theorem fparamsPS_eq (k k' : Nat) (hk : m + 1 ≤ k) (hk' : m + 1 ≤ k') : RQ ts n m (paramsC k) (paramsS k') := by
 refine RQ.good (good_paramsC k) (good_paramsS k') (fun σ hw hm e => ?_)
 have hs : fparamsP ts n k [] σ = fparamsP ts n k' [] σ := by
  rcases Nat.le_total k k' with h | h
  · exact (fparams_same h [] hk σ hw hm).symm
  · exact fparams_same h [] hk' σ hw hm
 have eP : paramsC k ts n σ = if (peekP ts σ).text = [41] then ([], nextP σ) else ((fparamsP ts n k [] σ).1, expectP ts n (fparamsP ts n k [] σ).2 [41]) := by
  unfold paramsC rdP bindP
  dsimp only; rw [exp_at]
  by_cases h : (peekP ts σ).text = [41]
  · rw [if_pos h, if_pos (decide_eq_true h)]; rfl
  · rw [if_neg h, if_neg (show ¬ decide _ = true from fun q => h (of_decide_eq_true q))]; rfl
 have eS : paramsS k' ts n σ = if (peekP ts σ).text = [41] then ([], expectP ts n σ [41]) else ((fparamsP ts n k' [] σ).1, expectP ts n (fparamsP ts n k' [] σ).2 [41]) := by
  unfold paramsS bindP erP teP
  dsimp only; rw [if_neg (show ¬ σ.err ≠ 0 from fun q => q e)]; simp only [exp_at]
  by_cases h : (peekP ts σ).text = [41]
  · rw [if_pos h, if_neg (show ¬ decide _ = true from fun q => (of_decide_eq_true q) h)]; rfl
  · rw [if_neg h, if_pos (show decide _ = true from decide_eq_true h)]; rfl
 rw [eP, eS]
 by_cases h : (peekP ts σ).text = [41]
 · rw [if_pos h, if_pos h]
   have e2 : expectP ts n σ [41] = nextP σ := by unfold expectP; rw [if_pos (show hasP ts σ [41] = true from decide_eq_true h)]
   rw [e2]; exact REq.refl _
 · rw [if_neg h, if_neg h, hs]; exact REq.refl _
theorem function_eq (hd : DigitKinds ts) {k k' : Nat} (hk : 4 * m + 5 ≤ k) (hk' : 12 * m + 12 ≤ k') : RQ ts n m (fun ts n σ => functionP ts n k σ) (fun ts n σ => functionS ts n k' σ) := by
 refine RQ.congr (functionP_at k) (functionS_at k') ?_
 unfold functionC headC
 have g := good_F k; have g' := good_S k'
 have gb : ∀ (a : List UInt8) (q : List FP) (l : Bool), Good (bindP (fun ts n σ => braceF ts n k σ) (fun x => retP (⟨a, q, l, x⟩ : FD))) := fun a q l => Good.bind g.b (fun _ => Good.ret _)
 have gb' : ∀ (a : List UInt8) (q : List FP) (l : Bool), Good (bindP (fun ts n σ => braceS ts n k' σ) (fun x => retP (⟨a, q, l, x⟩ : FD))) := fun a q l => Good.bind g'.b (fun _ => Good.ret _)
 refine RQ.bind (RQ.refl _) (good_exp (by decide)) (good_exp (by decide)) (fun _ => Good.bind good_name (fun _ => Good.bind (good_exp (by decide)) (fun _ => Good.bind (good_paramsC k) (fun _ => Good.bind good_list (fun _ => gb _ _ _))))) (fun _ => Good.bind good_name (fun _ => Good.bind (good_exp (by decide)) (fun _ => Good.bind (good_paramsS k') (fun _ => Good.bind good_list (fun _ => gb' _ _ _))))) (fun _ => ?_); refine RQ.bind (RQ.refl _) good_name good_name (fun _ => Good.bind (good_exp (by decide)) (fun _ => Good.bind (good_paramsC k) (fun _ => Good.bind good_list (fun _ => gb _ _ _)))) (fun _ => Good.bind (good_exp (by decide)) (fun _ => Good.bind (good_paramsS k') (fun _ => Good.bind good_list (fun _ => gb' _ _ _)))) (fun _ => ?_); refine RQ.bind (RQ.refl _) (good_exp (by decide)) (good_exp (by decide)) (fun _ => Good.bind (good_paramsC k) (fun _ => Good.bind good_list (fun _ => gb _ _ _))) (fun _ => Good.bind (good_paramsS k') (fun _ => Good.bind good_list (fun _ => gb' _ _ _))) (fun _ => ?_); refine RQ.bind (fparamsPS_eq k k' (by omega) (by omega)) (good_paramsC k) (good_paramsS k') (fun _ => Good.bind good_list (fun _ => gb _ _ _)) (fun _ => Good.bind good_list (fun _ => gb' _ _ _)) (fun _ => ?_); refine RQ.bind (RQ.refl _) good_list good_list (fun _ => gb _ _ _) (fun _ => gb' _ _ _) (fun _ => ?_)
 exact RQ.bind (SameF.b (same_F hd _) (by omega) (by omega)) g.b g'.b (fun _ => Good.ret _) (fun _ => Good.ret _) (fun _ => RQ.refl _)
theorem libP_le (k : Nat) : ∀ (acc : List FD) (at_ : List Int) (σ : PS), σ.at_ ≤ ts.length → Le ts σ (libP ts n k acc at_ σ).2 := by
 induction k with
 | zero => intro acc at_ σ h; rw [libP]; exact Le.refl h
 | succ k ih =>
  intro acc at_ σ h; rw [libP]
  split
  · have l := (good_function k).le ts n σ h
    exact l.trans (ih _ _ _ l.wf)
  · exact Le.refl h
theorem libS_le (k : Nat) : ∀ (acc : List FD) (at_ : List Int) (σ : PS), σ.at_ ≤ ts.length → Le ts σ (libS ts n k acc at_ σ).2 := by
 induction k with
 | zero => intro acc at_ σ h; rw [libS]; exact Le.refl h
 | succ k ih =>
  intro acc at_ σ h; rw [libS]
  split
  · have l := (good_functionS k).le ts n σ h
    exact l.trans (ih _ _ _ l.wf)
  · exact Le.refl h
theorem libP_end {k : Nat} {acc : List FD} {at_ : List Int} {σ : PS} (h : σ.err ≠ 0 ∨ ¬ σ.at_ < ts.length) : libP ts n k acc at_ σ = ((acc, at_), σ) := by
 cases k with
 | zero => rw [libP]
 | succ k => rw [libP, if_neg (fun e => h.elim (fun h => h e.1) (fun h => h e.2))]
theorem libS_end {k : Nat} {acc : List FD} {at_ : List Int} {σ : PS} (h : σ.err ≠ 0 ∨ ¬ σ.at_ < ts.length) : libS ts n k acc at_ σ = ((acc, at_), σ) := by
 cases k with
 | zero => rw [libS]
 | succ k => rw [libS, if_neg (fun e => h.elim (fun h => h e.1) (fun h => h e.2))]
theorem lib_eq (hd : DigitKinds ts) (m : Nat) : ∀ (acc : List FD) (at_ : List Int) (σ : PS) (k k' : Nat), σ.at_ ≤ ts.length → mS ts σ ≤ m → 4 * m + 6 ≤ k → 13 * m + 13 ≤ k' → REq (libP ts n k acc at_ σ) (libS ts n k' acc at_ σ) := by
 induction m with
 | zero =>
  intro acc at_ σ k k' h hm hk hk'
  have he : σ.err ≠ 0 ∨ ¬ σ.at_ < ts.length := by
   by_cases e : σ.err = 0
   · right
     unfold mS at hm
     rw [if_pos e] at hm
     omega
   · exact Or.inl e
  rw [libP_end he, libS_end he]; exact REq.refl _
 | succ m ih =>
  intro acc at_ σ k k' h hm hk hk'; obtain ⟨k, rfl⟩ : ∃ j, k = j + 1 := ⟨k - 1, by omega⟩; obtain ⟨k', rfl⟩ : ∃ j, k' = j + 1 := ⟨k' - 1, by omega⟩; rw [libP, libS]
  split
  · have l := (good_function k).le ts n σ h
    have l' := (good_functionS k').le ts n σ h; have hm2 : mS ts (functionP ts n k σ).2 + 1 ≤ mS ts σ ∨ mS ts (functionP ts n k σ).2 = 0 := mS_lt l (lt_function k ts n σ h); have hf := function_eq (n := n) (m := m + 1) hd (k := k) (k' := k') (by omega) (by omega) σ h hm; refine REq.bind hf (f := fun a => libP ts n k (acc ++ [a.1]) (at_ ++ [(ts.getD σ.at_ Tok.zero).pos]) a.2) (g := fun b => libS ts n k' (acc ++ [b.1]) (at_ ++ [(ts.getD σ.at_ Tok.zero).pos]) b.2) (fun e => (libP_le k _ _ _ l.wf).err e) (fun e => (libS_le k' _ _ _ l'.wf).err e) (fun e hab => ?_); rw [← hab]
    exact ih _ _ _ k k' l.wf (show mS ts (functionP ts n k σ).2 ≤ m by omega) (by omega) (by omega)
  · exact REq.refl _
end
end Bk
namespace Bk
open Go Go.RowKit Go.Proofs
attribute [local irreducible] Go.Calls
def FunR (c : PCF) (w : World) (r : FD × PS) : Ending → World → Prop := fun e w' => ∃ pa pc ba bc, e = .returned (.agg (r.1.cells pa pc ba bc).toArray) ∧ FPs (fun b => w.heap.size ≤ b ∧ b < w'.heap.size) w' r.1.params pa ∧ r.1.body.sits (fun b => w.heap.size ≤ b ∧ b < w'.heap.size) w' ba ∧ PPF c r.2 w' ∧ Fr (· = c.pb) w w'
theorem FunR.ret {c : PCF} {w : World} {r : FD × PS} {e : Ending} {w' : World} (h : FunR c w r e w') : ∃ v, e = .returned v := by
 obtain ⟨_, _, _, _, h, -⟩ := h
 exact ⟨_, h⟩
theorem listP_le {ts : List Tok} {n : Int} {σ : PS} (h : σ.at_ ≤ ts.length) : Le ts σ (listP ts n σ).2 := good_list.le ts n σ h
set_option maxRecDepth 100000 in
set_option maxHeartbeats 4000000 in
theorem function_fw (c : PCF) (k : Nat) (σ : PS) (w : World) (hP : PPF c σ w) (hk : 4 * mS c.ts σ + 5 ≤ k) :
 Calls Tryz.prog 27 #[.pointer (some ⟨c.pb, 0, none⟩)] w (FunR c w (functionP c.ts c.n k σ)) := by
 have X := Fr.refl (· = c.pb) w; have hpb := hP.pbB; have hB := hP.B; have hlen := hP.len; have m0 := mS_len (ts := c.ts) (σ := σ); have l1 := expect_le (n := c.n) (t := [112, 114, 111, 99]) hP.at_ (by decide); have l2 := name_le (n := c.n) l1.wf; have l3 := expect_le (n := c.n) (t := [40]) l2.wf (by decide); have m3 := mS_le ((l1.trans l2).trans l3)
 unfold functionP
 dsimp only; refine calls_in Tryz.func27 Tryz.ntmps27 rfl rfl ?_
 focus
  refine cS ?_; (refine lw_alloc' [_, _, _, _, _, _, _] zOk rfl rfl ?_; intro b1 w2 n3); have h5 := n3.blk; have x6 := n3.ext; have p7 := n3.pos; have z8 := n3.size; clear n3; replace hP := hP.ext x6; replace X := X.ext x6; clear x6; refine cN ?_; (refine lw_alloc' [_, _, _, _, _, _, _] zOk rfl rfl ?_; intro b9 w10 n11); have h13 := n11.blk; have x14 := n11.ext; have p15 := n11.pos; have z16 := n11.size; clear n11; replace h5 := h5.ext x14; replace hP := hP.ext x14; replace X := X.ext x14; clear x14; refine cN (C1 Mv ?_); refine cC rfl (fexpect_c _ _ _ _ (by assumption) (by decide)) ?_; rintro _ w19 ⟨⟨⟩, ⟨h17, f18⟩⟩; have z20 := f18.size; replace h13 := h13.fr f18 (by omega); replace h5 := h5.fr f18 (by omega); clear hP; replace X := X.fr f18 (by omega); clear f18; refine cN (C1 Mv ?_); refine cC rfl (fname_c _ _ _ (by assumption)) ?_; rintro _ w23 ⟨⟨⟩, ⟨h21, f22⟩⟩; have z24 := f22.size; clear h17; replace h13 := h13.fr f22 (by omega); replace h5 := h5.fr f22 (by omega); replace X := X.fr f22 (by omega); clear f22; refine C1 Pg ?_; (refine lw_store' [_] [_, _, _, _, _, _, _] tabOk rfl rfl rfl rfl rfl rfl h13 rfl rfl ?_; intro w25 n26); have h29 := n26.blk; have f27 := n26.fr; have z28 := n26.size; clear n26 h13; replace h21 := h21.fr f27 (by omega); replace h5 := h5.fr f27 (by omega); replace X := X.fr f27 (by omega); clear f27; refine cN (C1 Mv ?_); refine cC rfl (fexpect_c _ _ _ _ (by assumption) (by decide)) ?_; rintro _ w32 ⟨⟨⟩, ⟨h30, f31⟩⟩; have z33 := f31.size; replace h29 := h29.fr f31 (by omega)
  clear h21; replace h5 := h5.fr f31 (by omega); replace X := X.fr f31 (by omega); clear f31; refine cT (cw_seq ?_); rotate_left 1
 clear l1 l2 l3
 generalize expectP c.ts c.n (nameP c.ts c.n (expectP c.ts c.n σ [112, 114, 111, 99])).2 [40] = σ1 at *
 generalize (nameP c.ts c.n (expectP c.ts c.n σ [112, 114, 111, 99])).1 = nm at *
 cases hh : hasP c.ts σ1 [41]
 case true =>
  have i1 := has_in h30.at_ hh (by decide); have l1 := next_le i1; have m1 := mS_le l1; have l2 := listP_le (n := c.n) l1.wf; have m2 := mS_le l2; clear i1 l1 l2; simp only [if_true]
  focus
   refine cS (C1 Mv ?_); refine cC rfl (faccept_t _ _ _ _ (by assumption) (by decide) (by assumption)) ?_; rintro _ wa3 ⟨⟨⟩, ⟨ha1, fa2⟩⟩; have za4 := fa2.size; replace h5 := h5.fr fa2 (by omega); replace X := X.fr fa2 (by omega); clear h30; replace h29 := h29.fr fa2 (by omega); clear fa2; refine C1 Pt (cT (cw_cond_f rfl (cw_skip (qw_then (cS (C1 Mv ?_)))))); refine cC rfl (flist_c _ _ _ (by assumption)) ?_; rintro _ wa7 ⟨⟨⟩, ⟨ha5, fa6⟩⟩; have za8 := fa6.size; clear ha1; replace h5 := h5.fr fa6 (by omega); replace X := X.fr fa6 (by omega); replace h29 := h29.fr fa6 (by omega); clear fa6; refine C1 Pf ?_; (refine lw_store' [_] [_, _, _, _, _, _, _] tabOk rfl rfl rfl rfl rfl rfl h29 rfl rfl ?_; intro wa9 na10); have ha13 := na10.blk; have fa11 := na10.fr; have za12 := na10.size; clear na10 h29; replace ha5 := ha5.fr fa11 (by omega); replace h5 := h5.fr fa11 (by omega); replace X := X.fr fa11 (by omega); clear fa11; refine cN (C1 Mv ?_); refine cR (by kernel_rfl) rfl ((exprs_fc c k).b _ _ (by assumption) (by omega)) (fun _ _ h => h.ret) rfl ?_; rintro _ wa19 ⟨aa14, ⟨ka15, ⟨⟨⟩, ⟨ha16, ⟨ha17, fa18⟩⟩⟩⟩⟩; have za20 := fa18.size; replace ha13 := ha13.fr fa18 (by omega); clear ha5; replace h5 := h5.fr fa18 (by omega); replace X := X.fr fa18 (by omega); clear fa18; refine C1 Pf ?_; (refine lw_store' [_, _, _, _] [_, _, _, _, _, _, _] tabOk rfl rfl rfl rfl rfl rfl ha13 rfl rfl ?_; intro wa21 na22); have ha25 := na22.blk; have fa23 := na22.fr; have za24 := na22.size; clear na22 ha13; replace ha16 := Nd.sits.fr ha16 fa23 (by omega)
   replace ha17 := ha17.fr fa23 (by omega); replace h5 := h5.fr fa23 (by omega); replace X := X.fr fa23 (by omega); clear fa23; refine cN (lw_loads_b' [_, _, _, _, _, _, _] tabOk rfl rfl rfl ha25 rfl rfl rfl ?_); (refine lw_store' [_, _, _, _, _, _, _] [_, _, _, _, _, _, _] tabOk rfl rfl rfl rfl rfl rfl h5 rfl rfl ?_; intro wa26 na27); have ha30 := na27.blk; have fa28 := na27.fr; have za29 := na27.size; clear na27 h5; replace ha25 := ha25.fr fa28 (by omega); replace ha16 := Nd.sits.fr ha16 fa28 (by omega); replace ha17 := ha17.fr fa28 (by omega); replace X := X.fr fa28 (by omega); clear fa28; refine cT (cw_ret (qw_retc rfl tabOk rfl rfl rfl ha30 rfl ?_)); rotate_left 1
  exact ⟨_, _, _, _, rfl, Or.inl rfl, Nd.sits.wide (by assumption) (fun b h => by omega), by assumption, X⟩
 simp only [Bool.false_eq_true, if_false]
 focus
  refine cS (C1 Mv ?_); refine cC rfl (faccept_f _ _ _ _ (by assumption) (by decide) (by assumption)) ?_; rintro _ wb3 ⟨⟨⟩, ⟨hb1, fb2⟩⟩; have zb4 := fb2.size; replace h5 := h5.fr fb2 (by omega); replace X := X.fr fb2 (by omega); clear h30; replace h29 := h29.fr fb2 (by omega); clear fb2; refine C1 Pt (cT (cw_cond_t rfl (cw_seq (cw_block ?_)))); rotate_left 1
 refine cw_loop (ι := Nat × List FP × Option Addr × Nat × PS) (fun x => [(0, .pointer (some ⟨c.pb, 0, none⟩)), (2, .pointer (some ⟨b1, 0, none⟩)), (3, .pointer (some ⟨b9, 0, none⟩))])
  (fun x w' => PPF c x.2.2.2.2 w' ∧ Blk w' b9 [str nm, .slice x.2.2.1 x.2.1.length x.2.2.2.1, .bool false, .int .u8 0, .int .i64 0, .string ⟨#[]⟩, .slice none 0 0] ∧ OwnQ fpShape w' (b9 < ·) (b9 + 1) 52 (.slice x.2.2.1 x.2.1.length x.2.2.2.1) x.2.1 ∧ Blk w' b1 [.string ⟨#[]⟩, .slice none 0 0, .bool false, .int .u8 0, .int .i64 0, .string ⟨#[]⟩, .slice none 0 0] ∧ Fr (· = c.pb) w w' ∧ wb3.heap.size ≤ w'.heap.size ∧
   fparamsP c.ts c.n k [] σ1 = fparamsP c.ts c.n x.1 x.2.1 x.2.2.2.2 ∧ mS c.ts x.2.2.2.2 + 1 ≤ x.1 ∧ mS c.ts x.2.2.2.2 ≤ mS c.ts σ ∧ x.2.1.length + mS c.ts x.2.2.2.2 ≤ 1000001) (fun x => x.1) (k, [], none, 0, σ1) (by (refine sub_cons rfl ?_; refine sub_cons rfl ?_; refine sub_cons rfl ?_; exact sub_nil))
  ⟨hb1, h29, OwnQ.nil, h5, X, Nat.le_refl _, rfl, by simp only; omega, m3, by simp only [List.length_nil]; omega⟩ ?_
 clear hb1 h29 h5 X; rintro ⟨j, acc, a, cap, σ'⟩ w1 ⟨hP, hbn, hown, hbr, X, hz, he, hfj, hmj, hacc⟩; simp only at hP hbn hown he hfj hmj hacc; rw [he]; clear he m3 hh; obtain ⟨j, rfl⟩ : ∃ i, j = i + 1 := ⟨j - 1, by omega⟩
 have hob : ∀ g, (Value.slice a acc.length cap).ownBlock = some g → b9 + 1 ≤ g ∧ g < w1.heap.size := fun g h => ⟨hown.ge h, hown.lt h⟩
 have l1 := listP_le (n := c.n) hP.at_; have m1 := mS_lt l1 (lt_list c.ts c.n σ' hP.at_); have l2 := name_le (n := c.n) l1.wf; have m2 := mS_le l2
 cases hh : hasP c.ts (nameP c.ts c.n (listP c.ts c.n σ').2).2 [44]
 · rw [show fparamsP c.ts c.n (j + 1) acc σ' = (acc ++ [⟨(nameP c.ts c.n (listP c.ts c.n σ').2).1, (listP c.ts c.n σ').1⟩], (nameP c.ts c.n (listP c.ts c.n σ').2).2) from by rw [fparamsP]; simp only [fparamP, hh, Bool.false_eq_true, if_false]]
   have l3 := expect_le (n := c.n) (t := [41]) l2.wf (by decide); have m3 := mS_le l3; have l4 := listP_le (n := c.n) l3.wf; have m4 := mS_le l4; clear l1 l2 l3 l4
   focus
    refine cw_block (cS (C1 Mv ?_)); refine cC rfl (flist_c _ _ _ (by assumption)) ?_; rintro _ wc3 ⟨⟨⟩, ⟨hc1, fc2⟩⟩; have zc4 := fc2.size; clear hP; replace hbn := hbn.fr fc2 (by omega); replace hown := OwnQ.fr hown fc2 (fun k hk => ⟨fun h => by (try dsimp only at hk h); omega, fun e => by have := OwnQ.ge (by assumption) e; (try dsimp only at hk); omega⟩); replace hbr := hbr.fr fc2 (by omega); replace X := X.fr fc2 (by omega); clear fc2; refine C1 Pa (cT (cw_seq ?_)); (refine cw_tdraw (fun wz => Fr (· = c.pb) wc3 wz) 7 (.pure 0 (.pure 1 (.pure 2 (.pure 4 (.fork 3 (.pure 5 (.fork 6 .tail .none)) .none))))) mixed (by kernel_rfl) (panicOk_then (panicOk_block (panicOk_then (panicOk_block (panicOk_then (panicOk_then panicOk_body)))))) ?_; intro wc5 xc6 _); have qsc7 : (fun wz => Fr (· = c.pb) wc3 wz) wc5 := Fr.of_ext xc6; simp only at qsc7; have d_hc1 := hc1; have d_hbn := hbn; have d_hown := hown; have d_hbr := hbr; have zc8 := xc6.size; replace hc1 := hc1.ext xc6; replace hbn := hbn.ext xc6; replace hown := hown.ext xc6; replace hbr := hbr.ext xc6; replace X := X.ext xc6; clear xc6; refine ⟨qsc7, ?_⟩; refine Tq rfl Pf ?_; refine Tq rfl (pur_load tabOk rfl rfl rfl (fun wz hz => Blk.cell (Blk.fr d_hbn hz (by first | omega | (dsimp only; omega))) rfl)) ?_; refine Tq rfl Mv (Tq rfl Mv ?_); refine tw_does rfl (does_call (by kernel_rfl) rfl (fname_c _ _ _ (by assumption)) (fun _ _ h => ⟨_, h.1⟩)) rfl ?_ (fun _ h => h) tw_none; rintro _ wc12 ⟨⟨⟩, ⟨hc10, fc11⟩⟩; have zc13 := fc11.size; replace qsc7 := qsc7.fr fc11 (by omega)
    clear hc1; replace hbn := hbn.fr fc11 (by omega); replace hown := OwnQ.fr hown fc11 (fun k hk => ⟨fun h => by (try dsimp only at hk h); omega, fun e => by have := OwnQ.ge (by assumption) e; (try dsimp only at hk); omega⟩); replace hbr := hbr.fr fc11 (by omega); replace X := X.fr fc11 (by omega); clear fc11; refine ⟨qsc7, ?_⟩; refine Tq rfl (pur_build' [_, _] tabOk zOk rfl rfl rfl rfl) ?_; (refine tw_does rfl (does_slice' [_, _] tabOk zOk rfl rfl rfl rfl rfl rfl rfl rfl rfl) rfl ?_ (fun _ h => h) tw_none; rintro _ wc16 ⟨bc15, rfl, nc17, tc18⟩); clear tc18; have hc19 := nc17.blk; have xc20 := nc17.ext; have pc21 := nc17.pos; have zc22 := nc17.size; clear nc17; replace hc10 := hc10.ext xc20; replace qsc7 := qsc7.ext xc20; replace hbn := hbn.ext xc20; replace hown := hown.ext xc20; replace hbr := hbr.ext xc20; replace X := X.ext xc20; clear xc20; refine ⟨qsc7, ?_⟩; clear d_hc1 d_hbn d_hown d_hbr qsc7; refine tw_tail rfl ?_; refine lw_does (does_appendQ (R := (b9 < ·)) (sh := fpShape) (z := ⟨(nameP c.ts c.n (listP c.ts c.n σ').2).1, (listP c.ts c.n σ').1⟩) tabOk zOk rfl rfl rfl rfl (by kernel_rfl) rfl rfl rfl (by assumption) (fun _ h => by exact h) (Blk.row (by assumption)) rfl (by omega) (by omega)) rfl ?_ (fun _ h => h); rintro _ wc29 ⟨gc23, ⟨capc24, ⟨rfl, ⟨hc25, ⟨hc26, ⟨hc27, fc28⟩⟩⟩⟩⟩⟩; have zc30 := fc28.size; replace hc19 := Blk.fr hc19 fc28 (fun e => by have := hob _ e; omega); replace hc10 := PPF.fr hc10 fc28 (fun k hk => by have := hob _ hk; omega); replace hbn := Blk.fr hbn fc28 (fun e => by have := hob _ e; omega)
    clear hown; replace hbr := Blk.fr hbr fc28 (fun e => by have := hob _ e; omega); replace X := Fr.fr X fc28 (fun k hk => by have := hob _ hk; omega); clear fc28; refine C1 Pf ?_; (refine lw_store' [_] [_, _, _, _, _, _, _] tabOk rfl rfl rfl rfl rfl rfl hbn rfl rfl ?_; intro wc31 nc32); have hc35 := nc32.blk; have fc33 := nc32.fr; have zc34 := nc32.size; clear nc32 hbn; replace hc25 := OwnQ.fr hc25 fc33 (fun k hk => ⟨fun h => by (try dsimp only at hk h); omega, fun e => by have := OwnQ.ge (by assumption) e; (try dsimp only at hk); omega⟩); replace hc19 := hc19.fr fc33 (by omega); replace hc10 := hc10.fr fc33 (by omega); replace hbr := hbr.fr fc33 (by omega); replace X := X.fr fc33 (by omega); clear fc33; refine cN (C1 Mv ?_); refine cC rfl (faccept_f _ _ _ _ (by assumption) (by decide) (by assumption)) ?_; rintro _ wc38 ⟨⟨⟩, ⟨hc36, fc37⟩⟩; have zc39 := fc37.size; replace hc35 := hc35.fr fc37 (by omega); replace hc25 := OwnQ.fr hc25 fc37 (fun k hk => ⟨fun h => by (try dsimp only at hk h); omega, fun e => by have := OwnQ.ge (by assumption) e; (try dsimp only at hk); omega⟩); replace hc19 := hc19.fr fc37 (by omega); clear hc10; replace hbr := hbr.fr fc37 (by omega); replace X := X.fr fc37 (by omega); clear fc37; refine C1 Pt (cT (cw_cond_t rfl (cw_exit (qw_block_pass rfl (qw_then_exit (qw_block_exit (qw_then (cw_region (C1 Mv ?_))))))))); refine cC rfl (fexpect_c _ _ _ _ (by assumption) (by decide)) ?_; rintro _ wc42 ⟨⟨⟩, ⟨hc40, fc41⟩⟩; have zc43 := fc41.size; clear hc36; replace hc35 := hc35.fr fc41 (by omega)
    replace hc25 := OwnQ.fr hc25 fc41 (fun k hk => ⟨fun h => by (try dsimp only at hk h); omega, fun e => by have := OwnQ.ge (by assumption) e; (try dsimp only at hk); omega⟩); replace hc19 := hc19.fr fc41 (by omega); replace hbr := hbr.fr fc41 (by omega); replace X := X.fr fc41 (by omega); clear fc41; refine cN (C1 Mv ?_); refine cC rfl (flist_c _ _ _ (by assumption)) ?_; rintro _ wc46 ⟨⟨⟩, ⟨hc44, fc45⟩⟩; have zc47 := fc45.size; clear hc40; replace hc35 := hc35.fr fc45 (by omega); replace hc25 := OwnQ.fr hc25 fc45 (fun k hk => ⟨fun h => by (try dsimp only at hk h); omega, fun e => by have := OwnQ.ge (by assumption) e; (try dsimp only at hk); omega⟩); replace hc19 := hc19.fr fc45 (by omega); replace hbr := hbr.fr fc45 (by omega); replace X := X.fr fc45 (by omega); clear fc45; refine C1 Pf ?_; (refine lw_store' [_] [_, _, _, _, _, _, _] tabOk rfl rfl rfl rfl rfl rfl hc35 rfl rfl ?_; intro wc48 nc49); have hc52 := nc49.blk; have fc50 := nc49.fr; have zc51 := nc49.size; clear nc49 hc35; replace hc44 := hc44.fr fc50 (by omega); replace hc25 := OwnQ.fr hc25 fc50 (fun k hk => ⟨fun h => by (try dsimp only at hk h); omega, fun e => by have := OwnQ.ge (by assumption) e; (try dsimp only at hk); omega⟩); replace hc19 := hc19.fr fc50 (by omega); replace hbr := hbr.fr fc50 (by omega); replace X := X.fr fc50 (by omega); clear fc50; refine cN (C1 Mv ?_); refine cR (by kernel_rfl) rfl ((exprs_fc c k).b _ _ (by assumption) (by omega)) (fun _ _ h => h.ret) rfl ?_; rintro _ wc58 ⟨ac53, ⟨kc54, ⟨⟨⟩, ⟨hc55, ⟨hc56, fc57⟩⟩⟩⟩⟩
    have zc59 := fc57.size; replace hc52 := hc52.fr fc57 (by omega); clear hc44; replace hc25 := OwnQ.fr hc25 fc57 (fun k hk => ⟨fun h => by (try dsimp only at hk h); omega, fun e => by have := OwnQ.ge (by assumption) e; (try dsimp only at hk); omega⟩); replace hc19 := hc19.fr fc57 (by omega); replace hbr := hbr.fr fc57 (by omega); replace X := X.fr fc57 (by omega); clear fc57; refine C1 Pf ?_; (refine lw_store' [_, _, _, _] [_, _, _, _, _, _, _] tabOk rfl rfl rfl rfl rfl rfl hc52 rfl rfl ?_; intro wc60 nc61); have hc64 := nc61.blk; have fc62 := nc61.fr; have zc63 := nc61.size; clear nc61 hc52; replace hc55 := Nd.sits.fr hc55 fc62 (by omega); replace hc56 := hc56.fr fc62 (by omega); replace hc25 := OwnQ.fr hc25 fc62 (fun k hk => ⟨fun h => by (try dsimp only at hk h); omega, fun e => by have := OwnQ.ge (by assumption) e; (try dsimp only at hk); omega⟩); replace hc19 := hc19.fr fc62 (by omega); replace hbr := hbr.fr fc62 (by omega); replace X := X.fr fc62 (by omega); clear fc62; refine cN (lw_loads_b' [_, _, _, _, _, _, _] tabOk rfl rfl rfl hc64 rfl rfl rfl ?_); (refine lw_store' [_, _, _, _, _, _, _] [_, _, _, _, _, _, _] tabOk rfl rfl rfl rfl rfl rfl hbr rfl rfl ?_; intro wc65 nc66); have hc69 := nc66.blk; have fc67 := nc66.fr; have zc68 := nc66.size; clear nc66 hbr; replace hc64 := hc64.fr fc67 (by omega); replace hc55 := Nd.sits.fr hc55 fc67 (by omega); replace hc56 := hc56.fr fc67 (by omega); replace hc25 := OwnQ.fr hc25 fc67 (fun k hk => ⟨fun h => by (try dsimp only at hk h); omega, fun e => by have := OwnQ.ge (by assumption) e; (try dsimp only at hk); omega⟩)
    replace hc19 := hc19.fr fc67 (by omega); replace X := X.fr fc67 (by omega); clear fc67; refine cT (cw_ret (qw_retc rfl tabOk rfl rfl rfl hc69 rfl ?_)); rotate_left 1
   exact ⟨_, _, _, _, rfl, OwnQ.fps (by assumption) (fun b h h2 => ⟨by omega, h2⟩), Nd.sits.wide (by assumption) (fun b h => by omega), by assumption, X⟩
 · rw [show fparamsP c.ts c.n (j + 1) acc σ' = fparamsP c.ts c.n j (acc ++ [⟨(nameP c.ts c.n (listP c.ts c.n σ').2).1, (listP c.ts c.n σ').1⟩]) (nextP (nameP c.ts c.n (listP c.ts c.n σ').2).2) from by rw [fparamsP]; simp only [fparamP, hh, if_true]]
   have i1 := has_in l2.wf hh (by decide); have m3 := mS_next i1; clear l1 l2 i1
   focus
    refine cw_block (cS (C1 Mv ?_)); refine cC rfl (flist_c _ _ _ (by assumption)) ?_; rintro _ wd3 ⟨⟨⟩, ⟨hd1, fd2⟩⟩; have zd4 := fd2.size; clear hP; replace hbn := hbn.fr fd2 (by omega); replace hown := OwnQ.fr hown fd2 (fun k hk => ⟨fun h => by (try dsimp only at hk h); omega, fun e => by have := OwnQ.ge (by assumption) e; (try dsimp only at hk); omega⟩); replace hbr := hbr.fr fd2 (by omega); replace X := X.fr fd2 (by omega); clear fd2; refine C1 Pa (cT (cw_seq ?_)); (refine cw_tdraw (fun wz => Fr (· = c.pb) wd3 wz) 7 (.pure 0 (.pure 1 (.pure 2 (.pure 4 (.fork 3 (.pure 5 (.fork 6 .tail .none)) .none))))) mixed (by kernel_rfl) (panicOk_then (panicOk_block (panicOk_then (panicOk_block (panicOk_then (panicOk_then panicOk_body)))))) ?_; intro wd5 xd6 _); have qsd7 : (fun wz => Fr (· = c.pb) wd3 wz) wd5 := Fr.of_ext xd6; simp only at qsd7; have d_hd1 := hd1; have d_hbn := hbn; have d_hown := hown; have d_hbr := hbr; have zd8 := xd6.size; replace hd1 := hd1.ext xd6; replace hbn := hbn.ext xd6; replace hown := hown.ext xd6; replace hbr := hbr.ext xd6; replace X := X.ext xd6; clear xd6; refine ⟨qsd7, ?_⟩; refine Tq rfl Pf ?_; refine Tq rfl (pur_load tabOk rfl rfl rfl (fun wz hz => Blk.cell (Blk.fr d_hbn hz (by first | omega | (dsimp only; omega))) rfl)) ?_; refine Tq rfl Mv (Tq rfl Mv ?_); refine tw_does rfl (does_call (by kernel_rfl) rfl (fname_c _ _ _ (by assumption)) (fun _ _ h => ⟨_, h.1⟩)) rfl ?_ (fun _ h => h) tw_none; rintro _ wd12 ⟨⟨⟩, ⟨hd10, fd11⟩⟩; have zd13 := fd11.size; replace qsd7 := qsd7.fr fd11 (by omega)
    clear hd1; replace hbn := hbn.fr fd11 (by omega); replace hown := OwnQ.fr hown fd11 (fun k hk => ⟨fun h => by (try dsimp only at hk h); omega, fun e => by have := OwnQ.ge (by assumption) e; (try dsimp only at hk); omega⟩); replace hbr := hbr.fr fd11 (by omega); replace X := X.fr fd11 (by omega); clear fd11; refine ⟨qsd7, ?_⟩; refine Tq rfl (pur_build' [_, _] tabOk zOk rfl rfl rfl rfl) ?_; (refine tw_does rfl (does_slice' [_, _] tabOk zOk rfl rfl rfl rfl rfl rfl rfl rfl rfl) rfl ?_ (fun _ h => h) tw_none; rintro _ wd16 ⟨bd15, rfl, nd17, td18⟩); clear td18; have hd19 := nd17.blk; have xd20 := nd17.ext; have pd21 := nd17.pos; have zd22 := nd17.size; clear nd17; replace hd10 := hd10.ext xd20; replace qsd7 := qsd7.ext xd20; replace hbn := hbn.ext xd20; replace hown := hown.ext xd20; replace hbr := hbr.ext xd20; replace X := X.ext xd20; clear xd20; refine ⟨qsd7, ?_⟩; clear d_hd1 d_hbn d_hown d_hbr qsd7; refine tw_tail rfl ?_; refine lw_does (does_appendQ (R := (b9 < ·)) (sh := fpShape) (z := ⟨(nameP c.ts c.n (listP c.ts c.n σ').2).1, (listP c.ts c.n σ').1⟩) tabOk zOk rfl rfl rfl rfl (by kernel_rfl) rfl rfl rfl (by assumption) (fun _ h => by exact h) (Blk.row (by assumption)) rfl (by omega) (by omega)) rfl ?_ (fun _ h => h); rintro _ wd29 ⟨gd23, ⟨capd24, ⟨rfl, ⟨hd25, ⟨hd26, ⟨hd27, fd28⟩⟩⟩⟩⟩⟩; have zd30 := fd28.size; replace hd19 := Blk.fr hd19 fd28 (fun e => by have := hob _ e; omega); replace hd10 := PPF.fr hd10 fd28 (fun k hk => by have := hob _ hk; omega); replace hbn := Blk.fr hbn fd28 (fun e => by have := hob _ e; omega)
    clear hown; replace hbr := Blk.fr hbr fd28 (fun e => by have := hob _ e; omega); replace X := Fr.fr X fd28 (fun k hk => by have := hob _ hk; omega); clear fd28; refine C1 Pf ?_; (refine lw_store' [_] [_, _, _, _, _, _, _] tabOk rfl rfl rfl rfl rfl rfl hbn rfl rfl ?_; intro wd31 nd32); have hd35 := nd32.blk; have fd33 := nd32.fr; have zd34 := nd32.size; clear nd32 hbn; replace hd25 := OwnQ.fr hd25 fd33 (fun k hk => ⟨fun h => by (try dsimp only at hk h); omega, fun e => by have := OwnQ.ge (by assumption) e; (try dsimp only at hk); omega⟩); replace hd19 := hd19.fr fd33 (by omega); replace hd10 := hd10.fr fd33 (by omega); replace hbr := hbr.fr fd33 (by omega); replace X := X.fr fd33 (by omega); clear fd33; refine cN (C1 Mv ?_); refine cC rfl (faccept_t _ _ _ _ (by assumption) (by decide) (by assumption)) ?_; rintro _ wd38 ⟨⟨⟩, ⟨hd36, fd37⟩⟩; have zd39 := fd37.size; replace hd35 := hd35.fr fd37 (by omega); replace hd25 := OwnQ.fr hd25 fd37 (fun k hk => ⟨fun h => by (try dsimp only at hk h); omega, fun e => by have := OwnQ.ge (by assumption) e; (try dsimp only at hk); omega⟩); replace hd19 := hd19.fr fd37 (by omega); clear hd10; replace hbr := hbr.fr fd37 (by omega); replace X := X.fr fd37 (by omega); clear fd37; refine C1 Pt (cT (cw_cond_f rfl (cw_skip (qw_block_norm ?_)))); rotate_left 1
   exact qw_round (j, acc ++ [⟨(nameP c.ts c.n (listP c.ts c.n σ').2).1, (listP c.ts c.n σ').1⟩], some ⟨_, 0, none⟩, _, nextP (nameP c.ts c.n (listP c.ts c.n σ').2).2) (by (refine sub_cons rfl ?_; refine sub_cons rfl ?_; refine sub_cons rfl ?_; exact sub_nil)) ⟨by assumption, by assumption, by assumption, by assumption, X, by omega, rfl, by simp only; omega, by simp only; omega, by simp only [List.length_append, List.length_cons, List.length_nil]; omega⟩ (by simp)
end Bk
namespace Bk
open Go Go.RowKit Go.Proofs
attribute [local irreducible] Go.Calls
theorem pur_bneqF {P : Program} {n : Nat} {l : Sl} {S : World → Prop} {tab : Tab} {t t' ty sz : Nat} {x y : Operand} {p q : Bool} (T : TabOk P tab) (ht : lookT tab t = some (.bool, sz)) (hx : ev l x = some (.bool p)) (hy : ev l y = some (.bool q)) : Pur P n l S (.binOp .neq t x y t') ty (.bool (decide (p ≠ q))) := by
 unfold Pur
 intro _ w dst pos after g ha _
 have e1 : (eqGuard .neq t x y (.bool p) (.bool q)).run P w = .ok () w := by unfold eqGuard; simp
 have hu : P.underlying t = some .bool := (T _ _ _ ht).under
 have e2 : (Op.equal t (.bool p) (.bool q)).run P w = .ok (p == q) w := by
  show (Op.equalIn (9999 + 1) t (.bool p) (.bool q)).run P w = _
  unfold Op.equalIn
  simp [run_underlying hu, Result.andThen]
 simp [execOp, ha.ev hx, ha.ev hy, e1, e2, binOp]
 cases p <;> cases q <;> rfl
theorem take_eq_succ {l q : List Bool} {j : Nat} (h1 : j < l.length) (h2 : j < q.length) (h : l.take j = q.take j) (hc : l[j] = q[j]) : l.take (j + 1) = q.take (j + 1) := by
 rw [List.take_succ_eq_append_getElem h1, List.take_succ_eq_append_getElem h2, h, hc]
theorem ne_at {l q : List Bool} {j : Nat} (h1 : j < l.length) (h2 : j < q.length) (hc : l[j] ≠ q[j]) : l ≠ q := by
 intro e; subst e; exact hc rfl
set_option maxRecDepth 100000 in
set_option maxHeartbeats 4000000 in
theorem sEqual_c (l q : List Bool) (S S' : Nat → Prop) (a a' : Option Addr) (c c' : Nat) (w : World) (hl : l.length ≤ 1000000) (hs : Els boolV S w l a) (hs' : Els boolV S' w q a') :
 Calls Tryz.prog 110 #[.slice a l.length c, .slice a' q.length c'] w fun e w' => e = .returned (.bool (decide (l = q))) ∧ Ext w w' := by
 have X := Ext.refl w
 by_cases hlen : l.length = q.length
 · refine calls_in Tryz.func110 Tryz.ntmps110 rfl rfl ?_
   focus
    refine cS (C1 Pa (cT (cw_seq (cS (C1 Mv (C1 Pz (C1 Mv (C1 Pz (C1 V2 (cT (Wno ?_))))))))))); refine cw_skip (qw_then (cw_seq (cS (C1 Mv (C1 Pz (C1 Mv (cT (cw_block ?_)))))))); rotate_left 1
   refine cw_loop (ι := Nat) (fun j => [(0, .slice a l.length c), (1, .slice a' q.length c'), (12, .int .i64 l.length), (13, .int .i64 j)]) (fun j w' => Els boolV S w' l a ∧ Els boolV S' w' q a' ∧ Ext w w' ∧ j ≤ l.length ∧ l.take j = q.take j) (fun j => l.length - j) 0 (by (refine sub_cons rfl ?_; refine sub_cons rfl ?_; refine sub_cons rfl ?_; refine sub_cons rfl ?_; exact sub_nil)) ⟨hs, hs', X, Nat.zero_le _, by simp⟩ ?_; clear hs hs' X; rintro j w1 ⟨hs, hs', X, hj, hn⟩
   by_cases hlt : j < l.length
   · obtain ⟨kb, ko, rfl, -, hk⟩ := Arr.get hs (by omega)
     obtain ⟨kb', ko', rfl, -, hk'⟩ := Arr.get hs' (by omega); have r1 := hk j _ (List.getElem?_eq_getElem hlt); have r2 := hk' j _ (List.getElem?_eq_getElem (show j < q.length by omega)); have hnx := Lib.hid (take_eq_succ hlt (show j < q.length by omega) hn); have hnt := Lib.hid (ne_at hlt (show j < q.length by omega)); clear hk hk' hn
     generalize l[j] = x at *
     generalize q[j] = y at *
     by_cases hx : x = y
     · have hq := Lib.hid (hnx.out hx)
       clear hnx hnt
       focus
        refine cS (C1 V3 (cT (cw_seq (Wyo (cw_skip (qw_then (cw_seq (cw_block (cS (C1 Mv (C1 Pa ?_))))))))))); refine cT (cw_seq ?_); (refine cw_tdraw (fun wz => Ext w1 wz) 8 (.pure 0 (.pure 1 (.pure 2 (.pure 3 (.pure 4 (.pure 5 (.pure 6 (.pure 7 .tail)))))))) mixed (by kernel_rfl) (panicOk_then (panicOk_block (panicOk_then (panicOk_then (panicOk_block (panicOk_then panicOk_body)))))) ?_; intro wa1 xa2 _); have qsa3 : (fun wz => Ext w1 wz) wa1 := xa2; simp only at qsa3; have d_hs := hs; have d_hs' := hs'; have d_r1 := r1; have d_r2 := r2; have za4 := xa2.size; replace X := X.ext xa2; replace hs := hs.ext xa2; replace hs' := Els.ext hs' xa2; replace r1 := r1.ext xa2; replace r2 := r2.ext xa2; clear xa2; refine ⟨qsa3, ?_⟩; refine Tq rfl Mv (Tq rfl Mv (Tq rfl Pi (Tq rfl (pur_load tabOk rfl rfl rfl (fun wz hz => Row.at0 (Row.ext d_r1 hz) rfl)) (Tq rfl Mv (Tq rfl Mv (Tq rfl Pi (Tq rfl (pur_load tabOk rfl rfl rfl (fun wz hz => Row.at0 (Row.ext d_r2 hz) rfl)) ?_))))))); clear qsa3 d_hs d_hs' d_r1 d_r2; refine tw_tail rfl (C1 (pur_bneqF tabOk rfl rfl rfl) (cT ?_)); refine cw_no rfl (not_not_intro (by assumption)) ?_; refine cw_skip (qw_block_norm (qw_then (cw_region (C1 V7 (C1 Mv (lw_nil ?_)))))); rotate_left 1
       exact qw_round (j + 1) (by (refine sub_cons rfl ?_; refine sub_cons rfl ?_; refine sub_cons rfl ?_; refine sub_cons rfl ?_; exact sub_nil)) ⟨hs, hs', X, by omega, hq.out⟩ (by omega)
     · have hq := Lib.hid (hnt.out hx)
       clear hnx hnt
       focus
        refine cS (C1 V3 (cT (cw_seq (Wyo (cw_skip (qw_then (cw_seq (cw_block (cS (C1 Mv (C1 Pa ?_))))))))))); refine cT (cw_seq ?_); (refine cw_tdraw (fun wz => Ext w1 wz) 8 (.pure 0 (.pure 1 (.pure 2 (.pure 3 (.pure 4 (.pure 5 (.pure 6 (.pure 7 .tail)))))))) mixed (by kernel_rfl) (panicOk_then (panicOk_block (panicOk_then (panicOk_then (panicOk_block (panicOk_then panicOk_body)))))) ?_; intro wb1 xb2 _); have qsb3 : (fun wz => Ext w1 wz) wb1 := xb2; simp only at qsb3; have d_hs := hs; have d_hs' := hs'; have d_r1 := r1; have d_r2 := r2; have zb4 := xb2.size; replace X := X.ext xb2; replace hs := hs.ext xb2; replace hs' := Els.ext hs' xb2; replace r1 := r1.ext xb2; replace r2 := r2.ext xb2; clear xb2; refine ⟨qsb3, ?_⟩; refine Tq rfl Mv (Tq rfl Mv (Tq rfl Pi (Tq rfl (pur_load tabOk rfl rfl rfl (fun wz hz => Row.at0 (Row.ext d_r1 hz) rfl)) (Tq rfl Mv (Tq rfl Mv (Tq rfl Pi (Tq rfl (pur_load tabOk rfl rfl rfl (fun wz hz => Row.at0 (Row.ext d_r2 hz) rfl)) ?_))))))); clear qsb3 d_hs d_hs' d_r1 d_r2; refine tw_tail rfl (C1 (pur_bneqF tabOk rfl rfl rfl) (cT (Wya (cS (C1 Pa (cT (cw_ret (qw_block_ret (qw_then_ret (qw_then_ret (qw_block_ret ?_))))))))))); refine qw_then_ret (qw_ret1 rfl rfl ?_); rotate_left 1
       exact ret2 (by rw [decide_eq_false hq.out]) X
   · have hje : j = l.length := by omega
     subst hje; rw [List.take_length, hlen, List.take_length] at hn; have hq := Lib.hid hn; clear hn
     focus
      refine cS (C1 V3 (cT (cw_seq (Wno (cw_exit (qw_then_exit (qw_then_exit (qw_block_exit (qw_then (cS (C1 Pa ?_))))))))))); refine cT (cw_ret (qw_ret1 rfl rfl ?_)); rotate_left 1
     exact ret2 (by rw [decide_eq_true hq.out]) X
 · have hq := Lib.hid (show l ≠ q from fun e => hlen (by rw [e]))
   refine calls_in Tryz.func110 Tryz.ntmps110 rfl rfl ?_
   focus
    refine cS (C1 Pa (cT (cw_seq (cS (C1 Mv (C1 Pz (C1 Mv (C1 Pz (C1 V2 (cT (Wyo ?_))))))))))); refine cS (C1 Pa (cT (cw_ret (qw_then_ret (qw_ret1 rfl rfl ?_))))); rotate_left 1
   exact ret2 (by rw [decide_eq_false hq.out]) X
def VisOk (kvs : List (List UInt8 × Value)) (v : Vis) : Prop := ∀ s, getS kvs s = (seen v s).map Value.bool
theorem findI_none {lib : List FD} {s : List UInt8} (h : findF lib s = none) : findI lib s = -1 := by simp [findI, h]
theorem findI_some {lib : List FD} {s : List UInt8} {i : Nat} (h : findF lib s = some i) : findI lib s = i := by simp [findI, h]
theorem findF_lt {lib : List FD} {s : List UInt8} {i : Nat} (h : findF lib s = some i) : i < lib.length := by
 obtain ⟨h, -⟩ := List.findIdx?_eq_some_iff_getElem.1 h
 exact h
theorem Find_v {lib : List FD} {s : List UInt8} {q : Int} (h : findI lib s = q) (S : Nat → Prop) (a : Option Addr) (c : Nat) (w : World) (hL : lib.length ≤ 1000000) (hs : FDs S w lib a) :
 Calls Tryz.prog 67 #[.slice a lib.length c, str s] w fun e w' => e = .returned (.int .i64 q) ∧ Ext w w' := by
 have := Find_c lib s S a c w hL hs
 rw [h] at this; exact this
set_option maxRecDepth 100000 in
set_option maxHeartbeats 4000000 in
theorem reach_c (lib : List FD) (v : Vis) (kvs : List (List UInt8 × Value)) (r : Nat) (k n : Int) (s : List UInt8) (l : List Nd) (S : Nat → Prop) (la a : Option Addr) (lc c : Nat) (w : World) (hL : lib.length ≤ 1000000) (hV : VisOk kvs v) (hM : MapIs w r kvs) (hs : FDs S w lib la) (hk0 : l.length ≤ 1000000) :
 Calls Tryz.prog 98 #[.slice la lib.length lc, .map (some r), .agg #[.int .u8 k, .int .i64 n, str s, .slice a l.length c]] w fun e w' => e = .returned (.int .i64 (reachF lib v k s l.length)) ∧ Ext w w' := by
 have X := Ext.refl w; have hg := hV s; clear hV; replace hs := hs.ltA
 by_cases hk : k = 85
 · subst hk
   cases hf : findF lib s with
   | none =>
    have hq := findI_none hf; have HF := Lib.hid (Find_v hq); rw [show reachF lib v 85 s l.length = 6 from by simp [reachF, hf]]; clear hf hq
    cases hsn : seen v s with
    | none =>
     rw [hsn] at hg; simp only [Option.map_none] at hg; clear hsn; refine calls_in Tryz.func98 Tryz.ntmps98 rfl rfl ?_
     focus
      refine cS ?_; (refine lw_box' [_, _, _, _] rfl rfl rfl ?_; intro b1 w2 n3); have h4 := n3.blk; have x5 := n3.ext; have p6 := n3.pos; have z7 := n3.size; clear n3; replace hM := hM.ext x5; replace X := X.ext x5; replace hs := hs.ext x5; clear x5; refine C1 Pa (cN (C1 Mv (C1 Pf (C1 (Pl h4) ?_)))); refine C1 (pur_look_none tabOk rfl rfl rfl rfl rfl (fun wz hz => by subst hz; exact hM) (by assumption)) ?_; refine C1 Mv (C1 Px (C1 Px (C1 Pa (C1 Pa (cT (cw_seq (cS (C1 Pg (C1 (Pl h4) (cT (cw_block ?_))))))))))); refine cS (C1 V1 (C1 Pa (cT (Wnd (cS (C1 V1 (C1 Pa (cT (Wnd (cS (C1 V1 ?_))))))))))); refine C1 Pa (cT (Wyd (cS (C1 Mv (C1 Pf (C1 (Pl h4) ?_)))))); refine cC rfl (HF.out _ _ _ _ (by omega) (by assumption)) ?_; rintro _ w9 ⟨⟨⟩, x8⟩; have z10 := x8.size; replace h4 := h4.ext x8; replace hM := hM.ext x8; replace X := X.ext x8; replace hs := hs.ext x8; clear x8; refine C1 Pa (cT (cw_seq (cS (C1 Mv (C1 V3 (cT (Wyd (cS (C1 Pa (cT (cw_ret ?_))))))))))); refine qw_then_ret (qw_block_ret (qw_then_ret (qw_ret1 rfl rfl ?_))); rotate_left 1
     exact ⟨rfl, X⟩
    | some b =>
     rw [hsn] at hg; simp only [Option.map_some] at hg; clear hsn; refine calls_in Tryz.func98 Tryz.ntmps98 rfl rfl ?_
     focus
      refine cS ?_; (refine lw_box' [_, _, _, _] rfl rfl rfl ?_; intro ba1 wa2 na3); have ha4 := na3.blk; have xa5 := na3.ext; have pa6 := na3.pos; have za7 := na3.size; clear na3; replace hM := hM.ext xa5; replace X := X.ext xa5; replace hs := hs.ext xa5; clear xa5; refine C1 Pa (cN (C1 Mv (C1 Pf (C1 (Pl ha4) ?_)))); refine C1 (pur_look_some tabOk rfl rfl rfl rfl rfl (fun wz hz => by subst hz; exact hM) (by assumption)) ?_; refine C1 Mv (C1 Px (C1 Px (C1 Pa (C1 Pa (cT (cw_seq (cS (C1 Pg (C1 (Pl ha4) (cT (cw_block ?_))))))))))); refine cS (C1 V1 (C1 Pa (cT (Wnd (cS (C1 V1 (C1 Pa (cT (Wnd (cS (C1 V1 ?_))))))))))); refine C1 Pa (cT (Wyd (cS (C1 Mv (C1 Pf (C1 (Pl ha4) ?_)))))); refine cC rfl (HF.out _ _ _ _ (by omega) (by assumption)) ?_; rintro _ wa9 ⟨⟨⟩, xa8⟩; have za10 := xa8.size; replace ha4 := ha4.ext xa8; replace hM := hM.ext xa8; replace X := X.ext xa8; replace hs := hs.ext xa8; clear xa8; refine C1 Pa (cT (cw_seq (cS (C1 Mv (C1 V3 (cT (Wyd (cS (C1 Pa (cT (cw_ret ?_))))))))))); refine qw_then_ret (qw_block_ret (qw_then_ret (qw_ret1 rfl rfl ?_))); rotate_left 1
     exact ⟨rfl, X⟩
   | some i =>
    have hil := findF_lt hf; have hq := findI_some hf; have HF := Lib.hid (Find_v hq); rw [show reachF lib v 85 s l.length = if l.length = lib[i].params.length then 0 else 7 from by simp [reachF, hf, List.getElem?_eq_getElem hil]]; clear hf hq
    cases hsn : seen v s with
    | none =>
     rw [hsn] at hg; simp only [Option.map_none] at hg; clear hsn; have hs2 := hs; obtain ⟨kb, ko, ⟨⟩, hkS, hk⟩ := Arr.get hs2 (by omega); obtain ⟨pa, pc, ba, bc, hr, h1, h2⟩ := hk i lib[i] (List.getElem?_eq_getElem hil); clear hk hs2
     generalize lib[i] = x at *
     refine calls_in Tryz.func98 Tryz.ntmps98 rfl rfl ?_
     focus
      refine cS ?_; (refine lw_box' [_, _, _, _] rfl rfl rfl ?_; intro bb1 wb2 nb3); have hb4 := nb3.blk; have xb5 := nb3.ext; have pb6 := nb3.pos; have zb7 := nb3.size; clear nb3; replace hM := hM.ext xb5; replace X := X.ext xb5; replace hs := hs.ext xb5; replace hr := hr.ext xb5; replace h1 := h1.ext xb5; replace h2 := Nd.sits.ext h2 xb5; clear xb5; refine C1 Pa (cN (C1 Mv (C1 Pf (C1 (Pl hb4) ?_)))); refine C1 (pur_look_none tabOk rfl rfl rfl rfl rfl (fun wz hz => by subst hz; exact hM) (by assumption)) ?_; refine C1 Mv (C1 Px (C1 Px (C1 Pa (C1 Pa (cT (cw_seq (cS (C1 Pg (C1 (Pl hb4) (cT (cw_block ?_))))))))))); refine cS (C1 V1 (C1 Pa (cT (Wnd (cS (C1 V1 (C1 Pa (cT (Wnd (cS (C1 V1 ?_))))))))))); refine C1 Pa (cT (Wyd (cS (C1 Mv (C1 Pf (C1 (Pl hb4) ?_)))))); refine cC rfl (HF.out _ _ _ _ (by omega) (by assumption)) ?_; rintro _ wb9 ⟨⟨⟩, xb8⟩; have zb10 := xb8.size; replace hb4 := hb4.ext xb8; replace hM := hM.ext xb8; replace X := X.ext xb8; replace hs := hs.ext xb8; replace hr := hr.ext xb8; replace h1 := h1.ext xb8; replace h2 := Nd.sits.ext h2 xb8; clear xb8; refine C1 Pa (cT (cw_seq (cS (C1 Mv (C1 V3 (cT (Wno (cw_skip (qw_then (cw_seq ?_)))))))))); (refine cw_tdraw (fun wz => Ext wb9 wz) 9 (.pure 0 (.pure 1 (.pure 2 (.pure 3 (.pure 4 (.pure 5 (.pure 6 (.pure 7 (.pure 8 .tail))))))))) mixed (by kernel_rfl) (panicOk_then (panicOk_block (panicOk_then panicOk_body))) ?_; intro wb11 xb12 _); have qsb13 : (fun wz => Ext wb9 wz) wb11 := xb12; simp only at qsb13; have d_hb4 := hb4
      have d_hM := hM; have d_hs := hs; have d_hr := hr; have d_h1 := h1; have d_h2 := h2; have zb14 := xb12.size; replace hb4 := hb4.ext xb12; replace hM := hM.ext xb12; replace X := X.ext xb12; replace hs := hs.ext xb12; replace hr := hr.ext xb12; replace h1 := h1.ext xb12; replace h2 := Nd.sits.ext h2 xb12; clear xb12; refine ⟨qsb13, ?_⟩; refine Tq rfl Pf (Tq rfl (Db d_hb4) (Tq rfl Pz (Tq rfl Mv (Tq rfl Mv (Tq rfl Pi (Tq rfl Pf (Tq rfl (Dr d_hr) (Tq rfl Pz ?_)))))))); clear qsb13 d_hb4 d_hM d_hs d_hr d_h1 d_h2; refine tw_tail rfl (C1 V2 (cT ?_)); refine cw_decn rfl (fun cb15 => ?_) (fun cb15 => ?_); refine cS (C1 Pa (cT (cw_ret (qw_block_ret (qw_then_ret (qw_ret1 rfl rfl ?_)))))); rotate_left 1; refine cw_skip (qw_block_norm (qw_then (cS (C1 Pa (cT (cw_ret (qw_ret1 rfl rfl ?_))))))); rotate_left 1
     all_goals first | (rw [if_pos (by omega)]; exact ⟨rfl, X⟩) | (rw [if_neg (by omega)]; exact ⟨rfl, X⟩)
    | some b =>
     rw [hsn] at hg; simp only [Option.map_some] at hg; clear hsn; have hs2 := hs; obtain ⟨kb, ko, ⟨⟩, hkS, hk⟩ := Arr.get hs2 (by omega); obtain ⟨pa, pc, ba, bc, hr, h1, h2⟩ := hk i lib[i] (List.getElem?_eq_getElem hil); clear hk hs2
     generalize lib[i] = x at *
     refine calls_in Tryz.func98 Tryz.ntmps98 rfl rfl ?_
     focus
      refine cS ?_; (refine lw_box' [_, _, _, _] rfl rfl rfl ?_; intro bc1 wc2 nc3); have hc4 := nc3.blk; have xc5 := nc3.ext; have pc6 := nc3.pos; have zc7 := nc3.size; clear nc3; replace hM := hM.ext xc5; replace X := X.ext xc5; replace hs := hs.ext xc5; replace hr := hr.ext xc5; replace h1 := h1.ext xc5; replace h2 := Nd.sits.ext h2 xc5; clear xc5; refine C1 Pa (cN (C1 Mv (C1 Pf (C1 (Pl hc4) ?_)))); refine C1 (pur_look_some tabOk rfl rfl rfl rfl rfl (fun wz hz => by subst hz; exact hM) (by assumption)) ?_; refine C1 Mv (C1 Px (C1 Px (C1 Pa (C1 Pa (cT (cw_seq (cS (C1 Pg (C1 (Pl hc4) (cT (cw_block ?_))))))))))); refine cS (C1 V1 (C1 Pa (cT (Wnd (cS (C1 V1 (C1 Pa (cT (Wnd (cS (C1 V1 ?_))))))))))); refine C1 Pa (cT (Wyd (cS (C1 Mv (C1 Pf (C1 (Pl hc4) ?_)))))); refine cC rfl (HF.out _ _ _ _ (by omega) (by assumption)) ?_; rintro _ wc9 ⟨⟨⟩, xc8⟩; have zc10 := xc8.size; replace hc4 := hc4.ext xc8; replace hM := hM.ext xc8; replace X := X.ext xc8; replace hs := hs.ext xc8; replace hr := hr.ext xc8; replace h1 := h1.ext xc8; replace h2 := Nd.sits.ext h2 xc8; clear xc8; refine C1 Pa (cT (cw_seq (cS (C1 Mv (C1 V3 (cT (Wno (cw_skip (qw_then (cw_seq ?_)))))))))); (refine cw_tdraw (fun wz => Ext wc9 wz) 9 (.pure 0 (.pure 1 (.pure 2 (.pure 3 (.pure 4 (.pure 5 (.pure 6 (.pure 7 (.pure 8 .tail))))))))) mixed (by kernel_rfl) (panicOk_then (panicOk_block (panicOk_then panicOk_body))) ?_; intro wc11 xc12 _); have qsc13 : (fun wz => Ext wc9 wz) wc11 := xc12; simp only at qsc13; have d_hc4 := hc4
      have d_hM := hM; have d_hs := hs; have d_hr := hr; have d_h1 := h1; have d_h2 := h2; have zc14 := xc12.size; replace hc4 := hc4.ext xc12; replace hM := hM.ext xc12; replace X := X.ext xc12; replace hs := hs.ext xc12; replace hr := hr.ext xc12; replace h1 := h1.ext xc12; replace h2 := Nd.sits.ext h2 xc12; clear xc12; refine ⟨qsc13, ?_⟩; refine Tq rfl Pf (Tq rfl (Db d_hc4) (Tq rfl Pz (Tq rfl Mv (Tq rfl Mv (Tq rfl Pi (Tq rfl Pf (Tq rfl (Dr d_hr) (Tq rfl Pz ?_)))))))); clear qsc13 d_hc4 d_hM d_hs d_hr d_h1 d_h2; refine tw_tail rfl (C1 V2 (cT ?_)); refine cw_decn rfl (fun cc15 => ?_) (fun cc15 => ?_); refine cS (C1 Pa (cT (cw_ret (qw_block_ret (qw_then_ret (qw_ret1 rfl rfl ?_)))))); rotate_left 1; refine cw_skip (qw_block_norm (qw_then (cS (C1 Pa (cT (cw_ret (qw_ret1 rfl rfl ?_))))))); rotate_left 1
     all_goals first | (rw [if_pos (by omega)]; exact ⟨rfl, X⟩) | (rw [if_neg (by omega)]; exact ⟨rfl, X⟩)
 · cases hsn : seen v s with
   | none =>
    rw [hsn] at hg; simp only [Option.map_none] at hg; refine calls_in Tryz.func98 Tryz.ntmps98 rfl rfl ?_
    focus
     refine cS ?_; (refine lw_box' [_, _, _, _] rfl rfl rfl ?_; intro bd1 wd2 nd3); have hd4 := nd3.blk; have xd5 := nd3.ext; have pd6 := nd3.pos; have zd7 := nd3.size; clear nd3; replace hM := hM.ext xd5; replace X := X.ext xd5; replace hs := hs.ext xd5; clear xd5; refine C1 Pa (cN (C1 Mv (C1 Pf (C1 (Pl hd4) ?_)))); refine C1 (pur_look_none tabOk rfl rfl rfl rfl rfl (fun wz hz => by subst hz; exact hM) (by assumption)) ?_; refine C1 Mv (C1 Px (C1 Px (C1 Pa (C1 Pa (cT (cw_seq (cS (C1 Pg (C1 (Pl hd4) (cT (cw_block ?_))))))))))); refine cS (C1 V1 (C1 Pa (cT ?_))); refine cw_dec rfl (fun cd8 => ?_) (fun cd8 => ?_); refine cS (C1 Mv (C1 Pt (cT (cw_cond_t rfl (cS (C1 Pa (cT (cw_ret (qw_block_ret (qw_then_ret (qw_ret1 rfl rfl ?_))))))))))); rotate_left 1; refine cS (C1 V1 (C1 Pa (cT ?_))); refine cw_dec rfl (fun cd9 => ?_) (fun cd9 => ?_); refine cS (C1 Mv (cT (cw_cond_f rfl (cw_skip (qw_block_norm (qw_then (cS (C1 Pa (cT (cw_ret (qw_ret1 rfl rfl ?_))))))))))); rotate_left 1; refine cS (C1 V1 (C1 Pa (cT (Wna (cw_skip (qw_block_norm (qw_then (cS (C1 Pa (cT (cw_ret ?_))))))))))); refine qw_ret1 rfl rfl ?_; rotate_left 1
    all_goals exact ⟨by simp [reachF, *], X⟩
   | some b =>
    rw [hsn] at hg; simp only [Option.map_some] at hg; refine calls_in Tryz.func98 Tryz.ntmps98 rfl rfl ?_
    focus
     refine cS ?_; (refine lw_box' [_, _, _, _] rfl rfl rfl ?_; intro be1 we2 ne3); have he4 := ne3.blk; have xe5 := ne3.ext; have pe6 := ne3.pos; have ze7 := ne3.size; clear ne3; replace hM := hM.ext xe5; replace X := X.ext xe5; replace hs := hs.ext xe5; clear xe5; refine C1 Pa (cN (C1 Mv (C1 Pf (C1 (Pl he4) ?_)))); refine C1 (pur_look_some tabOk rfl rfl rfl rfl rfl (fun wz hz => by subst hz; exact hM) (by assumption)) ?_; refine C1 Mv (C1 Px (C1 Px (C1 Pa (C1 Pa (cT (cw_seq (cS (C1 Pg (C1 (Pl he4) (cT (cw_block ?_))))))))))); refine cS (C1 V1 (C1 Pa (cT ?_))); refine cw_dec rfl (fun ce8 => ?_) (fun ce8 => ?_); refine cS (C1 Mv (C1 Pt (cT (cw_cond_f rfl (cw_skip (qw_block_norm (qw_then (cS (C1 Pa (cT (cw_ret ?_))))))))))); refine qw_ret1 rfl rfl ?_; rotate_left 1; refine cS (C1 V1 (C1 Pa (cT ?_))); refine cw_dec rfl (fun ce9 => ?_) (fun ce9 => ?_); refine cS (C1 Mv (cT (cw_cond_t rfl (cS (C1 Pa (cT (cw_ret (qw_block_ret (qw_then_ret (qw_ret1 rfl rfl ?_)))))))))); rotate_left 1; refine cS (C1 V1 (C1 Pa (cT (Wna (cw_skip (qw_block_norm (qw_then (cS (C1 Pa (cT (cw_ret ?_))))))))))); refine qw_ret1 rfl rfl ?_; rotate_left 1
    all_goals exact ⟨by simp [reachF, *], X⟩
end Bk
namespace Bk
open Go Go.RowKit Go.Proofs
attribute [local irreducible] Go.Calls
section
variable {P : Program} {n : Nat} {l : Sl} {w : World} {tab : Tab} {zt : ZTab} {ty : TypeId} {α : Type} {sh : Shape α}
theorem lw_appendQ {ops : Array Oper} {Q : Exit → Act → World → Prop} {rest : List Oper} {d : Nat} {pos : String} {after : Array Edge} {x y : Operand} {t e sz1 B cap : Nat} {R R' : Nat → Prop} {sE : Sk} {zs : List Value} {v : Value} {xs : List α} {cs : List Value} {z : α} {p : Addr} (T : TabOk P tab) (Z : ZTabOk P zt) (ht : lookT tab t = some (.slice e, sz1)) (hE : lookT tab e = some (sE, sh.sz)) (hz : lookZ zt e = some zs) (hzl : zs.length = sh.sz)
 (hby : bytesOk P e = true) (hsz : Nat.blt 0 sh.sz = true) (hx : ev l x = some v) (hy : ev l y = some (.slice (some p) 1 cap)) (hown : OwnQ sh w R' B e v xs) (hw : ∀ b, R' b → R b) (hr : Row w p cs) (hrep : sh.rep w (fun b => R b ∧ v.ownBlock ≠ some b) z cs) (hlen : xs.length ≤ 10000000000) (hB : B ≤ w.heap.size) (hd : Nat.blt d n = true)
 (k : ∀ g cap' w1, OwnQ sh w1 R B e (.slice (some ⟨g, 0, none⟩) (xs ++ [z]).length cap') (xs ++ [z]) → (v.ownBlock = some g ∨ w.heap.size ≤ g) → g < w1.heap.size → Fr (fun k => v.ownBlock = some k) w w1 → LW P n ops Q rest ((d, .slice (some ⟨g, 0, none⟩) (xs ++ [z]).length cap') :: l) w1) :
 LW P n ops Q (⟨some d, .call ⟨.builtin .append, #[x, y], #[t, t]⟩, ty, pos, after, none⟩ :: rest) l w :=
 lw_does (does_appendQ T Z ht hE hz hzl hby hsz hx hy hown hw hr hrep hlen hB) hd (fun v w1 ⟨g, cap, h, ho, h1, h2, hf⟩ => by subst h; exact k g cap w1 ho h1 h2 hf) (fun _ h => h)
end
theorem lits_els {q : List Bool} {w : World} {b : Nat} (h : Blk w b (q.map boolV)) : Els boolV (fun _ => True) w q (some ⟨b, 0, none⟩) := row_els trivial (Blk.row h)
theorem map_snoc {l : List FP} {j : Nat} (hj : j < l.length) : ((l.take (j + 1)).map FP.list) = (l.take j).map FP.list ++ [l[j].list] := by
 rw [List.take_succ_eq_append_getElem hj, List.map_append]; rfl
def ResultR (w : World) (r : Bool × Int) (e : Ending) (w' : World) : Prop := e = .returned (.tuple #[.bool r.1, .int .i64 r.2]) ∧ Ext w w'
theorem resultR {w w' : World} {r : Bool × Int} {b : Bool} {e : Int} (h : r = (b, e)) (x : Ext w w') : ResultR w r (.returned (.tuple #[.bool b, .int .i64 e])) w' := ⟨by rw [h], x⟩
set_option maxRecDepth 100000 in
set_option maxHeartbeats 4000000 in
theorem result_82 (lib : List FD) (k n : Int) (s : List UInt8) (l : List Nd) (ty : List Bool) (S T : Nat → Prop) (la a ta : Option Addr) (lc c tc : Nat) (w : World) (hl : ty.length ≤ 1000000) (hs : Els boolV T w ty ta) (hk : k = 82) :
 Calls Tryz.prog 99 #[.slice la lib.length lc, .agg #[.int .u8 k, .int .i64 n, str s, .slice a l.length c], .slice ta ty.length tc] w (ResultR w (typeF lib k s ty)) := by
 have X := Ext.refl w; replace hs := hs.ltA; subst hk; refine calls_in Tryz.func99 Tryz.ntmps99 rfl rfl ?_
 focus
  refine cS ?_; (refine lw_box' [_, _, _, _] rfl rfl rfl ?_; intro b1 w2 n3); have h4 := n3.blk; have x5 := n3.ext; have p6 := n3.pos; have z7 := n3.size; clear n3; replace X := X.ext x5; replace hs := hs.ext x5; clear x5; refine C1 Pa (C1 Pa (cN (C1 Pa (cN (C1 Pa (cT (cw_seq (cS (C1 Pg (C1 (Pl h4) (cT ?_))))))))))); refine cw_block (cS (C1 V1 (C1 Pa (cT (Wyd (cw_region ?_)))))); (refine lw_does (does_slice' [_, _] tabOk zOk rfl rfl rfl rfl rfl rfl rfl rfl rfl) rfl ?_ (fun _ h => h); rintro _ w9 ⟨b8, rfl, n10, t11⟩); clear t11; have h12 := n10.blk; have x13 := n10.ext; have p14 := n10.pos; have z15 := n10.size; clear n10; replace h4 := h4.ext x13; replace X := X.ext x13; replace hs := hs.ext x13; clear x13; refine C1 Pa (lw_nil (qw_block_norm (qw_then (cw_seq (cS (C1 Mv (C1 Mv ?_))))))); refine cC rfl (sEqual_c ty [false, false] _ (fun _ => True) _ _ _ _ _ (by omega) (by assumption) (lits_els (by assumption))) ?_; rintro _ w17 ⟨⟨⟩, x16⟩; have z18 := x16.size; replace h12 := h12.ext x16; replace h4 := h4.ext x16; replace X := X.ext x16; replace hs := hs.ext x16; clear x16; refine C1 Pt (cT ?_); refine cw_ncond rfl (fun c19 => ?_) (fun c19 => ?_); refine cS (C1 Pa (C1 Pa (cT (cw_ret (qw_then_ret (qw_ret2 rfl rfl rfl ?_)))))); rotate_left 1; refine cw_skip (qw_then (cS (C1 Mv (C1 Pa (C1 Pa (cT (cw_ret (qw_ret2 rfl rfl rfl ?_)))))))); rotate_left 1
 all_goals exact resultR (by (try simp only [decide_eq_false_iff_not, decide_eq_true_eq] at *); simp [typeF, *]) X
set_option maxRecDepth 100000 in
set_option maxHeartbeats 4000000 in
theorem result_83 (lib : List FD) (k n : Int) (s : List UInt8) (l : List Nd) (ty : List Bool) (S T : Nat → Prop) (la a ta : Option Addr) (lc c tc : Nat) (w : World) (hl : ty.length ≤ 1000000) (hs : Els boolV T w ty ta) (hk : k = 83) (h2 : 2 ≤ ty.length) :
 Calls Tryz.prog 99 #[.slice la lib.length lc, .agg #[.int .u8 k, .int .i64 n, str s, .slice a l.length c], .slice ta ty.length tc] w (ResultR w (typeF lib k s ty)) := by
 have X := Ext.refl w; replace hs := hs.ltA; subst hk; obtain ⟨kb, ko, ⟨⟩, hkS, hk1⟩ := Arr.get hs (by omega); have r1 := hk1 1 (ty.getD 1 false) (by rw [List.getElem?_eq_getElem (by omega), List.getD_eq_getElem?_getD, List.getElem?_eq_getElem (by omega)]; rfl); clear hk1
 generalize hb : ty.getD 1 false = b at *
 refine calls_in Tryz.func99 Tryz.ntmps99 rfl rfl ?_
 focus
  refine cS ?_; (refine lw_box' [_, _, _, _] rfl rfl rfl ?_; intro b1 w2 n3); have h4 := n3.blk; have x5 := n3.ext; have p6 := n3.pos; have z7 := n3.size; clear n3; replace X := X.ext x5; replace hs := hs.ext x5; replace r1 := r1.ext x5; clear x5; refine C1 Pa (C1 Pa (cN (C1 Pa (cN (C1 Pa (cT (cw_seq (cS (C1 Pg (C1 (Pl h4) (cT ?_))))))))))); refine cw_block (cS (C1 V1 (C1 Pa (cT (Wnd (cS (C1 V1 (C1 Pa (cT (Wyd (cS ?_))))))))))); refine C1 Mv (C1 Pi (C1 (Pw0 r1) (C1 Pa (cT (cw_region (C1 Mv (C1 Mv ?_))))))); (refine lw_does (does_slice' [_, _, _] tabOk zOk rfl rfl rfl rfl rfl rfl rfl rfl rfl) rfl ?_ (fun _ h => h); rintro _ w9 ⟨b8, rfl, n10, t11⟩); clear t11; have h12 := n10.blk; have x13 := n10.ext; have p14 := n10.pos; have z15 := n10.size; clear n10; replace h4 := h4.ext x13; replace X := X.ext x13; replace hs := hs.ext x13; replace r1 := r1.ext x13; clear x13; refine C1 Pa (lw_nil (qw_block_norm (qw_then (cw_seq (cS (C1 Mv (C1 Mv ?_))))))); refine cC rfl (sEqual_c ty [false, b, b] _ (fun _ => True) _ _ _ _ _ (by omega) (by assumption) (lits_els (by assumption))) ?_; rintro _ w17 ⟨⟨⟩, x16⟩; have z18 := x16.size; replace h12 := h12.ext x16; replace h4 := h4.ext x16; replace X := X.ext x16; replace hs := hs.ext x16; replace r1 := r1.ext x16; clear x16; refine C1 Pt (cT ?_); refine cw_ncond rfl (fun c19 => ?_) (fun c19 => ?_); refine cS (C1 Pa (C1 Pa (cT (cw_ret (qw_then_ret (qw_ret2 rfl rfl rfl ?_)))))); rotate_left 1; refine cw_skip (qw_then (cS (C1 Mv (C1 Pa (C1 Pa (cT (cw_ret (qw_ret2 rfl rfl rfl ?_))))))))
  rotate_left 1
 all_goals exact resultR (by (try simp only [decide_eq_false_iff_not, decide_eq_true_eq] at *); first | exact absurd trivial (by assumption) | (simp only [typeF, hb]; simp [*])) X
set_option maxRecDepth 100000 in
set_option maxHeartbeats 4000000 in
theorem result_84 (lib : List FD) (k n : Int) (s : List UInt8) (l : List Nd) (ty : List Bool) (S T : Nat → Prop) (la a ta : Option Addr) (lc c tc : Nat) (w : World) (hl : ty.length ≤ 1000000) (hs : Els boolV T w ty ta) (hk : k = 84) (h2 : 2 ≤ ty.length) :
 Calls Tryz.prog 99 #[.slice la lib.length lc, .agg #[.int .u8 k, .int .i64 n, str s, .slice a l.length c], .slice ta ty.length tc] w (ResultR w (typeF lib k s ty)) := by
 have X := Ext.refl w; replace hs := hs.ltA; subst hk; obtain ⟨kb, ko, ⟨⟩, hkS, hk1⟩ := Arr.get hs (by omega); have r1 := hk1 1 (ty.getD 1 false) (by rw [List.getElem?_eq_getElem (by omega), List.getD_eq_getElem?_getD, List.getElem?_eq_getElem (by omega)]; rfl); clear hk1
 generalize hb : ty.getD 1 false = b at *
 refine calls_in Tryz.func99 Tryz.ntmps99 rfl rfl ?_
 focus
  refine cS ?_; (refine lw_box' [_, _, _, _] rfl rfl rfl ?_; intro b1 w2 n3); have h4 := n3.blk; have x5 := n3.ext; have p6 := n3.pos; have z7 := n3.size; clear n3; replace X := X.ext x5; replace hs := hs.ext x5; replace r1 := r1.ext x5; clear x5; refine C1 Pa (C1 Pa (cN (C1 Pa (cN (C1 Pa (cT (cw_seq (cS (C1 Pg (C1 (Pl h4) (cT ?_))))))))))); refine cw_block (cS (C1 V1 (C1 Pa (cT (Wnd (cS (C1 V1 (C1 Pa (cT (Wnd (cS ?_))))))))))); refine C1 V1 (C1 Pa (cT (Wyd (cS (C1 Mv (C1 Pi (C1 (Pw0 r1) (C1 Pa (cT (cw_region (C1 Mv ?_))))))))))); refine C1 Pa (lw_nil (qw_block_norm (qw_then (cw_seq (cS (C1 Mv (C1 Mv ?_))))))); refine cC rfl (sEqual_c ty ty _ _ _ _ _ _ _ (by omega) (by assumption) (by assumption)) ?_; rintro _ w9 ⟨⟨⟩, x8⟩; have z10 := x8.size; replace h4 := h4.ext x8; replace X := X.ext x8; replace hs := hs.ext x8; replace r1 := r1.ext x8; clear x8; refine C1 Pt (cT ?_); refine cw_ncond rfl (fun c11 => ?_) (fun c11 => ?_); refine cS (C1 Pa (C1 Pa (cT (cw_ret (qw_then_ret (qw_ret2 rfl rfl rfl ?_)))))); rotate_left 1; refine cw_skip (qw_then (cS (C1 Mv (C1 Pa (C1 Pa (cT (cw_ret (qw_ret2 rfl rfl rfl ?_)))))))); rotate_left 1
 all_goals exact resultR (by (try simp only [decide_eq_false_iff_not, decide_eq_true_eq] at *); first | exact absurd trivial (by assumption) | (simp only [typeF, hb]; simp [*])) X
set_option maxRecDepth 100000 in
set_option maxHeartbeats 4000000 in
theorem result_86 (lib : List FD) (k n : Int) (s : List UInt8) (l : List Nd) (ty : List Bool) (S T : Nat → Prop) (la a ta : Option Addr) (lc c tc : Nat) (w : World) (hl : ty.length ≤ 1000000) (hs : Els boolV T w ty ta) (hk : k = 86) :
 Calls Tryz.prog 99 #[.slice la lib.length lc, .agg #[.int .u8 k, .int .i64 n, str s, .slice a l.length c], .slice ta ty.length tc] w (ResultR w (typeF lib k s ty)) := by
 have X := Ext.refl w; replace hs := hs.ltA; subst hk; refine calls_in Tryz.func99 Tryz.ntmps99 rfl rfl ?_
 focus
  refine cS ?_; (refine lw_box' [_, _, _, _] rfl rfl rfl ?_; intro b1 w2 n3); have h4 := n3.blk; have x5 := n3.ext; have p6 := n3.pos; have z7 := n3.size; clear n3; replace X := X.ext x5; replace hs := hs.ext x5; clear x5; refine C1 Pa (C1 Pa (cN (C1 Pa (cN (C1 Pa (cT (cw_seq (cS (C1 Pg (C1 (Pl h4) (cT ?_))))))))))); refine cw_block (cS (C1 V1 (C1 Pa (cT (Wnd (cS (C1 V1 (C1 Pa (cT (Wnd (cS ?_))))))))))); refine C1 V1 (C1 Pa (cT (Wnd (cS (C1 V1 (C1 Pa (cT (Wnd (cS (C1 V1 (C1 Pa ?_))))))))))); refine cT (Wyd (cw_region (C1 Pa (lw_nil (qw_block_norm (qw_then (cw_seq (cS (C1 Mv (C1 Mv ?_)))))))))); refine cC rfl (sEqual_c ty [] _ (fun _ => True) _ _ _ _ _ (by omega) (by assumption) Els.nil) ?_; rintro _ w9 ⟨⟨⟩, x8⟩; have z10 := x8.size; replace h4 := h4.ext x8; replace X := X.ext x8; replace hs := hs.ext x8; clear x8; refine C1 Pt (cT ?_); refine cw_ncond rfl (fun c11 => ?_) (fun c11 => ?_); refine cS (C1 Pa (C1 Pa (cT (cw_ret (qw_then_ret (qw_ret2 rfl rfl rfl ?_)))))); rotate_left 1; refine cw_skip (qw_then (cS (C1 Mv (C1 Pa (C1 Pa (cT (cw_ret (qw_ret2 rfl rfl rfl ?_)))))))); rotate_left 1
 all_goals exact resultR (by (try simp only [decide_eq_false_iff_not, decide_eq_true_eq] at *); simp [typeF, *]) X
set_option maxRecDepth 100000 in
set_option maxHeartbeats 4000000 in
theorem result_87 (lib : List FD) (k n : Int) (s : List UInt8) (l : List Nd) (ty : List Bool) (S T : Nat → Prop) (la a ta : Option Addr) (lc c tc : Nat) (w : World) (hl : ty.length ≤ 1000000) (hs : Els boolV T w ty ta) (hk : k = 87) :
 Calls Tryz.prog 99 #[.slice la lib.length lc, .agg #[.int .u8 k, .int .i64 n, str s, .slice a l.length c], .slice ta ty.length tc] w (ResultR w (typeF lib k s ty)) := by
 have X := Ext.refl w; replace hs := hs.ltA; subst hk; refine calls_in Tryz.func99 Tryz.ntmps99 rfl rfl ?_
 focus
  refine cS ?_; (refine lw_box' [_, _, _, _] rfl rfl rfl ?_; intro b1 w2 n3); have h4 := n3.blk; have x5 := n3.ext; have p6 := n3.pos; have z7 := n3.size; clear n3; replace X := X.ext x5; replace hs := hs.ext x5; clear x5; refine C1 Pa (C1 Pa (cN (C1 Pa (cN (C1 Pa (cT (cw_seq (cS (C1 Pg (C1 (Pl h4) (cT ?_))))))))))); refine cw_block (cS (C1 V1 (C1 Pa (cT (Wnd (cS (C1 V1 (C1 Pa (cT (Wnd (cS ?_))))))))))); refine C1 V1 (C1 Pa (cT (Wnd (cS (C1 V1 (C1 Pa (cT (Wnd (cS (C1 V1 (C1 Pa ?_))))))))))); refine cT (Wnd (cS (C1 V1 (C1 Pa (cT (Wyd (cS ?_))))))); (refine lw_does (does_slice' [_, _] tabOk zOk rfl rfl rfl rfl rfl rfl rfl rfl rfl) rfl ?_ (fun _ h => h); rintro _ w9 ⟨b8, rfl, n10, t11⟩); clear t11; have h12 := n10.blk; have x13 := n10.ext; have p14 := n10.pos; have z15 := n10.size; clear n10; replace h4 := h4.ext x13; replace X := X.ext x13; replace hs := hs.ext x13; clear x13; refine C1 Pa (cT (cw_region (C1 Pa (lw_nil (qw_block_norm (qw_then (cw_seq (cS (C1 Mv (C1 Mv ?_)))))))))); refine cC rfl (sEqual_c ty [false, true] _ (fun _ => True) _ _ _ _ _ (by omega) (by assumption) (lits_els (by assumption))) ?_; rintro _ w17 ⟨⟨⟩, x16⟩; have z18 := x16.size; replace h12 := h12.ext x16; replace h4 := h4.ext x16; replace X := X.ext x16; replace hs := hs.ext x16; clear x16; refine C1 Pt (cT ?_); refine cw_ncond rfl (fun c19 => ?_) (fun c19 => ?_); refine cS (C1 Pa (C1 Pa (cT (cw_ret (qw_then_ret (qw_ret2 rfl rfl rfl ?_)))))); rotate_left 1; refine cw_skip (qw_then (cS (C1 Mv (C1 Pa (C1 Pa (cT (cw_ret (qw_ret2 rfl rfl rfl ?_))))))))
  rotate_left 1
 all_goals exact resultR (by (try simp only [decide_eq_false_iff_not, decide_eq_true_eq] at *); simp [typeF, *]) X
set_option maxRecDepth 100000 in
set_option maxHeartbeats 4000000 in
theorem result_88 (lib : List FD) (k n : Int) (s : List UInt8) (l : List Nd) (ty : List Bool) (S T : Nat → Prop) (la a ta : Option Addr) (lc c tc : Nat) (w : World) (hl : ty.length ≤ 1000000) (hs : Els boolV T w ty ta) (hk : k = 88) :
 Calls Tryz.prog 99 #[.slice la lib.length lc, .agg #[.int .u8 k, .int .i64 n, str s, .slice a l.length c], .slice ta ty.length tc] w (ResultR w (typeF lib k s ty)) := by
 have X := Ext.refl w; replace hs := hs.ltA; subst hk; refine calls_in Tryz.func99 Tryz.ntmps99 rfl rfl ?_
 focus
  refine cS ?_; (refine lw_box' [_, _, _, _] rfl rfl rfl ?_; intro b1 w2 n3); have h4 := n3.blk; have x5 := n3.ext; have p6 := n3.pos; have z7 := n3.size; clear n3; replace X := X.ext x5; replace hs := hs.ext x5; clear x5; refine C1 Pa (C1 Pa (cN (C1 Pa (cN (C1 Pa (cT (cw_seq (cS (C1 Pg (C1 (Pl h4) (cT ?_))))))))))); refine cw_block (cS (C1 V1 (C1 Pa (cT (Wnd (cS (C1 V1 (C1 Pa (cT (Wnd (cS ?_))))))))))); refine C1 V1 (C1 Pa (cT (Wnd (cS (C1 V1 (C1 Pa (cT (Wnd (cS (C1 V1 (C1 Pa ?_))))))))))); refine cT (Wnd (cS (C1 V1 (C1 Pa (cT (Wnd (cw_seq (cS (C1 V1 (C1 Pa (cT ?_))))))))))); refine Wyd (cw_skip (qw_then (Wyd (cw_region ?_)))); (refine lw_does (does_slice' [_] tabOk zOk rfl rfl rfl rfl rfl rfl rfl rfl rfl) rfl ?_ (fun _ h => h); rintro _ w9 ⟨b8, rfl, n10, t11⟩); clear t11; have h12 := n10.blk; have x13 := n10.ext; have p14 := n10.pos; have z15 := n10.size; clear n10; replace h4 := h4.ext x13; replace X := X.ext x13; replace hs := hs.ext x13; clear x13; refine C1 Pa (lw_nil (qw_block_norm (qw_then (cw_seq (cS (C1 Mv (C1 Mv ?_))))))); refine cC rfl (sEqual_c ty [true] _ (fun _ => True) _ _ _ _ _ (by omega) (by assumption) (lits_els (by assumption))) ?_; rintro _ w17 ⟨⟨⟩, x16⟩; have z18 := x16.size; replace h12 := h12.ext x16; replace h4 := h4.ext x16; replace X := X.ext x16; replace hs := hs.ext x16; clear x16; refine C1 Pt (cT ?_); refine cw_ncond rfl (fun c19 => ?_) (fun c19 => ?_); refine cS (C1 Pa (C1 Pa (cT (cw_ret (qw_then_ret (qw_ret2 rfl rfl rfl ?_)))))); rotate_left 1
  refine cw_skip (qw_then (cS (C1 Mv (C1 Pa (C1 Pa (cT (cw_ret (qw_ret2 rfl rfl rfl ?_)))))))); rotate_left 1
 all_goals exact resultR (by (try simp only [decide_eq_false_iff_not, decide_eq_true_eq] at *); simp [typeF, *]) X
set_option maxRecDepth 100000 in
set_option maxHeartbeats 4000000 in
theorem result_90 (lib : List FD) (k n : Int) (s : List UInt8) (l : List Nd) (ty : List Bool) (S T : Nat → Prop) (la a ta : Option Addr) (lc c tc : Nat) (w : World) (hl : ty.length ≤ 1000000) (hs : Els boolV T w ty ta) (hk : k = 90) :
 Calls Tryz.prog 99 #[.slice la lib.length lc, .agg #[.int .u8 k, .int .i64 n, str s, .slice a l.length c], .slice ta ty.length tc] w (ResultR w (typeF lib k s ty)) := by
 have X := Ext.refl w; replace hs := hs.ltA; subst hk; refine calls_in Tryz.func99 Tryz.ntmps99 rfl rfl ?_
 focus
  refine cS ?_; (refine lw_box' [_, _, _, _] rfl rfl rfl ?_; intro b1 w2 n3); have h4 := n3.blk; have x5 := n3.ext; have p6 := n3.pos; have z7 := n3.size; clear n3; replace X := X.ext x5; replace hs := hs.ext x5; clear x5; refine C1 Pa (C1 Pa (cN (C1 Pa (cN (C1 Pa (cT (cw_seq (cS (C1 Pg (C1 (Pl h4) (cT ?_))))))))))); refine cw_block (cS (C1 V1 (C1 Pa (cT (Wnd (cS (C1 V1 (C1 Pa (cT (Wnd (cS ?_))))))))))); refine C1 V1 (C1 Pa (cT (Wnd (cS (C1 V1 (C1 Pa (cT (Wnd (cS (C1 V1 (C1 Pa ?_))))))))))); refine cT (Wnd (cS (C1 V1 (C1 Pa (cT (Wnd (cw_seq (cS (C1 V1 (C1 Pa (cT ?_))))))))))); refine Wnd (cw_region (C1 V1 (C1 Pa (cT (Wyd (cw_region ?_)))))); (refine lw_does (does_slice' [_] tabOk zOk rfl rfl rfl rfl rfl rfl rfl rfl rfl) rfl ?_ (fun _ h => h); rintro _ w9 ⟨b8, rfl, n10, t11⟩); clear t11; have h12 := n10.blk; have x13 := n10.ext; have p14 := n10.pos; have z15 := n10.size; clear n10; replace h4 := h4.ext x13; replace X := X.ext x13; replace hs := hs.ext x13; clear x13; refine C1 Pa (lw_nil (qw_block_norm (qw_then (cw_seq (cS (C1 Mv (C1 Mv ?_))))))); refine cC rfl (sEqual_c ty [true] _ (fun _ => True) _ _ _ _ _ (by omega) (by assumption) (lits_els (by assumption))) ?_; rintro _ w17 ⟨⟨⟩, x16⟩; have z18 := x16.size; replace h12 := h12.ext x16; replace h4 := h4.ext x16; replace X := X.ext x16; replace hs := hs.ext x16; clear x16; refine C1 Pt (cT ?_); refine cw_ncond rfl (fun c19 => ?_) (fun c19 => ?_); refine cS (C1 Pa (C1 Pa (cT (cw_ret (qw_then_ret (qw_ret2 rfl rfl rfl ?_)))))); rotate_left 1
  refine cw_skip (qw_then (cS (C1 Mv (C1 Pa (C1 Pa (cT (cw_ret (qw_ret2 rfl rfl rfl ?_)))))))); rotate_left 1
 all_goals exact resultR (by (try simp only [decide_eq_false_iff_not, decide_eq_true_eq] at *); simp [typeF, *]) X
set_option maxRecDepth 100000 in
set_option maxHeartbeats 4000000 in
theorem result_89 (lib : List FD) (k n : Int) (s : List UInt8) (l : List Nd) (ty : List Bool) (S T : Nat → Prop) (la a ta : Option Addr) (lc c tc : Nat) (w : World) (hl : ty.length ≤ 1000000) (hs : Els boolV T w ty ta) (hk : k = 89) :
 Calls Tryz.prog 99 #[.slice la lib.length lc, .agg #[.int .u8 k, .int .i64 n, str s, .slice a l.length c], .slice ta ty.length tc] w (ResultR w (typeF lib k s ty)) := by
 have X := Ext.refl w; replace hs := hs.ltA; subst hk; refine calls_in Tryz.func99 Tryz.ntmps99 rfl rfl ?_
 focus
  refine cS ?_; (refine lw_box' [_, _, _, _] rfl rfl rfl ?_; intro b1 w2 n3); have h4 := n3.blk; have x5 := n3.ext; have p6 := n3.pos; have z7 := n3.size; clear n3; replace X := X.ext x5; replace hs := hs.ext x5; clear x5; refine C1 Pa (C1 Pa (cN (C1 Pa (cN (C1 Pa (cT (cw_seq (cS (C1 Pg (C1 (Pl h4) (cT ?_))))))))))); refine cw_block (cS (C1 V1 (C1 Pa (cT (Wnd (cS (C1 V1 (C1 Pa (cT (Wnd (cS ?_))))))))))); refine C1 V1 (C1 Pa (cT (Wnd (cS (C1 V1 (C1 Pa (cT (Wnd (cS (C1 V1 (C1 Pa ?_))))))))))); refine cT (Wnd (cS (C1 V1 (C1 Pa (cT (Wnd (cw_seq (cS (C1 V1 (C1 Pa (cT ?_))))))))))); refine Wnd (cw_region (C1 V1 (C1 Pa (cT (Wnd (cS (C1 V1 (C1 Pa (cT (Wyd (cS ?_))))))))))); (refine lw_does (does_slice' [_] tabOk zOk rfl rfl rfl rfl rfl rfl rfl rfl rfl) rfl ?_ (fun _ h => h); rintro _ w9 ⟨b8, rfl, n10, t11⟩); clear t11; have h12 := n10.blk; have x13 := n10.ext; have p14 := n10.pos; have z15 := n10.size; clear n10; replace h4 := h4.ext x13; replace X := X.ext x13; replace hs := hs.ext x13; clear x13; refine C1 Pa (cT (cw_region (C1 Pa (lw_nil (qw_block_norm (qw_then (cw_seq (cS (C1 Mv (C1 Mv ?_)))))))))); refine cC rfl (sEqual_c ty [true] _ (fun _ => True) _ _ _ _ _ (by omega) (by assumption) (lits_els (by assumption))) ?_; rintro _ w17 ⟨⟨⟩, x16⟩; have z18 := x16.size; replace h12 := h12.ext x16; replace h4 := h4.ext x16; replace X := X.ext x16; replace hs := hs.ext x16; clear x16; refine C1 Pt (cT ?_); refine cw_ncond rfl (fun c19 => ?_) (fun c19 => ?_); refine cS (C1 Pa (C1 Pa (cT (cw_ret (qw_then_ret (qw_ret2 rfl rfl rfl ?_))))))
  rotate_left 1; refine cw_skip (qw_then (cS (C1 Mv (C1 Pa (C1 Pa (cT (cw_ret (qw_ret2 rfl rfl rfl ?_)))))))); rotate_left 1
 all_goals exact resultR (by (try simp only [decide_eq_false_iff_not, decide_eq_true_eq] at *); simp [typeF, *]) X
set_option maxRecDepth 100000 in
set_option maxHeartbeats 4000000 in
theorem result_x (lib : List FD) (k n : Int) (s : List UInt8) (l : List Nd) (ty : List Bool) (S T : Nat → Prop) (la a ta : Option Addr) (lc c tc : Nat) (w : World) (hl : ty.length ≤ 1000000) (hs : Els boolV T w ty ta) (hk : k ≠ 82 ∧ k ≠ 83 ∧ k ≠ 84 ∧ k ≠ 85 ∧ k ≠ 86 ∧ k ≠ 87 ∧ k ≠ 88 ∧ k ≠ 89 ∧ k ≠ 90) :
 Calls Tryz.prog 99 #[.slice la lib.length lc, .agg #[.int .u8 k, .int .i64 n, str s, .slice a l.length c], .slice ta ty.length tc] w (ResultR w (typeF lib k s ty)) := by
 have X := Ext.refl w; replace hs := hs.ltA; obtain ⟨k1, k2, k3, k4, k5, k6, k7, k8, k9⟩ := hk; refine calls_in Tryz.func99 Tryz.ntmps99 rfl rfl ?_
 focus
  refine cS ?_; (refine lw_box' [_, _, _, _] rfl rfl rfl ?_; intro b1 w2 n3); have h4 := n3.blk; have x5 := n3.ext; have p6 := n3.pos; have z7 := n3.size; clear n3; replace X := X.ext x5; replace hs := hs.ext x5; clear x5; refine C1 Pa (C1 Pa (cN (C1 Pa (cN (C1 Pa (cT (cw_seq (cS (C1 Pg (C1 (Pl h4) (cT ?_))))))))))); refine cw_block (cS (C1 V1 (C1 Pa (cT (Wna (cS (C1 V1 (C1 Pa (cT (Wna (cS ?_))))))))))); refine C1 V1 (C1 Pa (cT (Wna (cS (C1 V1 (C1 Pa (cT (Wna (cS (C1 V1 (C1 Pa ?_))))))))))); refine cT (Wna (cS (C1 V1 (C1 Pa (cT (Wna (cw_seq (cS (C1 V1 (C1 Pa (cT ?_))))))))))); refine Wna (cw_region (C1 V1 (C1 Pa (cT (Wna (cS (C1 V1 (C1 Pa (cT (Wna (cw_skip ?_))))))))))); refine qw_block_norm (qw_then (cw_seq (cS (C1 Mv (C1 Mv ?_))))); refine cC rfl (sEqual_c ty [] _ (fun _ => True) _ _ _ _ _ (by omega) (by assumption) Els.nil) ?_; rintro _ w9 ⟨⟨⟩, x8⟩; have z10 := x8.size; replace h4 := h4.ext x8; replace X := X.ext x8; replace hs := hs.ext x8; clear x8; refine C1 Pt (cT ?_); refine cw_ncond rfl (fun c11 => ?_) (fun c11 => ?_); refine cS (C1 Pa (C1 Pa (cT (cw_ret (qw_then_ret (qw_ret2 rfl rfl rfl ?_)))))); rotate_left 1; refine cw_skip (qw_then (cS (C1 Mv (C1 Pa (C1 Pa (cT (cw_ret (qw_ret2 rfl rfl rfl ?_)))))))); rotate_left 1
 all_goals exact resultR (by (try simp only [decide_eq_false_iff_not, decide_eq_true_eq] at *); simp [typeF, *]) X
set_option maxRecDepth 100000 in
set_option maxHeartbeats 4000000 in
theorem result_85 (lib : List FD) (k n : Int) (s : List UInt8) (l : List Nd) (ty : List Bool) (i : Nat) (S T : Nat → Prop) (la a ta : Option Addr) (lc c tc : Nat) (w : World) (hl : ty.length ≤ 1000000) (hs : Els boolV T w ty ta) (hk : k = 85) (hf : findF lib s = some i) (hL : lib.length ≤ 1000000) (hps : ∀ f ∈ lib, f.params.length ≤ 1000000) (hd : FDs S w lib la) :
 Calls Tryz.prog 99 #[.slice la lib.length lc, .agg #[.int .u8 k, .int .i64 n, str s, .slice a l.length c], .slice ta ty.length tc] w (ResultR w (typeF lib k s ty)) := by
 subst hk; have X := Ext.refl w; replace hs := hs.ltA; replace hd := hd.ltA; have hil := findF_lt hf; have HF := Lib.hid (Find_v (findI_some hf)); have hxl := hps _ (List.getElem_mem hil); rw [show typeF lib 85 s ty = if ty = lib[i].params.map FP.list then (lib[i].list, 0) else (false, 7) from by simp [typeF, hf, List.getElem?_eq_getElem hil]]; clear hf hps; have hd2 := hd; obtain ⟨kb, ko, ⟨⟩, hkS, hk⟩ := Arr.get hd2 (by omega); obtain ⟨pa, pc, ba, bc, hr, h1, h2⟩ := hk i lib[i] (List.getElem?_eq_getElem hil); clear hk hd2
 generalize lib[i] = x at *
 simp only [FD.cells] at hr; refine calls_in Tryz.func99 Tryz.ntmps99 rfl rfl ?_
 focus
  refine cS ?_; (refine lw_box' [_, _, _, _] rfl rfl rfl ?_; intro b1 w2 n3); have h4 := n3.blk; have x5 := n3.ext; have p6 := n3.pos; have z7 := n3.size; clear n3; replace X := X.ext x5; replace hs := hs.ext x5; replace hd := hd.ext x5; replace hr := hr.ext x5; replace h1 := h1.ext x5; replace h2 := Nd.sits.ext h2 x5; clear x5; refine C1 Pa (C1 Pa (cN (C1 Pa (cN (C1 Pa (cT (cw_seq (cS (C1 Pg (C1 (Pl h4) (cT ?_))))))))))); refine cw_block (cS (C1 V1 (C1 Pa (cT (Wnd (cS (C1 V1 (C1 Pa (cT (Wnd (cS ?_))))))))))); refine C1 V1 (C1 Pa (cT (Wnd (cS (C1 V1 (C1 Pa (cT (Wyd (cS (C1 Mv (C1 Mv ?_))))))))))); refine C1 Pf (C1 (Pl h4) ?_); refine cC rfl (HF.out _ _ _ _ (by omega) (by assumption)) ?_; rintro _ w9 ⟨⟨⟩, x8⟩; have z10 := x8.size; replace h4 := h4.ext x8; replace X := X.ext x8; replace hs := hs.ext x8; replace hd := hd.ext x8; replace hr := hr.ext x8; replace h1 := h1.ext x8; replace h2 := Nd.sits.ext h2 x8; clear x8; refine C1 Pi (C1 (Pws hr) ?_); (refine lw_alloc' [_, _, _, _, _, _, _] zOk rfl rfl ?_; intro b11 w12 n13); (refine lw_init' [_, _, _, _, _, _, _] tabOk rfl rfl rfl rfl rfl rfl n13 rfl ?_; clear n13; clear w12; intro w14 n13); have h15 := n13.blk; have x16 := n13.ext; have p17 := n13.pos; have z18 := n13.size; clear n13; replace h4 := h4.ext x16; replace X := X.ext x16; replace hs := hs.ext x16; replace hd := hd.ext x16; replace hr := hr.ext x16; replace h1 := h1.ext x16; replace h2 := Nd.sits.ext h2 x16; clear x16; refine cT (cw_seq (cS (C1 Pf (C1 (Pl h15) (C1 Pz (C1 Mv (cT (cw_block ?_))))))))
  rotate_left 1
 refine cw_loop (ι := Nat × Option Addr × Nat) (fun y => [(2, .slice ta ty.length tc), (10, .pointer (some ⟨b11, 0, none⟩)), (42, .slice pa x.params.length pc), (43, .int .i64 x.params.length), (44, .int .i64 y.1), (8, .slice y.2.1 ((x.params.take y.1).map FP.list).length y.2.2)])
  (fun y w' => FPs (· < w.heap.size) w' x.params pa ∧ Els boolV (· < w.heap.size) w' ty ta ∧ Blk w' b11 (x.cells pa pc ba bc) ∧ OwnQ boolShape w' (fun _ => False) (b11 + 1) 4 (.slice y.2.1 ((x.params.take y.1).map FP.list).length y.2.2) ((x.params.take y.1).map FP.list) ∧ Ext w w' ∧ b11 < w'.heap.size ∧ y.1 ≤ x.params.length) (fun y => x.params.length - y.1) (0, none, 0) (by (refine sub_cons rfl ?_; refine sub_cons rfl ?_; refine sub_cons rfl ?_; refine sub_cons rfl ?_; refine sub_cons rfl ?_; refine sub_cons rfl ?_; exact sub_nil)) ⟨h1, hs, by assumption, OwnQ.nil, X, by omega, Nat.zero_le _⟩ ?_
 clear h1 hs h15 X hd hr; rintro ⟨j, oa, oc⟩ w1 ⟨hps, hs, hb, hown, X, hz, hj⟩; simp only at hps hs hb hown hj; simp only [FD.cells] at hb
 have hob : ∀ g, (Value.slice oa ((x.params.take j).map FP.list).length oc).ownBlock = some g → b11 + 1 ≤ g ∧ g < w1.heap.size := fun g h => ⟨hown.ge h, hown.lt h⟩
 refine CW.sub (m := [(2, .slice ta ty.length tc), (10, .pointer (some ⟨b11, 0, none⟩)), (42, .slice pa x.params.length pc), (43, .int .i64 x.params.length), (44, .int .i64 j), (8, .slice oa ((x.params.take j).map FP.list).length oc)]) ?_ (by (refine sub_cons rfl ?_; refine sub_cons rfl ?_; refine sub_cons rfl ?_; refine sub_cons rfl ?_; refine sub_cons rfl ?_; refine sub_cons rfl ?_; exact sub_nil))
 by_cases hlt : j < x.params.length
 · obtain ⟨qb, qo, rfl, hqS, hkk⟩ := Arr.get hps (by omega)
   have r1 := hkk j _ (List.getElem?_eq_getElem hlt); simp only [FPAt] at r1; have hsn := map_snoc hlt
   have hll : ((x.params.take j).map FP.list).length ≤ 1000000 := by simp only [List.length_map, List.length_take]; omega
   clear hkk
   generalize (x.params.take j).map FP.list = os at *
   generalize x.params[j] = y at *
   focus
    refine cS (C1 V3 (cT (cw_seq (Wyo (cw_skip (qw_then (cw_seq (cw_block (cS (C1 Pi (C1 (Pws r1) ?_))))))))))); (refine lw_alloc' [_, _] zOk rfl rfl ?_; intro ba1 wa2 na3); (refine lw_init' [_, _] tabOk rfl rfl rfl rfl rfl rfl na3 rfl ?_; clear na3; clear wa2; intro wa4 na3); have ha5 := na3.blk; have xa6 := na3.ext; have pa7 := na3.pos; have za8 := na3.size; clear na3; replace hs := hs.ext xa6; replace X := X.ext xa6; replace hps := hps.ext xa6; replace hb := hb.ext xa6; replace hown := hown.ext xa6; replace r1 := r1.ext xa6; clear xa6; refine cT (cw_region (C1 Mv (C1 Pf (C1 (Pl ha5) ?_)))); (refine lw_does (does_slice' [_] tabOk zOk rfl rfl rfl rfl rfl rfl rfl rfl rfl) rfl ?_ (fun _ h => h); rintro _ wa10 ⟨ba9, rfl, na11, ta12⟩); clear ta12; have ha13 := na11.blk; have xa14 := na11.ext; have pa15 := na11.pos; have za16 := na11.size; clear na11; replace ha5 := ha5.ext xa14; replace hs := hs.ext xa14; replace X := X.ext xa14; replace hps := hps.ext xa14; replace hb := hb.ext xa14; replace hown := hown.ext xa14; replace r1 := r1.ext xa14; clear xa14; refine lw_appendQ (R := fun _ => False) (sh := boolShape) (z := y.list) tabOk zOk rfl rfl rfl rfl (by kernel_rfl) rfl rfl rfl (by assumption) (fun _ h => by exact h) (Blk.row (by assumption)) rfl (by omega) (by omega) rfl ?_; rintro ga17 cap'a18 wa19 ha20 ha21 ha22 fa23; have za24 := fa23.size; replace ha13 := Blk.fr ha13 fa23 (fun e => by have := hob _ e; omega); replace ha5 := Blk.fr ha5 fa23 (fun e => by have := hob _ e; omega)
    replace hs := Els.fr hs fa23 (fun b hb hT => by have := hob _ hT; (try dsimp only at hb); omega); replace X := Ext.fr X fa23 (fun k hk => by have := hob _ hk; omega); replace hps := FPs.fr hps fa23 (fun b hb hT => by have := hob _ hT; (try dsimp only at hb); omega); replace hb := Blk.fr hb fa23 (fun e => by have := hob _ e; omega); clear hown r1 fa23; refine C1 Pa (lw_nil (qw_block_norm (qw_then (cw_region (C1 V7 (C1 Mv (lw_nil ?_))))))); rotate_left 1
   refine qw_round (j + 1, some ⟨_, 0, none⟩, _) ?_ ⟨by assumption, by assumption, by assumption, by simp only; rw [hsn]; assumption, X, by omega, by simp only; omega⟩ (by simp only; omega); simp only [hsn]; (refine sub_cons rfl ?_; refine sub_cons rfl ?_; refine sub_cons rfl ?_; refine sub_cons rfl ?_; refine sub_cons rfl ?_; refine sub_cons rfl ?_; exact sub_nil)
 · have hje : j = x.params.length := by omega
   subst hje; rw [List.take_length] at hown hob; rw [List.take_length]
   generalize x.params.map FP.list = os at *
   have he := hown.els (S := fun b => b < w1.heap.size) (fun _ _ h => h); clear hown
   focus
    refine cS (C1 V3 (cT (cw_seq (Wno (cw_exit (qw_then_exit (qw_then_exit (qw_block_exit (qw_then (cw_region (C1 Pf ?_))))))))))); refine C1 (Pl hb) (C1 Pa (lw_nil (qw_block_norm (qw_then (cw_seq (cS (C1 Mv (C1 Mv ?_)))))))); refine cC rfl (sEqual_c ty os _ _ _ _ _ _ _ (by omega) (by assumption) (by assumption)) ?_; rintro _ wb2 ⟨⟨⟩, xb1⟩; have zb3 := xb1.size; replace hps := hps.ext xb1; replace hs := hs.ext xb1; replace hb := hb.ext xb1; replace X := X.ext xb1; replace he := he.ext xb1; clear xb1; refine C1 Pt (cT ?_); refine cw_ncond rfl (fun cb4 => ?_) (fun cb4 => ?_); refine cS (C1 Pa (C1 Pa (cT (cw_ret (qw_then_ret (qw_ret2 rfl rfl rfl ?_)))))); rotate_left 1; refine cw_skip (qw_then (cS (C1 Mv (C1 Pa (C1 Pa (cT (cw_ret (qw_ret2 rfl rfl rfl ?_)))))))); rotate_left 1
   all_goals exact resultR (by (try simp only [decide_eq_false_iff_not, decide_eq_true_eq] at *); simp [*]) X
end Bk
namespace Bk
open Go Go.RowKit Go.Proofs
attribute [local irreducible] Go.Calls
theorem result_c (lib : List FD) (k n : Int) (s : List UInt8) (l : List Nd) (ty : List Bool) (S T : Nat → Prop) (la a ta : Option Addr) (lc c tc : Nat) (w : World) (hl : ty.length ≤ 1000000) (hs : Els boolV T w ty ta) (h2 : k = 83 ∨ k = 84 → 2 ≤ ty.length) (hf : k = 85 → ∃ i, findF lib s = some i) (hL : lib.length ≤ 1000000) (hps : ∀ f ∈ lib, f.params.length ≤ 1000000) (hd : FDs S w lib la) :
 Calls Tryz.prog 99 #[.slice la lib.length lc, .agg #[.int .u8 k, .int .i64 n, str s, .slice a l.length c], .slice ta ty.length tc] w (ResultR w (typeF lib k s ty)) := by
 by_cases k1 : k = 82
 · exact result_82 lib k n s l ty S T la a ta lc c tc w hl hs k1
 by_cases k2 : k = 83
 · exact result_83 lib k n s l ty S T la a ta lc c tc w hl hs k2 (h2 (Or.inl k2))
 by_cases k3 : k = 84
 · exact result_84 lib k n s l ty S T la a ta lc c tc w hl hs k3 (h2 (Or.inr k3))
 by_cases k4 : k = 85
 · obtain ⟨i, hi⟩ := hf k4
   exact result_85 lib k n s l ty i S T la a ta lc c tc w hl hs k4 hi hL hps hd
 by_cases k5 : k = 86
 · exact result_86 lib k n s l ty S T la a ta lc c tc w hl hs k5
 by_cases k6 : k = 87
 · exact result_87 lib k n s l ty S T la a ta lc c tc w hl hs k6
 by_cases k7 : k = 88
 · exact result_88 lib k n s l ty S T la a ta lc c tc w hl hs k7
 by_cases k8 : k = 89
 · exact result_89 lib k n s l ty S T la a ta lc c tc w hl hs k8
 by_cases k9 : k = 90
 · exact result_90 lib k n s l ty S T la a ta lc c tc w hl hs k9
 exact result_x lib k n s l ty S T la a ta lc c tc w hl hs ⟨k1, k2, k3, k4, k5, k6, k7, k8, k9⟩
theorem formN_83 {k n : Int} {s : List UInt8} {c : Nat} (h : formN k n s c = true) (hk : k = 83 ∨ k = 84) : 2 ≤ c := by
 rcases hk with rfl | rfl <;> simp [formN] at h <;> omega
theorem rowFormed_mem {l : List Nd} {x : Nd} (h : rowFormed l = true) (hx : x ∈ l) : x.formed = true := by
 cases hc : x.formed
 · rw [rowFormed_not hx hc] at h; exact h
 · rfl
theorem reach_85 {lib : List FD} {v : Vis} {s : List UInt8} {c : Nat} (h : reachF lib v 85 s c = 0) : ∃ i, findF lib s = some i := by
 cases hf : findF lib s with
 | none => simp [reachF, hf] at h
 | some i => exact ⟨i, rfl⟩
theorem reach_84 {lib : List FD} {v : Vis} {s : List UInt8} {c : Nat} (h : reachF lib v 84 s c = 0) : seen v s = none := by
 cases hf : seen v s with
 | none => rfl
 | some i => simp [reachF, hf] at h
theorem reach_81 {lib : List FD} {v : Vis} {s : List UInt8} {c : Nat} (h : reachF lib v 81 s c = 0) : ∃ b, seen v s = some b := by
 cases hf : seen v s with
 | none => simp [reachF, hf] at h
 | some i => exact ⟨i, rfl⟩
theorem visOk_set {kvs : List (List UInt8 × Value)} {v : Vis} (h : VisOk kvs v) (s : List UInt8) (b : Bool) : VisOk (setS kvs s (.bool b)) ((s, b) :: v) := by
 intro s'; rw [getS_set]
 unfold seen
 rw [List.find?_cons]
 by_cases hs : s' = s
 · subst hs; simp
 · rw [if_neg hs, h s']
   have : decide (s = s') = false := by simpa using fun e => hs e.symm
   simp only [this]
   rfl
def VisR (w : World) (r : Nat) (kvs : List (List UInt8 × Value)) (q : Bool × Int) (e : Ending) (w' : World) : Prop := e = .returned (.tuple #[.bool q.1, .int .i64 q.2]) ∧ Fr (· = r) w w' ∧ (q.2 = 0 → MapIs w' r kvs)
theorem vis_err {w w' : World} {r : Nat} {kvs : List (List UInt8 × Value)} {r' : List Bool × Int} {acc : List Bool} {qe : Int} {z : Bool × Int} (h : r' = (acc, qe)) (hq : ¬ qe = 0) (X : Fr (· = r) w w') : VisR w r kvs (if r'.2 ≠ 0 then (false, r'.2) else z) (.returned (.tuple #[.bool false, .int .i64 qe])) w' := by
 subst h; rw [if_pos hq]
 exact ⟨rfl, X, fun h => absurd h hq⟩
theorem vis_ok {w w' : World} {r : Nat} {kvs : List (List UInt8 × Value)} {r' : List Bool × Int} {acc : List Bool} {b : Bool} {e : Int} {z : List Bool → Bool × Int} (h : r' = (acc, 0)) (hz : z acc = (b, e)) (X : Fr (· = r) w w') (hm : MapIs w' r kvs) : VisR w r kvs (if r'.2 ≠ 0 then (false, r'.2) else z r'.1) (.returned (.tuple #[.bool b, .int .i64 e])) w' := by
 subst h; rw [if_neg (by simp), hz]
 exact ⟨rfl, X, fun _ => hm⟩
theorem rowChk_cons (lib : List FD) (v : Vis) (k : Int) (s : List UInt8) (acc : List Bool) (t : Nd) (r : List Nd) : rowChk lib v k s acc (t :: r) = if (t.chk lib (if k = 84 ∧ acc.length = 1 then (s, acc.getD 0 false) :: v else v)).2 ≠ 0 then (acc, (t.chk lib (if k = 84 ∧ acc.length = 1 then (s, acc.getD 0 false) :: v else v)).2) else rowChk lib v k s (acc ++ [(t.chk lib (if k = 84 ∧ acc.length = 1 then (s, acc.getD 0 false) :: v else v)).1]) r := by
 rw [rowChk]
section
variable (lib : List FD) (la : Option Addr) (lc bl bv bf r B0 : Nat)
def ChkC (N : Nat) : Prop := ∀ (t : Nd) (kvs : List (List UInt8 × Value)) (v : Vis) (a : Option Addr) (c : Nat) (w : World), t.size < N → t.size ≤ 1000000 → t.wf → t.formed = true → t.sits (· < B0) w a → MapIs w r kvs → VisOk kvs v →
 Blk w bl [.slice la lib.length lc] → Blk w bv [.map (some r)] → Blk w bf [.func (.func 97) #[] #[.pointer (some ⟨bl, 0, none⟩), .pointer (some ⟨bv, 0, none⟩), .pointer (some ⟨bf, 0, none⟩)]] → FDs (· < B0) w lib la → bf < w.heap.size →
 Calls Tryz.prog 97 #[t.val a c, .pointer (some ⟨bl, 0, none⟩), .pointer (some ⟨bv, 0, none⟩), .pointer (some ⟨bf, 0, none⟩)] w (VisR w r kvs (t.chk lib v))
set_option maxRecDepth 100000 in
set_option maxHeartbeats 8000000 in
theorem visit_c (hB : B0 ≤ bl ∧ bl < r ∧ r < bv ∧ bv < bf) (hL : lib.length ≤ 1000000) (hps : ∀ f ∈ lib, f.params.length ≤ 1000000) (N : Nat) : ChkC lib la lc bl bv bf r B0 N := by
 induction N with
 | zero => intro t kvs v a c w h; omega
 | succ N ih =>
  rintro ⟨k, n, s, l⟩ kvs v a c w hN hM hwf hfo hs hmap hV hbl hbv hbf hd hbz; obtain ⟨q1, q2, q3, q4⟩ := hB
  have IH := Lib.hid ih; clear ih
  simp only [Nd.sits] at hs; simp only [Nd.size] at hN hM; simp only [Nd.wf] at hwf; obtain ⟨-, -, -, -, n1, n2, n3⟩ := hwf; have HW := Lib.hid (rowWf_iffF.1 n3); clear n3; simp only [Nd.formed, Bool.and_eq_true] at hfo; have HK := Lib.hid (fun x hx => rowFormed_mem (x := x) hfo.2 hx); have h83 := Lib.hid (formN_83 hfo.1); clear hfo; have X : Fr (· = r) w w := Fr.refl _ _; have hl := length_rowSize l; have HV := Lib.hid hV; clear hV; have HP := Lib.hid hps; clear hps; have HR := Lib.hid (fun (la : Option Addr) (lc : Nat) (w : World) (hs : FDs (· < B0) w lib la) (hm : MapIs w r kvs) => reach_c lib v kvs r k n s l _ la a lc c w hL HV.out hm hs (by omega))
  by_cases hr : reachF lib v k s l.length = 0
  · rw [hr] at HR
    have e85 := Lib.hid (fun h : k = 85 => reach_85 (h ▸ hr)); have e84 := Lib.hid (fun h : k = 84 => reach_84 (h ▸ hr)); have e81 := Lib.hid (fun h : k = 81 => reach_81 (h ▸ hr))
    have hchk : (Nd.mk k n s l).chk lib v = if (rowChk lib v k s [] l).2 ≠ 0 then (false, (rowChk lib v k s [] l).2) else if k = 81 then ((seen v s).getD false, 0) else typeF lib k s (rowChk lib v k s [] l).1 := by rw [Nd.chk, if_neg (by rw [hr]; simp)]
    rw [hchk]; clear hchk hr; rw [show (Nd.mk k n s l).val a c = .agg #[.int .u8 k, .int .i64 n, str s, .slice a l.length c] from rfl]; refine calls_in Tryz.func97 Tryz.ntmps97 rfl rfl ?_
    focus
     refine cS ?_; (refine lw_box' [_, _, _, _] rfl rfl rfl ?_; intro b1 w2 n3); have h4 := n3.blk; have x5 := n3.ext; have p6 := n3.pos; have z7 := n3.size; clear n3; replace hs := Bk.rowSits.ext hs x5; replace hmap := hmap.ext x5; replace hbl := hbl.ext x5; replace hbv := hbv.ext x5; replace hbf := hbf.ext x5; replace hd := hd.ext x5; replace X := X.ext x5; clear x5; refine C1 Pa (C1 Pa (cT (cw_seq (cS (C1 (Pl hbl) (C1 (Pl hbv) (lw_loads_b' [_, _, _, _] tabOk rfl rfl rfl h4 rfl rfl rfl ?_))))))); refine cC rfl (HR.out _ _ _ (by assumption) (by assumption)) ?_; rintro _ w9 ⟨⟨⟩, x8⟩; have z10 := x8.size; replace h4 := h4.ext x8; replace hs := Bk.rowSits.ext hs x8; replace hmap := hmap.ext x8; replace hbl := hbl.ext x8; replace hbv := hbv.ext x8; replace hbf := hbf.ext x8; replace hd := hd.ext x8; replace X := X.ext x8; clear x8; refine C1 Pa (cN (C1 Mv (C1 V2 (cT (Wnd (cw_skip (qw_then (cS (C1 Pa (cT (cw_seq ?_))))))))))); refine cS (C1 Pf (C1 (Pl h4) (C1 Pz (C1 Mv (cT (cw_block ?_)))))); rotate_left 1
    refine cw_loop (ι := Nat × Option Addr × Nat × List Bool) (fun y => [(1, .pointer (some ⟨bl, 0, none⟩)), (2, .pointer (some ⟨bv, 0, none⟩)), (3, .pointer (some ⟨bf, 0, none⟩)), (4, .pointer (some ⟨b1, 0, none⟩)), (22, .slice a l.length c), (23, .int .i64 l.length), (24, .int .i64 y.1), (8, .slice y.2.1 y.2.2.2.length y.2.2.1)])
     (fun y w' => rowSits (· < B0) w' l a ∧ MapIs w' r kvs ∧ Blk w' bl [.slice la lib.length lc] ∧ Blk w' bv [.map (some r)] ∧ Blk w' bf [.func (.func 97) #[] #[.pointer (some ⟨bl, 0, none⟩), .pointer (some ⟨bv, 0, none⟩), .pointer (some ⟨bf, 0, none⟩)]] ∧ FDs (· < B0) w' lib la ∧ Blk w' b1 [.int .u8 k, .int .i64 n, str s, .slice a l.length c] ∧
      OwnQ boolShape w' (fun _ => False) (b1 + 1) 4 (.slice y.2.1 y.2.2.2.length y.2.2.1) y.2.2.2 ∧ Fr (· = r) w w' ∧ b1 < w'.heap.size ∧ y.1 ≤ l.length ∧ y.2.2.2.length = y.1 ∧ rowChk lib v k s [] l = rowChk lib v k s y.2.2.2 (l.drop y.1)) (fun y => l.length - y.1) (0, none, 0, []) (by (refine sub_cons rfl ?_; refine sub_cons rfl ?_; refine sub_cons rfl ?_; refine sub_cons rfl ?_; refine sub_cons rfl ?_; refine sub_cons rfl ?_; refine sub_cons rfl ?_; refine sub_cons rfl ?_; exact sub_nil))
     ⟨hs, hmap, hbl, hbv, hbf, hd, h4, OwnQ.nil, X, by omega, Nat.zero_le _, rfl, rfl⟩ ?_
    clear hs hmap hbl hbv hbf hd h4 X HR; rintro ⟨j, oa, oc, acc⟩ w1 ⟨hs, hmap, hbl, hbv, hbf, hd, hb1, hown, X, hz, hj, hal, he⟩; simp only at hown hj hal he; have HE := Lib.hid he; clear he
    have hob : ∀ g, (Value.slice oa acc.length oc).ownBlock = some g → b1 + 1 ≤ g ∧ g < w1.heap.size := fun g h => ⟨hown.ge h, hown.lt h⟩
    refine CW.sub (m := [(1, .pointer (some ⟨bl, 0, none⟩)), (2, .pointer (some ⟨bv, 0, none⟩)), (3, .pointer (some ⟨bf, 0, none⟩)), (4, .pointer (some ⟨b1, 0, none⟩)), (22, .slice a l.length c), (23, .int .i64 l.length), (24, .int .i64 j), (8, .slice oa acc.length oc)]) ?_ (by (refine sub_cons rfl ?_; refine sub_cons rfl ?_; refine sub_cons rfl ?_; refine sub_cons rfl ?_; refine sub_cons rfl ?_; refine sub_cons rfl ?_; refine sub_cons rfl ?_; refine sub_cons rfl ?_; exact sub_nil))
    by_cases hlt : j < l.length
    · have hs2 := hs
      obtain ⟨kb, ko, rfl, hkS, hkid⟩ := kidRows hs2 (by intro e; subst e; simp at hlt); obtain ⟨xa, xc, rx, sx⟩ := hkid j l[j] (List.getElem?_eq_getElem hlt); have hsz := size_mem (List.getElem_mem hlt); have hxw := HW.out _ (List.getElem_mem hlt); have hxf := HK.out _ (List.getElem_mem hlt); have he := HE.out; rw [List.drop_eq_getElem_cons hlt, rowChk_cons] at he; clear hkid HE hs2
      generalize l[j] = x at *
      have HX := Lib.hid (fun (kvs : List (List UInt8 × Value)) (v : Vis) (hV : VisOk kvs v) (a : Option Addr) (c : Nat) (w : World) (h1 : x.sits (· < B0) w a) (h2 : MapIs w r kvs) h3 h4 h5 h6 h7 => IH.out x kvs v a c w (by omega) (by omega) hxw hxf h1 h2 hV h3 h4 h5 h6 h7); clear hxw hxf
      by_cases hb : k = 84 ∧ j = 1
      · obtain ⟨hk, hj1⟩ := hb
        have hse := e84.out hk
        have hg : getS kvs s = none := by rw [HV.out s, hse]; rfl
        have hif : (if k = 84 ∧ acc.length = 1 then (s, acc.getD 0 false) :: v else v) = (s, acc.getD 0 false) :: v := if_pos ⟨hk, by omega⟩; rw [hif] at he; clear hif
        obtain ⟨b0, rfl⟩ : ∃ b0, acc = [b0] := by
         match acc, hal with
         | [b0], _ => exact ⟨b0, rfl⟩
         | [], h => simp at h; omega
         | _ :: _ :: _, h => simp at h; omega
        have hels := hown.els (S := fun b => b1 + 1 ≤ b ∧ b < w1.heap.size) (fun _ h h' => ⟨h, h'⟩); obtain ⟨gb, go, rfl, ⟨hg1, hg2⟩, hgk⟩ := Arr.get hels (by simp); have rg := hgk 0 b0 rfl; clear hels hgk; simp only [List.getD_eq_getElem?_getD, List.getElem?_cons_zero, Option.getD_some] at he; have hV2 := visOk_set HV.out s b0; have her := erase_set hg (.bool b0); have HX2 := HX.out _ _ hV2
        generalize x.chk lib ((s, b0) :: v) = q at *
        obtain ⟨qb, qe⟩ := q; clear HX hV2 hg hse; dsimp only at he
        by_cases hqe : qe = 0
        · subst hqe
          rw [if_neg (by simp)] at he; have HE := Lib.hid he; have HXc := Lib.hid (fun (a : Option Addr) (c : Nat) (w : World) h1 h2 h3 h4 h5 h6 h7 => Calls.mono (HX2 a c w h1 h2 h3 h4 h5 h6 h7) (fun e w' h => (⟨h.1, h.2.1, h.2.2 rfl⟩ : e = .returned (.tuple #[.bool qb, .int .i64 0]) ∧ Fr (· = r) w w' ∧ MapIs w' r (setS kvs s (.bool b0))))); clear he HX2
          focus
           refine cS (C1 V3 (cT (cw_seq (Wyo (cw_skip (qw_then (cw_seq (cw_block (cS (C1 Mv (C1 Pi ?_))))))))))); refine C1 (Pws rx) ?_; (refine lw_alloc' [_, _, _, _] zOk rfl rfl ?_; intro ba1 wa2 na3); have ha5 := na3.blk; have xa6 := na3.ext; have pa7 := na3.pos; have za8 := na3.size; clear na3; replace hmap := hmap.ext xa6; replace hbl := hbl.ext xa6; replace hbv := hbv.ext xa6; replace hbf := hbf.ext xa6; replace hd := hd.ext xa6; replace X := X.ext xa6; replace hs := Bk.rowSits.ext hs xa6; replace hb1 := hb1.ext xa6; replace rx := rx.ext xa6; replace sx := Nd.sits.ext sx xa6; replace hown := hown.ext xa6; replace rg := rg.ext xa6; clear xa6; refine C1 Pa ?_; (refine lw_store' [_, _, _, _] [_, _, _, _] tabOk rfl rfl rfl rfl rfl rfl ha5 rfl rfl ?_; intro wa9 na10); have ha13 := na10.blk; have fa11 := na10.fr; have za12 := na10.size; clear na10 ha5; replace hmap := hmap.fr fa11 (by omega); replace hbl := hbl.fr fa11 (by omega); replace hbv := hbv.fr fa11 (by omega); replace hbf := hbf.fr fa11 (by omega); replace hd := hd.fr fa11 (by omega); replace X := X.fr fa11 (by omega); replace hs := Bk.rowSits.fr hs fa11 (by omega); replace hb1 := hb1.fr fa11 (by omega); replace rx := Row.fr rx fa11 (by simp only; omega); replace sx := Nd.sits.fr sx fa11 (by omega); replace hown := OwnQ.fr hown fa11 (fun k hk => ⟨fun h => h.elim, fun e => by have := hob _ e; (try dsimp only at hk); omega⟩); replace rg := Row.fr rg fa11 (by simp only; omega); clear fa11; refine cN (C1 Pg (C1 (Pl hb1) (C1 V1 (C1 Mv (Gya (C1 Mv (Gya (C1 V1 (C1 Qya (C1 Pa (cT ?_)))))))))))
           refine cw_seq (cS (C1 Mv (cT (Wyo ?_)))); (refine cw_tdraw (fun wz => Ext wa9 wz) 6 (.pure 0 (.pure 1 (.pure 2 (.pure 3 (.pure 4 (.pure 5 .tail)))))) mixed (by kernel_rfl) (panicOk_then (panicOk_block (panicOk_then (panicOk_then (panicOk_block (panicOk_then panicOk_body)))))) ?_; intro wa14 xa15 _); have qsa16 : (fun wz => Ext wa9 wz) wa14 := xa15; simp only at qsa16; have d_ha13 := ha13; have d_hmap := hmap; have d_hbl := hbl; have d_hbv := hbv; have d_hbf := hbf; have d_hd := hd; have d_hs := hs; have d_hb1 := hb1; have d_rx := rx; have d_sx := sx; have d_hown := hown; have d_rg := rg; have za17 := xa15.size; replace ha13 := ha13.ext xa15; replace hmap := hmap.ext xa15; replace hbl := hbl.ext xa15; replace hbv := hbv.ext xa15; replace hbf := hbf.ext xa15; replace hd := hd.ext xa15; replace X := X.ext xa15; replace hs := Bk.rowSits.ext hs xa15; replace hb1 := hb1.ext xa15; replace rx := rx.ext xa15; replace sx := Nd.sits.ext sx xa15; replace hown := hown.ext xa15; replace rg := rg.ext xa15; clear xa15; refine ⟨qsa16, ?_⟩; refine Tq rfl (Db d_hbv) (Tq rfl Pf (Tq rfl (Db d_hb1) (Tq rfl Mv (Tq rfl Pi (Tq rfl (Dr d_rg) ?_))))); clear qsa16 d_ha13 d_hmap d_hbl d_hbv d_hbf d_hd d_hs d_hb1 d_rx d_sx d_hown d_rg; refine tw_tail rfl (lw_mapput tabOk rfl rfl rfl rfl rfl hmap ?_); rintro wa18 ha19 fa20; have za21 := fa20.size; replace ha13 := ha13.fr fa20 (by omega); clear hmap; replace hbl := hbl.fr fa20 (by omega); replace hbv := hbv.fr fa20 (by omega); replace hbf := hbf.fr fa20 (by omega)
           replace hd := hd.fr fa20 (by omega); replace X := X.fr fa20 (by omega); replace hs := Bk.rowSits.fr hs fa20 (by omega); replace hb1 := hb1.fr fa20 (by omega); replace rx := Row.fr rx fa20 (by simp only; omega); replace sx := Nd.sits.fr sx fa20 (by omega); replace hown := OwnQ.fr hown fa20 (fun k hk => ⟨fun h => h.elim, fun e => by have := hob _ e; (try dsimp only at hk); omega⟩); replace rg := Row.fr rg fa20 (by simp only; omega); clear fa20; refine cN (C1 (Pl hbf) (lw_loads_b' [_, _, _, _] tabOk rfl rfl rfl ha13 rfl rfl rfl ?_)); refine lw_does (does_callv (fi := []) (ca := [.pointer (some ⟨bl, 0, none⟩), .pointer (some ⟨bv, 0, none⟩), .pointer (some ⟨bf, 0, none⟩)]) (by kernel_rfl) rfl rfl (HXc.out _ _ _ (by assumption) (by assumption) (by assumption) (by assumption) (by assumption) (by assumption) (by omega)) (fun _ _ h => ⟨_, h.1⟩)) rfl ?_ (fun _ h => h); rintro _ wa24 ⟨⟨⟩, ⟨fa22, ha23⟩⟩; have za25 := fa22.size; clear ha19; replace ha13 := ha13.fr fa22 (by omega); replace hbl := hbl.fr fa22 (by omega); replace hbv := hbv.fr fa22 (by omega); replace hbf := hbf.fr fa22 (by omega); replace hd := hd.fr fa22 (by omega); replace X := X.fr fa22 (by omega); replace hs := Bk.rowSits.fr hs fa22 (by omega); replace hb1 := hb1.fr fa22 (by omega); replace rx := Row.fr rx fa22 (by simp only; omega); replace sx := Nd.sits.fr sx fa22 (by omega); replace hown := OwnQ.fr hown fa22 (fun k hk => ⟨fun h => h.elim, fun e => by have := hob _ e; (try dsimp only at hk); omega⟩); replace rg := Row.fr rg fa22 (by simp only; omega)
           clear fa22; refine C1 Mv (C1 Px (C1 Px (C1 Pa (C1 Pa (cT (cw_seq (cS (C1 Mv (C1 V2 (cT (Wnd ?_))))))))))); refine cw_skip (qw_then (cw_seq (cS (C1 Mv (cT (Wyo (cw_region (C1 (Pl hbv) (C1 Pf (C1 (Pl hb1) ?_)))))))))); refine lw_delete tabOk rfl rfl rfl rfl (by assumption) ?_; rintro wa26 ha27 fa28; have za29 := fa28.size; clear ha23; replace ha13 := ha13.fr fa28 (by omega); replace hbl := hbl.fr fa28 (by omega); replace hbv := hbv.fr fa28 (by omega); replace hbf := hbf.fr fa28 (by omega); replace hd := hd.fr fa28 (by omega); replace X := X.fr fa28 (by omega); replace hs := Bk.rowSits.fr hs fa28 (by omega); replace hb1 := hb1.fr fa28 (by omega); replace rx := Row.fr rx fa28 (by simp only; omega); replace sx := Nd.sits.fr sx fa28 (by omega); replace hown := OwnQ.fr hown fa28 (fun k hk => ⟨fun h => h.elim, fun e => by have := hob _ e; (try dsimp only at hk); omega⟩); replace rg := Row.fr rg fa28 (by simp only; omega); clear fa28; refine cT (cw_region (C1 Mv (C1 Mv ?_))); (refine lw_does (does_slice' [_] tabOk zOk rfl rfl rfl rfl rfl rfl rfl rfl rfl) rfl ?_ (fun _ h => h); rintro _ wa31 ⟨ba30, rfl, na32, ta33⟩); clear ta33; have ha34 := na32.blk; have xa35 := na32.ext; have pa36 := na32.pos; have za37 := na32.size; clear na32; replace ha27 := ha27.ext xa35; replace ha13 := ha13.ext xa35; replace hbl := hbl.ext xa35; replace hbv := hbv.ext xa35; replace hbf := hbf.ext xa35; replace hd := hd.ext xa35; replace X := X.ext xa35; replace hs := Bk.rowSits.ext hs xa35; replace hb1 := hb1.ext xa35
           replace rx := rx.ext xa35; replace sx := Nd.sits.ext sx xa35; replace hown := hown.ext xa35; replace rg := rg.ext xa35; clear xa35; refine lw_appendQ (R := fun _ => False) (sh := boolShape) (z := qb) tabOk zOk rfl rfl rfl rfl (by kernel_rfl) rfl rfl rfl (by assumption) (fun _ h => by exact h) (Blk.row (by assumption)) rfl (by omega) (by omega) rfl ?_; rintro ga38 cap'a39 wa40 ha41 ha42 ha43 fa44; have za45 := fa44.size; replace ha34 := Blk.fr ha34 fa44 (fun e => by have := hob _ e; omega); replace ha27 := MapIs.fr ha27 fa44 (fun e => by have := hob _ e; omega); replace ha13 := Blk.fr ha13 fa44 (fun e => by have := hob _ e; omega); replace hbl := Blk.fr hbl fa44 (fun e => by have := hob _ e; omega); replace hbv := Blk.fr hbv fa44 (fun e => by have := hob _ e; omega); replace hbf := Blk.fr hbf fa44 (fun e => by have := hob _ e; omega); replace hd := FDs.fr hd fa44 (fun b hb hT => by have := hob _ hT; (try dsimp only at hb); omega); replace X := Fr.fr X fa44 (fun k hk => by have := hob _ hk; omega); replace hs := Bk.rowSits.fr hs fa44 (fun b hb hT => by have := hob _ hT; (try dsimp only at hb); omega); replace hb1 := Blk.fr hb1 fa44 (fun e => by have := hob _ e; omega); replace rx := Row.fr rx fa44 (fun e => by simp only [Go.Value.ownBlock, Option.some.injEq] at e; omega); replace sx := Nd.sits.fr sx fa44 (fun b hb hT => by have := hob _ hT; (try dsimp only at hb); omega); clear hown rg fa44; refine C1 Pa (lw_nil (qw_block_norm (qw_then (cw_region (C1 V7 (C1 Mv (lw_nil ?_)))))))
           rotate_left 1
          exact qw_round (j + 1, some ⟨_, 0, none⟩, _, [b0] ++ [qb]) (by (refine sub_cons rfl ?_; refine sub_cons rfl ?_; refine sub_cons rfl ?_; refine sub_cons rfl ?_; refine sub_cons rfl ?_; refine sub_cons rfl ?_; refine sub_cons rfl ?_; refine sub_cons rfl ?_; exact sub_nil)) ⟨hs, by rw [← her]; assumption, hbl, hbv, hbf, hd, hb1, by assumption, X, by omega, by simp only; omega, by simp only; rw [List.length_append, hal]; rfl, HE.out⟩ (by simp only; omega)
        · rw [if_pos hqe] at he
          have HE := Lib.hid he; have HXc := Lib.hid (fun (a : Option Addr) (c : Nat) (w : World) h1 h2 h3 h4 h5 h6 h7 => Calls.mono (HX2 a c w h1 h2 h3 h4 h5 h6 h7) (fun e w' h => (⟨h.1, h.2.1⟩ : e = .returned (.tuple #[.bool qb, .int .i64 qe]) ∧ Fr (· = r) w w'))); clear he HX2
          focus
           refine cS (C1 V3 (cT (cw_seq (Wyo (cw_skip (qw_then (cw_seq (cw_block (cS (C1 Mv (C1 Pi ?_))))))))))); refine C1 (Pws rx) ?_; (refine lw_alloc' [_, _, _, _] zOk rfl rfl ?_; intro bb1 wb2 nb3); have hb5 := nb3.blk; have xb6 := nb3.ext; have pb7 := nb3.pos; have zb8 := nb3.size; clear nb3; replace hmap := hmap.ext xb6; replace hbl := hbl.ext xb6; replace hbv := hbv.ext xb6; replace hbf := hbf.ext xb6; replace hd := hd.ext xb6; replace X := X.ext xb6; replace hs := Bk.rowSits.ext hs xb6; replace hb1 := hb1.ext xb6; replace rx := rx.ext xb6; replace sx := Nd.sits.ext sx xb6; replace hown := hown.ext xb6; replace rg := rg.ext xb6; clear xb6; refine C1 Pa ?_; (refine lw_store' [_, _, _, _] [_, _, _, _] tabOk rfl rfl rfl rfl rfl rfl hb5 rfl rfl ?_; intro wb9 nb10); have hb13 := nb10.blk; have fb11 := nb10.fr; have zb12 := nb10.size; clear nb10 hb5; replace hmap := hmap.fr fb11 (by omega); replace hbl := hbl.fr fb11 (by omega); replace hbv := hbv.fr fb11 (by omega); replace hbf := hbf.fr fb11 (by omega); replace hd := hd.fr fb11 (by omega); replace X := X.fr fb11 (by omega); replace hs := Bk.rowSits.fr hs fb11 (by omega); replace hb1 := hb1.fr fb11 (by omega); replace rx := Row.fr rx fb11 (by simp only; omega); replace sx := Nd.sits.fr sx fb11 (by omega); replace hown := OwnQ.fr hown fb11 (fun k hk => ⟨fun h => h.elim, fun e => by have := hob _ e; (try dsimp only at hk); omega⟩); replace rg := Row.fr rg fb11 (by simp only; omega); clear fb11; refine cN (C1 Pg (C1 (Pl hb1) (C1 V1 (C1 Mv (Gya (C1 Mv (Gya (C1 V1 (C1 Qya (C1 Pa (cT ?_)))))))))))
           refine cw_seq (cS (C1 Mv (cT (Wyo ?_)))); (refine cw_tdraw (fun wz => Ext wb9 wz) 6 (.pure 0 (.pure 1 (.pure 2 (.pure 3 (.pure 4 (.pure 5 .tail)))))) mixed (by kernel_rfl) (panicOk_then (panicOk_block (panicOk_then (panicOk_then (panicOk_block (panicOk_then panicOk_body)))))) ?_; intro wb14 xb15 _); have qsb16 : (fun wz => Ext wb9 wz) wb14 := xb15; simp only at qsb16; have d_hb13 := hb13; have d_hmap := hmap; have d_hbl := hbl; have d_hbv := hbv; have d_hbf := hbf; have d_hd := hd; have d_hs := hs; have d_hb1 := hb1; have d_rx := rx; have d_sx := sx; have d_hown := hown; have d_rg := rg; have zb17 := xb15.size; replace hb13 := hb13.ext xb15; replace hmap := hmap.ext xb15; replace hbl := hbl.ext xb15; replace hbv := hbv.ext xb15; replace hbf := hbf.ext xb15; replace hd := hd.ext xb15; replace X := X.ext xb15; replace hs := Bk.rowSits.ext hs xb15; replace hb1 := hb1.ext xb15; replace rx := rx.ext xb15; replace sx := Nd.sits.ext sx xb15; replace hown := hown.ext xb15; replace rg := rg.ext xb15; clear xb15; refine ⟨qsb16, ?_⟩; refine Tq rfl (Db d_hbv) (Tq rfl Pf (Tq rfl (Db d_hb1) (Tq rfl Mv (Tq rfl Pi (Tq rfl (Dr d_rg) ?_))))); clear qsb16 d_hb13 d_hmap d_hbl d_hbv d_hbf d_hd d_hs d_hb1 d_rx d_sx d_hown d_rg; refine tw_tail rfl (lw_mapput tabOk rfl rfl rfl rfl rfl hmap ?_); rintro wb18 hb19 fb20; have zb21 := fb20.size; replace hb13 := hb13.fr fb20 (by omega); clear hmap; replace hbl := hbl.fr fb20 (by omega); replace hbv := hbv.fr fb20 (by omega); replace hbf := hbf.fr fb20 (by omega)
           replace hd := hd.fr fb20 (by omega); replace X := X.fr fb20 (by omega); replace hs := Bk.rowSits.fr hs fb20 (by omega); replace hb1 := hb1.fr fb20 (by omega); replace rx := Row.fr rx fb20 (by simp only; omega); replace sx := Nd.sits.fr sx fb20 (by omega); replace hown := OwnQ.fr hown fb20 (fun k hk => ⟨fun h => h.elim, fun e => by have := hob _ e; (try dsimp only at hk); omega⟩); replace rg := Row.fr rg fb20 (by simp only; omega); clear fb20; refine cN (C1 (Pl hbf) (lw_loads_b' [_, _, _, _] tabOk rfl rfl rfl hb13 rfl rfl rfl ?_)); refine lw_does (does_callv (fi := []) (ca := [.pointer (some ⟨bl, 0, none⟩), .pointer (some ⟨bv, 0, none⟩), .pointer (some ⟨bf, 0, none⟩)]) (by kernel_rfl) rfl rfl (HXc.out _ _ _ (by assumption) (by assumption) (by assumption) (by assumption) (by assumption) (by assumption) (by omega)) (fun _ _ h => ⟨_, h.1⟩)) rfl ?_ (fun _ h => h); rintro _ wb23 ⟨⟨⟩, fb22⟩; have zb24 := fb22.size; clear hb19; replace hb13 := hb13.fr fb22 (by omega); replace hbl := hbl.fr fb22 (by omega); replace hbv := hbv.fr fb22 (by omega); replace hbf := hbf.fr fb22 (by omega); replace hd := hd.fr fb22 (by omega); replace X := X.fr fb22 (by omega); replace hs := Bk.rowSits.fr hs fb22 (by omega); replace hb1 := hb1.fr fb22 (by omega); replace rx := Row.fr rx fb22 (by simp only; omega); replace sx := Nd.sits.fr sx fb22 (by omega); replace hown := OwnQ.fr hown fb22 (fun k hk => ⟨fun h => h.elim, fun e => by have := hob _ e; (try dsimp only at hk); omega⟩); replace rg := Row.fr rg fb22 (by simp only; omega)
           clear fb22; refine C1 Mv (C1 Px (C1 Px (C1 Pa (C1 Pa (cT (cw_seq (cS (C1 Mv (C1 V2 (cT (Wya ?_))))))))))); refine cS (C1 Mv (C1 Pa (C1 Pa (cT (cw_ret (qw_then_ret (qw_block_ret (qw_then_ret (qw_then_ret (qw_block_ret (qw_then_ret ?_))))))))))); refine qw_ret2 rfl rfl rfl ?_; rotate_left 1
          exact vis_err HE.out hqe X
      · have hif : (if k = 84 ∧ acc.length = 1 then (s, acc.getD 0 false) :: v else v) = v := if_neg (fun h => hb ⟨h.1, by omega⟩)
        rw [hif] at he; clear hif; have HX2 := HX.out _ _ HV.out
        generalize x.chk lib v = q at *
        obtain ⟨qb, qe⟩ := q; clear HX; dsimp only at he
        have hb' : k = 84 → ¬ j = 1 := fun h1 h2 => hb ⟨h1, h2⟩
        clear hb
        by_cases hqe : qe = 0
        · subst hqe
          rw [if_neg (by simp)] at he; have HE := Lib.hid he; have HXc := Lib.hid (fun (a : Option Addr) (c : Nat) (w : World) h1 h2 h3 h4 h5 h6 h7 => Calls.mono (HX2 a c w h1 h2 h3 h4 h5 h6 h7) (fun e w' h => (⟨h.1, h.2.1, h.2.2 rfl⟩ : e = .returned (.tuple #[.bool qb, .int .i64 0]) ∧ Fr (· = r) w w' ∧ MapIs w' r kvs))); clear he HX2
          by_cases hk : k = 84
          · have hj1 := hb' hk
            clear hb'
            focus
             refine cS (C1 V3 (cT (cw_seq (Wyo (cw_skip (qw_then (cw_seq (cw_block (cS (C1 Mv (C1 Pi ?_))))))))))); refine C1 (Pws rx) ?_; (refine lw_alloc' [_, _, _, _] zOk rfl rfl ?_; intro bc1 wc2 nc3); have hc5 := nc3.blk; have xc6 := nc3.ext; have pc7 := nc3.pos; have zc8 := nc3.size; clear nc3; replace hmap := hmap.ext xc6; replace hbl := hbl.ext xc6; replace hbv := hbv.ext xc6; replace hbf := hbf.ext xc6; replace hd := hd.ext xc6; replace hown := hown.ext xc6; replace X := X.ext xc6; replace hs := Bk.rowSits.ext hs xc6; replace hb1 := hb1.ext xc6; replace rx := rx.ext xc6; replace sx := Nd.sits.ext sx xc6; clear xc6; refine C1 Pa ?_; (refine lw_store' [_, _, _, _] [_, _, _, _] tabOk rfl rfl rfl rfl rfl rfl hc5 rfl rfl ?_; intro wc9 nc10); have hc13 := nc10.blk; have fc11 := nc10.fr; have zc12 := nc10.size; clear nc10 hc5; replace hmap := hmap.fr fc11 (by omega); replace hbl := hbl.fr fc11 (by omega); replace hbv := hbv.fr fc11 (by omega); replace hbf := hbf.fr fc11 (by omega); replace hd := hd.fr fc11 (by omega); replace hown := OwnQ.fr hown fc11 (fun k hk => ⟨fun h => h.elim, fun e => by have := hob _ e; (try dsimp only at hk); omega⟩); replace X := X.fr fc11 (by omega); replace hs := Bk.rowSits.fr hs fc11 (by omega); replace hb1 := hb1.fr fc11 (by omega); replace rx := Row.fr rx fc11 (by simp only; omega); replace sx := Nd.sits.fr sx fc11 (by omega); clear fc11; refine cN (C1 Pg (C1 (Pl hb1) (C1 V1 (C1 Mv (Gya (C1 Mv (Gya (C1 V1 (C1 Qya (C1 Pa (cT ?_))))))))))); refine cw_seq (cS (C1 Mv (cT (Wno (cw_skip (qw_then (cS (C1 (Pl hbf) (lw_loads_b' [_, _, _, _] tabOk rfl rfl rfl hc13 rfl rfl rfl ?_)))))))))
             refine lw_does (does_callv (fi := []) (ca := [.pointer (some ⟨bl, 0, none⟩), .pointer (some ⟨bv, 0, none⟩), .pointer (some ⟨bf, 0, none⟩)]) (by kernel_rfl) rfl rfl (HXc.out _ _ _ (by assumption) (by assumption) (by assumption) (by assumption) (by assumption) (by assumption) (by omega)) (fun _ _ h => ⟨_, h.1⟩)) rfl ?_ (fun _ h => h); rintro _ wc16 ⟨⟨⟩, ⟨fc14, hc15⟩⟩; have zc17 := fc14.size; replace hc13 := hc13.fr fc14 (by omega); clear hmap; replace hbl := hbl.fr fc14 (by omega); replace hbv := hbv.fr fc14 (by omega); replace hbf := hbf.fr fc14 (by omega); replace hd := hd.fr fc14 (by omega); replace hown := OwnQ.fr hown fc14 (fun k hk => ⟨fun h => h.elim, fun e => by have := hob _ e; (try dsimp only at hk); omega⟩); replace X := X.fr fc14 (by omega); replace hs := Bk.rowSits.fr hs fc14 (by omega); replace hb1 := hb1.fr fc14 (by omega); replace rx := Row.fr rx fc14 (by simp only; omega); replace sx := Nd.sits.fr sx fc14 (by omega); clear fc14; refine C1 Mv (C1 Px (C1 Px (C1 Pa (C1 Pa (cT (cw_seq (cS (C1 Mv (C1 V2 (cT (Wnd ?_))))))))))); refine cw_skip (qw_then (cw_seq (cS (C1 Mv (cT (Wno (cw_skip (qw_then (cw_region (C1 Mv (C1 Mv ?_))))))))))); (refine lw_does (does_slice' [_] tabOk zOk rfl rfl rfl rfl rfl rfl rfl rfl rfl) rfl ?_ (fun _ h => h); rintro _ wc19 ⟨bc18, rfl, nc20, tc21⟩); clear tc21; have hc22 := nc20.blk; have xc23 := nc20.ext; have pc24 := nc20.pos; have zc25 := nc20.size; clear nc20; replace hc15 := hc15.ext xc23; replace hc13 := hc13.ext xc23; replace hbl := hbl.ext xc23
             replace hbv := hbv.ext xc23; replace hbf := hbf.ext xc23; replace hd := hd.ext xc23; replace hown := hown.ext xc23; replace X := X.ext xc23; replace hs := Bk.rowSits.ext hs xc23; replace hb1 := hb1.ext xc23; replace rx := rx.ext xc23; replace sx := Nd.sits.ext sx xc23; clear xc23; refine lw_appendQ (R := fun _ => False) (sh := boolShape) (z := qb) tabOk zOk rfl rfl rfl rfl (by kernel_rfl) rfl rfl rfl (by assumption) (fun _ h => by exact h) (Blk.row (by assumption)) rfl (by omega) (by omega) rfl ?_; rintro gc26 cap'c27 wc28 hc29 hc30 hc31 fc32; have zc33 := fc32.size; replace hc22 := Blk.fr hc22 fc32 (fun e => by have := hob _ e; omega); replace hc15 := MapIs.fr hc15 fc32 (fun e => by have := hob _ e; omega); replace hc13 := Blk.fr hc13 fc32 (fun e => by have := hob _ e; omega); replace hbl := Blk.fr hbl fc32 (fun e => by have := hob _ e; omega); replace hbv := Blk.fr hbv fc32 (fun e => by have := hob _ e; omega); replace hbf := Blk.fr hbf fc32 (fun e => by have := hob _ e; omega); replace hd := FDs.fr hd fc32 (fun b hb hT => by have := hob _ hT; (try dsimp only at hb); omega); clear hown; replace X := Fr.fr X fc32 (fun k hk => by have := hob _ hk; omega); replace hs := Bk.rowSits.fr hs fc32 (fun b hb hT => by have := hob _ hT; (try dsimp only at hb); omega); replace hb1 := Blk.fr hb1 fc32 (fun e => by have := hob _ e; omega); clear rx; replace sx := Nd.sits.fr sx fc32 (fun b hb hT => by have := hob _ hT; (try dsimp only at hb); omega); clear fc32; refine C1 Pa (lw_nil (qw_block_norm (qw_then (cw_region (C1 V7 (C1 Mv (lw_nil ?_)))))))
             rotate_left 1
            exact qw_round (j + 1, some ⟨_, 0, none⟩, _, acc ++ [qb]) (by (refine sub_cons rfl ?_; refine sub_cons rfl ?_; refine sub_cons rfl ?_; refine sub_cons rfl ?_; refine sub_cons rfl ?_; refine sub_cons rfl ?_; refine sub_cons rfl ?_; refine sub_cons rfl ?_; exact sub_nil)) ⟨hs, by assumption, hbl, hbv, hbf, hd, hb1, by assumption, X, by omega, by simp only; omega, by simp only; rw [List.length_append, hal]; rfl, HE.out⟩ (by simp only; omega)
          · clear hb'
            focus
             refine cS (C1 V3 (cT (cw_seq (Wyo (cw_skip (qw_then (cw_seq (cw_block (cS (C1 Mv (C1 Pi ?_))))))))))); refine C1 (Pws rx) ?_; (refine lw_alloc' [_, _, _, _] zOk rfl rfl ?_; intro bd1 wd2 nd3); have hd5 := nd3.blk; have xd6 := nd3.ext; have pd7 := nd3.pos; have zd8 := nd3.size; clear nd3; replace hmap := hmap.ext xd6; replace hbl := hbl.ext xd6; replace hbv := hbv.ext xd6; replace hbf := hbf.ext xd6; replace hd := hd.ext xd6; replace hown := hown.ext xd6; replace X := X.ext xd6; replace hs := Bk.rowSits.ext hs xd6; replace hb1 := hb1.ext xd6; replace rx := rx.ext xd6; replace sx := Nd.sits.ext sx xd6; clear xd6; refine C1 Pa ?_; (refine lw_store' [_, _, _, _] [_, _, _, _] tabOk rfl rfl rfl rfl rfl rfl hd5 rfl rfl ?_; intro wd9 nd10); have hd13 := nd10.blk; have fd11 := nd10.fr; have zd12 := nd10.size; clear nd10 hd5; replace hmap := hmap.fr fd11 (by omega); replace hbl := hbl.fr fd11 (by omega); replace hbv := hbv.fr fd11 (by omega); replace hbf := hbf.fr fd11 (by omega); replace hd := hd.fr fd11 (by omega); replace hown := OwnQ.fr hown fd11 (fun k hk => ⟨fun h => h.elim, fun e => by have := hob _ e; (try dsimp only at hk); omega⟩); replace X := X.fr fd11 (by omega); replace hs := Bk.rowSits.fr hs fd11 (by omega); replace hb1 := hb1.fr fd11 (by omega); replace rx := Row.fr rx fd11 (by simp only; omega); replace sx := Nd.sits.fr sx fd11 (by omega); clear fd11; refine cN (C1 Pg (C1 (Pl hb1) (C1 V1 (C1 Mv (Ona (Ona (C1 Qna (C1 Pa (cT (cw_seq (cS ?_))))))))))); refine C1 Mv (cT (cw_cond_f rfl (cw_skip (qw_then (cS (C1 (Pl hbf) (lw_loads_b' [_, _, _, _] tabOk rfl rfl rfl hd13 rfl rfl rfl ?_)))))))
             refine lw_does (does_callv (fi := []) (ca := [.pointer (some ⟨bl, 0, none⟩), .pointer (some ⟨bv, 0, none⟩), .pointer (some ⟨bf, 0, none⟩)]) (by kernel_rfl) rfl rfl (HXc.out _ _ _ (by assumption) (by assumption) (by assumption) (by assumption) (by assumption) (by assumption) (by omega)) (fun _ _ h => ⟨_, h.1⟩)) rfl ?_ (fun _ h => h); rintro _ wd16 ⟨⟨⟩, ⟨fd14, hd15⟩⟩; have zd17 := fd14.size; replace hd13 := hd13.fr fd14 (by omega); clear hmap; replace hbl := hbl.fr fd14 (by omega); replace hbv := hbv.fr fd14 (by omega); replace hbf := hbf.fr fd14 (by omega); replace hd := hd.fr fd14 (by omega); replace hown := OwnQ.fr hown fd14 (fun k hk => ⟨fun h => h.elim, fun e => by have := hob _ e; (try dsimp only at hk); omega⟩); replace X := X.fr fd14 (by omega); replace hs := Bk.rowSits.fr hs fd14 (by omega); replace hb1 := hb1.fr fd14 (by omega); replace rx := Row.fr rx fd14 (by simp only; omega); replace sx := Nd.sits.fr sx fd14 (by omega); clear fd14; refine C1 Mv (C1 Px (C1 Px (C1 Pa (C1 Pa (cT (cw_seq (cS (C1 Mv (C1 V2 (cT (Wnd ?_))))))))))); refine cw_skip (qw_then (cw_seq (cS (C1 Mv (cT (cw_cond_f rfl (cw_skip (qw_then (cw_region (C1 Mv (C1 Mv ?_))))))))))); (refine lw_does (does_slice' [_] tabOk zOk rfl rfl rfl rfl rfl rfl rfl rfl rfl) rfl ?_ (fun _ h => h); rintro _ wd19 ⟨bd18, rfl, nd20, td21⟩); clear td21; have hd22 := nd20.blk; have xd23 := nd20.ext; have pd24 := nd20.pos; have zd25 := nd20.size; clear nd20; replace hd15 := hd15.ext xd23; replace hd13 := hd13.ext xd23
             replace hbl := hbl.ext xd23; replace hbv := hbv.ext xd23; replace hbf := hbf.ext xd23; replace hd := hd.ext xd23; replace hown := hown.ext xd23; replace X := X.ext xd23; replace hs := Bk.rowSits.ext hs xd23; replace hb1 := hb1.ext xd23; replace rx := rx.ext xd23; replace sx := Nd.sits.ext sx xd23; clear xd23; refine lw_appendQ (R := fun _ => False) (sh := boolShape) (z := qb) tabOk zOk rfl rfl rfl rfl (by kernel_rfl) rfl rfl rfl (by assumption) (fun _ h => by exact h) (Blk.row (by assumption)) rfl (by omega) (by omega) rfl ?_; rintro gd26 cap'd27 wd28 hd29 hd30 hd31 fd32; have zd33 := fd32.size; replace hd22 := Blk.fr hd22 fd32 (fun e => by have := hob _ e; omega); replace hd15 := MapIs.fr hd15 fd32 (fun e => by have := hob _ e; omega); replace hd13 := Blk.fr hd13 fd32 (fun e => by have := hob _ e; omega); replace hbl := Blk.fr hbl fd32 (fun e => by have := hob _ e; omega); replace hbv := Blk.fr hbv fd32 (fun e => by have := hob _ e; omega); replace hbf := Blk.fr hbf fd32 (fun e => by have := hob _ e; omega); replace hd := FDs.fr hd fd32 (fun b hb hT => by have := hob _ hT; (try dsimp only at hb); omega); clear hown; replace X := Fr.fr X fd32 (fun k hk => by have := hob _ hk; omega); replace hs := Bk.rowSits.fr hs fd32 (fun b hb hT => by have := hob _ hT; (try dsimp only at hb); omega); replace hb1 := Blk.fr hb1 fd32 (fun e => by have := hob _ e; omega); clear rx; replace sx := Nd.sits.fr sx fd32 (fun b hb hT => by have := hob _ hT; (try dsimp only at hb); omega)
             clear fd32; refine C1 Pa (lw_nil (qw_block_norm (qw_then (cw_region (C1 V7 (C1 Mv (lw_nil ?_))))))); rotate_left 1
            exact qw_round (j + 1, some ⟨_, 0, none⟩, _, acc ++ [qb]) (by (refine sub_cons rfl ?_; refine sub_cons rfl ?_; refine sub_cons rfl ?_; refine sub_cons rfl ?_; refine sub_cons rfl ?_; refine sub_cons rfl ?_; refine sub_cons rfl ?_; refine sub_cons rfl ?_; exact sub_nil)) ⟨hs, by assumption, hbl, hbv, hbf, hd, hb1, by assumption, X, by omega, by simp only; omega, by simp only; rw [List.length_append, hal]; rfl, HE.out⟩ (by simp only; omega)
        · rw [if_pos hqe] at he
          have HE := Lib.hid he; have HXc := Lib.hid (fun (a : Option Addr) (c : Nat) (w : World) h1 h2 h3 h4 h5 h6 h7 => Calls.mono (HX2 a c w h1 h2 h3 h4 h5 h6 h7) (fun e w' h => (⟨h.1, h.2.1⟩ : e = .returned (.tuple #[.bool qb, .int .i64 qe]) ∧ Fr (· = r) w w'))); clear he HX2
          by_cases hk : k = 84
          · have hj1 := hb' hk
            clear hb'
            focus
             refine cS (C1 V3 (cT (cw_seq (Wyo (cw_skip (qw_then (cw_seq (cw_block (cS (C1 Mv (C1 Pi ?_))))))))))); refine C1 (Pws rx) ?_; (refine lw_alloc' [_, _, _, _] zOk rfl rfl ?_; intro be1 we2 ne3); have he5 := ne3.blk; have xe6 := ne3.ext; have pe7 := ne3.pos; have ze8 := ne3.size; clear ne3; replace hmap := hmap.ext xe6; replace hbl := hbl.ext xe6; replace hbv := hbv.ext xe6; replace hbf := hbf.ext xe6; replace hd := hd.ext xe6; replace hown := hown.ext xe6; replace X := X.ext xe6; replace hs := Bk.rowSits.ext hs xe6; replace hb1 := hb1.ext xe6; replace rx := rx.ext xe6; replace sx := Nd.sits.ext sx xe6; clear xe6; refine C1 Pa ?_; (refine lw_store' [_, _, _, _] [_, _, _, _] tabOk rfl rfl rfl rfl rfl rfl he5 rfl rfl ?_; intro we9 ne10); have he13 := ne10.blk; have fe11 := ne10.fr; have ze12 := ne10.size; clear ne10 he5; replace hmap := hmap.fr fe11 (by omega); replace hbl := hbl.fr fe11 (by omega); replace hbv := hbv.fr fe11 (by omega); replace hbf := hbf.fr fe11 (by omega); replace hd := hd.fr fe11 (by omega); replace hown := OwnQ.fr hown fe11 (fun k hk => ⟨fun h => h.elim, fun e => by have := hob _ e; (try dsimp only at hk); omega⟩); replace X := X.fr fe11 (by omega); replace hs := Bk.rowSits.fr hs fe11 (by omega); replace hb1 := hb1.fr fe11 (by omega); replace rx := Row.fr rx fe11 (by simp only; omega); replace sx := Nd.sits.fr sx fe11 (by omega); clear fe11; refine cN (C1 Pg (C1 (Pl hb1) (C1 V1 (C1 Mv (Gya (C1 Mv (Gya (C1 V1 (C1 Qya (C1 Pa (cT ?_))))))))))); refine cw_seq (cS (C1 Mv (cT (Wno (cw_skip (qw_then (cS (C1 (Pl hbf) (lw_loads_b' [_, _, _, _] tabOk rfl rfl rfl he13 rfl rfl rfl ?_)))))))))
             refine lw_does (does_callv (fi := []) (ca := [.pointer (some ⟨bl, 0, none⟩), .pointer (some ⟨bv, 0, none⟩), .pointer (some ⟨bf, 0, none⟩)]) (by kernel_rfl) rfl rfl (HXc.out _ _ _ (by assumption) (by assumption) (by assumption) (by assumption) (by assumption) (by assumption) (by omega)) (fun _ _ h => ⟨_, h.1⟩)) rfl ?_ (fun _ h => h); rintro _ we15 ⟨⟨⟩, fe14⟩; have ze16 := fe14.size; replace he13 := he13.fr fe14 (by omega); clear hmap; replace hbl := hbl.fr fe14 (by omega); replace hbv := hbv.fr fe14 (by omega); replace hbf := hbf.fr fe14 (by omega); replace hd := hd.fr fe14 (by omega); replace hown := OwnQ.fr hown fe14 (fun k hk => ⟨fun h => h.elim, fun e => by have := hob _ e; (try dsimp only at hk); omega⟩); replace X := X.fr fe14 (by omega); replace hs := Bk.rowSits.fr hs fe14 (by omega); replace hb1 := hb1.fr fe14 (by omega); replace rx := Row.fr rx fe14 (by simp only; omega); replace sx := Nd.sits.fr sx fe14 (by omega); clear fe14; refine C1 Mv (C1 Px (C1 Px (C1 Pa (C1 Pa (cT (cw_seq (cS (C1 Mv (C1 V2 (cT (Wya ?_))))))))))); refine cS (C1 Mv (C1 Pa (C1 Pa (cT (cw_ret (qw_then_ret (qw_block_ret (qw_then_ret (qw_then_ret (qw_block_ret (qw_then_ret ?_))))))))))); refine qw_ret2 rfl rfl rfl ?_; rotate_left 1
            exact vis_err HE.out hqe X
          · clear hb'
            focus
             refine cS (C1 V3 (cT (cw_seq (Wyo (cw_skip (qw_then (cw_seq (cw_block (cS (C1 Mv (C1 Pi ?_))))))))))); refine C1 (Pws rx) ?_; (refine lw_alloc' [_, _, _, _] zOk rfl rfl ?_; intro bf1 wf2 nf3); have hf5 := nf3.blk; have xf6 := nf3.ext; have pf7 := nf3.pos; have zf8 := nf3.size; clear nf3; replace hmap := hmap.ext xf6; replace hbl := hbl.ext xf6; replace hbv := hbv.ext xf6; replace hbf := hbf.ext xf6; replace hd := hd.ext xf6; replace hown := hown.ext xf6; replace X := X.ext xf6; replace hs := Bk.rowSits.ext hs xf6; replace hb1 := hb1.ext xf6; replace rx := rx.ext xf6; replace sx := Nd.sits.ext sx xf6; clear xf6; refine C1 Pa ?_; (refine lw_store' [_, _, _, _] [_, _, _, _] tabOk rfl rfl rfl rfl rfl rfl hf5 rfl rfl ?_; intro wf9 nf10); have hf13 := nf10.blk; have ff11 := nf10.fr; have zf12 := nf10.size; clear nf10 hf5; replace hmap := hmap.fr ff11 (by omega); replace hbl := hbl.fr ff11 (by omega); replace hbv := hbv.fr ff11 (by omega); replace hbf := hbf.fr ff11 (by omega); replace hd := hd.fr ff11 (by omega); replace hown := OwnQ.fr hown ff11 (fun k hk => ⟨fun h => h.elim, fun e => by have := hob _ e; (try dsimp only at hk); omega⟩); replace X := X.fr ff11 (by omega); replace hs := Bk.rowSits.fr hs ff11 (by omega); replace hb1 := hb1.fr ff11 (by omega); replace rx := Row.fr rx ff11 (by simp only; omega); replace sx := Nd.sits.fr sx ff11 (by omega); clear ff11; refine cN (C1 Pg (C1 (Pl hb1) (C1 V1 (C1 Mv (Ona (Ona (C1 Qna (C1 Pa (cT (cw_seq (cS ?_))))))))))); refine C1 Mv (cT (cw_cond_f rfl (cw_skip (qw_then (cS (C1 (Pl hbf) (lw_loads_b' [_, _, _, _] tabOk rfl rfl rfl hf13 rfl rfl rfl ?_)))))))
             refine lw_does (does_callv (fi := []) (ca := [.pointer (some ⟨bl, 0, none⟩), .pointer (some ⟨bv, 0, none⟩), .pointer (some ⟨bf, 0, none⟩)]) (by kernel_rfl) rfl rfl (HXc.out _ _ _ (by assumption) (by assumption) (by assumption) (by assumption) (by assumption) (by assumption) (by omega)) (fun _ _ h => ⟨_, h.1⟩)) rfl ?_ (fun _ h => h); rintro _ wf15 ⟨⟨⟩, ff14⟩; have zf16 := ff14.size; replace hf13 := hf13.fr ff14 (by omega); clear hmap; replace hbl := hbl.fr ff14 (by omega); replace hbv := hbv.fr ff14 (by omega); replace hbf := hbf.fr ff14 (by omega); replace hd := hd.fr ff14 (by omega); replace hown := OwnQ.fr hown ff14 (fun k hk => ⟨fun h => h.elim, fun e => by have := hob _ e; (try dsimp only at hk); omega⟩); replace X := X.fr ff14 (by omega); replace hs := Bk.rowSits.fr hs ff14 (by omega); replace hb1 := hb1.fr ff14 (by omega); replace rx := Row.fr rx ff14 (by simp only; omega); replace sx := Nd.sits.fr sx ff14 (by omega); clear ff14; refine C1 Mv (C1 Px (C1 Px (C1 Pa (C1 Pa (cT (cw_seq (cS (C1 Mv (C1 V2 (cT (Wya ?_))))))))))); refine cS (C1 Mv (C1 Pa (C1 Pa (cT (cw_ret (qw_then_ret (qw_block_ret (qw_then_ret (qw_then_ret (qw_block_ret (qw_then_ret ?_))))))))))); refine qw_ret2 rfl rfl rfl ?_; rotate_left 1
            exact vis_err HE.out hqe X
    · have hje : j = l.length := by omega
      subst hje; have he := HE.out; rw [List.drop_length, rowChk] at he; have HE := Lib.hid he; clear he HK HW IH; have hels := hown.els (S := fun b => b < w1.heap.size) (fun _ _ h => h); have HF := Lib.hid (fun (la : Option Addr) (lc : Nat) (ta : Option Addr) (tc : Nat) (T : Nat → Prop) (w : World) (hs : Els boolV T w acc ta) (hd : FDs (· < B0) w lib la) => result_c lib k n s l acc _ T la a ta lc c tc w (by omega) hs (fun h => by have := h83.out h; omega) e85.out hL HP.out hd); clear hown
      by_cases hk : k = 81
      · obtain ⟨b, hsb⟩ := e81.out hk
        have hg : getS kvs s = some (.bool b) := by rw [HV.out s, hsb]; rfl
        have hq := Lib.hid (show (if k = 81 then ((seen v s).getD false, 0) else typeF lib k s acc) = (b, (0 : Int)) from by rw [if_pos hk, hsb]; rfl); clear hsb
        focus
         refine cS (C1 V3 (cT (cw_seq (Wno (cw_exit (qw_then_exit (qw_then_exit (qw_block_exit (qw_then (cw_seq (cS ?_))))))))))); refine C1 Pg (C1 (Pl hb1) (C1 V1 (cT (Wya (cS (C1 (Pl hbv) (C1 Pf (C1 (Pl hb1) ?_)))))))); refine C1 (pur_lookup tabOk rfl rfl rfl rfl rfl (fun wz hz => by subst hz; exact hmap)) ?_; refine C1 Pa (C1 Pa (cT (cw_ret (qw_then_ret (qw_ret2 rfl rfl rfl ?_))))); rotate_left 1
        rw [hg]
        exact vis_ok (z := fun acc => if k = 81 then ((seen v s).getD false, 0) else typeF lib k s acc) HE.out hq.out X (by assumption)
      · have hq := Lib.hid (show (if k = 81 then ((seen v s).getD false, 0) else typeF lib k s acc) = ((typeF lib k s acc).1, (typeF lib k s acc).2) from by rw [if_neg hk])
        focus
         refine cS (C1 V3 (cT (cw_seq (Wno (cw_exit (qw_then_exit (qw_then_exit (qw_block_exit (qw_then (cw_seq (cS ?_))))))))))); refine C1 Pg (C1 (Pl hb1) (C1 V1 (cT (Wna (cw_skip (qw_then (cS (C1 (Pl hbl) (lw_loads_b' [_, _, _, _] tabOk rfl rfl rfl hb1 rfl rfl rfl (C1 Mv ?_)))))))))); refine cC rfl (HF.out _ _ _ _ _ _ (by assumption) (by assumption)) ?_; rintro _ wh2 ⟨⟨⟩, xh1⟩; have zh3 := xh1.size; replace hs := Bk.rowSits.ext hs xh1; replace hmap := hmap.ext xh1; replace hbl := hbl.ext xh1; replace hbv := hbv.ext xh1; replace hbf := hbf.ext xh1; replace hd := hd.ext xh1; replace hb1 := hb1.ext xh1; replace X := X.ext xh1; replace hels := hels.ext xh1; clear xh1; refine C1 Px (C1 Px (C1 Pa (C1 Pa (cT (cw_ret (qw_ret2 rfl rfl rfl ?_)))))); rotate_left 1
        exact vis_ok (z := fun acc => if k = 81 then ((seen v s).getD false, 0) else typeF lib k s acc) HE.out hq.out X (by assumption)
  · have hchk : (Nd.mk k n s l).chk lib v = (false, reachF lib v k s l.length) := by rw [Nd.chk, if_pos hr]
    rw [hchk]; clear hchk
    generalize reachF lib v k s l.length = q at *
    refine calls_in Tryz.func97 Tryz.ntmps97 rfl rfl ?_
    focus
     refine cS ?_; (refine lw_box' [_, _, _, _] rfl rfl rfl ?_; intro bi1 wi2 ni3); have hi4 := ni3.blk; have xi5 := ni3.ext; have pi6 := ni3.pos; have zi7 := ni3.size; clear ni3; replace hs := Bk.rowSits.ext hs xi5; replace hmap := hmap.ext xi5; replace hbl := hbl.ext xi5; replace hbv := hbv.ext xi5; replace hbf := hbf.ext xi5; replace hd := hd.ext xi5; replace X := X.ext xi5; clear xi5; refine C1 Pa (C1 Pa (cT (cw_seq (cS (C1 (Pl hbl) (C1 (Pl hbv) (lw_loads_b' [_, _, _, _] tabOk rfl rfl rfl hi4 rfl rfl rfl ?_))))))); refine cC rfl (HR.out _ _ _ (by assumption) (by assumption)) ?_; rintro _ wi9 ⟨⟨⟩, xi8⟩; have zi10 := xi8.size; replace hi4 := hi4.ext xi8; replace hs := Bk.rowSits.ext hs xi8; replace hmap := hmap.ext xi8; replace hbl := hbl.ext xi8; replace hbv := hbv.ext xi8; replace hbf := hbf.ext xi8; replace hd := hd.ext xi8; replace X := X.ext xi8; clear xi8; refine C1 Pa (cN (C1 Mv (C1 V2 (cT (Wya (cS (C1 Mv (C1 Pa (C1 Pa (cT (cw_ret ?_))))))))))); refine qw_then_ret (qw_ret2 rfl rfl rfl ?_); rotate_left 1
    exact ⟨rfl, X, fun h => absurd h hr⟩
end
end Bk
