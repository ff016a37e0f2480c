/- Texts that the proofs of InverterAccepted need. No condition. (Part 8 of 8.) -/
import Derived.Test.YtoagkanlgkdhiaaGreatDoorPIac7
set_option linter.unusedSimpArgs false
set_option linter.unusedVariables false
namespace Bk
open Go Go.RowKit Go.Proofs
attribute [local irreducible] Go.Calls
def aw17A : Nd := .mk 57 0 [] [.mk 40 0 [] [.mk 2 0 [120] [], .mk 1 1 [] []], .mk 50 0 [102] [.mk 2 0 [120] []]]
def aw17B : Nd := .mk 57 0 [] [.mk 51 0 [102] [.mk 2 0 [120] []], .mk 41 0 [] [.mk 2 0 [120] [], .mk 1 1 [] []]]
def aw17C : Nd := .mk 57 0 [] [.mk 43 0 [] [.mk 2 0 [120] [], .mk 2 0 [121] []]]
theorem aw17a : parseBlock [120, 32, 43, 61, 32, 49, 59, 10, 99, 97, 108, 108, 32, 102, 40, 120, 41, 59, 10] = (aw17A, 0, 0) := by kernel_rfl
theorem aw17b : parseBlock [117, 110, 99, 97, 108, 108, 32, 102, 40, 120, 41, 59, 10, 120, 32, 45, 61, 32, 49, 59, 10] = (aw17B, 0, 0) := by kernel_rfl
theorem aw17c : parseBlock [120, 32, 60, 61, 62, 32, 121, 59, 10] = (aw17C, 0, 0) := by kernel_rfl
theorem aw17i : aw17A.inv false = aw17B := by kernel_rfl
theorem aw17A_wf : aw17A.wf := by simp [aw17A, Nd.wf, rowWf]
theorem aw17C_wf : aw17C.wf := by simp [aw17C, Nd.wf, rowWf]
theorem aw17A_ok : aw17A.isBlock = true := by decide +kernel
theorem aw17C_ok : aw17C.isBlock = true := by decide +kernel
theorem aw17A_size : aw17A.size ≤ 1000000 := by decide +kernel
theorem aw17B_size : aw17B.size ≤ 1000000 := by decide +kernel
theorem aw17C_size : aw17C.size ≤ 1000000 := by decide +kernel
theorem aw17e : aw17B.eqb aw17B = true := (eqb_iff _ _).2 rfl
theorem aw17p : aw17C.eqb (aw17C.inv false) = true := by kernel_rfl
theorem aw17q : aw17A.eqb (aw17A.inv false) = false := by kernel_rfl
set_option maxRecDepth 100000 in
set_option maxHeartbeats 4000000 in
theorem awake17_c (w : World) (hS : Syms w) (hE : Errs w) : Calls Tryz.prog 4 #[] w fun e w' => e = .returned (.bool true) ∧ Ext w w' := by
 have X := Ext.refl w; have HA := Lib.hid (fun w => Block_p [120, 32, 43, 61, 32, 49, 59, 10, 99, 97, 108, 108, 32, 102, 40, 120, 41, 59, 10] w (by decide)); have HB := Lib.hid (fun w => Block_p [117, 110, 99, 97, 108, 108, 32, 102, 40, 120, 41, 59, 10, 120, 32, 45, 61, 32, 49, 59, 10] w (by decide)); have HC := Lib.hid (fun w => Block_p [120, 32, 60, 61, 62, 32, 121, 59, 10] w (by decide)); rw [aw17a] at HA; rw [aw17b] at HB; rw [aw17c] at HC; have HI := Lib.hid (iStmt_v aw17A_wf aw17A_size (Or.inr aw17A_ok)); rw [aw17i] at HI; have HE := Lib.hid (equalI_v aw17B aw17B_size aw17B); rw [aw17e] at HE; have HP := Lib.hid (palin_v aw17C_wf aw17C_size aw17C_ok); rw [aw17p] at HP; have HQ := Lib.hid (palin_v aw17A_wf aw17A_size aw17A_ok); rw [aw17q] at HQ
 generalize aw17A = A at *
 generalize aw17B = B at *
 generalize aw17C = C at *
 refine calls_in (args := []) Tryz.func4 Tryz.ntmps4 rfl rfl ?_
 focus
  refine cS (C1 Pa (cN ?_)); refine cR (by kernel_rfl) rfl (HA.out _ (by assumption) (by assumption)) (fun _ _ h => h.ret) rfl ?_; rintro _ w5 ⟨a1, ⟨k2, ⟨⟨⟩, ⟨h3, x4⟩⟩⟩⟩; have z6 := x4.size; replace hS := hS.ext x4; replace hE := hE.ext x4; replace X := X.ext x4; clear x4; refine C1 Mv (C1 Px (C1 Px (C1 Px ?_))); (refine lw_alloc' [_, _, _, _] zOk rfl rfl ?_; intro b7 w8 n9); (refine lw_init' [_, _, _, _] tabOk rfl rfl rfl rfl rfl rfl n9 rfl ?_; clear n9; clear w8; intro w10 n9); have h11 := n9.blk; dsimp only at h11; have x12 := n9.ext; have p13 := n9.pos; have z14 := n9.size; clear n9; replace h3 := Nd.sits.ext h3 x12; replace hS := hS.ext x12; replace hE := hE.ext x12; replace X := X.ext x12; clear x12; refine C1 Pa (C1 Pa (cN ?_)); refine cR (by kernel_rfl) rfl (HB.out _ (by assumption) (by assumption)) (fun _ _ h => h.ret) rfl ?_; rintro _ w19 ⟨a15, ⟨k16, ⟨⟨⟩, ⟨h17, x18⟩⟩⟩⟩; have z20 := x18.size; replace h11 := h11.ext x18; replace h3 := Nd.sits.ext h3 x18; replace hS := hS.ext x18; replace hE := hE.ext x18; replace X := X.ext x18; clear x18; refine C1 Mv (C1 Px (C1 Px (C1 Px ?_))); (refine lw_alloc' [_, _, _, _] zOk rfl rfl ?_; intro b21 w22 n23); (refine lw_init' [_, _, _, _] tabOk rfl rfl rfl rfl rfl rfl n23 rfl ?_; clear n23; clear w22; intro w24 n23); have h25 := n23.blk; dsimp only at h25; have x26 := n23.ext; have p27 := n23.pos; have z28 := n23.size; clear n23; replace h17 := Nd.sits.ext h17 x26; replace h11 := h11.ext x26; replace h3 := Nd.sits.ext h3 x26; replace hS := hS.ext x26
  replace hE := hE.ext x26; replace X := X.ext x26; clear x26; refine C1 Pa (C1 Pa (cN ?_)); refine cR (by kernel_rfl) rfl (HC.out _ (by assumption) (by assumption)) (fun _ _ h => h.ret) rfl ?_; rintro _ w33 ⟨a29, ⟨k30, ⟨⟨⟩, ⟨h31, x32⟩⟩⟩⟩; have z34 := x32.size; replace h25 := h25.ext x32; replace h17 := Nd.sits.ext h17 x32; replace h11 := h11.ext x32; replace h3 := Nd.sits.ext h3 x32; replace hS := hS.ext x32; replace hE := hE.ext x32; replace X := X.ext x32; clear x32; refine C1 Mv (C1 Px (C1 Px (C1 Px ?_))); (refine lw_alloc' [_, _, _, _] zOk rfl rfl ?_; intro b35 w36 n37); (refine lw_init' [_, _, _, _] tabOk rfl rfl rfl rfl rfl rfl n37 rfl ?_; clear n37; clear w36; intro w38 n37); have h39 := n37.blk; dsimp only at h39; have x40 := n37.ext; have p41 := n37.pos; have z42 := n37.size; clear n37; replace h31 := Nd.sits.ext h31 x40; replace h25 := h25.ext x40; replace h17 := Nd.sits.ext h17 x40; replace h11 := h11.ext x40; replace h3 := Nd.sits.ext h3 x40; replace hS := hS.ext x40; replace hE := hE.ext x40; replace X := X.ext x40; clear x40; refine C1 Pa (C1 Pa (cN (lw_loads_b' [_, _, _, _] tabOk rfl rfl rfl h11 rfl rfl rfl ?_))); refine cR (by kernel_rfl) rfl (HI.out _ _ _ _ (by assumption)) (fun _ _ h => h.ret) rfl ?_; rintro _ w47 ⟨a43, ⟨c44, ⟨⟨⟩, ⟨h45, x46⟩⟩⟩⟩; have z48 := x46.size; replace h39 := h39.ext x46; replace h31 := Nd.sits.ext h31 x46; replace h25 := h25.ext x46; replace h17 := Nd.sits.ext h17 x46; replace h11 := h11.ext x46; replace h3 := Nd.sits.ext h3 x46; replace hS := hS.ext x46
  replace hE := hE.ext x46; replace X := X.ext x46; clear x46; refine C1 Mv (C1 Px (C1 Px ?_)); (refine lw_alloc' [_, _, _, _] zOk rfl rfl ?_; intro b49 w50 n51); (refine lw_init' [_, _, _, _] tabOk rfl rfl rfl rfl rfl rfl n51 rfl ?_; clear n51; clear w50; intro w52 n51); have h53 := n51.blk; have x54 := n51.ext; have p55 := n51.pos; have z56 := n51.size; clear n51; replace h45 := Nd.sits.ext h45 x54; replace h39 := h39.ext x54; replace h31 := Nd.sits.ext h31 x54; replace h25 := h25.ext x54; replace h17 := Nd.sits.ext h17 x54; replace h11 := h11.ext x54; replace h3 := Nd.sits.ext h3 x54; replace hS := hS.ext x54; replace hE := hE.ext x54; replace X := X.ext x54; clear x54; refine C1 Pa (cN (C1 Mv (C1 V1 (C1 Mv (lw_on rfl rfl rfl (gd_tt (rfl)) (C1 Mv (lw_on rfl rfl rfl (gd_tt (rfl)) (C1 V1 (C1 (Qy (rfl)) (C1 Mv (lw_on rfl rfl rfl (gd_tt (rfl)) ?_))))))))))); refine C1 Mv (lw_on rfl rfl rfl (gd_tt (rfl)) (C1 V1 (C1 (Qy (rfl)) (C1 Mv (lw_on rfl rfl rfl (gd_tt (rfl)) (C1 Mv (lw_on rfl rfl rfl (gd_tt (rfl)) (C1 V1 (C1 (Qy (rfl)) (C1 Mv (Gyd ?_))))))))))); refine lw_loads_b' [_, _, _, _] tabOk rfl rfl rfl h53 rfl rfl rfl (Gyd (lw_loads_b' [_, _, _, _] tabOk rfl rfl rfl h25 rfl rfl rfl (Gyd ?_))); refine cC rfl (HE.out _ _ _ _ _ _ _ (by assumption) (by assumption)) ?_; rintro _ w58 ⟨⟨⟩, x57⟩; have z59 := x57.size; replace h53 := h53.ext x57; replace h45 := Nd.sits.ext h45 x57; replace h39 := h39.ext x57; replace h31 := Nd.sits.ext h31 x57; replace h25 := h25.ext x57; replace h17 := Nd.sits.ext h17 x57
  replace h11 := h11.ext x57; replace h3 := Nd.sits.ext h3 x57; replace hS := hS.ext x57; replace hE := hE.ext x57; replace X := X.ext x57; clear x57; refine C1 Qyd (C1 Mv (lw_on rfl rfl rfl (rfl) (lw_loads_b' [_, _, _, _] tabOk rfl rfl rfl h39 rfl rfl rfl (lw_on rfl rfl rfl (rfl) ?_)))); refine cC rfl (HP.out _ _ _ _ (by assumption)) ?_; rintro _ w61 ⟨⟨⟩, x60⟩; have z62 := x60.size; replace h53 := h53.ext x60; replace h45 := Nd.sits.ext h45 x60; replace h39 := h39.ext x60; replace h31 := Nd.sits.ext h31 x60; replace h25 := h25.ext x60; replace h17 := Nd.sits.ext h17 x60; replace h11 := h11.ext x60; replace h3 := Nd.sits.ext h3 x60; replace hS := hS.ext x60; replace hE := hE.ext x60; replace X := X.ext x60; clear x60; refine C1 (pur_pick_t rfl rfl rfl) (C1 Mv (lw_on rfl rfl rfl (rfl) (lw_loads_b' [_, _, _, _] tabOk rfl rfl rfl h11 rfl rfl rfl (lw_on rfl rfl rfl (rfl) ?_)))); refine cC rfl (HQ.out _ _ _ _ (by assumption)) ?_; rintro _ w64 ⟨⟨⟩, x63⟩; have z65 := x63.size; replace h53 := h53.ext x63; replace h45 := Nd.sits.ext h45 x63; replace h39 := h39.ext x63; replace h31 := Nd.sits.ext h31 x63; replace h25 := h25.ext x63; replace h17 := Nd.sits.ext h17 x63; replace h11 := h11.ext x63; replace h3 := Nd.sits.ext h3 x63; replace hS := hS.ext x63; replace hE := hE.ext x63; replace X := X.ext x63; clear x63; refine lw_on rfl rfl rfl (rfl) (C1 Pt (C1 (pur_pick_t rfl rfl rfl) (C1 Pa (cT (cw_ret (qw_ret1 rfl rfl ?_)))))); rotate_left 1
 exact ⟨rfl, X⟩
end Bk
namespace Bk
open Go Go.RowKit Go.Proofs
mutual
def Nd.small : Nd → Int → Int → Bool × Int
 | .mk _ _ s l, d, m => if m < 1 ∨ d = 0 ∨ 40 < s.length then (false, m - 1) else rowSmall l (d - 1) (m - 1)
def rowSmall : List Nd → Int → Int → Bool × Int
 | [], _, m => (true, m)
 | t :: r, d, m => if (t.small d m).1 then rowSmall r d (t.small d m).2 else (false, (t.small d m).2)
end
mutual
theorem small_le : ∀ (t : Nd) (d m : Int), 0 ≤ m → ((t.small d m).1 = true → 0 ≤ (t.small d m).2 ∧ (t.small d m).2 ≤ m)
 | .mk _ _ s l, d, m, hm, h => by
  simp only [Nd.small] at h ⊢
  split at h
  · simp at h
  · rename_i hn
    rw [if_neg hn]; have := rowSmall_le l (d - 1) (m - 1) (by omega) h
    omega
theorem rowSmall_le : ∀ (l : List Nd) (d m : Int), 0 ≤ m → ((rowSmall l d m).1 = true → 0 ≤ (rowSmall l d m).2 ∧ (rowSmall l d m).2 ≤ m)
 | [], _, m, hm, _ => by simp [rowSmall, hm]
 | t :: r, d, m, hm, h => by
  simp only [rowSmall] at h ⊢
  split at h
  · rename_i ht
    rw [if_pos ht]; have h1 := small_le t d m hm ht; have h2 := rowSmall_le r d (t.small d m).2 h1.1 h
    omega
  · simp at h
end
set_option maxHeartbeats 1000000 in
theorem small_c (N : Nat) : ∀ (k n d m : Int) (s : List UInt8) (l : List Nd) (a : Option Addr) (c pb po : Nat) (S : Nat → Prop) (w : World),
 rowSize l < N → (Nd.mk k n s l).wf → rowSits S w l a → ¬ S pb →
 w.cell? ⟨pb, po, none⟩ = some (.int .i64 m) → w.frozen? ⟨pb, po, none⟩ = false → 0 ≤ m → m ≤ 1000 → 0 ≤ d → d ≤ 1000 →
 Calls Tryz.prog 37 #[.agg #[.int .u8 k, .int .i64 n, str s, .slice a l.length c], .int .i64 d, .pointer (some ⟨pb, po, none⟩)] w fun e w' =>
  e = .returned (.bool ((Nd.mk k n s l).small d m).1) ∧ w'.cell? ⟨pb, po, none⟩ = some (.int .i64 ((Nd.mk k n s l).small d m).2) ∧ w'.frozen? ⟨pb, po, none⟩ = false ∧ Fr (· = pb) w w' := by
 induction N with
 | zero => intro k n d m s l a c pb po S w h; omega
 | succ N ih =>
  intro k n d m s l a c pb po S w hN hwf hs hS hc hf hm0 hm1 hd0 hd1; have hpb := cell_lt hc; simp only [Nd.wf] at hwf; obtain ⟨hk0, hk1, hn0, hn1, hsl, hll, hrw⟩ := hwf
  have hpne : ¬ w.heap.size = pb := by simp at hpb; omega
  have hpne' : ¬ pb = w.heap.size := by simp at hpb; omega
  by_cases h1 : m < 1 ∨ d = 0 ∨ 40 < s.length
  · have hr : (Nd.mk k n s l).small d m = (false, m - 1) := by simp only [Nd.small]; rw [if_pos h1]
    have HR := Lib.hid hr; clear hr ih hs hrw
    by_cases e1 : m < 1
    · have d1 : decide (m - 1 < 0) = true := by simp; omega
      clear h1
      go_enter Tryz.func37, Tryz.ntmps37
      go_wp2_with fail
      go_ret
      rw [HR.out]
      exact ⟨rfl, by go_simp, by go_simp, (by repeat (first | exact Fr.refl _ _ | assumption | refine Fr.alloc ?_ _ | refine Fr.drew ?_ | refine Fr.setCell ?_ _ _ (Or.inl rfl) | refine Fr.trans ?_ (by assumption)))⟩
    · have d1 : decide (m - 1 < 0) = false := by simp; omega
      by_cases e2 : d = 0
      · have d2 : (d == 0) = true := by simp [e2]
        clear h1 e2
        go_enter Tryz.func37, Tryz.ntmps37
        go_wp2_with fail
        go_ret
        rw [HR.out]
        exact ⟨rfl, by go_simp, by go_simp, (by repeat (first | exact Fr.refl _ _ | assumption | refine Fr.alloc ?_ _ | refine Fr.drew ?_ | refine Fr.setCell ?_ _ _ (Or.inl rfl) | refine Fr.trans ?_ (by assumption)))⟩
      · have d2 : (d == 0) = false := by simp [e2]
        have d3 : decide ((40 : Int) < s.length) = true := by simp; omega
        clear h1
        go_enter Tryz.func37, Tryz.ntmps37
        go_wp2_with fail
        go_ret
        rw [HR.out]
        exact ⟨rfl, by go_simp, by go_simp, (by repeat (first | exact Fr.refl _ _ | assumption | refine Fr.alloc ?_ _ | refine Fr.drew ?_ | refine Fr.setCell ?_ _ _ (Or.inl rfl) | refine Fr.trans ?_ (by assumption)))⟩
  · have hr : (Nd.mk k n s l).small d m = rowSmall l (d - 1) (m - 1) := by simp only [Nd.small]; rw [if_neg h1]
    have HR := Lib.hid hr; clear hr
    have IH := Lib.hid ih; clear ih
    have d1 : decide (m - 1 < 0) = false := by simp; omega
    have d2 : (d == 0) = false := by simp; omega
    have d3 : decide ((40 : Int) < s.length) = false := by simp; omega
    have hm2 : 1 ≤ m := by omega
    have hd2 : 1 ≤ d := by omega
    clear h1
    go_enter Tryz.func37, Tryz.ntmps37
    go_wp2_with fail
    go_loopw [31] (fun i wr => ∃ (j : Nat) (mj : Int), j ≤ l.length ∧ i = .int .i64 j ∧ 0 ≤ mj ∧ mj ≤ 1000 ∧ Hid (rowSmall l (d - 1) (m - 1) = rowSmall (l.drop j) (d - 1) mj) ∧
     wr.cell? ⟨pb, po, none⟩ = some (.int .i64 mj) ∧ wr.frozen? ⟨pb, po, none⟩ = false ∧ Fr (· = pb) w wr) (fun i _ => l.length - (intOf i).toNat)
    case atStart => exact ⟨0, m - 1, Nat.zero_le _, rfl, by omega, by omega, Lib.hid rfl, by go_simp, by go_simp, (by repeat (first | exact Fr.refl _ _ | assumption | refine Fr.alloc ?_ _ | refine Fr.drew ?_ | refine Fr.setCell ?_ _ _ (Or.inl rfl) | refine Fr.trans ?_ (by assumption)))⟩
    case round =>
     obtain ⟨j, mj, hj, rfl, hmj0, hmj1, HJ, hcj, hfj, hfr⟩ := hrel; clear hc hf d1 d2 d3; have hpb' : pb < wr.heap.size := cell_lt hcj
     by_cases hlt : j < l.length
     · have hg : l[j]? = some l[j] := List.getElem?_eq_getElem hlt
       have hmem : l[j] ∈ l := List.getElem_mem hlt; have hwf := rowWf_get hrw _ hmem; have hsz := size_mem hmem; have hdrop := List.drop_eq_getElem_cons hlt
       generalize l[j] = t at *
       obtain ⟨b, o, a', c', rfl, hSb, g0, g1, g2, g3, hsk⟩ := rowSits_get (hs.fr hfr (fun b hb e => hS (e ▸ hb))) hg; obtain ⟨k', n', s', l'⟩ := t; simp only [Nd.kind, Nd.num, Nd.name, Nd.kids, Nd.sits, Nd.size] at g0 g1 g2 g3 hsk hsz
       have HG := Lib.hid hg; clear hg
       have HD := Lib.hid hdrop; clear hdrop
       go_wp2_with fail
       refine (IH.out k' n' (d - 1) mj s' l' a' c' pb po S _ (by omega) hwf (hsk.ext ((Ext.refl _).alloc _)) hS (by go_simp) (by go_simp) hmj0 hmj1 (by omega) (by omega)).mono ?_; rintro e w1 ⟨rfl, hc1, hf1, hfr1⟩; have hle := small_le (Nd.mk k' n' s' l') (d - 1) mj hmj0
       have hro : rowSmall (Nd.mk k' n' s' l' :: l.drop (j + 1)) (d - 1) mj = if ((Nd.mk k' n' s' l').small (d - 1) mj).1 then rowSmall (l.drop (j + 1)) (d - 1) ((Nd.mk k' n' s' l').small (d - 1) mj).2 else (false, ((Nd.mk k' n' s' l').small (d - 1) mj).2) := rfl
       rw [← HD.out, ← HJ.out] at hro
       generalize (Nd.mk k' n' s' l').small (d - 1) mj = bm at *
       obtain ⟨bb, mm⟩ := bm; clear hcj hfj g0 g1 g2 g3; simp only at hc1 hle hro
       have HRO := Lib.hid hro; clear hro
       cases bb
       · clear hle
         simp only
         go_wp2_with fail
         go_ret
         rw [HR.out, HRO.out]
         exact ⟨rfl, hc1, hf1, (by repeat (first | exact Fr.refl _ _ | assumption | refine Fr.alloc ?_ _ | refine Fr.drew ?_ | refine Fr.setCell ?_ _ _ (Or.inl rfl) | refine Fr.trans ?_ (by assumption)))⟩
       · obtain ⟨hle0, hle1⟩ := hle rfl
         simp only
         go_wp2_with fail
         go_roundw
         case rel => exact ⟨j + 1, mm, by omega, by go_num, hle0, by omega, HRO, hc1, hf1, (by repeat (first | exact Fr.refl _ _ | assumption | refine Fr.alloc ?_ _ | refine Fr.drew ?_ | refine Fr.setCell ?_ _ _ (Or.inl rfl) | refine Fr.trans ?_ (by assumption)))⟩
         case measure => simp [intOf]; omega
     · go_wp2_with fail
       go_ret
       have e1 : l.drop j = [] := List.drop_eq_nil_of_le (by omega); rw [HR.out, HJ.out, e1]
       exact ⟨rfl, hcj, hfj, hfr⟩
theorem Ext.frG {S : Nat → Prop} {a b c : World} (h : Ext a b) (k : Fr S b c) (hS : ∀ i, S i → a.heap.size ≤ i) : Ext a c :=
 ⟨k.os.trans (Below.os h), k.tape.trans (Below.tape h), k.output.trans (Below.output h), Nat.le_trans h.size k.size, fun i hi => (k.block i (Nat.lt_of_lt_of_le hi h.size) (fun e => by have := hS i e; omega)).trans (h.block hi)⟩
theorem great_c (t : Nd) (hwf : t.wf) (S : Nat → Prop) (a : Option Addr) (c : Nat) (w : World) (hs : t.sits S w a) :
 Calls Tryz.prog 15 #[t.val a c] w fun e w' => e = .returned (.bool (!(t.small 24 200).1)) ∧ Ext w w' := by
 obtain ⟨k, n, s, l⟩ := t; simp only [Nd.kind, Nd.num, Nd.name, Nd.kids, Nd.val]; have hs' := sits_lt _ _ hs; simp only [Nd.sits] at hs'
 go_enter Tryz.func15, Tryz.ntmps15
 go_wp2_with fail
 refine (small_c (rowSize l + 1) k n 24 200 s l a c (w.heap.size + 1) 0 (· < w.heap.size) _ (by omega) hwf (hs'.ext (by refine Ext.alloc ?_ _; refine Ext.alloc ?_ _; exact Ext.refl _)) (by omega) (by go_simp) (by go_simp) (by omega) (by omega) (by omega) (by omega)).mono ?_; rintro e w1 ⟨rfl, -, -, hf1⟩; simp only
 go_wp2_with fail
 go_ret
 exact ⟨rfl, Ext.frG (a := w) (by refine Ext.alloc ?_ _; refine Ext.alloc ?_ _; exact Ext.refl _) hf1 (by rintro k rfl; omega)⟩
end Bk
namespace Bk
open Go Go.RowKit Go.Proofs
structure Few5 (g : PG) : Prop where
 nv : g.vars.length ≤ 8
 np : g.procs.length ≤ 5
 main : (g.main.small 24 200).1 = true
 procs : ∀ p ∈ g.procs, (p.body.small 24 200).1 = true
set_option maxRecDepth 100000 in
set_option maxHeartbeats 1000000 in
theorem Great_s (g : PG) (S : Nat → Prop) (va : Option Addr) (vc : Nat) (pa : Option Addr) (pc : Nat) (ma : Option Addr) (mc : Nat) (w : World) (hwf : g.wf) (hs : g.sits S w va pa ma) :
 Calls Tryz.prog 5 #[.agg (g.cells va vc pa pc ma mc).toArray] w fun e w' => ∃ q : Int, e = .returned (.int .i64 q) ∧ (q = 1 ∨ (q = 0 ∧ Few5 g)) ∧ Ext w w' := by
 have hnv := hwf.nv; have hnp := hwf.np; refine calls_in Tryz.func5 Tryz.ntmps5 rfl rfl ?_; (refine cw_seq ?_; refine cw_region ?_); refine lw_box rfl rfl rfl ?_; intro b1 w1 hn1; have h1 := hn1.blk; have x1 := hn1.ext
 by_cases c1 : 8 < g.vars.length
 · ((refine lw_is ?_; refine lw_pure (by exact pur_assign rfl) rfl ?_); refine lw_nil ?_; refine qw_then ?_; refine cw_seq ?_; refine cw_seq ?_; refine cw_region ?_; (refine lw_is ?_; refine lw_pure (by exact pur_fieldAddr0 tabOk rfl rfl rfl) rfl ?_); (refine lw_is ?_; refine lw_pure (by exact pur_load tabOk rfl rfl rfl (by exact fun wz hz => by (try subst hz); exact (Blk.cell (by assumption) (by rfl)))) rfl ?_); (refine lw_is ?_; refine lw_pure (by exact pur_len_slice tabOk rfl rfl) rfl ?_); (refine lw_is ?_; refine lw_pure (by exact pur_gtr rfl rfl) rfl ?_); (refine lw_is ?_; refine lw_pure (by exact pur_move rfl) rfl ?_); (refine lw_isg ?_; refine lw_off_yes rfl rfl rfl (by omega) rfl ?_); (refine lw_isg ?_; refine lw_off_yes rfl rfl rfl (by omega) rfl ?_); (refine lw_isg ?_; refine lw_off_yes rfl rfl rfl (by omega) rfl ?_); (refine lw_isg ?_; refine lw_off_yes rfl rfl rfl (by omega) rfl ?_); (refine lw_is ?_; refine lw_pure (by exact pur_pick_yes rfl rfl (by omega)) rfl ?_); (refine lw_is ?_; refine lw_pure (by exact pur_move rfl) rfl ?_); (refine lw_isg ?_; refine lw_off rfl rfl rfl (by rfl) rfl ?_); (refine lw_isg ?_; refine lw_off rfl rfl rfl (by rfl) rfl ?_); (refine lw_isg ?_; refine lw_off rfl rfl rfl (by rfl) rfl ?_); (refine lw_is ?_; refine lw_pure (by exact pur_pick_t rfl rfl (by rfl)) rfl ?_); refine lw_nil ?_; refine qw_then ?_; (refine cw_is ?_; refine cw_bt rfl (by rfl) ?_); refine cw_seq ?_; refine cw_region ?_; (refine lw_is ?_; refine lw_pure (by exact pur_assign rfl) rfl ?_); refine lw_nil ?_; refine qw_then ?_; refine cw_ret ?_; refine qw_then_ret ?_)
   refine qw_ret1 Tryz.results5 rfl ?_
   exact ⟨1, rfl, Or.inl rfl, x1⟩
 by_cases c2 : 5 < g.procs.length
 · ((refine lw_is ?_; refine lw_pure (by exact pur_assign rfl) rfl ?_); refine lw_nil ?_; refine qw_then ?_; refine cw_seq ?_; refine cw_seq ?_; refine cw_region ?_; (refine lw_is ?_; refine lw_pure (by exact pur_fieldAddr0 tabOk rfl rfl rfl) rfl ?_); (refine lw_is ?_; refine lw_pure (by exact pur_load tabOk rfl rfl rfl (by exact fun wz hz => by (try subst hz); exact (Blk.cell (by assumption) (by rfl)))) rfl ?_); (refine lw_is ?_; refine lw_pure (by exact pur_len_slice tabOk rfl rfl) rfl ?_); (refine lw_is ?_; refine lw_pure (by exact pur_gtr rfl rfl) rfl ?_); (refine lw_is ?_; refine lw_pure (by exact pur_move rfl) rfl ?_); (refine lw_isg ?_; refine lw_on_no rfl rfl rfl (by omega) ?_); (refine lw_is ?_; refine lw_pure (by exact pur_fieldAddr tabOk rfl rfl rfl) rfl ?_); (refine lw_isg ?_; refine lw_on_no rfl rfl rfl (by omega) ?_); (refine lw_is ?_; refine lw_pure (by exact pur_load tabOk rfl rfl rfl (by exact fun wz hz => by (try subst hz); exact (Blk.cell (by assumption) (by rfl)))) rfl ?_); (refine lw_isg ?_; refine lw_on_no rfl rfl rfl (by omega) ?_); (refine lw_is ?_; refine lw_pure (by exact pur_len_slice tabOk rfl rfl) rfl ?_); (refine lw_isg ?_; refine lw_on_no rfl rfl rfl (by omega) ?_); (refine lw_is ?_; refine lw_pure (by exact pur_gtr rfl rfl) rfl ?_); (refine lw_is ?_; refine lw_pure (by exact pur_pick_no rfl rfl (by omega)) rfl ?_); (refine lw_is ?_; refine lw_pure (by exact pur_move rfl) rfl ?_); (refine lw_isg ?_; refine lw_off_yes rfl rfl rfl (by omega) rfl ?_); (refine lw_isg ?_; refine lw_off_yes rfl rfl rfl (by omega) rfl ?_); (refine lw_isg ?_; refine lw_off_yes rfl rfl rfl (by omega) rfl ?_); (refine lw_is ?_; refine lw_pure (by exact pur_pick_yes rfl rfl (by omega)) rfl ?_); refine lw_nil ?_; refine qw_then ?_; (refine cw_is ?_; refine cw_bt rfl (by rfl) ?_); refine cw_seq ?_; refine cw_region ?_; (refine lw_is ?_; refine lw_pure (by exact pur_assign rfl) rfl ?_); refine lw_nil ?_; refine qw_then ?_; refine cw_ret ?_; refine qw_then_ret ?_)
   refine qw_ret1 Tryz.results5 rfl ?_
   exact ⟨1, rfl, Or.inl rfl, x1⟩
 ((refine lw_is ?_; refine lw_pure (by exact pur_assign rfl) rfl ?_); refine lw_nil ?_; refine qw_then ?_; refine cw_seq ?_; refine cw_seq ?_; refine cw_region ?_; (refine lw_is ?_; refine lw_pure (by exact pur_fieldAddr0 tabOk rfl rfl rfl) rfl ?_); (refine lw_is ?_; refine lw_pure (by exact pur_load tabOk rfl rfl rfl (by exact fun wz hz => by (try subst hz); exact (Blk.cell (by assumption) (by rfl)))) rfl ?_); (refine lw_is ?_; refine lw_pure (by exact pur_len_slice tabOk rfl rfl) rfl ?_); (refine lw_is ?_; refine lw_pure (by exact pur_gtr rfl rfl) rfl ?_); (refine lw_is ?_; refine lw_pure (by exact pur_move rfl) rfl ?_); (refine lw_isg ?_; refine lw_on_no rfl rfl rfl (by omega) ?_); (refine lw_is ?_; refine lw_pure (by exact pur_fieldAddr tabOk rfl rfl rfl) rfl ?_); (refine lw_isg ?_; refine lw_on_no rfl rfl rfl (by omega) ?_); (refine lw_is ?_; refine lw_pure (by exact pur_load tabOk rfl rfl rfl (by exact fun wz hz => by (try subst hz); exact (Blk.cell (by assumption) (by rfl)))) rfl ?_); (refine lw_isg ?_; refine lw_on_no rfl rfl rfl (by omega) ?_); (refine lw_is ?_; refine lw_pure (by exact pur_len_slice tabOk rfl rfl) rfl ?_); (refine lw_isg ?_; refine lw_on_no rfl rfl rfl (by omega) ?_); (refine lw_is ?_; refine lw_pure (by exact pur_gtr rfl rfl) rfl ?_); (refine lw_is ?_; refine lw_pure (by exact pur_pick_no rfl rfl (by omega)) rfl ?_); (refine lw_is ?_; refine lw_pure (by exact pur_move rfl) rfl ?_); (refine lw_isg ?_; refine lw_on_no rfl rfl rfl (by omega) ?_); (refine lw_is ?_; refine lw_pure (by exact pur_fieldAddr tabOk rfl rfl rfl) rfl ?_); (refine lw_isg ?_; refine lw_on_no rfl rfl rfl (by omega) ?_); (refine lw_is ?_; refine lw_pure (by exact pur_loads_blk tabOk rfl rfl rfl (by exact fun wz hz => by (try subst hz); exact (by assumption)) (by rfl)) rfl ?_); (refine lw_isg ?_; refine lw_on_no rfl rfl rfl (by omega) ?_))
 refine cC rfl (great_c g.main hwf.main S ma mc _ (hs.main.ext x1)) ?_; rintro _ w2 ⟨⟨⟩, x2⟩
 cases hq : (g.main.small 24 200).1
 · try rw [hq]
   ((refine lw_is ?_; refine lw_pure (by exact pur_pick_no rfl rfl (by omega)) rfl ?_); refine lw_nil ?_; refine qw_then ?_; (refine cw_is ?_; refine cw_bt rfl (by rfl) ?_); refine cw_seq ?_; refine cw_region ?_; (refine lw_is ?_; refine lw_pure (by exact pur_assign rfl) rfl ?_); refine lw_nil ?_; refine qw_then ?_; refine cw_ret ?_; refine qw_then_ret ?_)
   refine qw_ret1 Tryz.results5 rfl ?_
   exact ⟨1, rfl, Or.inl rfl, x1.trans x2⟩
 try rw [hq]
 have h2 := h1.ext x2; have x12 : Ext w w2 := x1.trans x2
 ((refine lw_is ?_; refine lw_pure (by exact pur_pick_no rfl rfl (by omega)) rfl ?_); refine lw_nil ?_; refine qw_then ?_; (refine cw_is ?_; refine cw_bf rfl (by rfl) ?_); refine cw_skip ?_; refine qw_then ?_; refine cw_seq ?_; refine cw_seq ?_; refine cw_region ?_; (refine lw_is ?_; refine lw_pure (by exact pur_fieldAddr0 tabOk rfl rfl rfl) rfl ?_); (refine lw_is ?_; refine lw_pure (by exact pur_load tabOk rfl rfl rfl (by exact fun wz hz => by (try subst hz); exact (Blk.cell (by assumption) (by rfl)))) rfl ?_); (refine lw_is ?_; refine lw_pure (by exact pur_len_slice tabOk rfl rfl) rfl ?_); (refine lw_is ?_; refine lw_pure (by exact pur_move rfl) rfl ?_); refine lw_nil ?_; refine qw_then ?_; refine cw_block ?_)
 refine cw_loop (ι := Nat) (fun j => [(27, .int .i64 j), (26, .int .i64 g.vars.length), (25, .slice va g.vars.length vc), (1, .pointer (some ⟨b1, 0, none⟩))]) (fun j w' => Ext w2 w' ∧ j ≤ g.vars.length) (fun j => g.vars.length - j) 0 (by (refine sub_cons rfl ?_; refine sub_cons rfl ?_; refine sub_cons rfl ?_; refine sub_cons rfl ?_; exact sub_nil)) ⟨Ext.refl _, by omega⟩ ?_; rintro j w3 ⟨x3, hj⟩; have h3 := h2.ext x3; have x13 : Ext w w3 := x12.trans x3
 by_cases hlt : j < g.vars.length
 · obtain ⟨kb, ko, rfl, -, hkid⟩ := Arr.get (hs.vars.ext x13) (by omega)
   have rx : Row w3 ⟨kb, ko + j * 3, none⟩ g.vars[j].cells := hkid j g.vars[j] (List.getElem?_eq_getElem hlt); clear hkid
   generalize g.vars[j] = v at *
   (refine cw_seq ?_; refine cw_region ?_; (refine lw_is ?_; refine lw_pure (by exact pur_lss rfl rfl) rfl ?_); refine lw_nil ?_; refine qw_then ?_; refine cw_seq ?_; (refine cw_is ?_; refine cw_yes rfl (by omega) ?_); refine cw_skip ?_; refine qw_then ?_; refine cw_seq ?_; refine cw_block ?_; refine cw_seq ?_; refine cw_region ?_; (refine lw_is ?_; refine lw_pure (by exact pur_indexAddr tabOk rfl rfl rfl rfl (by omega) (by omega)) rfl ?_); (refine lw_is ?_; refine lw_pure (by exact pur_loads' tabOk rfl rfl rfl (by exact fun wz hz => by (try subst hz); exact (by assumption)) (by rfl)) rfl ?_)); refine lw_alloc zOk rfl rfl ?_; intro b5 w5 hn5; refine lw_init tabOk rfl rfl rfl rfl rfl rfl (hn5) rfl ?_; clear hn5 w5; intro w5 hn5; have h5 := hn5.blk; have x5 := hn5.ext
   by_cases c3 : 40 < v.name.length
   · (refine lw_nil ?_; refine qw_then ?_; refine cw_seq ?_; refine cw_region ?_; (refine lw_is ?_; refine lw_pure (by exact pur_fieldAddr0 tabOk rfl rfl rfl) rfl ?_); (refine lw_is ?_; refine lw_pure (by exact pur_load tabOk rfl rfl rfl (by exact fun wz hz => by (try subst hz); exact (Blk.cell (by assumption) (by rfl)))) rfl ?_); (refine lw_is ?_; refine lw_pure (by exact pur_len_s tabOk rfl rfl) rfl ?_); (refine lw_is ?_; refine lw_pure (by exact pur_gtr rfl rfl) rfl ?_); refine lw_nil ?_; refine qw_then ?_; (refine cw_is ?_; refine cw_yes rfl (by omega) ?_); refine cw_seq ?_; refine cw_region ?_; (refine lw_is ?_; refine lw_pure (by exact pur_assign rfl) rfl ?_); refine lw_nil ?_; refine qw_then ?_; refine cw_ret ?_; refine qw_block_ret ?_; refine qw_then_ret ?_; refine qw_then_ret ?_; refine qw_block_ret ?_; refine qw_then_ret ?_)
     refine qw_ret1 Tryz.results5 rfl ?_
     exact ⟨1, rfl, Or.inl rfl, x13.trans x5⟩
   · (refine lw_nil ?_; refine qw_then ?_; refine cw_seq ?_; refine cw_region ?_; (refine lw_is ?_; refine lw_pure (by exact pur_fieldAddr0 tabOk rfl rfl rfl) rfl ?_); (refine lw_is ?_; refine lw_pure (by exact pur_load tabOk rfl rfl rfl (by exact fun wz hz => by (try subst hz); exact (Blk.cell (by assumption) (by rfl)))) rfl ?_); (refine lw_is ?_; refine lw_pure (by exact pur_len_s tabOk rfl rfl) rfl ?_); (refine lw_is ?_; refine lw_pure (by exact pur_gtr rfl rfl) rfl ?_); refine lw_nil ?_; refine qw_then ?_; (refine cw_is ?_; refine cw_no rfl (by omega) ?_); refine cw_skip ?_; refine qw_block_norm ?_; refine qw_then ?_; refine cw_region ?_; (refine lw_is ?_; refine lw_pure (by exact pur_add rfl rfl (IntWalk.i64_in _ (by omega))) rfl ?_); (refine lw_is ?_; refine lw_pure (by exact pur_move rfl) rfl ?_); refine lw_nil ?_)
     exact qw_round (j + 1) (by (refine sub_cons rfl ?_; refine sub_cons rfl ?_; refine sub_cons rfl ?_; refine sub_cons rfl ?_; exact sub_nil)) ⟨x3.trans x5, by omega⟩ (by omega)
 (refine cw_seq ?_; refine cw_region ?_; (refine lw_is ?_; refine lw_pure (by exact pur_lss rfl rfl) rfl ?_); refine lw_nil ?_; refine qw_then ?_; refine cw_seq ?_; (refine cw_is ?_; refine cw_no rfl (by omega) ?_); refine cw_exit ?_; refine qw_then_exit ?_; refine qw_then_exit ?_; refine qw_block_exit ?_; refine qw_then ?_; refine cw_seq ?_; refine cw_seq ?_; refine cw_region ?_; (refine lw_is ?_; refine lw_pure (by exact pur_fieldAddr tabOk rfl rfl rfl) rfl ?_); (refine lw_is ?_; refine lw_pure (by exact pur_load tabOk rfl rfl rfl (by exact fun wz hz => by (try subst hz); exact (Blk.cell (by assumption) (by rfl)))) rfl ?_); (refine lw_is ?_; refine lw_pure (by exact pur_len_slice tabOk rfl rfl) rfl ?_); (refine lw_is ?_; refine lw_pure (by exact pur_move rfl) rfl ?_); refine lw_nil ?_; refine qw_then ?_; refine cw_block ?_); refine cw_loop (ι := Nat) (fun j => [(39, .int .i64 j), (38, .int .i64 g.procs.length), (37, .slice pa g.procs.length pc)]) (fun j w' => Ext w3 w' ∧ j ≤ g.procs.length ∧ ∀ i p, g.procs[i]? = some p → i < j → (p.body.small 24 200).1 = true) (fun j => g.procs.length - j) 0 (by (refine sub_cons rfl ?_; refine sub_cons rfl ?_; refine sub_cons rfl ?_; exact sub_nil)) ⟨Ext.refl _, by omega, fun i p _ h => absurd h (by omega)⟩ ?_; rintro j w4 ⟨x4, hj2, hall⟩; have x14 : Ext w w4 := x13.trans x4
 by_cases hlt2 : j < g.procs.length
 · obtain ⟨kb, ko, rfl, -, hkid⟩ := Arr.get (hs.procs.ext x14) (by omega)
   obtain ⟨qa, qc, ba, bc, rx, sv, sb⟩ := hkid j g.procs[j] (List.getElem?_eq_getElem hlt2); have hpw := hwf.procs g.procs[j] (List.getElem_mem hlt2); clear hkid; have hpj : g.procs[j]? = some g.procs[j] := List.getElem?_eq_getElem hlt2
   generalize g.procs[j] = p at *
   have hpn := hpw.len; (refine cw_seq ?_; refine cw_region ?_; (refine lw_is ?_; refine lw_pure (by exact pur_lss rfl rfl) rfl ?_); refine lw_nil ?_; refine qw_then ?_; refine cw_seq ?_; (refine cw_is ?_; refine cw_yes rfl (by omega) ?_); refine cw_skip ?_; refine qw_then ?_; refine cw_seq ?_; refine cw_block ?_; refine cw_seq ?_; refine cw_region ?_; (refine lw_is ?_; refine lw_pure (by exact pur_indexAddr tabOk rfl rfl rfl rfl (by omega) (by omega)) rfl ?_); (refine lw_is ?_; refine lw_pure (by exact pur_loads' tabOk rfl rfl rfl (by exact fun wz hz => by (try subst hz); exact (by assumption)) (by rfl)) rfl ?_)); refine lw_alloc zOk rfl rfl ?_; intro b5 w5 hn5; refine lw_init tabOk rfl rfl rfl rfl rfl rfl (hn5) rfl ?_; clear hn5 w5; intro w5 hn5; have h5 := hn5.blk; have x5 := hn5.ext
   by_cases c3 : 10 < p.params.length
   · (refine lw_nil ?_; refine qw_then ?_; refine cw_seq ?_; refine cw_seq ?_; refine cw_region ?_; (refine lw_is ?_; refine lw_pure (by exact pur_fieldAddr tabOk rfl rfl rfl) rfl ?_); (refine lw_is ?_; refine lw_pure (by exact pur_load tabOk rfl rfl rfl (by exact fun wz hz => by (try subst hz); exact (Blk.cell (by assumption) (by rfl)))) rfl ?_); (refine lw_is ?_; refine lw_pure (by exact pur_len_slice tabOk rfl rfl) rfl ?_); (refine lw_is ?_; refine lw_pure (by exact pur_gtr rfl rfl) rfl ?_); (refine lw_is ?_; refine lw_pure (by exact pur_move rfl) rfl ?_); (refine lw_isg ?_; refine lw_off_yes rfl rfl rfl (by omega) rfl ?_); (refine lw_isg ?_; refine lw_off_yes rfl rfl rfl (by omega) rfl ?_); (refine lw_isg ?_; refine lw_off_yes rfl rfl rfl (by omega) rfl ?_); (refine lw_isg ?_; refine lw_off_yes rfl rfl rfl (by omega) rfl ?_); (refine lw_is ?_; refine lw_pure (by exact pur_pick_yes rfl rfl (by omega)) rfl ?_); (refine lw_is ?_; refine lw_pure (by exact pur_move rfl) rfl ?_); (refine lw_isg ?_; refine lw_off rfl rfl rfl (by rfl) rfl ?_); (refine lw_isg ?_; refine lw_off rfl rfl rfl (by rfl) rfl ?_); (refine lw_isg ?_; refine lw_off rfl rfl rfl (by rfl) rfl ?_); (refine lw_is ?_; refine lw_pure (by exact pur_pick_t rfl rfl (by rfl)) rfl ?_); refine lw_nil ?_; refine qw_then ?_; (refine cw_is ?_; refine cw_bt rfl (by rfl) ?_); refine cw_seq ?_; refine cw_region ?_; (refine lw_is ?_; refine lw_pure (by exact pur_assign rfl) rfl ?_); refine lw_nil ?_; refine qw_then ?_; refine cw_ret ?_; refine qw_then_ret ?_; refine qw_block_ret ?_; refine qw_then_ret ?_; refine qw_then_ret ?_; refine qw_block_ret ?_; refine qw_then_ret ?_)
     refine qw_ret1 Tryz.results5 rfl ?_
     exact ⟨1, rfl, Or.inl rfl, x14.trans x5⟩
   by_cases c4 : 40 < p.name.length
   · (refine lw_nil ?_; refine qw_then ?_; refine cw_seq ?_; refine cw_seq ?_; refine cw_region ?_; (refine lw_is ?_; refine lw_pure (by exact pur_fieldAddr tabOk rfl rfl rfl) rfl ?_); (refine lw_is ?_; refine lw_pure (by exact pur_load tabOk rfl rfl rfl (by exact fun wz hz => by (try subst hz); exact (Blk.cell (by assumption) (by rfl)))) rfl ?_); (refine lw_is ?_; refine lw_pure (by exact pur_len_slice tabOk rfl rfl) rfl ?_); (refine lw_is ?_; refine lw_pure (by exact pur_gtr rfl rfl) rfl ?_); (refine lw_is ?_; refine lw_pure (by exact pur_move rfl) rfl ?_); (refine lw_isg ?_; refine lw_on_no rfl rfl rfl (by omega) ?_); (refine lw_is ?_; refine lw_pure (by exact pur_fieldAddr0 tabOk rfl rfl rfl) rfl ?_); (refine lw_isg ?_; refine lw_on_no rfl rfl rfl (by omega) ?_); (refine lw_is ?_; refine lw_pure (by exact pur_load tabOk rfl rfl rfl (by exact fun wz hz => by (try subst hz); exact (Blk.cell (by assumption) (by rfl)))) rfl ?_); (refine lw_isg ?_; refine lw_on_no rfl rfl rfl (by omega) ?_); (refine lw_is ?_; refine lw_pure (by exact pur_len_s tabOk rfl rfl) rfl ?_); (refine lw_isg ?_; refine lw_on_no rfl rfl rfl (by omega) ?_); (refine lw_is ?_; refine lw_pure (by exact pur_gtr rfl rfl) rfl ?_); (refine lw_is ?_; refine lw_pure (by exact pur_pick_no rfl rfl (by omega)) rfl ?_); (refine lw_is ?_; refine lw_pure (by exact pur_move rfl) rfl ?_); (refine lw_isg ?_; refine lw_off_yes rfl rfl rfl (by omega) rfl ?_); (refine lw_isg ?_; refine lw_off_yes rfl rfl rfl (by omega) rfl ?_); (refine lw_isg ?_; refine lw_off_yes rfl rfl rfl (by omega) rfl ?_); (refine lw_is ?_; refine lw_pure (by exact pur_pick_yes rfl rfl (by omega)) rfl ?_); refine lw_nil ?_; refine qw_then ?_; (refine cw_is ?_; refine cw_bt rfl (by rfl) ?_); refine cw_seq ?_; refine cw_region ?_; (refine lw_is ?_; refine lw_pure (by exact pur_assign rfl) rfl ?_); refine lw_nil ?_; refine qw_then ?_; refine cw_ret ?_; refine qw_then_ret ?_; refine qw_block_ret ?_; refine qw_then_ret ?_; refine qw_then_ret ?_; refine qw_block_ret ?_; refine qw_then_ret ?_)
     refine qw_ret1 Tryz.results5 rfl ?_
     exact ⟨1, rfl, Or.inl rfl, x14.trans x5⟩
   (refine lw_nil ?_; refine qw_then ?_; refine cw_seq ?_; refine cw_seq ?_; refine cw_region ?_; (refine lw_is ?_; refine lw_pure (by exact pur_fieldAddr tabOk rfl rfl rfl) rfl ?_); (refine lw_is ?_; refine lw_pure (by exact pur_load tabOk rfl rfl rfl (by exact fun wz hz => by (try subst hz); exact (Blk.cell (by assumption) (by rfl)))) rfl ?_); (refine lw_is ?_; refine lw_pure (by exact pur_len_slice tabOk rfl rfl) rfl ?_); (refine lw_is ?_; refine lw_pure (by exact pur_gtr rfl rfl) rfl ?_); (refine lw_is ?_; refine lw_pure (by exact pur_move rfl) rfl ?_); (refine lw_isg ?_; refine lw_on_no rfl rfl rfl (by omega) ?_); (refine lw_is ?_; refine lw_pure (by exact pur_fieldAddr0 tabOk rfl rfl rfl) rfl ?_); (refine lw_isg ?_; refine lw_on_no rfl rfl rfl (by omega) ?_); (refine lw_is ?_; refine lw_pure (by exact pur_load tabOk rfl rfl rfl (by exact fun wz hz => by (try subst hz); exact (Blk.cell (by assumption) (by rfl)))) rfl ?_); (refine lw_isg ?_; refine lw_on_no rfl rfl rfl (by omega) ?_); (refine lw_is ?_; refine lw_pure (by exact pur_len_s tabOk rfl rfl) rfl ?_); (refine lw_isg ?_; refine lw_on_no rfl rfl rfl (by omega) ?_); (refine lw_is ?_; refine lw_pure (by exact pur_gtr rfl rfl) rfl ?_); (refine lw_is ?_; refine lw_pure (by exact pur_pick_no rfl rfl (by omega)) rfl ?_); (refine lw_is ?_; refine lw_pure (by exact pur_move rfl) rfl ?_); (refine lw_isg ?_; refine lw_on_no rfl rfl rfl (by omega) ?_); (refine lw_is ?_; refine lw_pure (by exact pur_fieldAddr tabOk rfl rfl rfl) rfl ?_); (refine lw_isg ?_; refine lw_on_no rfl rfl rfl (by omega) ?_); (refine lw_is ?_; refine lw_pure (by exact pur_loads_blk tabOk rfl rfl rfl (by exact fun wz hz => by (try subst hz); exact (by assumption)) (by rfl)) rfl ?_); (refine lw_isg ?_; refine lw_on_no rfl rfl rfl (by omega) ?_))
   refine cC rfl (great_c p.body hpw.body S ba bc _ (sb.ext x5)) ?_; rintro _ w6 ⟨⟨⟩, x6⟩
   cases hq2 : (p.body.small 24 200).1
   · try rw [hq2]
     ((refine lw_is ?_; refine lw_pure (by exact pur_pick_no rfl rfl (by omega)) rfl ?_); refine lw_nil ?_; refine qw_then ?_; (refine cw_is ?_; refine cw_bt rfl (by rfl) ?_); refine cw_seq ?_; refine cw_region ?_; (refine lw_is ?_; refine lw_pure (by exact pur_assign rfl) rfl ?_); refine lw_nil ?_; refine qw_then ?_; refine cw_ret ?_; refine qw_then_ret ?_; refine qw_block_ret ?_; refine qw_then_ret ?_; refine qw_then_ret ?_; refine qw_block_ret ?_; refine qw_then_ret ?_)
     refine qw_ret1 Tryz.results5 rfl ?_
     exact ⟨1, rfl, Or.inl rfl, x14.trans (x5.trans x6)⟩
   try rw [hq2]
   have h6 := h5.ext x6; have x56 : Ext w4 w6 := x5.trans x6
   ((refine lw_is ?_; refine lw_pure (by exact pur_pick_no rfl rfl (by omega)) rfl ?_); refine lw_nil ?_; refine qw_then ?_; (refine cw_is ?_; refine cw_bf rfl (by rfl) ?_); refine cw_skip ?_; refine qw_then ?_; refine cw_seq ?_; refine cw_region ?_; (refine lw_is ?_; refine lw_pure (by exact pur_fieldAddr tabOk rfl rfl rfl) rfl ?_); (refine lw_is ?_; refine lw_pure (by exact pur_load tabOk rfl rfl rfl (by exact fun wz hz => by (try subst hz); exact (Blk.cell (by assumption) (by rfl)))) rfl ?_); (refine lw_is ?_; refine lw_pure (by exact pur_len_slice tabOk rfl rfl) rfl ?_); (refine lw_is ?_; refine lw_pure (by exact pur_move rfl) rfl ?_); refine lw_nil ?_; refine qw_then ?_; refine cw_block ?_)
   refine cw_loop (ι := Nat) (fun i => [(61, .int .i64 i), (60, .int .i64 p.params.length), (59, .slice qa p.params.length qc), (39, .int .i64 j), (38, .int .i64 g.procs.length), (37, .slice (some ⟨kb, ko, none⟩) g.procs.length pc)]) (fun i w' => Ext w6 w' ∧ i ≤ p.params.length) (fun i => p.params.length - i) 0 (by (refine sub_cons rfl ?_; refine sub_cons rfl ?_; refine sub_cons rfl ?_; refine sub_cons rfl ?_; refine sub_cons rfl ?_; refine sub_cons rfl ?_; exact sub_nil)) ⟨Ext.refl _, by omega⟩ ?_; rintro i w7 ⟨x7, hi⟩; have x47 : Ext w4 w7 := x56.trans x7
   by_cases hlt3 : i < p.params.length
   · obtain ⟨vb, vo, rfl, -, hvid⟩ := Arr.get (sv.ext x47) (by omega)
     have rv : Row w7 ⟨vb, vo + i * 3, none⟩ p.params[i].cells := hvid i p.params[i] (List.getElem?_eq_getElem hlt3); clear hvid
     generalize p.params[i] = v at *
     (refine cw_seq ?_; refine cw_region ?_; (refine lw_is ?_; refine lw_pure (by exact pur_lss rfl rfl) rfl ?_); refine lw_nil ?_; refine qw_then ?_; refine cw_seq ?_; (refine cw_is ?_; refine cw_yes rfl (by omega) ?_); refine cw_skip ?_; refine qw_then ?_; refine cw_seq ?_; refine cw_block ?_; refine cw_seq ?_; refine cw_region ?_; (refine lw_is ?_; refine lw_pure (by exact pur_indexAddr tabOk rfl rfl rfl rfl (by omega) (by omega)) rfl ?_); (refine lw_is ?_; refine lw_pure (by exact pur_loads' tabOk rfl rfl rfl (by exact fun wz hz => by (try subst hz); exact (by assumption)) (by rfl)) rfl ?_)); refine lw_alloc zOk rfl rfl ?_; intro b8 w8 hn8; refine lw_init tabOk rfl rfl rfl rfl rfl rfl (hn8) rfl ?_; clear hn8 w8; intro w8 hn8; have h8 := hn8.blk; have x8 := hn8.ext
     by_cases c5 : 40 < v.name.length
     · (refine lw_nil ?_; refine qw_then ?_; refine cw_seq ?_; refine cw_region ?_; (refine lw_is ?_; refine lw_pure (by exact pur_fieldAddr0 tabOk rfl rfl rfl) rfl ?_); (refine lw_is ?_; refine lw_pure (by exact pur_load tabOk rfl rfl rfl (by exact fun wz hz => by (try subst hz); exact (Blk.cell (by assumption) (by rfl)))) rfl ?_); (refine lw_is ?_; refine lw_pure (by exact pur_len_s tabOk rfl rfl) rfl ?_); (refine lw_is ?_; refine lw_pure (by exact pur_gtr rfl rfl) rfl ?_); refine lw_nil ?_; refine qw_then ?_; (refine cw_is ?_; refine cw_yes rfl (by omega) ?_); refine cw_seq ?_; refine cw_region ?_; (refine lw_is ?_; refine lw_pure (by exact pur_assign rfl) rfl ?_); refine lw_nil ?_; refine qw_then ?_; refine cw_ret ?_; refine qw_block_ret ?_; refine qw_then_ret ?_; refine qw_then_ret ?_; refine qw_block_ret ?_; refine qw_block_ret ?_; refine qw_then_ret ?_; refine qw_then_ret ?_; refine qw_block_ret ?_; refine qw_then_ret ?_)
       refine qw_ret1 Tryz.results5 rfl ?_
       exact ⟨1, rfl, Or.inl rfl, x14.trans (x47.trans x8)⟩
     · (refine lw_nil ?_; refine qw_then ?_; refine cw_seq ?_; refine cw_region ?_; (refine lw_is ?_; refine lw_pure (by exact pur_fieldAddr0 tabOk rfl rfl rfl) rfl ?_); (refine lw_is ?_; refine lw_pure (by exact pur_load tabOk rfl rfl rfl (by exact fun wz hz => by (try subst hz); exact (Blk.cell (by assumption) (by rfl)))) rfl ?_); (refine lw_is ?_; refine lw_pure (by exact pur_len_s tabOk rfl rfl) rfl ?_); (refine lw_is ?_; refine lw_pure (by exact pur_gtr rfl rfl) rfl ?_); refine lw_nil ?_; refine qw_then ?_; (refine cw_is ?_; refine cw_no rfl (by omega) ?_); refine cw_skip ?_; refine qw_block_norm ?_; refine qw_then ?_; refine cw_region ?_; (refine lw_is ?_; refine lw_pure (by exact pur_add rfl rfl (IntWalk.i64_in _ (by omega))) rfl ?_); (refine lw_is ?_; refine lw_pure (by exact pur_move rfl) rfl ?_); refine lw_nil ?_)
       exact qw_round (i + 1) (by (refine sub_cons rfl ?_; refine sub_cons rfl ?_; refine sub_cons rfl ?_; refine sub_cons rfl ?_; refine sub_cons rfl ?_; refine sub_cons rfl ?_; exact sub_nil)) ⟨x7.trans x8, by omega⟩ (by omega)
   · (refine cw_seq ?_; refine cw_region ?_; (refine lw_is ?_; refine lw_pure (by exact pur_lss rfl rfl) rfl ?_); refine lw_nil ?_; refine qw_then ?_; refine cw_seq ?_; (refine cw_is ?_; refine cw_no rfl (by omega) ?_); refine cw_exit ?_; refine qw_then_exit ?_; refine qw_then_exit ?_; refine qw_block_exit ?_; refine qw_block_norm ?_; refine qw_then ?_; refine cw_region ?_; (refine lw_is ?_; refine lw_pure (by exact pur_add rfl rfl (IntWalk.i64_in _ (by omega))) rfl ?_); (refine lw_is ?_; refine lw_pure (by exact pur_move rfl) rfl ?_); refine lw_nil ?_)
     exact qw_round (j + 1) (by (refine sub_cons rfl ?_; refine sub_cons rfl ?_; refine sub_cons rfl ?_; exact sub_nil)) ⟨x4.trans x47, by omega, fun i q hi hij => by
      by_cases h : i < j
      · exact hall i q hi h
      · obtain rfl : i = j := by omega
        rw [hpj] at hi
        rw [← Option.some.inj hi]; exact hq2⟩ (by omega)
 · (refine cw_seq ?_; refine cw_region ?_; (refine lw_is ?_; refine lw_pure (by exact pur_lss rfl rfl) rfl ?_); refine lw_nil ?_; refine qw_then ?_; refine cw_seq ?_; (refine cw_is ?_; refine cw_no rfl (by omega) ?_); refine cw_exit ?_; refine qw_then_exit ?_; refine qw_then_exit ?_; refine qw_block_exit ?_; refine qw_then ?_; refine cw_seq ?_; refine cw_region ?_; (refine lw_is ?_; refine lw_pure (by exact pur_assign rfl) rfl ?_); refine lw_nil ?_; refine qw_then ?_; refine cw_ret ?_)
   refine qw_ret1 Tryz.results5 rfl ?_; refine ⟨0, rfl, Or.inr ⟨rfl, ⟨by omega, by omega, hq, fun p hp => ?_⟩⟩, x14⟩; obtain ⟨i, hi, rfl⟩ := List.mem_iff_getElem.1 hp
   exact hall i _ (List.getElem?_eq_getElem hi) (by omega)
end Bk
namespace Bk
open Go Go.RowKit Go.Proofs
attribute [local irreducible] Go.Calls
theorem errs_le {g : PG} (hok : g.ok = true) : g.errs.length ≤ 1000000 := by
 obtain ⟨o1, o2, -, o4, o5⟩ := ok_parts hok
 unfold PG.errs
 split
 · have h1 := rejsOf_len 2000 g.procs (fun p hp => (body_iff.1 (pok_parts (o4 p hp)).2.2.2).2.2)
   have h2 := errsOf_len g.main.walk; rw [walk_len] at h2; have h3 := (body_iff.1 o5).2.2; have h4 : g.procs.length * 2000 ≤ 64 * 2000 := Nat.mul_le_mul_right _ (by omega); rw [List.length_append]
   omega
 · simp
def RejAt (w : World) (xs : List Int) (a : Option Addr) : Prop := xs = [] ∨ ∃ b, a = some ⟨b, 0, none⟩ ∧ ∀ (i : Nat) (x : Int), xs[i]? = some x → ∃ (p : Int) (pa : Option Addr) (pn pc : Nat) (s : List UInt8), Row w ⟨b, i * 4, none⟩ [.int .i64 p, .slice pa pn pc, .int .i64 x, str s]
theorem RejAt.ext {w w' : World} {xs : List Int} {a : Option Addr} (h : RejAt w xs a) (x : Ext w w') : RejAt w' xs a := by
 rcases h with h | ⟨b, h1, h2⟩
 · exact Or.inl h
 · refine Or.inr ⟨b, h1, fun i y hi => ?_⟩
   obtain ⟨p, pa, pn, pc, s, r⟩ := h2 i y hi
   exact ⟨p, pa, pn, pc, s, r.ext x⟩
def RejR (xs : List Int) (w : World) : Ending → World → Prop := fun e w' => ∃ a c, e = .returned (.slice a xs.length c) ∧ RejAt w' xs a ∧ Ext w w'
theorem RejR.ret {xs : List Int} {w : World} {e : Ending} {w' : World} (h : RejR xs w e w') : ∃ v, e = .returned v := by
 obtain ⟨_, _, h, -⟩ := h
 exact ⟨_, h⟩
theorem chkR_rej {xs : List Int} {w : World} (e : Ending) (w' : World) (h : ChkR xs w e w') : RejR xs w e w' := by
 obtain ⟨a, c, h1, h2, h3, -⟩ := h; refine ⟨a, c, h1, ?_, h3⟩
 by_cases hx : xs = []
 · exact Or.inl hx
 · obtain ⟨g, cap, hv, -, -, hall⟩ := h2.rows hx
   simp only [Value.slice.injEq] at hv; obtain ⟨rfl, -, -⟩ := hv; refine Or.inr ⟨g, rfl, fun i x hi => ?_⟩; obtain ⟨cs, hr, p, pa, pn, pc, s, rfl⟩ := hall i x hi
   exact ⟨p, pa, pn, pc, s, by simpa [rejShape] using hr⟩
theorem count_take {l : List Int} {j : Nat} (h : j < l.length) (e : Int) : (l.take (j + 1)).count e = (l.take j).count e + if l[j] = e then 1 else 0 := by
 rw [List.take_succ_eq_append_getElem h, List.count_append, List.count_singleton]
 simp
theorem checkR_v {g : PG} (hwf : g.wf) (hok : g.ok = true) (S : Nat → Prop) (va : Option Addr) (vc : Nat) (pa : Option Addr) (pc : Nat) (ma : Option Addr) (mc : Nat) (w : World) (hs : g.sits S w va pa ma) (hps : PDsC S w g.procs pa) (hvc : g.vars.length ≤ vc) :
 Calls Tryz.prog 9 #[.agg (g.cells va vc pa pc ma mc).toArray] w (RejR g.errs w) := (cCheck_c g hwf hok S va vc pa pc ma mc w hs hps hvc).mono chkR_rej
set_option maxRecDepth 100000 in
set_option maxHeartbeats 4000000 in
theorem countA_c {g : PG} (hwf : g.wf) (hok : g.ok = true) (e : Int) (S : Nat → Prop) (va : Option Addr) (vc : Nat) (pa : Option Addr) (pc : Nat) (ma : Option Addr) (mc : Nat) (w : World) (hs : g.sits S w va pa ma) (hps : PDsC S w g.procs pa) (hvc : g.vars.length ≤ vc) :
 Calls Tryz.prog 8 #[.agg (g.cells va vc pa pc ma mc).toArray, .int .i64 e] w fun e' w' => e' = .returned (.int .i64 (g.errs.count e)) ∧ Ext w w' := by
 have HC := Lib.hid (checkR_v hwf hok); have hle := errs_le hok; have X := Ext.refl w; replace hps := hps.ltA; replace hs := hs.ltA; clear hwf hok; refine calls_in Tryz.func8 Tryz.ntmps8 rfl rfl ?_
 focus
  refine cS ?_; (refine lw_box' [_, _, _, _, _, _] rfl rfl rfl ?_; intro b1 w2 n3); have h4 := n3.blk; have x5 := n3.ext; have p6 := n3.pos; have z7 := n3.size; clear n3; replace X := X.ext x5; replace hps := hps.ext x5; replace hs := PG.sits.ext hs x5; clear x5; refine C1 Pa (cN (C1 Pa (cT (cw_seq (cS (lw_loads_b' [_, _, _, _, _, _] tabOk rfl rfl rfl h4 rfl rfl rfl ?_)))))); refine cR (by kernel_rfl) rfl (HC.out _ _ _ _ _ _ _ _ (by assumption) (by assumption) hvc) (fun _ _ h => h.ret) rfl ?_; rintro _ w12 ⟨a8, ⟨c9, ⟨⟨⟩, ⟨h10, x11⟩⟩⟩⟩; have z13 := x11.size; replace h4 := h4.ext x11; replace X := X.ext x11; replace hps := hps.ext x11; replace hs := PG.sits.ext hs x11; clear x11; refine C1 Pz (C1 Mv (cT ?_)); rotate_left 1
 refine cw_block ?_; refine cw_loop (ι := Nat) (fun j => [(1, .int .i64 e), (5, .int .i64 ((g.errs.take j).count e)), (9, .slice a8 g.errs.length c9), (10, .int .i64 g.errs.length), (11, .int .i64 j)])
  (fun j w' => j ≤ g.errs.length ∧ RejAt w' g.errs a8 ∧ Ext w w') (fun j => g.errs.length - j) 0 (by (refine sub_cons rfl ?_; refine sub_cons rfl ?_; refine sub_cons rfl ?_; refine sub_cons rfl ?_; refine sub_cons rfl ?_; exact sub_nil)) ⟨Nat.zero_le _, h10, X⟩ ?_
 clear h10 X h4 hps hs HC
 generalize g.errs = xs at *
 rintro j w3 ⟨hj, h10, X⟩; have hcl := List.count_le_length (a := e) (l := xs.take j); rw [List.length_take] at hcl
 by_cases hlt : j < xs.length
 · rcases h10 with h10 | ⟨kb, rfl, hget⟩
   · rw [h10] at hlt; simp at hlt
   obtain ⟨p, qa, qn, qc, s, r0⟩ := hget j xs[j] (List.getElem?_eq_getElem hlt); have h10 : RejAt w3 xs (some ⟨kb, 0, none⟩) := Or.inr ⟨kb, rfl, hget⟩; have hnx := count_take hlt e; clear hget; rw [← Nat.zero_add (j * 4)] at r0
   generalize xs[j] = y at *
   generalize (xs.take j).count e = N at *
   focus
    refine cS (C1 V3 (cT (cw_seq (Wyo (cw_skip (qw_then (cw_seq (cw_block (cS (C1 Pi (C1 (Pws r0) ?_))))))))))); (refine lw_alloc' [_, _, _, _] zOk rfl rfl ?_; intro ba1 wa2 na3); (refine lw_init' [_, _, _, _] tabOk rfl rfl rfl rfl rfl rfl na3 rfl ?_; clear na3; clear wa2; intro wa4 na3); have ha5 := na3.blk; have xa6 := na3.ext; have pa7 := na3.pos; have za8 := na3.size; clear na3; replace X := X.ext xa6; replace h10 := h10.ext xa6; replace r0 := r0.ext xa6; clear xa6; refine cN (C1 Pf (C1 (Pl ha5) (C1 Mv (C1 V1 (cT ?_))))); refine cw_dec rfl (fun ca9 => ?_) (fun ca9 => ?_); refine cw_region (C1 Mv (C1 V7 (C1 Pa (lw_nil (qw_block_norm (qw_then (cw_region (C1 V7 (C1 Mv (lw_nil ?_)))))))))); rotate_left 1; refine cw_skip (qw_block_norm (qw_then (cw_region (C1 V7 (C1 Mv (lw_nil ?_)))))); rotate_left 1
   · rw [if_pos (by assumption)] at hnx
     exact qw_round (j + 1) (sub_cons rfl (sub_cons' rfl (by rw [hnx]; rfl) (sub_cons rfl (sub_cons rfl (sub_cons rfl sub_nil))))) ⟨by omega, by assumption, X⟩ (by omega)
   · rw [if_neg (by assumption)] at hnx
     exact qw_round (j + 1) (sub_cons rfl (sub_cons' rfl (by rw [hnx]; rfl) (sub_cons rfl (sub_cons rfl (sub_cons rfl sub_nil))))) ⟨by omega, by assumption, X⟩ (by omega)
 · obtain rfl : j = xs.length := by omega
   focus
    refine cS (C1 V3 (cT (cw_seq (Wno (cw_exit (qw_then_exit (qw_then_exit (qw_block_exit (qw_then (cS (C1 Mv ?_))))))))))); refine C1 Pa (cT (cw_ret (qw_ret1 rfl rfl ?_))); rotate_left 1
   rw [List.take_length]
   exact ⟨rfl, X⟩
end Bk
namespace Bk
open Go Go.RowKit Go.Proofs
attribute [local irreducible] Go.Calls
theorem greatA_v {g : PG} (hwf : g.wf) (S : Nat → Prop) (va : Option Addr) (vc : Nat) (pa : Option Addr) (pc : Nat) (ma : Option Addr) (mc : Nat) (w : World) (hs : g.sits S w va pa ma) :
 Calls Tryz.prog 5 #[.agg (g.cells va vc pa pc ma mc).toArray] w fun e w' => ∃ q : Int, e = .returned (.int .i64 q) ∧ Ext w w' := (Great_s g S va vc pa pc ma mc w hwf hs).mono fun _ _ ⟨q, h, _, x⟩ => ⟨q, h, x⟩
def CntR (n : Nat) (w : World) : Ending → World → Prop := fun e w' => e = .returned (.int .i64 n) ∧ Ext w w'
theorem CntR.ret {n : Nat} {w : World} {e : Ending} {w' : World} (h : CntR n w e w') : ∃ v, e = .returned v := ⟨_, h.1⟩
set_option maxRecDepth 100000 in
set_option maxHeartbeats 4000000 in
theorem InverterAccepted_c (g : PG) (hwf : g.wf) (S : Nat → Prop) (va : Option Addr) (vc : Nat) (pa : Option Addr) (pc : Nat) (ma : Option Addr) (mc : Nat) (w : World) (hs : g.sits S w va pa ma) (hps : PDsC S w g.procs pa) (hvc : g.vars.length ≤ vc) (hS : Syms w) (hE : Errs w) :
 Calls Tryz.prog 3 #[.agg (g.cells va vc pa pc ma mc).toArray] w fun e w' => e = .returned (.bool true) ∧ Ext w w' := by
 have X := Ext.refl w; replace hs := hs.ltA; replace hps := hps.ltA; have HG := Lib.hid (greatA_v hwf)
 cases hok : g.ok
 · have HV := Lib.hid (valid_v hwf hok)
   clear hwf hok hps; refine calls_in Tryz.func3 Tryz.ntmps3 rfl rfl ?_
   focus
    refine cS ?_; (refine lw_box' [_, _, _, _, _, _] rfl rfl rfl ?_; intro b1 w2 n3); have h4 := n3.blk; have x5 := n3.ext; have p6 := n3.pos; have z7 := n3.size; clear n3; replace hS := hS.ext x5; replace hE := hE.ext x5; replace X := X.ext x5; replace hs := PG.sits.ext hs x5; clear x5; refine C1 Pa (cT (cw_seq (cS ?_))); refine cC rfl (awake17_c _ (by assumption) (by assumption)) ?_; rintro _ w9 ⟨⟨⟩, x8⟩; have z10 := x8.size; replace h4 := h4.ext x8; replace hS := hS.ext x8; replace hE := hE.ext x8; replace X := X.ext x8; replace hs := PG.sits.ext hs x8; clear x8; refine C1 Pt (cT (cw_cond_f rfl (cw_skip (qw_then (cw_seq (cS (lw_loads_b' [_, _, _, _, _, _] tabOk rfl rfl rfl h4 rfl rfl rfl ?_))))))); refine lw_does (does_call (by kernel_rfl) rfl (HG.out _ _ _ _ _ _ _ _ (by assumption)) (fun _ _ ⟨_, h⟩ => ⟨_, h.1⟩)) rfl ?_ (fun _ h => h); rintro _ w13 ⟨q11, ⟨⟨⟩, x12⟩⟩; have z14 := x12.size; replace h4 := h4.ext x12; replace hS := hS.ext x12; replace hE := hE.ext x12; replace X := X.ext x12; replace hs := PG.sits.ext hs x12; clear x12; refine C1 V1 (C1 Mv ?_); refine lw_dec rfl rfl rfl (fun c15 => ?_) (fun c15 => ?_); refine Oya (Oya (Oya (C1 Qya (cT (cw_cond_t rfl (cS (C1 Pa (cT (cw_ret (qw_then_ret (qw_ret1 rfl rfl ?_))))))))))); rotate_left 1; refine Gna (lw_loads_b' [_, _, _, _, _, _] tabOk rfl rfl rfl h4 rfl rfl rfl (Gna ?_)); refine cC rfl (HV.out _ _ _ _ _ _ _ _ (by assumption)) ?_; rintro _ w17 ⟨⟨⟩, x16⟩; have z18 := x16.size; replace h4 := h4.ext x16; replace hS := hS.ext x16
    replace hE := hE.ext x16; replace X := X.ext x16; replace hs := PG.sits.ext hs x16; clear x16; refine Gna (C1 Pt (C1 Qna (cT (cw_cond_t rfl (cS (C1 Pa (cT (cw_ret (qw_then_ret (qw_ret1 rfl rfl ?_)))))))))); rotate_left 1
   · exact ⟨rfl, X⟩
   · exact ⟨rfl, X⟩
 · have HV := Lib.hid (valid_v hwf hok)
   have hbo := fun p hp => (pok_parts ((ok_parts hok).2.2.2.1 p hp)).2.2.2
   have hmb := ok_mainB hok; have HP := Lib.hid (iProgram_vc hwf hok); have wf2 := inv_pg_wf (f := id) false hwf hok (fun p hp => (hwf.procs p hp).body); have ok2 := inv_pg_ok (f := id) false hok hbo; have HC := Lib.hid (fun S va vc pa pc ma mc w hs hps hvc => (scheck_c g hwf hok S va vc pa pc ma mc w hs hps hvc)); have HC2 := Lib.hid (fun S va vc pa pc ma mc w hs hps hvc => (scheck_c (g.inv id false) wf2 ok2 S va vc pa pc ma mc w hs hps hvc)); have HA := Lib.hid (fun S va vc pa pc ma mc w hs hps hvc => countA_c hwf hok 8 S va vc pa pc ma mc w hs hps hvc); have HA2 := Lib.hid (fun S va vc pa pc ma mc w hs hps hvc => countA_c wf2 ok2 8 S va vc pa pc ma mc w hs hps hvc); have HB := Lib.hid (fun S va vc pa pc ma mc w hs hps hvc => countA_c hwf hok 9 S va vc pa pc ma mc w hs hps hvc); have HB2 := Lib.hid (fun S va vc pa pc ma mc w hs hps hvc => countA_c wf2 ok2 9 S va vc pa pc ma mc w hs hps hvc); have e1 := flt_pinv false (g := g) (Or.inr hmb); have e2 := errs_inv false 8 (Or.inl rfl) (g := g) (Or.inr hmb); have e3 := errs_inv false 9 (Or.inr rfl) (g := g) (Or.inr hmb); rw [← PG.inv_id] at e1 e2 e3; rw [e1] at HC2; rw [e2] at HA2; rw [e3] at HB2; clear hwf hok hbo hmb wf2 ok2 e1 e2 e3
   generalize g.inv id false = u at *
   generalize g.flt = nf at *
   generalize g.errs.count 8 = n8 at *
   generalize g.errs.count 9 = n9 at *
   refine calls_in Tryz.func3 Tryz.ntmps3 rfl rfl ?_
   focus
    refine cS ?_; (refine lw_box' [_, _, _, _, _, _] rfl rfl rfl ?_; intro ba1 wa2 na3); have ha4 := na3.blk; have xa5 := na3.ext; have pa6 := na3.pos; have za7 := na3.size; clear na3; replace hS := hS.ext xa5; replace hE := hE.ext xa5; replace X := X.ext xa5; replace hs := PG.sits.ext hs xa5; replace hps := hps.ext xa5; clear xa5; refine C1 Pa (cT (cw_seq (cS ?_))); refine cC rfl (awake17_c _ (by assumption) (by assumption)) ?_; rintro _ wa9 ⟨⟨⟩, xa8⟩; have za10 := xa8.size; replace ha4 := ha4.ext xa8; replace hS := hS.ext xa8; replace hE := hE.ext xa8; replace X := X.ext xa8; replace hs := PG.sits.ext hs xa8; replace hps := hps.ext xa8; clear xa8; refine C1 Pt (cT (cw_cond_f rfl (cw_skip (qw_then (cw_seq (cS (lw_loads_b' [_, _, _, _, _, _] tabOk rfl rfl rfl ha4 rfl rfl rfl ?_))))))); refine lw_does (does_call (by kernel_rfl) rfl (HG.out _ _ _ _ _ _ _ _ (by assumption)) (fun _ _ ⟨_, h⟩ => ⟨_, h.1⟩)) rfl ?_ (fun _ h => h); rintro _ wa13 ⟨qa11, ⟨⟨⟩, xa12⟩⟩; have za14 := xa12.size; replace ha4 := ha4.ext xa12; replace hS := hS.ext xa12; replace hE := hE.ext xa12; replace X := X.ext xa12; replace hs := PG.sits.ext hs xa12; replace hps := hps.ext xa12; clear xa12; refine C1 V1 (C1 Mv ?_); refine lw_dec rfl rfl rfl (fun ca15 => ?_) (fun ca15 => ?_); refine Oya (Oya (Oya (C1 Qya (cT (cw_cond_t rfl (cS (C1 Pa (cT (cw_ret (qw_then_ret (qw_ret1 rfl rfl ?_))))))))))); rotate_left 1; refine Gna (lw_loads_b' [_, _, _, _, _, _] tabOk rfl rfl rfl ha4 rfl rfl rfl (Gna ?_)); refine cC rfl (HV.out _ _ _ _ _ _ _ _ (by assumption)) ?_
    rintro _ wa17 ⟨⟨⟩, xa16⟩; have za18 := xa16.size; replace ha4 := ha4.ext xa16; replace hS := hS.ext xa16; replace hE := hE.ext xa16; replace X := X.ext xa16; replace hs := PG.sits.ext hs xa16; replace hps := hps.ext xa16; clear xa16; refine Gna (C1 Pt (C1 Qna (cT (cw_cond_f rfl (cw_skip (qw_then (cS (lw_loads_b' [_, _, _, _, _, _] tabOk rfl rfl rfl ha4 rfl rfl rfl ?_)))))))); refine lw_does (does_call (by kernel_rfl) rfl (HP.out _ _ _ _ _ _ _ _ (by assumption)) (fun _ _ ⟨_, _, _, _, _, _, h⟩ => ⟨_, h.1⟩)) rfl ?_ (fun _ h => h); rintro _ wa29 ⟨vaa19, ⟨vca20, ⟨paa21, ⟨pca22, ⟨maa23, ⟨mca24, ⟨⟨⟩, ⟨ha25, ⟨ha26, ⟨ha27, xa28⟩⟩⟩⟩⟩⟩⟩⟩⟩⟩; have za30 := xa28.size; replace ha4 := ha4.ext xa28; replace hS := hS.ext xa28; replace hE := hE.ext xa28; replace X := X.ext xa28; replace hs := PG.sits.ext hs xa28; replace hps := hps.ext xa28; clear xa28; refine C1 Mv (C1 Px (C1 Px ?_)); (refine lw_alloc' [_, _, _, _, _, _] zOk rfl rfl ?_; intro ba31 wa32 na33); (refine lw_init' [_, _, _, _, _, _] tabOk rfl rfl rfl rfl rfl rfl na33 rfl ?_; clear na33; clear wa32; intro wa34 na33); have ha35 := na33.blk; have xa36 := na33.ext; have pa37 := na33.pos; have za38 := na33.size; clear na33; replace ha25 := PG.sits.ext ha25 xa36; replace ha26 := ha26.ext xa36; replace ha4 := ha4.ext xa36; replace hS := hS.ext xa36; replace hE := hE.ext xa36; replace X := X.ext xa36; replace hs := PG.sits.ext hs xa36; replace hps := hps.ext xa36; clear xa36; refine C1 Pa (cN (C1 Pa (cT (cw_seq ?_)))); (refine cw_tdraw (fun wz => Ext wa34 wz) 26 (.pure 0 (.pure 1 (.pure 2 (.pure 3 (.pure 6 (.fork 4 (.pure 5 (.fork 7 (.pure 8 (.pure 9 (.pure 10 (.pure 11 (.pure 12 (.pure 13 (.pure 15 (.pure 16 (.fork 14 (.fork 17 (.pure 18 (.pure 19 (.pure 20 (.pure 21 (.pure 22 (.pure 24 (.pure 25 (.fork 23 .tail .none)))))))) .none) .none))))))))) .none)) .none)))))) mixed (by kernel_rfl) (panicOk_then panicOk_body) ?_; intro wa39 xa40 _)
    have qsa41 : (fun wz => Ext wa34 wz) wa39 := xa40; simp only at qsa41; have d_ha35 := ha35; have d_ha25 := ha25; have d_ha26 := ha26; have d_ha4 := ha4; have d_hS := hS; have d_hE := hE; have d_hs := hs; have d_hps := hps; have za42 := xa40.size; replace ha35 := ha35.ext xa40; replace ha25 := PG.sits.ext ha25 xa40; replace ha26 := ha26.ext xa40; replace ha4 := ha4.ext xa40; replace hS := hS.ext xa40; replace hE := hE.ext xa40; replace X := X.ext xa40; replace hs := PG.sits.ext hs xa40; replace hps := hps.ext xa40; clear xa40; refine ⟨qsa41, ?_⟩; refine Tq rfl Mv (Tq rfl V1 (Tq rfl Mv ?_)); refine tw_on rfl rfl rfl rfl (gd_tt (by decide)) (pur_loads_blk' [_, _, _, _, _, _] tabOk rfl rfl rfl (fun wz hz => (Blk.ext d_ha4 hz)) rfl rfl) rfl ?_; refine tw_on rfl rfl rfl rfl (gd_tt (by decide)) (pur_loads_blk' [_, _, _, _, _, _] tabOk rfl rfl rfl (fun wz hz => (Blk.ext d_ha35 hz)) rfl rfl) rfl ?_; refine tw_does_on rfl rfl rfl rfl (gd_tt (by decide)) (does_call (by kernel_rfl) rfl (HC.out _ _ _ _ _ _ _ _ (by assumption) (by assumption) (by assumption)) (fun _ _ h => h.ret)) rfl ?_ (fun _ h => h) tw_none; rintro _ wa47 ⟨aa44, ⟨ca45, ⟨⟨⟩, xa46⟩⟩⟩; have za48 := xa46.size; replace qsa41 := qsa41.ext xa46; replace ha35 := ha35.ext xa46; replace ha25 := PG.sits.ext ha25 xa46; replace ha26 := ha26.ext xa46; replace ha4 := ha4.ext xa46; replace hS := hS.ext xa46; replace hE := hE.ext xa46; replace X := X.ext xa46; replace hs := PG.sits.ext hs xa46; replace hps := hps.ext xa46; clear xa46
    refine ⟨qsa41, ?_⟩; refine tw_on rfl rfl rfl rfl (gd_tt (by decide)) (pur_len_slice tabOk rfl rfl) rfl ?_; refine tw_does_on rfl rfl rfl rfl (gd_tt (by decide)) (does_call (by kernel_rfl) rfl (HC2.out _ _ _ _ _ _ _ _ (by assumption) (by assumption) (by assumption)) (fun _ _ h => h.ret)) rfl ?_ (fun _ h => h) tw_none; rintro _ wa53 ⟨aa50, ⟨ca51, ⟨⟨⟩, xa52⟩⟩⟩; have za54 := xa52.size; replace qsa41 := qsa41.ext xa52; replace ha35 := ha35.ext xa52; replace ha25 := PG.sits.ext ha25 xa52; replace ha26 := ha26.ext xa52; replace ha4 := ha4.ext xa52; replace hS := hS.ext xa52; replace hE := hE.ext xa52; replace X := X.ext xa52; replace hs := PG.sits.ext hs xa52; replace hps := hps.ext xa52; clear xa52; refine ⟨qsa41, ?_⟩; refine tw_on rfl rfl rfl rfl (gd_tt (by decide)) (pur_len_slice tabOk rfl rfl) rfl ?_; refine tw_on rfl rfl rfl rfl (gd_tt (by decide)) (pur_eql rfl rfl) rfl ?_; refine Tq rfl Qyd (Tq rfl Mv ?_); refine tw_on rfl rfl rfl rfl (gd_tt (by omega)) (pur_move rfl) rfl ?_; refine tw_on rfl rfl rfl rfl (gd_tt (by omega)) (pur_loads_blk' [_, _, _, _, _, _] tabOk rfl rfl rfl (fun wz hz => (Blk.ext d_ha4 hz)) rfl rfl) rfl ?_; refine tw_on rfl rfl rfl rfl (gd_tt (by omega)) (pur_move rfl) rfl ?_; refine tw_on rfl rfl rfl rfl (gd_tt (by omega)) (pur_loads_blk' [_, _, _, _, _, _] tabOk rfl rfl rfl (fun wz hz => (Blk.ext d_ha35 hz)) rfl rfl) rfl ?_; refine tw_does_on rfl rfl rfl rfl (gd_tt (by omega)) (does_callv (fi := []) (ca := []) (by kernel_rfl) rfl rfl (HA.out _ _ _ _ _ _ _ _ (by assumption) (by assumption) (by assumption)) (fun _ _ h => ⟨_, h.1⟩)) rfl ?_ (fun _ h => h) tw_none
    rintro _ wa57 ⟨⟨⟩, xa56⟩; have za58 := xa56.size; replace qsa41 := qsa41.ext xa56; replace ha35 := ha35.ext xa56; replace ha25 := PG.sits.ext ha25 xa56; replace ha26 := ha26.ext xa56; replace ha4 := ha4.ext xa56; replace hS := hS.ext xa56; replace hE := hE.ext xa56; replace X := X.ext xa56; replace hs := PG.sits.ext hs xa56; replace hps := hps.ext xa56; clear xa56; refine ⟨qsa41, ?_⟩; refine tw_does_on rfl rfl rfl rfl (gd_tt (by omega)) (does_callv (fi := []) (ca := []) (by kernel_rfl) rfl rfl (HA2.out _ _ _ _ _ _ _ _ (by assumption) (by assumption) (by assumption)) (fun _ _ h => ⟨_, h.1⟩)) rfl ?_ (fun _ h => h) tw_none; rintro _ wa61 ⟨⟨⟩, xa60⟩; have za62 := xa60.size; replace qsa41 := qsa41.ext xa60; replace ha35 := ha35.ext xa60; replace ha25 := PG.sits.ext ha25 xa60; replace ha26 := ha26.ext xa60; replace ha4 := ha4.ext xa60; replace hS := hS.ext xa60; replace hE := hE.ext xa60; replace X := X.ext xa60; replace hs := PG.sits.ext hs xa60; replace hps := hps.ext xa60; clear xa60; refine ⟨qsa41, ?_⟩; refine tw_on rfl rfl rfl rfl (gd_tt (by omega)) (pur_eql rfl rfl) rfl ?_; refine Tq rfl Qyo (Tq rfl Mv ?_); refine tw_on rfl rfl rfl rfl (gd_tt (by omega)) (pur_move rfl) rfl ?_; refine tw_on rfl rfl rfl rfl (gd_tt (by omega)) (pur_loads_blk' [_, _, _, _, _, _] tabOk rfl rfl rfl (fun wz hz => (Blk.ext d_ha4 hz)) rfl rfl) rfl ?_; refine tw_on rfl rfl rfl rfl (gd_tt (by omega)) (pur_move rfl) rfl ?_; refine tw_on rfl rfl rfl rfl (gd_tt (by omega)) (pur_loads_blk' [_, _, _, _, _, _] tabOk rfl rfl rfl (fun wz hz => (Blk.ext d_ha35 hz)) rfl rfl) rfl ?_
    refine tw_does_on rfl rfl rfl rfl (gd_tt (by omega)) (does_callv (fi := []) (ca := []) (by kernel_rfl) rfl rfl (HB.out _ _ _ _ _ _ _ _ (by assumption) (by assumption) (by assumption)) (fun _ _ h => ⟨_, h.1⟩)) rfl ?_ (fun _ h => h) tw_none; rintro _ wa65 ⟨⟨⟩, xa64⟩; have za66 := xa64.size; replace qsa41 := qsa41.ext xa64; replace ha35 := ha35.ext xa64; replace ha25 := PG.sits.ext ha25 xa64; replace ha26 := ha26.ext xa64; replace ha4 := ha4.ext xa64; replace hS := hS.ext xa64; replace hE := hE.ext xa64; replace X := X.ext xa64; replace hs := PG.sits.ext hs xa64; replace hps := hps.ext xa64; clear xa64; refine ⟨qsa41, ?_⟩; clear d_ha35 d_ha25 d_ha26 d_ha4 d_hS d_hE d_hs d_hps qsa41; refine tw_tail rfl (Gyo ?_); refine lw_does (does_callv (fi := []) (ca := []) (by kernel_rfl) rfl rfl (HB2.out _ _ _ _ _ _ _ _ (by assumption) (by assumption) (by assumption)) (fun _ _ h => ⟨_, h.1⟩)) rfl ?_ (fun _ h => h); rintro _ wa68 ⟨⟨⟩, xa67⟩; have za69 := xa67.size; replace ha35 := ha35.ext xa67; replace ha25 := PG.sits.ext ha25 xa67; replace ha26 := ha26.ext xa67; replace ha4 := ha4.ext xa67; replace hS := hS.ext xa67; replace hE := hE.ext xa67; replace X := X.ext xa67; replace hs := PG.sits.ext hs xa67; replace hps := hps.ext xa67; clear xa67; refine Gyo (C1 V1 (C1 Qyo (C1 Pa (cT (cw_ret (qw_ret1 rfl rfl ?_)))))); rotate_left 1
   · exact ⟨rfl, X⟩
   · exact ⟨by rw [decide_eq_true rfl], X⟩
end Bk
namespace Bk
open Go Go.RowKit Go.Proofs
def AllB : Nat → Prop := fun _ => True
theorem row_build (W : World) (b o : Nat) : ∀ (len i0 : Nat), (∀ i, i < len → ∃ (t : Nd) (a' : Option Addr) (c' : Nat), t.wf ∧ W.cell? ⟨b, o + (i0 + i) * 4, none⟩ = some (.int .u8 t.kind) ∧ W.cell? ⟨b, o + (i0 + i) * 4 + 1, none⟩ = some (.int .i64 t.num) ∧ W.cell? ⟨b, o + (i0 + i) * 4 + 2, none⟩ = some (str t.name) ∧ W.cell? ⟨b, o + (i0 + i) * 4 + 3, none⟩ = some (.slice a' t.kids.length c') ∧ t.sits AllB W a') →
 ∃ l : List Nd, l.length = len ∧ rowWf l ∧ rowSits AllB W l (some ⟨b, o + i0 * 4, none⟩)
 | 0, _, _ => ⟨[], rfl, by simp [rowWf], by simp [rowSits]⟩
 | len + 1, i0, h => by
  obtain ⟨l, hl, hw, hs⟩ := row_build W b o len (i0 + 1) (fun i hi => by
   have := h (i + 1) (by omega)
   rwa [show i0 + (i + 1) = i0 + 1 + i from by omega] at this)
  obtain ⟨t, a', c', hwf, h0, h1, h2, h3, hsk⟩ := h 0 (by omega); rw [Nat.add_zero] at h0 h1 h2 h3; refine ⟨t :: l, by simp [hl], by simp [rowWf, hwf, hw], ?_⟩; simp only [rowSits]; refine ⟨b, o + i0 * 4, a', c', rfl, trivial, h0, h1, h2, h3, hsk, ?_⟩
  rwa [show o + i0 * 4 + 4 = o + (i0 + 1) * 4 from by omega]
theorem cells4 {W : World} {a : Addr} {cs : List Value} (h : W.cells? 0 a 4 = some cs) : ∃ c0 c1 c2 c3, cs = [c0, c1, c2, c3] ∧ W.cell? (a.add 0) = some c0 ∧ W.cell? (a.add 1) = some c1 ∧ W.cell? (a.add 2) = some c2 ∧ W.cell? (a.add 3) = some c3 := by
 unfold World.cells? at h
 rw [if_pos (Nat.zero_le _)] at h; rw [show List.range 4 = [0, 1, 2, 3] from rfl] at h
 cases e0 : W.cell? (a.add 0) <;> simp [e0] at h
 cases e1 : W.cell? (a.add 1) <;> simp [e1] at h
 cases e2 : W.cell? (a.add 2) <;> simp [e2] at h
 cases e3 : W.cell? (a.add 3) <;> simp [e3] at h
 exact ⟨_, _, _, _, h.symm, rfl, rfl, rfl, rfl⟩
theorem addr_add2 (b o n m : Nat) : ((⟨b, o, none⟩ : Addr).add n).add m = ⟨b, o + n + m, none⟩ := by
 unfold Addr.add
 by_cases hn : n = 0 <;> by_cases hm : m = 0 <;> simp [hn, hm]
theorem cellsNode : Tryz.prog.cellsOf 26 = 4 := by kernel_rfl
theorem cells5 : Tryz.prog.cellsOf 5 = 1 := by kernel_rfl
theorem cells3 : Tryz.prog.cellsOf 3 = 1 := by kernel_rfl
theorem cells9 : Tryz.prog.cellsOf 9 = 1 := by kernel_rfl
theorem cells22 : Tryz.prog.cellsOf 24 = 1 := by kernel_rfl
theorem node_of_trod {H : Type} (enc : TypeId × Value → H) (W : World) (sp : Nat → Bool) (N : Nat) : ∀ (fuel : Nat), fuel < N → ∀ (cs : List Value) (x : DataW H × List MemPlace), DataW.trod enc Tryz.prog W 0 sp true fuel 26 cs = some x →
 ∃ (t : Nd) (a : Option Addr) (c : Nat), cs = [.int .u8 t.kind, .int .i64 t.num, str t.name, .slice a t.kids.length c] ∧ t.wf ∧ t.sits AllB W a := by
 induction N with
 | zero => intro fuel h; omega
 | succ N ih =>
  intro fuel hN cs x h; obtain ⟨xs, n, rfl, -, hl, hlen, hf⟩ := DataW.trod_struct Tryz.underlying26 h; rw [cellsNode] at hl
  obtain ⟨c0, c1, c2, c3, rfl⟩ : ∃ c0 c1 c2 c3, cs = [c0, c1, c2, c3] := by
   rcases cs with _ | ⟨c0, _ | ⟨c1, _ | ⟨c2, _ | ⟨c3, _ | ⟨c4, cs⟩⟩⟩⟩⟩
   · simp at hl
   · simp at hl
   · simp at hl
   · simp at hl
   · exact ⟨_, _, _, _, rfl⟩
   · simp at hl
  obtain ⟨y0, y1, y2, y3, rfl⟩ : ∃ y0 y1 y2 y3, xs = [y0, y1, y2, y3] := by
   have hlen' : xs.length = 4 := hlen
   rcases xs with _ | ⟨c0, _ | ⟨c1, _ | ⟨c2, _ | ⟨c3, _ | ⟨c4, cs⟩⟩⟩⟩⟩
   · simp at hlen'
   · simp at hlen'
   · simp at hlen'
   · simp at hlen'
   · exact ⟨_, _, _, _, rfl⟩
   · simp at hlen'
  · have f0 : DataW.trod enc Tryz.prog W 0 sp true n 5 (([c0, c1, c2, c3].drop 0).take (Tryz.prog.cellsOf 5)) = some y0 := hf 0 _ rfl
    have f1 : DataW.trod enc Tryz.prog W 0 sp true n 3 (([c0, c1, c2, c3].drop 1).take (Tryz.prog.cellsOf 3)) = some y1 := hf 1 _ rfl; have f2 : DataW.trod enc Tryz.prog W 0 sp true n 9 (([c0, c1, c2, c3].drop 2).take (Tryz.prog.cellsOf 9)) = some y2 := hf 2 _ rfl; have f3 : DataW.trod enc Tryz.prog W 0 sp true n 24 (([c0, c1, c2, c3].drop 3).take (Tryz.prog.cellsOf 24)) = some y3 := hf 3 _ rfl; simp only [cells5, cells3, cells9, cells22, List.drop_zero, List.drop_succ_cons, List.take_succ_cons, List.take_zero] at f0 f1 f2 f3; obtain ⟨k, hk, -, wk⟩ := DataW.trod_int (show Tryz.prog.underlying 5 = some (.int .u8) by kernel_rfl) f0; obtain ⟨m, hm, -, wm⟩ := DataW.trod_int Tryz.underlying3 f1; obtain ⟨s, hs, -, ws⟩ := DataW.trod_string (show Tryz.prog.underlying 9 = some .string by kernel_rfl) f2; simp only [List.cons.injEq, and_true] at hk hm hs; subst hk hm hs
    have wk' : 0 ≤ k ∧ k ≤ 255 := by simpa [Lit.wf, IntKind.min, IntKind.max, IntKind.signed, IntKind.bits] using wk
    have wm' : -9223372036854775808 ≤ m ∧ m ≤ 9223372036854775807 := by simpa [Lit.wf, IntKind.min, IntKind.max, IntKind.signed, IntKind.bits] using wm
    have ws' : s.data.toList.length ≤ 9223372036854775807 := by
     have : s.data.toList.length = s.size := by rw [Array.length_toList]; rfl
     unfold maxLen at ws; omega
    rcases DataW.trod_slice Tryz.underlying24 f3 with ⟨hc, -⟩ | ⟨a, len, cap, elems, rest, n', hn', hc, -, -, hle, hcm, hel, hE, -⟩
    · simp only [List.cons.injEq, and_true] at hc
      subst hc
      exact ⟨.mk k m s.data.toList [], none, 0, rfl, ⟨wk'.1, wk'.2, wm'.1, wm'.2, ws', by simp, by simp [rowWf]⟩, by simp [Nd.sits, rowSits]⟩
    · simp only [List.cons.injEq, and_true] at hc
      subst hc; rw [cellsNode] at hE
      rcases Nat.eq_zero_or_pos len with h0 | hpos
      · subst h0
        exact ⟨.mk k m s.data.toList [], some a, cap, rfl, ⟨wk'.1, wk'.2, wm'.1, wm'.2, ws', by simp, by simp [rowWf]⟩, by simp [Nd.sits, rowSits]⟩
      · have step : ∀ i, i < len → ∃ (t : Nd) (a' : Option Addr) (c' : Nat), t.wf ∧ W.cell? ((a.add (i * 4)).add 0) = some (.int .u8 t.kind) ∧ W.cell? ((a.add (i * 4)).add 1) = some (.int .i64 t.num) ∧ W.cell? ((a.add (i * 4)).add 2) = some (str t.name) ∧ W.cell? ((a.add (i * 4)).add 3) = some (.slice a' t.kids.length c') ∧ t.sits AllB W a' := by
         intro i hi; have hEi := hE i hi
         cases hc4 : W.cells? 0 (a.add (i * 4)) 4 with
         | none =>
          rw [hc4] at hEi; have hh : elems[i]? = some elems[i] := List.getElem?_eq_getElem (by omega); rw [hh] at hEi
          simp at hEi
         | some cs4 =>
          rw [hc4, List.getElem?_eq_getElem (by omega)] at hEi; obtain ⟨d0, d1, d2, d3, rfl, e0, e1, e2, e3⟩ := cells4 hc4; obtain ⟨t, a', c', hcs, hw, hs⟩ := ih n' (by omega) _ _ hEi; simp only [List.cons.injEq, and_true] at hcs; obtain ⟨rfl, rfl, rfl, rfl⟩ := hcs
          exact ⟨t, a', c', hw, e0, e1, e2, e3, hs⟩
        obtain ⟨b, o, spot⟩ := a
        have hspot : spot = none := by
         obtain ⟨t, a', c', -, e0, -⟩ := step 0 hpos; simp only [Nat.zero_mul, Addr.add, if_true] at e0
         unfold World.cell? at e0
         cases spot with
         | none => rfl
         | some q => simp at e0; split at e0 <;> simp at e0
        subst hspot
        obtain ⟨l, hl', hw', hs'⟩ := row_build W b o len 0 (fun i hi => by
         obtain ⟨t, a', c', hw, e0, e1, e2, e3, hs⟩ := step i hi; rw [addr_add2] at e0 e1 e2 e3; rw [Nat.zero_add]
         exact ⟨t, a', c', hw, e0, e1, e2, e3, hs⟩)
        subst hl'; refine ⟨.mk k m s.data.toList l, some ⟨b, o, none⟩, cap, rfl, ⟨wk'.1, wk'.2, wm'.1, wm'.2, ws', by unfold maxLen at hcm; omega, hw'⟩, ?_⟩
        simpa [Nd.sits] using hs'
end Bk
namespace Bk
open Go Go.RowKit Go.Proofs
theorem cells_row {W : World} {p : Addr} {k : Nat} {cs : List Value} (h : W.cells? 0 p k = some cs) : Row W p cs ∧ cs.length = k := by
 unfold World.cells? at h
 rw [if_pos (Nat.zero_le _)] at h; refine ⟨fun i v hi => ?_, by simpa using mapM_some_length h⟩
 have hl : cs.length = k := by simpa using mapM_some_length h
 have hik : i < k := by
  rcases Nat.lt_or_ge i cs.length with h' | h'
  · omega
  · rw [List.getElem?_eq_none h'] at hi; cases hi
 have := mapM_some_get h i i (by simp [hik]); rw [hi] at this
 exact this
theorem addr_add (b o i : Nat) : (⟨b, o, none⟩ : Addr).add i = ⟨b, o + i, none⟩ := by unfold Addr.add; by_cases h0 : i = 0 <;> simp [h0]
theorem arr_of_trod {α H : Type} (enc : TypeId × Value → H) (W : World) (sp : Nat → Bool) {t e k : Nat} (ht : Tryz.prog.underlying t = some (.slice e)) (hk : Tryz.prog.cellsOf e = k) (hk0 : 0 < k) (G : List Value → α → Prop)
 {fuel : Nat} (hG : ∀ (n : Nat) (cs : List Value) (x : DataW H × List MemPlace), n < fuel → DataW.trod enc Tryz.prog W 0 sp true n e cs = some x → ∃ y, G cs y) {c : Value} {x : DataW H × List MemPlace} (h : DataW.trod enc Tryz.prog W 0 sp true fuel t [c] = some x) :
 ∃ (l : List α) (a : Option Addr) (cap : Nat), c = .slice a l.length cap ∧ l.length ≤ 9223372036854775807 ∧ Arr AllB k (fun w b o y => ∃ cs, Row w ⟨b, o, none⟩ cs ∧ G cs y) W l a := by
 rcases DataW.trod_slice ht h with ⟨hc, -⟩ | ⟨a, len, cap, elems, rest, n', hn', hc, -, -, hle, hcm, hel, hE, -⟩
 · simp only [List.cons.injEq, and_true] at hc
   exact ⟨[], none, 0, hc, by simp, Or.inl rfl⟩
 · simp only [List.cons.injEq, and_true] at hc
   rw [hk] at hE
   unfold maxLen at hcm
   rcases Nat.eq_zero_or_pos len with h0 | hpos
   · subst h0
     exact ⟨[], some a, cap, hc, by simp, Or.inl rfl⟩
   · have step : ∀ i, i < len → ∃ y cs, Row W (a.add (i * k)) cs ∧ cs.length = k ∧ G cs y := fun i hi => by
      have hEi := hE i hi
      cases hc4 : W.cells? 0 (a.add (i * k)) k with
      | none =>
       rw [hc4, List.getElem?_eq_getElem (by omega)] at hEi
       simp at hEi
      | some cs =>
       rw [hc4, List.getElem?_eq_getElem (by omega)] at hEi; obtain ⟨r1, r2⟩ := cells_row hc4; obtain ⟨y, hy⟩ := hG n' cs _ (by omega) hEi
       exact ⟨y, cs, r1, r2, hy⟩
     obtain ⟨b, o, spot⟩ := a
     have hspot : spot = none := by
      obtain ⟨y, cs, r, hl, -⟩ := step 0 hpos; simp only [Nat.zero_mul, Addr.add, if_true] at r
      cases cs with
      | nil => simp at hl; omega
      | cons v vs =>
       have := r 0 v rfl; simp only [Addr.add, if_true] at this
       exact cell_spot this
     subst hspot
     have hl : ∃ l : List α, l.length = len ∧ ∀ i y, l[i]? = some y → ∃ cs, Row W ⟨b, o + i * k, none⟩ cs ∧ G cs y := by
      have key : ∀ m, m ≤ len → ∃ l : List α, l.length = m ∧ ∀ i y, l[i]? = some y → ∃ cs, Row W ⟨b, o + i * k, none⟩ cs ∧ G cs y := by
       intro m
       induction m with
       | zero => intro _; exact ⟨[], rfl, by simp⟩
       | succ m ih =>
        intro hm; obtain ⟨l, h1, h2⟩ := ih (by omega); obtain ⟨y, cs, r, -, hg⟩ := step m (by omega); rw [addr_add] at r; refine ⟨l ++ [y], by simp [h1], fun i z hz => ?_⟩
        rcases Nat.lt_or_ge i m with hi | hi
        · rw [List.getElem?_append_left (by omega)] at hz; exact h2 i z hz
        · rw [List.getElem?_append_right (by omega)] at hz
          obtain rfl : i = m := by
           rcases Nat.lt_or_ge m i with h' | h'
           · rw [List.getElem?_eq_none (by simp; omega)] at hz; cases hz
           · omega
          simp [h1] at hz
          subst hz
          exact ⟨cs, r, hg⟩
      exact key len (Nat.le_refl _)
     obtain ⟨l, h1, h2⟩ := hl; subst h1
     exact ⟨l, some ⟨b, o, none⟩, cap, hc, by omega, Or.inr ⟨b, o, rfl, trivial, h2⟩⟩
theorem len3 {cs : List Value} (h : cs.length = 3) : ∃ a b c, cs = [a, b, c] := by
 rcases cs with _ | ⟨a, _ | ⟨b, _ | ⟨c, _ | ⟨d, r⟩⟩⟩⟩ <;> simp at h; exact ⟨a, b, c, rfl⟩
theorem len6 {cs : List Value} (h : cs.length = 6) : ∃ a b c d e f, cs = [a, b, c, d, e, f] := by
 rcases cs with _ | ⟨a, _ | ⟨b, _ | ⟨c, _ | ⟨d, _ | ⟨e, _ | ⟨f, _ | ⟨g, r⟩⟩⟩⟩⟩⟩⟩ <;> simp at h; exact ⟨a, b, c, d, e, f, rfl⟩
theorem get_of_len {α : Type} {xs : List α} {n i : Nat} (h : xs.length = n) (hi : i < n) : ∃ y, xs[i]? = some y := ⟨xs[i], List.getElem?_eq_getElem (by omega)⟩
theorem cVD : Tryz.prog.cellsOf 50 = 3 := by kernel_rfl
theorem cVDs : Tryz.prog.cellsOf 22 = 1 := by kernel_rfl
theorem cPD : Tryz.prog.cellsOf 52 = 6 := by kernel_rfl
theorem cPDs : Tryz.prog.cellsOf 23 = 1 := by kernel_rfl
theorem cPG : Tryz.prog.cellsOf 28 = 6 := by kernel_rfl
section
variable {H : Type} (enc : TypeId × Value → H) (W : World) (sp : Nat → Bool)
theorem vd_of_trod {fuel : Nat} {cs : List Value} {x : DataW H × List MemPlace} (h : DataW.trod enc Tryz.prog W 0 sp true fuel 50 cs = some x) : ∃ v : VD, cs = v.cells ∧ v.wf := by
 obtain ⟨xs, n, rfl, -, hl, hlen, hf⟩ := DataW.trod_struct Tryz.underlying50 h; rw [cVD] at hl; obtain ⟨c0, c1, c2, rfl⟩ := len3 hl; obtain ⟨y0, e0⟩ := get_of_len (i := 0) hlen (by decide); obtain ⟨y1, e1⟩ := get_of_len (i := 1) hlen (by decide); obtain ⟨y2, e2⟩ := get_of_len (i := 2) hlen (by decide); have f0 : DataW.trod enc Tryz.prog W 0 sp true n 9 (([c0, c1, c2].drop 0).take (Tryz.prog.cellsOf 9)) = some y0 := (hf 0 _ rfl).trans e0; have f1 : DataW.trod enc Tryz.prog W 0 sp true n 5 (([c0, c1, c2].drop 1).take (Tryz.prog.cellsOf 5)) = some y1 := (hf 1 _ rfl).trans e1; have f2 : DataW.trod enc Tryz.prog W 0 sp true n 3 (([c0, c1, c2].drop 2).take (Tryz.prog.cellsOf 3)) = some y2 := (hf 2 _ rfl).trans e2; simp only [cells5, cells3, cells9, List.drop_zero, List.drop_succ_cons, List.take_succ_cons, List.take_zero] at f0 f1 f2; obtain ⟨s, hs, -, ws⟩ := DataW.trod_string underStr f0; obtain ⟨k, hk, -, wk⟩ := DataW.trod_int (show Tryz.prog.underlying 5 = some (.int .u8) by kernel_rfl) f1; obtain ⟨m, hm, -, wm⟩ := DataW.trod_int Tryz.underlying3 f2; simp only [List.cons.injEq, and_true] at hk hm hs; subst hk hm hs
 have wk' : 0 ≤ k ∧ k ≤ 255 := by simpa [Lit.wf, IntKind.min, IntKind.max, IntKind.signed, IntKind.bits] using wk
 have wm' : -9223372036854775808 ≤ m ∧ m ≤ 9223372036854775807 := by simpa [Lit.wf, IntKind.min, IntKind.max, IntKind.signed, IntKind.bits] using wm
 have ws' : s.data.toList.length ≤ 9223372036854775807 := by
  have : s.data.toList.length = s.size := by rw [Array.length_toList]; rfl
  unfold maxLen at ws; omega
 exact ⟨⟨s.data.toList, k, m⟩, rfl, ws', wk'.1, wk'.2, wm'.1, wm'.2⟩
end
end Bk
namespace Bk
open Go Go.RowKit Go.Proofs
theorem arr_of_trodR {α H : Type} (enc : TypeId × Value → H) (W : World) (sp : Nat → Bool) {t e k : Nat} (ht : Tryz.prog.underlying t = some (.slice e)) (hk : Tryz.prog.cellsOf e = k) (hk0 : 0 < k) (G : List Value → α → Prop)
 {fuel : Nat} (hG : ∀ (n : Nat) (cs : List Value) (x : DataW H × List MemPlace), n < fuel → DataW.trod enc Tryz.prog W 0 sp true n e cs = some x → ∃ y, G cs y) {c : Value} {x : DataW H × List MemPlace} (h : DataW.trod enc Tryz.prog W 0 sp true fuel t [c] = some x) :
 ∃ (l : List α) (a : Option Addr) (cap : Nat), c = .slice a l.length cap ∧ l.length ≤ 9223372036854775807 ∧ Arr AllB k (fun w b o y => ∃ cs, Row w ⟨b, o, none⟩ cs ∧ G cs y) W l a ∧ l.length ≤ cap := by
 obtain ⟨l, a, cap, h1, h2, h3⟩ := arr_of_trod enc W sp ht hk hk0 G hG h; refine ⟨l, a, cap, h1, h2, h3, ?_⟩
 rcases DataW.trod_slice ht h with ⟨hc, -⟩ | ⟨a', len, cap', elems, rest, n', hn', hc, -, -, hle, -⟩
 · simp only [List.cons.injEq, and_true] at hc
   rw [h1] at hc; simp only [Value.slice.injEq] at hc
   omega
 · simp only [List.cons.injEq, and_true] at hc
   rw [h1] at hc; simp only [Value.slice.injEq] at hc
   omega
section
variable {H : Type} (enc : TypeId × Value → H) (W : World) (sp : Nat → Bool)
theorem vds_of_trodR {fuel : Nat} {c : Value} {x : DataW H × List MemPlace} (h : DataW.trod enc Tryz.prog W 0 sp true fuel 22 [c] = some x) :
 ∃ (l : List VD) (a : Option Addr) (cap : Nat), c = .slice a l.length cap ∧ l.length ≤ 9223372036854775807 ∧ (∀ v ∈ l, v.wf) ∧ VDs AllB W l a ∧ l.length ≤ cap := by
 obtain ⟨l, a, cap, h1, h2, h3, h4⟩ := arr_of_trodR (α := VD) enc W sp Tryz.underlying22 cVD (by decide) (fun cs v => cs = v.cells ∧ v.wf) (fun n cs x _ hx => vd_of_trod enc W sp hx) h; refine ⟨l, a, cap, h1, h2, fun v hv => ?_, h3.mono (fun _ h => h) (fun b o v _ _ ⟨cs, r, e, _⟩ => by subst e; exact r), h4⟩
 rcases h3 with rfl | ⟨b, o, -, -, hh⟩
 · cases hv
 · obtain ⟨i, hi, rfl⟩ := List.mem_iff_getElem.1 hv
   obtain ⟨cs, -, -, hw⟩ := hh i _ (List.getElem?_eq_getElem hi)
   exact hw
theorem pd_of_trodR {fuel : Nat} {cs : List Value} {x : DataW H × List MemPlace} (h : DataW.trod enc Tryz.prog W 0 sp true fuel 52 cs = some x) : ∃ p : PD, (∃ pa pc ba bc, cs = p.cells pa pc ba bc ∧ VDs AllB W p.params pa ∧ p.body.sits AllB W ba ∧ p.params.length ≤ pc) ∧ p.wf := by
 obtain ⟨xs, n, rfl, -, hl, hlen, hf⟩ := DataW.trod_struct Tryz.underlying52 h; rw [cPD] at hl; obtain ⟨c0, c1, c2, c3, c4, c5, rfl⟩ := len6 hl; obtain ⟨y0, e0⟩ := get_of_len (i := 0) hlen (by decide); obtain ⟨y1, e1⟩ := get_of_len (i := 1) hlen (by decide); obtain ⟨y2, e2⟩ := get_of_len (i := 2) hlen (by decide); have f0 : DataW.trod enc Tryz.prog W 0 sp true n 9 (([c0, c1, c2, c3, c4, c5].drop 0).take (Tryz.prog.cellsOf 9)) = some y0 := (hf 0 _ rfl).trans e0; have f1 : DataW.trod enc Tryz.prog W 0 sp true n 22 (([c0, c1, c2, c3, c4, c5].drop 1).take (Tryz.prog.cellsOf 22)) = some y1 := (hf 1 _ rfl).trans e1; have f2 : DataW.trod enc Tryz.prog W 0 sp true n 26 (([c0, c1, c2, c3, c4, c5].drop 2).take (Tryz.prog.cellsOf 26)) = some y2 := (hf 2 _ rfl).trans e2; simp only [cVDs, cells9, cellsNode, List.drop_zero, List.drop_succ_cons, List.take_succ_cons, List.take_zero] at f0 f1 f2; obtain ⟨s, hs, -, ws⟩ := DataW.trod_string underStr f0; obtain ⟨l, pa, pc, hc, hll, hlw, hls, hlc⟩ := vds_of_trodR enc W sp f1; obtain ⟨t, ba, bc, hcs, hw, hsit⟩ := node_of_trod enc W sp (n + 1) n (by omega) _ _ f2; simp only [List.cons.injEq, and_true] at hs hcs; obtain ⟨rfl, rfl, rfl, rfl⟩ := hcs; subst hs hc
 have ws' : s.data.toList.length ≤ 9223372036854775807 := by
  have : s.data.toList.length = s.size := by rw [Array.length_toList]; rfl
  unfold maxLen at ws; omega
 exact ⟨⟨s.data.toList, l, t⟩, ⟨pa, pc, ba, bc, rfl, hls, hsit, hlc⟩, ws', hll, hlw, hw⟩
theorem pg_of_trodR {fuel : Nat} {cs : List Value} {x : DataW H × List MemPlace} (h : DataW.trod enc Tryz.prog W 0 sp true fuel 28 cs = some x) : ∃ (g : PG) (va : Option Addr) (vc : Nat) (pa : Option Addr) (pc : Nat) (ma : Option Addr) (mc : Nat), cs = g.cells va vc pa pc ma mc ∧ g.wf ∧ g.sits AllB W va pa ma ∧ PDsC AllB W g.procs pa ∧ g.vars.length ≤ vc := by
 obtain ⟨xs, n, rfl, -, hl, hlen, hf⟩ := DataW.trod_struct Tryz.underlying28 h; rw [cPG] at hl; obtain ⟨c0, c1, c2, c3, c4, c5, rfl⟩ := len6 hl; obtain ⟨y0, e0⟩ := get_of_len (i := 0) hlen (by decide); obtain ⟨y1, e1⟩ := get_of_len (i := 1) hlen (by decide); obtain ⟨y2, e2⟩ := get_of_len (i := 2) hlen (by decide); have f0 : DataW.trod enc Tryz.prog W 0 sp true n 22 (([c0, c1, c2, c3, c4, c5].drop 0).take (Tryz.prog.cellsOf 22)) = some y0 := (hf 0 _ rfl).trans e0; have f1 : DataW.trod enc Tryz.prog W 0 sp true n 23 (([c0, c1, c2, c3, c4, c5].drop 1).take (Tryz.prog.cellsOf 23)) = some y1 := (hf 1 _ rfl).trans e1; have f2 : DataW.trod enc Tryz.prog W 0 sp true n 26 (([c0, c1, c2, c3, c4, c5].drop 2).take (Tryz.prog.cellsOf 26)) = some y2 := (hf 2 _ rfl).trans e2; simp only [cVDs, cPDs, cellsNode, List.drop_zero, List.drop_succ_cons, List.take_succ_cons, List.take_zero] at f0 f1 f2; obtain ⟨l, va, vc, hc, hll, hlw, hls, hlc⟩ := vds_of_trodR enc W sp f0; obtain ⟨ps, pa, pc, hp, hpl, hps⟩ := arr_of_trod (α := PD) enc W sp Tryz.underlying23 cPD (by decide) (fun cs p => (∃ pa pc ba bc, cs = p.cells pa pc ba bc ∧ VDs AllB W p.params pa ∧ p.body.sits AllB W ba ∧ p.params.length ≤ pc) ∧ p.wf) (fun n cs x _ hx => pd_of_trodR enc W sp hx) f1; obtain ⟨t, ba, bc, hcs, hw, hsit⟩ := node_of_trod enc W sp (n + 1) n (by omega) _ _ f2; simp only [List.cons.injEq, and_true] at hcs; obtain ⟨rfl, rfl, rfl, rfl⟩ := hcs; subst hc hp
 have hpc : PDsC AllB W ps pa := hps.mono (fun _ h => h) (fun b o p _ _ ⟨cs, r, ⟨pa, pc, ba, bc, e, h1, h2, h3⟩, _⟩ => by
  subst e
  exact ⟨pa, pc, ba, bc, r, h1, h2, h3⟩)
 refine ⟨⟨l, ps, t⟩, va, vc, pa, pc, ba, bc, rfl, ⟨hll, hpl, hlw, fun p hp => ?_, hw⟩, ⟨hls, hpc.pds, hsit⟩, hpc, hlc⟩
 rcases hps with rfl | ⟨b, o, -, -, hh⟩
 · cases hp
 · obtain ⟨i, hi, rfl⟩ := List.mem_iff_getElem.1 hp
   obtain ⟨cs, -, -, hw⟩ := hh i _ (List.getElem?_eq_getElem hi)
   exact hw
end
end Bk
namespace Bk
open Go Go.RowKit Go.Proofs
theorem InverterAccepted_d (g : PG) (va : Option Addr) (vc : Nat) (pa : Option Addr) (pc : Nat) (ma : Option Addr) (mc : Nat) (w : World) (hwf : g.wf) (hs : g.sits AllB w va pa ma) (hps : PDsC AllB w g.procs pa) (hvc : g.vars.length ≤ vc) (hS : Syms w) (hE : Errs w) :
 Calls Tryz.prog 3 #[.agg (g.cells va vc pa pc ma mc).toArray] w fun e w' => e = .returned (.bool true) ∧ Ext w w' := InverterAccepted_c g hwf AllB va vc pa pc ma mc w hs hps hvc hS hE
end Bk
namespace Bk
open Go Go.RowKit Go.Proofs Go.Lib
theorem cells_of_strs {H : Type} {enc : TypeId × Value → H} {P : Program} {w : World} {base : Nat} {sp : Nat → Bool} {held : Bool} {fuel : Nat} {t e : TypeId} {n : Nat} {cs : List Value} {zs : List (List UInt8)} {p : List MemPlace}
 (ht : P.underlying t = some (.array n e)) (he : P.underlying e = some .string) (hce : P.cellsOf e = 1) (hct : P.cellsOf t = n)
 (h : DataW.trod enc P w base sp held fuel t cs = some (.agg (zs.map fun z => .lit (.string z)), p)) : cs = zs.map str := by
 cases fuel with
 | zero => simp [DataW.trod] at h
 | succ fuel =>
  simp only [DataW.trod, ht, hce, hct, Nat.mul_one] at h
  split at h
  · rename_i hl
    obtain ⟨xs, hm, hx⟩ := Option.map_eq_some_iff.1 h
    have hxs : xs.map (·.1) = zs.map fun z => (DataW.lit (.string z) : DataW H) := by
     have := congrArg Prod.fst hx
     simpa using this
    have hxl : xs.length = n := by simpa using mapM_length hm
    have hzl : zs.length = n := by
     have := congrArg List.length hxs
     simp at this
     omega
    apply List.ext_getElem?
    intro i
    by_cases hi : i < n
    · obtain ⟨b, hb, hf⟩ := mapM_at hm i i (by simp [hi])
      obtain ⟨z, hc, rfl, _⟩ := DataW.trod_string he hf
      have h1 : cs[i]? = some (.string z) := by
       have := congrArg (·[0]?) hc
       simpa [List.getElem?_take, List.getElem?_drop] using this
      have h2 : (xs.map (·.1))[i]? = some (DataW.lit (.string z.data.toList) : DataW H) := by simp [hb]
      rw [hxs] at h2; simp only [List.getElem?_map, Option.map_eq_some_iff, DataW.lit.injEq, Lit.string.injEq] at h2; obtain ⟨z', hz', rfl⟩ := h2
      simp [h1, hz']
    · rw [List.getElem?_eq_none (by omega), List.getElem?_eq_none (by simp; omega)]
  · cases h
end Bk
namespace Bk
open Go Go.RowKit Go.Proofs Go.Lib
theorem gSym4 : Tryz.prog.globalNamed "backstep/arith.symbols" = some 0 := by kernel_rfl
theorem gSymT4 : (Tryz.prog.globals[0]?).map (·.type) = some 118 := by kernel_rfl
theorem uSymT4 : Tryz.prog.underlying 118 = some (.array 43 9) := by kernel_rfl
theorem cSymT4 : Tryz.prog.cellsOf 118 = 43 := by kernel_rfl
theorem uStr4 : Tryz.prog.underlying 9 = some .string := by kernel_rfl
theorem cStr4 : Tryz.prog.cellsOf 9 = 1 := by kernel_rfl
theorem gErr4 : Tryz.prog.globalNamed "strconv.ErrRange" = some 3 := by kernel_rfl
theorem gErrT4 : (Tryz.prog.globals[3]?).map (·.type) = some 145 := by kernel_rfl
theorem uErr4 : ∃ ms, Tryz.prog.underlying 145 = some (.interface ms) := ⟨_, Tryz.underlying145⟩
theorem symData4 : (YtoagkanlgkdhiaaGreatDoor.Rows.laid_backstep_arith_symbols : DataW Unit) = .agg (symbols.map fun z => .lit (.string z)) := rfl
abbrev laid4 : List (String × DataW Unit) := [("backstep/arith.symbols", YtoagkanlgkdhiaaGreatDoor.Rows.laid_backstep_arith_symbols), ("math/bits.deBruijn32tab", YtoagkanlgkdhiaaGreatDoor.Rows.laid_math_bits_deBruijn32tab), ("math/bits.deBruijn64tab", YtoagkanlgkdhiaaGreatDoor.Rows.laid_math_bits_deBruijn64tab), ("internal/strconv.uint64pow10", YtoagkanlgkdhiaaGreatDoor.Rows.laid_internal_strconv_uint64pow10), ("strconv.ErrRange", YtoagkanlgkdhiaaGreatDoor.Rows.laid_strconv_ErrRange), ("strconv.ErrSyntax", YtoagkanlgkdhiaaGreatDoor.Rows.laid_strconv_ErrSyntax)]
theorem syms_of_laid {W : World} (h : laidMetH Tryz.prog laid4 W) : Syms W ∧ Errs W := by
 have h' : laidMet Tryz.prog laid4 W := h; obtain ⟨ps, ⟨g1, t1, cs1, f1, p1, q1, hg1, ht1, hv1, hd1, ⟨g2, t2, cs2, f2, p2, q2, hg2, ht2, hv2, hd2, ⟨g3, t3, cs3, f3, p3, q3, hg3, ht3, hv3, hd3, ⟨g4, t4, cs4, f4, p4, q4, hg4, ht4, hv4, hd4, ⟨g5, t5, cs5, f5, p5, q5, hg5, ht5, hv5, hd5, -, -⟩, -⟩, -⟩, -⟩, -⟩, -⟩ := h'; obtain rfl := Option.some.inj (gSym4.symm.trans hg1); obtain rfl := Option.some.inj (gSymT4.symm.trans ht1); obtain rfl := Option.some.inj (gErr4.symm.trans hg5); obtain rfl := Option.some.inj (gErrT4.symm.trans ht5); rw [symData4] at hd1; have e1 := cells_of_strs uSymT4 uStr4 cStr4 cSymT4 hd1; refine ⟨⟨fun i hi => ?_⟩, ?_⟩
 · rw [World.var?_cell gSym4 hv1 i, ← Array.getElem?_toList, e1, List.getElem?_map]
   have : symbols[i]? = some (symbols.getD i []) := by
    rw [List.getD_eq_getElem?_getD, List.getElem?_eq_getElem (show i < symbols.length from hi)]; rfl
   rw [this]; rfl
 · obtain ⟨ms, hu⟩ := uErr4
   obtain ⟨f, u, v, hc, -, -⟩ := iface_of_trod hu hd5; refine ⟨⟨u, v, ?_⟩⟩; rw [World.var?_cell gErr4 hv5 0, ← Array.getElem?_toList, hc]
   rfl
end Bk
