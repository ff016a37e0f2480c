/- Texts that the proofs of InverterAccepted need. No condition. (Part 5 of 8.) -/
import Derived.Test.YtoagkanlgkdhiaaGreatDoorPIac4
set_option linter.unusedSimpArgs false
set_option linter.unusedVariables false
namespace Bk
open Go
section
variable {ts : List Tok} {n : Int}
def mS (ts : List Tok) (σ : PS) : Nat := if σ.err = 0 then ts.length - σ.at_ else 0
theorem mS_le {σ σ' : PS} (h : Le ts σ σ') : mS ts σ' ≤ mS ts σ := by
 unfold mS
 by_cases e' : σ'.err = 0
 · have := h.ok e'
   have := h.le
   rw [if_pos e', if_pos (by assumption)]; omega
 · rw [if_neg e']; omega
theorem mS_lt {σ σ' : PS} (h : Le ts σ σ') (k : Lt σ σ') : mS ts σ' + 1 ≤ mS ts σ ∨ mS ts σ' = 0 := by
 unfold mS
 by_cases e' : σ'.err = 0
 · have := h.ok e'
   have := k e'; have := h.wf
   rw [if_pos e', if_pos (by assumption)]; omega
 · rw [if_neg e']; exact Or.inr rfl
theorem mS_next {σ : PS} (h : σ.err = 0 ∧ σ.at_ < ts.length) : mS ts (nextP σ) + 1 = mS ts σ := by
 unfold mS nextP
 simp only [h.1, if_true]
 omega
end
end Bk
namespace Bk
open Go Go.RowKit Go.Proofs
attribute [local irreducible] Go.Calls
def ExprC (c : PC) (k : Nat) : Prop := ∀ (lv : Int) (σ : PS) (w : World), PP c σ w → 4 * mS c.ts σ + 4 ≤ k → 1 ≤ lv → lv ≤ 9 →
 Calls Tryz.prog 96 #[.pointer (some ⟨c.pb, 0, none⟩), .int .i64 lv] w (TreeR c w (exprP c.ts c.n k lv σ))
def UnaryC (c : PC) (k : Nat) : Prop := ∀ (σ : PS) (w : World), PP c σ w → 4 * mS c.ts σ + 3 ≤ k →
 Calls Tryz.prog 104 #[.pointer (some ⟨c.pb, 0, none⟩)] w (TreeR c w (unaryP c.ts c.n k σ))
def PrimaryC (c : PC) (k : Nat) : Prop := ∀ (σ : PS) (w : World), PP c σ w → 4 * mS c.ts σ + 2 ≤ k →
 Calls Tryz.prog 109 #[.pointer (some ⟨c.pb, 0, none⟩)] w (TreeR c w (primaryP c.ts c.n k σ))
def PlaceC (c : PC) (k : Nat) : Prop := ∀ (σ : PS) (w : World), PP c σ w → 4 * mS c.ts σ + 1 ≤ k →
 Calls Tryz.prog 92 #[.pointer (some ⟨c.pb, 0, none⟩)] w (TreeR c w (placeP c.ts c.n k σ))
structure ExprsC (c : PC) (k : Nat) : Prop where
 expr : ExprC c k
 unary : UnaryC c k
 primary : PrimaryC c k
 place : PlaceC c k
theorem mS_has {c : PC} {σ : PS} {t : List UInt8} (h : σ.at_ ≤ c.ts.length) (hh : hasP c.ts σ t = true) (ht : t ≠ []) : mS c.ts (nextP σ) + 1 = mS c.ts σ := mS_next (has_in h hh ht)
set_option maxRecDepth 100000 in
set_option maxHeartbeats 1000000 in
theorem place_w (c : PC) (k : Nat) (IH : ∀ j, j ≤ k → ExprsC c j) : PlaceC c (k + 1) := by
 intro σ w hP hk; have X := Fr.refl (· = c.pb) w; have hpb := hP.pbB; have hB := hP.B; have hn := name_le (n := c.n) hP.at_
 cases hh : hasP c.ts (nameP c.ts c.n σ).2 [91]
 · rw [show placeP c.ts c.n (k + 1) σ = (.mk 2 0 (nameP c.ts c.n σ).1 [], (nameP c.ts c.n σ).2) from by rw [placeP]; simp [hh]]
   refine calls_in Tryz.func92 Tryz.ntmps92 rfl rfl ?_
   focus
    refine cS ?_; (refine lw_alloc' [_, _, _, _] zOk rfl rfl ?_; intro b1 w2 n3); have h5 := n3.blk; have x6 := n3.ext; have p7 := n3.pos; have z8 := n3.size; clear n3; replace hP := hP.ext x6; replace X := X.ext x6; clear x6; refine cN (C1 Mv ?_); refine cC rfl (name_c _ _ _ (by assumption)) ?_; rintro _ w11 ⟨⟨⟩, ⟨h9, f10⟩⟩; have z12 := f10.size; replace h5 := h5.fr f10 (by omega); clear hP; replace X := X.fr f10 (by omega); clear f10; refine C1 Pa (cT (cw_seq (cS (C1 Mv ?_)))); refine cC rfl (accept_f _ _ _ _ (by assumption) (by decide) (by assumption)) ?_; rintro _ w15 ⟨⟨⟩, ⟨h13, f14⟩⟩; have z16 := f14.size; clear h9; replace h5 := h5.fr f14 (by omega); replace X := X.fr f14 (by omega); clear f14; refine C1 Pt (cT (cw_cond_t rfl (cS (C1 Mv (C1 (pur_build' [_, _, _, _] tabOk zOk rfl rfl rfl rfl) ?_))))); (refine lw_store' [_, _, _, _] [_, _, _, _] tabOk rfl rfl rfl rfl rfl rfl h5 rfl rfl ?_; intro w17 n18); have h21 := n18.blk; have f19 := n18.fr; have z20 := n18.size; clear n18 h5; replace h13 := h13.fr f19 (by omega); replace X := X.fr f19 (by omega); clear f19; refine cT (cw_ret (qw_then_ret (qw_retc rfl tabOk rfl rfl rfl h21 rfl ?_))); rotate_left 1
   exact tree_ret sits_nil (by assumption) X
 · rw [show placeP c.ts c.n (k + 1) σ = (.mk 3 0 (nameP c.ts c.n σ).1 [(exprP c.ts c.n k 1 (nextP (nameP c.ts c.n σ).2)).1], expectP c.ts c.n (exprP c.ts c.n k 1 (nextP (nameP c.ts c.n σ).2)).2 [93]) from by rw [placeP]; simp [hh]]
   have hm := mS_has hn.wf hh (by decide); have hm2 := mS_le hn
   have hf : 4 * mS c.ts (nextP (nameP c.ts c.n σ).2) + 4 ≤ k := by omega
   refine calls_in Tryz.func92 Tryz.ntmps92 rfl rfl ?_
   focus
    refine cS ?_; (refine lw_alloc' [_, _, _, _] zOk rfl rfl ?_; intro ba1 wa2 na3); have ha5 := na3.blk; have xa6 := na3.ext; have pa7 := na3.pos; have za8 := na3.size; clear na3; replace hP := hP.ext xa6; replace X := X.ext xa6; clear xa6; refine cN (C1 Mv ?_); refine cC rfl (name_c _ _ _ (by assumption)) ?_; rintro _ wa11 ⟨⟨⟩, ⟨ha9, fa10⟩⟩; have za12 := fa10.size; replace ha5 := ha5.fr fa10 (by omega); clear hP; replace X := X.fr fa10 (by omega); clear fa10; refine C1 Pa (cT (cw_seq (cS (C1 Mv ?_)))); refine cC rfl (accept_t _ _ _ _ (by assumption) (by decide) (by assumption)) ?_; rintro _ wa15 ⟨⟨⟩, ⟨ha13, fa14⟩⟩; have za16 := fa14.size; clear ha9; replace ha5 := ha5.fr fa14 (by omega); replace X := X.fr fa14 (by omega); clear fa14; refine C1 Pt (cT (cw_cond_f rfl (cw_skip (qw_then (cS (C1 Mv ?_)))))); refine cR (by kernel_rfl) rfl ((IH k (Nat.le_refl _)).expr _ _ _ (by assumption) hf (by decide) (by decide)) (fun _ _ h => h.ret) rfl ?_; rintro _ wa22 ⟨aa17, ⟨ka18, ⟨⟨⟩, ⟨ha19, ⟨ha20, fa21⟩⟩⟩⟩⟩; have za23 := fa21.size; clear ha13; replace ha5 := ha5.fr fa21 (by omega); replace X := X.fr fa21 (by omega); clear fa21; (refine lw_alloc' [_, _, _, _] zOk rfl rfl ?_; intro ba24 wa25 na26); (refine lw_init' [_, _, _, _] tabOk rfl rfl rfl rfl rfl rfl na26 rfl ?_; clear na26; clear wa25; intro wa27 na26); have ha28 := na26.blk; have xa29 := na26.ext; have pa30 := na26.pos; have za31 := na26.size; clear na26; replace ha19 := Nd.sits.ext ha19 xa29; replace ha20 := ha20.ext xa29; replace ha5 := ha5.ext xa29
    replace X := X.ext xa29; clear xa29; refine cN (C1 Mv ?_); refine cC rfl (expect_c _ _ _ _ (by assumption) (by decide)) ?_; rintro _ wa34 ⟨⟨⟩, ⟨ha32, fa33⟩⟩; have za35 := fa33.size; replace ha28 := ha28.fr fa33 (by omega); replace ha19 := Nd.sits.fr ha19 fa33 (by omega); clear ha20; replace ha5 := ha5.fr fa33 (by omega); replace X := X.fr fa33 (by omega); clear fa33; refine cN (C1 Mv (lw_loads_b' [_, _, _, _] tabOk rfl rfl rfl ha28 rfl rfl rfl ?_)); (refine lw_does (does_slice' [_, _, _, _] tabOk zOk rfl rfl rfl rfl rfl rfl rfl rfl rfl) rfl ?_ (fun _ h => h); rintro _ wa37 ⟨ba36, rfl, na38, ta39⟩); clear ta39; have ha40 := na38.blk; have xa41 := na38.ext; have pa42 := na38.pos; have za43 := na38.size; clear na38; replace ha32 := ha32.ext xa41; replace ha28 := ha28.ext xa41; replace ha19 := Nd.sits.ext ha19 xa41; replace ha5 := ha5.ext xa41; replace X := X.ext xa41; clear xa41; refine C1 (pur_build' [_, _, _, _] tabOk zOk rfl rfl rfl rfl) ?_; (refine lw_store' [_, _, _, _] [_, _, _, _] tabOk rfl rfl rfl rfl rfl rfl ha5 rfl rfl ?_; intro wa44 na45); have ha48 := na45.blk; have fa46 := na45.fr; have za47 := na45.size; clear na45 ha5; replace ha40 := ha40.fr fa46 (by omega); replace ha32 := ha32.fr fa46 (by omega); replace ha28 := ha28.fr fa46 (by omega); replace ha19 := Nd.sits.fr ha19 fa46 (by omega); replace X := X.fr fa46 (by omega); clear fa46; refine cT (cw_ret (qw_retc rfl tabOk rfl rfl rfl ha48 rfl ?_)); rotate_left 1
   exact tree_ret (sits_1 (by assumption) (by omega) (by assumption) (fun b h => by omega)) (by assumption) X
set_option maxRecDepth 100000 in
set_option maxHeartbeats 1000000 in
theorem primary_w (c : PC) (k : Nat) (IH : ∀ j, j ≤ k → ExprsC c j) : PrimaryC c (k + 1) := by
 intro σ w hP hk; have X := Fr.refl (· = c.pb) w; have hpb := hP.pbB; have hB := hP.B
 by_cases h2 : (peekP c.ts σ).kind = 2
 · rw [show primaryP c.ts c.n (k + 1) σ = (.mk 1 (numberP c.ts c.n 0 9223372036854775807 σ).1 [] [], (numberP c.ts c.n 0 9223372036854775807 σ).2) from by rw [primaryP]; simp [h2]]
   refine calls_in Tryz.func109 Tryz.ntmps109 rfl rfl ?_
   focus
    refine cS ?_; (refine lw_alloc' [_, _, _, _] zOk rfl rfl ?_; intro b1 w2 n3); have h5 := n3.blk; have x6 := n3.ext; have p7 := n3.pos; have z8 := n3.size; clear n3; replace hP := hP.ext x6; replace X := X.ext x6; clear x6; refine cT (cw_seq (cw_block (cS (C1 Mv ?_)))); refine cC rfl (peek_c _ _ _ (by assumption)) ?_; rintro _ w10 ⟨⟨⟩, x9⟩; have z11 := x9.size; replace h5 := h5.ext x9; replace hP := hP.ext x9; replace X := X.ext x9; clear x9; refine C1 (pur_field tabOk rfl rfl rfl rfl rfl rfl) (C1 V1 (C1 Pa (cT (Wya (cS (C1 Mv ?_)))))); refine cC rfl (number_c _ _ _ _ _ (by assumption) (by decide)) ?_; rintro _ w14 ⟨⟨⟩, ⟨h12, f13⟩⟩; have z15 := f13.size; replace h5 := h5.fr f13 (by omega); clear hP; replace X := X.fr f13 (by omega); clear f13; refine C1 (pur_build' [_, _, _, _] tabOk zOk rfl rfl rfl rfl) ?_; (refine lw_store' [_, _, _, _] [_, _, _, _] tabOk rfl rfl rfl rfl rfl rfl h5 rfl rfl ?_; intro w16 n17); have h20 := n17.blk; have f18 := n17.fr; have z19 := n17.size; clear n17 h5; replace h12 := h12.fr f18 (by omega); replace X := X.fr f18 (by omega); clear f18; refine cT (cw_ret (qw_block_ret (qw_then_ret (qw_retc rfl tabOk rfl rfl rfl h20 rfl ?_)))); rotate_left 1
   exact tree_ret sits_nil (by assumption) X
 cases ht : hasP c.ts σ [116, 111, 112]
 case true =>
  rw [show primaryP c.ts c.n (k + 1) σ = (.mk 4 0 (nameP c.ts c.n (expectP c.ts c.n (nextP σ) [40])).1 [], expectP c.ts c.n (nameP c.ts c.n (expectP c.ts c.n (nextP σ) [40])).2 [41]) from by rw [primaryP]; simp [h2, ht]]; refine calls_in Tryz.func109 Tryz.ntmps109 rfl rfl ?_
  focus
   refine cS ?_; (refine lw_alloc' [_, _, _, _] zOk rfl rfl ?_; intro ba1 wa2 na3); have ha5 := na3.blk; have xa6 := na3.ext; have pa7 := na3.pos; have za8 := na3.size; clear na3; replace hP := hP.ext xa6; replace X := X.ext xa6; clear xa6; refine cT (cw_seq (cw_block (cS (C1 Mv ?_)))); refine cC rfl (peek_c _ _ _ (by assumption)) ?_; rintro _ wa10 ⟨⟨⟩, xa9⟩; have za11 := xa9.size; replace ha5 := ha5.ext xa9; replace hP := hP.ext xa9; replace X := X.ext xa9; clear xa9; refine C1 (pur_field tabOk rfl rfl rfl rfl rfl rfl) (C1 V1 (C1 Pa (cT (Wna (cS (C1 Mv ?_)))))); refine cC rfl (accept_t _ _ _ _ (by assumption) (by decide) (by assumption)) ?_; rintro _ wa14 ⟨⟨⟩, ⟨ha12, fa13⟩⟩; have za15 := fa13.size; replace ha5 := ha5.fr fa13 (by omega); clear hP; replace X := X.fr fa13 (by omega); clear fa13; refine C1 Pa (cT (cw_cond_t rfl (cS (C1 Mv ?_)))); refine cR (by kernel_rfl) rfl (stackExpr_c _ _ _ _ (by assumption)) (fun _ _ h => h.ret) rfl ?_; rintro _ wa21 ⟨aa16, ⟨ka17, ⟨⟨⟩, ⟨ha18, ⟨ha19, fa20⟩⟩⟩⟩⟩; have za22 := fa20.size; clear ha12; replace ha5 := ha5.fr fa20 (by omega); replace X := X.fr fa20 (by omega); clear fa20; (refine lw_store' [_, _, _, _] [_, _, _, _] tabOk rfl rfl rfl rfl rfl rfl ha5 rfl rfl ?_; intro wa23 na24); have ha27 := na24.blk; have fa25 := na24.fr; have za26 := na24.size; clear na24 ha5; replace ha18 := Nd.sits.fr ha18 fa25 (by omega); replace ha19 := ha19.fr fa25 (by omega); replace X := X.fr fa25 (by omega); clear fa25; refine cT (cw_ret (qw_block_ret (qw_then_ret (qw_retc rfl tabOk rfl rfl rfl ha27 rfl ?_))))
   rotate_left 1
  exact tree_ret sits_nil (by assumption) X
 cases hs : hasP c.ts σ [115, 105, 122, 101]
 case true =>
  rw [show primaryP c.ts c.n (k + 1) σ = (.mk 5 0 (nameP c.ts c.n (expectP c.ts c.n (nextP σ) [40])).1 [], expectP c.ts c.n (nameP c.ts c.n (expectP c.ts c.n (nextP σ) [40])).2 [41]) from by rw [primaryP]; simp [h2, ht, hs]]; refine calls_in Tryz.func109 Tryz.ntmps109 rfl rfl ?_
  focus
   refine cS ?_; (refine lw_alloc' [_, _, _, _] zOk rfl rfl ?_; intro bb1 wb2 nb3); have hb5 := nb3.blk; have xb6 := nb3.ext; have pb7 := nb3.pos; have zb8 := nb3.size; clear nb3; replace hP := hP.ext xb6; replace X := X.ext xb6; clear xb6; refine cT (cw_seq (cw_block (cS (C1 Mv ?_)))); refine cC rfl (peek_c _ _ _ (by assumption)) ?_; rintro _ wb10 ⟨⟨⟩, xb9⟩; have zb11 := xb9.size; replace hb5 := hb5.ext xb9; replace hP := hP.ext xb9; replace X := X.ext xb9; clear xb9; refine C1 (pur_field tabOk rfl rfl rfl rfl rfl rfl) (C1 V1 (C1 Pa (cT (Wna (cS (C1 Mv ?_)))))); refine cC rfl (accept_f _ _ _ _ (by assumption) (by decide) (by assumption)) ?_; rintro _ wb14 ⟨⟨⟩, ⟨hb12, fb13⟩⟩; have zb15 := fb13.size; replace hb5 := hb5.fr fb13 (by omega); clear hP; replace X := X.fr fb13 (by omega); clear fb13; refine C1 Pa (cT (cw_cond_f rfl (cS (C1 Mv ?_)))); refine cC rfl (accept_t _ _ _ _ (by assumption) (by decide) (by assumption)) ?_; rintro _ wb18 ⟨⟨⟩, ⟨hb16, fb17⟩⟩; have zb19 := fb17.size; clear hb12; replace hb5 := hb5.fr fb17 (by omega); replace X := X.fr fb17 (by omega); clear fb17; refine C1 Pa (cT (cw_cond_t rfl (cS (C1 Mv ?_)))); refine cR (by kernel_rfl) rfl (stackExpr_c _ _ _ _ (by assumption)) (fun _ _ h => h.ret) rfl ?_; rintro _ wb25 ⟨ab20, ⟨kb21, ⟨⟨⟩, ⟨hb22, ⟨hb23, fb24⟩⟩⟩⟩⟩; have zb26 := fb24.size; clear hb16; replace hb5 := hb5.fr fb24 (by omega); replace X := X.fr fb24 (by omega); clear fb24; (refine lw_store' [_, _, _, _] [_, _, _, _] tabOk rfl rfl rfl rfl rfl rfl hb5 rfl rfl ?_; intro wb27 nb28)
   have hb31 := nb28.blk; have fb29 := nb28.fr; have zb30 := nb28.size; clear nb28 hb5; replace hb22 := Nd.sits.fr hb22 fb29 (by omega); replace hb23 := hb23.fr fb29 (by omega); replace X := X.fr fb29 (by omega); clear fb29; refine cT (cw_ret (qw_block_ret (qw_then_ret (qw_retc rfl tabOk rfl rfl rfl hb31 rfl ?_)))); rotate_left 1
  exact tree_ret sits_nil (by assumption) X
 cases hp : hasP c.ts σ [40]
 case true =>
  rw [show primaryP c.ts c.n (k + 1) σ = ((exprP c.ts c.n k 1 (nextP σ)).1, expectP c.ts c.n (exprP c.ts c.n k 1 (nextP σ)).2 [41]) from by rw [primaryP]; simp [h2, ht, hs, hp]]; have hm := mS_has hP.at_ hp (by decide)
  have hf : 4 * mS c.ts (nextP σ) + 4 ≤ k := by omega
  refine calls_in Tryz.func109 Tryz.ntmps109 rfl rfl ?_
  focus
   refine cS ?_; (refine lw_alloc' [_, _, _, _] zOk rfl rfl ?_; intro bc1 wc2 nc3); have hc5 := nc3.blk; have xc6 := nc3.ext; have pc7 := nc3.pos; have zc8 := nc3.size; clear nc3; replace hP := hP.ext xc6; replace X := X.ext xc6; clear xc6; refine cT (cw_seq (cw_block (cS (C1 Mv ?_)))); refine cC rfl (peek_c _ _ _ (by assumption)) ?_; rintro _ wc10 ⟨⟨⟩, xc9⟩; have zc11 := xc9.size; replace hc5 := hc5.ext xc9; replace hP := hP.ext xc9; replace X := X.ext xc9; clear xc9; refine C1 (pur_field tabOk rfl rfl rfl rfl rfl rfl) (C1 V1 (C1 Pa (cT (Wna (cS (C1 Mv ?_)))))); refine cC rfl (accept_f _ _ _ _ (by assumption) (by decide) (by assumption)) ?_; rintro _ wc14 ⟨⟨⟩, ⟨hc12, fc13⟩⟩; have zc15 := fc13.size; replace hc5 := hc5.fr fc13 (by omega); clear hP; replace X := X.fr fc13 (by omega); clear fc13; refine C1 Pa (cT (cw_cond_f rfl (cS (C1 Mv ?_)))); refine cC rfl (accept_f _ _ _ _ (by assumption) (by decide) (by assumption)) ?_; rintro _ wc18 ⟨⟨⟩, ⟨hc16, fc17⟩⟩; have zc19 := fc17.size; clear hc12; replace hc5 := hc5.fr fc17 (by omega); replace X := X.fr fc17 (by omega); clear fc17; refine C1 Pa (cT (cw_cond_f rfl (cS (C1 Mv ?_)))); refine cC rfl (accept_t _ _ _ _ (by assumption) (by decide) (by assumption)) ?_; rintro _ wc22 ⟨⟨⟩, ⟨hc20, fc21⟩⟩; have zc23 := fc21.size; clear hc16; replace hc5 := hc5.fr fc21 (by omega); replace X := X.fr fc21 (by omega); clear fc21; refine C1 Pa (cT (cw_cond_t rfl (cS (C1 Mv ?_)))); refine cR (by kernel_rfl) rfl ((IH k (Nat.le_refl _)).expr _ _ _ (by assumption) hf (by decide) (by decide)) (fun _ _ h => h.ret) rfl ?_
   rintro _ wc29 ⟨ac24, ⟨kc25, ⟨⟨⟩, ⟨hc26, ⟨hc27, fc28⟩⟩⟩⟩⟩; have zc30 := fc28.size; clear hc20; replace hc5 := hc5.fr fc28 (by omega); replace X := X.fr fc28 (by omega); clear fc28; (refine lw_alloc' [_, _, _, _] zOk rfl rfl ?_; intro bc31 wc32 nc33); (refine lw_init' [_, _, _, _] tabOk rfl rfl rfl rfl rfl rfl nc33 rfl ?_; clear nc33; clear wc32; intro wc34 nc33); have hc35 := nc33.blk; have xc36 := nc33.ext; have pc37 := nc33.pos; have zc38 := nc33.size; clear nc33; replace hc26 := Nd.sits.ext hc26 xc36; replace hc27 := hc27.ext xc36; replace hc5 := hc5.ext xc36; replace X := X.ext xc36; clear xc36; refine cN (C1 Mv ?_); refine cC rfl (expect_c _ _ _ _ (by assumption) (by decide)) ?_; rintro _ wc41 ⟨⟨⟩, ⟨hc39, fc40⟩⟩; have zc42 := fc40.size; replace hc35 := hc35.fr fc40 (by omega); replace hc26 := Nd.sits.fr hc26 fc40 (by omega); clear hc27; replace hc5 := hc5.fr fc40 (by omega); replace X := X.fr fc40 (by omega); clear fc40; refine cN (lw_loads_b' [_, _, _, _] tabOk rfl rfl rfl hc35 rfl rfl rfl ?_); (refine lw_store' [_, _, _, _] [_, _, _, _] tabOk rfl rfl rfl rfl rfl rfl hc5 rfl rfl ?_; intro wc43 nc44); have hc47 := nc44.blk; have fc45 := nc44.fr; have zc46 := nc44.size; clear nc44 hc5; replace hc39 := hc39.fr fc45 (by omega); replace hc35 := hc35.fr fc45 (by omega); replace hc26 := Nd.sits.fr hc26 fc45 (by omega); replace X := X.fr fc45 (by omega); clear fc45; refine cT (cw_ret (qw_block_ret (qw_then_ret (qw_retc rfl tabOk rfl rfl rfl hc47 rfl ?_)))); rotate_left 1
  exact tree_ret (Nd.sits.wide (by assumption) (fun b h => by omega)) (by assumption) X
 · rw [show primaryP c.ts c.n (k + 1) σ = placeP c.ts c.n k σ from by rw [primaryP]; simp [h2, ht, hs, hp]]
   have hf : 4 * mS c.ts σ + 1 ≤ k := by omega
   refine calls_in Tryz.func109 Tryz.ntmps109 rfl rfl ?_
   focus
    refine cS ?_; (refine lw_alloc' [_, _, _, _] zOk rfl rfl ?_; intro bd1 wd2 nd3); have hd5 := nd3.blk; have xd6 := nd3.ext; have pd7 := nd3.pos; have zd8 := nd3.size; clear nd3; replace hP := hP.ext xd6; replace X := X.ext xd6; clear xd6; refine cT (cw_seq (cw_block (cS (C1 Mv ?_)))); refine cC rfl (peek_c _ _ _ (by assumption)) ?_; rintro _ wd10 ⟨⟨⟩, xd9⟩; have zd11 := xd9.size; replace hd5 := hd5.ext xd9; replace hP := hP.ext xd9; replace X := X.ext xd9; clear xd9; refine C1 (pur_field tabOk rfl rfl rfl rfl rfl rfl) (C1 V1 (C1 Pa (cT (Wna (cS (C1 Mv ?_)))))); refine cC rfl (accept_f _ _ _ _ (by assumption) (by decide) (by assumption)) ?_; rintro _ wd14 ⟨⟨⟩, ⟨hd12, fd13⟩⟩; have zd15 := fd13.size; replace hd5 := hd5.fr fd13 (by omega); clear hP; replace X := X.fr fd13 (by omega); clear fd13; refine C1 Pa (cT (cw_cond_f rfl (cS (C1 Mv ?_)))); refine cC rfl (accept_f _ _ _ _ (by assumption) (by decide) (by assumption)) ?_; rintro _ wd18 ⟨⟨⟩, ⟨hd16, fd17⟩⟩; have zd19 := fd17.size; clear hd12; replace hd5 := hd5.fr fd17 (by omega); replace X := X.fr fd17 (by omega); clear fd17; refine C1 Pa (cT (cw_cond_f rfl (cS (C1 Mv ?_)))); refine cC rfl (accept_f _ _ _ _ (by assumption) (by decide) (by assumption)) ?_; rintro _ wd22 ⟨⟨⟩, ⟨hd20, fd21⟩⟩; have zd23 := fd21.size; clear hd16; replace hd5 := hd5.fr fd21 (by omega); replace X := X.fr fd21 (by omega); clear fd21; refine C1 Pa (cT (cw_cond_f rfl (cw_skip (qw_block_norm (qw_then (cS (C1 Mv ?_))))))); refine cR (by kernel_rfl) rfl ((IH k (Nat.le_refl _)).place _ _ (by assumption) hf) (fun _ _ h => h.ret) rfl ?_
    rintro _ wd29 ⟨ad24, ⟨kd25, ⟨⟨⟩, ⟨hd26, ⟨hd27, fd28⟩⟩⟩⟩⟩; have zd30 := fd28.size; clear hd20; replace hd5 := hd5.fr fd28 (by omega); replace X := X.fr fd28 (by omega); clear fd28; (refine lw_store' [_, _, _, _] [_, _, _, _] tabOk rfl rfl rfl rfl rfl rfl hd5 rfl rfl ?_; intro wd31 nd32); have hd35 := nd32.blk; have fd33 := nd32.fr; have zd34 := nd32.size; clear nd32 hd5; replace hd26 := Nd.sits.fr hd26 fd33 (by omega); replace hd27 := hd27.fr fd33 (by omega); replace X := X.fr fd33 (by omega); clear fd33; refine cT (cw_ret (qw_retc rfl tabOk rfl rfl rfl hd35 rfl ?_)); rotate_left 1
   exact tree_ret (Nd.sits.wide (by assumption) (fun b h => by omega)) (by assumption) X
set_option maxRecDepth 100000 in
set_option maxHeartbeats 1000000 in
theorem unary_w (c : PC) (k : Nat) (IH : ∀ j, j ≤ k → ExprsC c j) : UnaryC c (k + 1) := by
 intro σ w hP hk; have X := Fr.refl (· = c.pb) w; have hpb := hP.pbB; have hB := hP.B
 cases h1 : hasP c.ts σ [45]
 case true =>
  rw [show unaryP c.ts c.n (k + 1) σ = (.mk 6 0 [] [(unaryP c.ts c.n k (nextP σ)).1], (unaryP c.ts c.n k (nextP σ)).2) from by rw [unaryP]; simp [h1]]; have hm := mS_has hP.at_ h1 (by decide)
  have hf : 4 * mS c.ts (nextP σ) + 3 ≤ k := by omega
  refine calls_in Tryz.func104 Tryz.ntmps104 rfl rfl ?_
  focus
   refine cS ?_; (refine lw_alloc' [_, _, _, _] zOk rfl rfl ?_; intro b1 w2 n3); have h5 := n3.blk; have x6 := n3.ext; have p7 := n3.pos; have z8 := n3.size; clear n3; replace hP := hP.ext x6; replace X := X.ext x6; clear x6; refine cT (cw_seq (cw_block (cS (C1 Mv ?_)))); refine cC rfl (accept_t _ _ _ _ (by assumption) (by decide) (by assumption)) ?_; rintro _ w11 ⟨⟨⟩, ⟨h9, f10⟩⟩; have z12 := f10.size; replace h5 := h5.fr f10 (by omega); clear hP; replace X := X.fr f10 (by omega); clear f10; refine C1 Pa (cT (cw_cond_t rfl (cS (C1 Mv ?_)))); refine cR (by kernel_rfl) rfl ((IH k (Nat.le_refl _)).unary _ _ (by assumption) hf) (fun _ _ h => h.ret) rfl ?_; rintro _ w18 ⟨a13, ⟨k14, ⟨⟨⟩, ⟨h15, ⟨h16, f17⟩⟩⟩⟩⟩; have z19 := f17.size; clear h9; replace h5 := h5.fr f17 (by omega); replace X := X.fr f17 (by omega); clear f17; (refine lw_does (does_slice' [_, _, _, _] tabOk zOk rfl rfl rfl rfl rfl rfl rfl rfl rfl) rfl ?_ (fun _ h => h); rintro _ w21 ⟨b20, rfl, n22, t23⟩); clear t23; have h24 := n22.blk; have x25 := n22.ext; have p26 := n22.pos; have z27 := n22.size; clear n22; replace h15 := Nd.sits.ext h15 x25; replace h16 := h16.ext x25; replace h5 := h5.ext x25; replace X := X.ext x25; clear x25; refine C1 (pur_build' [_, _, _, _] tabOk zOk rfl rfl rfl rfl) ?_; (refine lw_store' [_, _, _, _] [_, _, _, _] tabOk rfl rfl rfl rfl rfl rfl h5 rfl rfl ?_; intro w28 n29); have h32 := n29.blk; have f30 := n29.fr; have z31 := n29.size; clear n29 h5; replace h24 := h24.fr f30 (by omega); replace h15 := Nd.sits.fr h15 f30 (by omega)
   replace h16 := h16.fr f30 (by omega); replace X := X.fr f30 (by omega); clear f30; refine cT (cw_ret (qw_block_ret (qw_then_ret (qw_retc rfl tabOk rfl rfl rfl h32 rfl ?_)))); rotate_left 1
  exact tree_ret (sits_1 (by assumption) (by omega) (by assumption) (fun b h => by omega)) (by assumption) X
 cases h2 : hasP c.ts σ [33]
 case true =>
  rw [show unaryP c.ts c.n (k + 1) σ = (.mk 7 0 [] [(unaryP c.ts c.n k (nextP σ)).1], (unaryP c.ts c.n k (nextP σ)).2) from by rw [unaryP]; simp [h1, h2]]; have hm := mS_has hP.at_ h2 (by decide)
  have hf : 4 * mS c.ts (nextP σ) + 3 ≤ k := by omega
  refine calls_in Tryz.func104 Tryz.ntmps104 rfl rfl ?_
  focus
   refine cS ?_; (refine lw_alloc' [_, _, _, _] zOk rfl rfl ?_; intro ba1 wa2 na3); have ha5 := na3.blk; have xa6 := na3.ext; have pa7 := na3.pos; have za8 := na3.size; clear na3; replace hP := hP.ext xa6; replace X := X.ext xa6; clear xa6; refine cT (cw_seq (cw_block (cS (C1 Mv ?_)))); refine cC rfl (accept_f _ _ _ _ (by assumption) (by decide) (by assumption)) ?_; rintro _ wa11 ⟨⟨⟩, ⟨ha9, fa10⟩⟩; have za12 := fa10.size; replace ha5 := ha5.fr fa10 (by omega); clear hP; replace X := X.fr fa10 (by omega); clear fa10; refine C1 Pa (cT (cw_cond_f rfl (cS (C1 Mv ?_)))); refine cC rfl (accept_t _ _ _ _ (by assumption) (by decide) (by assumption)) ?_; rintro _ wa15 ⟨⟨⟩, ⟨ha13, fa14⟩⟩; have za16 := fa14.size; clear ha9; replace ha5 := ha5.fr fa14 (by omega); replace X := X.fr fa14 (by omega); clear fa14; refine C1 Pa (cT (cw_cond_t rfl (cS (C1 Mv ?_)))); refine cR (by kernel_rfl) rfl ((IH k (Nat.le_refl _)).unary _ _ (by assumption) hf) (fun _ _ h => h.ret) rfl ?_; rintro _ wa22 ⟨aa17, ⟨ka18, ⟨⟨⟩, ⟨ha19, ⟨ha20, fa21⟩⟩⟩⟩⟩; have za23 := fa21.size; clear ha13; replace ha5 := ha5.fr fa21 (by omega); replace X := X.fr fa21 (by omega); clear fa21; (refine lw_does (does_slice' [_, _, _, _] tabOk zOk rfl rfl rfl rfl rfl rfl rfl rfl rfl) rfl ?_ (fun _ h => h); rintro _ wa25 ⟨ba24, rfl, na26, ta27⟩); clear ta27; have ha28 := na26.blk; have xa29 := na26.ext; have pa30 := na26.pos; have za31 := na26.size; clear na26; replace ha19 := Nd.sits.ext ha19 xa29; replace ha20 := ha20.ext xa29; replace ha5 := ha5.ext xa29
   replace X := X.ext xa29; clear xa29; refine C1 (pur_build' [_, _, _, _] tabOk zOk rfl rfl rfl rfl) ?_; (refine lw_store' [_, _, _, _] [_, _, _, _] tabOk rfl rfl rfl rfl rfl rfl ha5 rfl rfl ?_; intro wa32 na33); have ha36 := na33.blk; have fa34 := na33.fr; have za35 := na33.size; clear na33 ha5; replace ha28 := ha28.fr fa34 (by omega); replace ha19 := Nd.sits.fr ha19 fa34 (by omega); replace ha20 := ha20.fr fa34 (by omega); replace X := X.fr fa34 (by omega); clear fa34; refine cT (cw_ret (qw_block_ret (qw_then_ret (qw_retc rfl tabOk rfl rfl rfl ha36 rfl ?_)))); rotate_left 1
  exact tree_ret (sits_1 (by assumption) (by omega) (by assumption) (fun b h => by omega)) (by assumption) X
 · rw [show unaryP c.ts c.n (k + 1) σ = primaryP c.ts c.n k σ from by rw [unaryP]; simp [h1, h2]]
   have hf : 4 * mS c.ts σ + 2 ≤ k := by omega
   refine calls_in Tryz.func104 Tryz.ntmps104 rfl rfl ?_
   focus
    refine cS ?_; (refine lw_alloc' [_, _, _, _] zOk rfl rfl ?_; intro bb1 wb2 nb3); have hb5 := nb3.blk; have xb6 := nb3.ext; have pb7 := nb3.pos; have zb8 := nb3.size; clear nb3; replace hP := hP.ext xb6; replace X := X.ext xb6; clear xb6; refine cT (cw_seq (cw_block (cS (C1 Mv ?_)))); refine cC rfl (accept_f _ _ _ _ (by assumption) (by decide) (by assumption)) ?_; rintro _ wb11 ⟨⟨⟩, ⟨hb9, fb10⟩⟩; have zb12 := fb10.size; replace hb5 := hb5.fr fb10 (by omega); clear hP; replace X := X.fr fb10 (by omega); clear fb10; refine C1 Pa (cT (cw_cond_f rfl (cS (C1 Mv ?_)))); refine cC rfl (accept_f _ _ _ _ (by assumption) (by decide) (by assumption)) ?_; rintro _ wb15 ⟨⟨⟩, ⟨hb13, fb14⟩⟩; have zb16 := fb14.size; clear hb9; replace hb5 := hb5.fr fb14 (by omega); replace X := X.fr fb14 (by omega); clear fb14; refine C1 Pa (cT (cw_cond_f rfl (cw_skip (qw_block_norm (qw_then (cS (C1 Mv ?_))))))); refine cR (by kernel_rfl) rfl ((IH k (Nat.le_refl _)).primary _ _ (by assumption) hf) (fun _ _ h => h.ret) rfl ?_; rintro _ wb22 ⟨ab17, ⟨kb18, ⟨⟨⟩, ⟨hb19, ⟨hb20, fb21⟩⟩⟩⟩⟩; have zb23 := fb21.size; clear hb13; replace hb5 := hb5.fr fb21 (by omega); replace X := X.fr fb21 (by omega); clear fb21; (refine lw_store' [_, _, _, _] [_, _, _, _] tabOk rfl rfl rfl rfl rfl rfl hb5 rfl rfl ?_; intro wb24 nb25); have hb28 := nb25.blk; have fb26 := nb25.fr; have zb27 := nb25.size; clear nb25 hb5; replace hb19 := Nd.sits.fr hb19 fb26 (by omega); replace hb20 := hb20.fr fb26 (by omega); replace X := X.fr fb26 (by omega)
    clear fb26; refine cT (cw_ret (qw_retc rfl tabOk rfl rfl rfl hb28 rfl ?_)); rotate_left 1
   exact tree_ret (Nd.sits.wide (by assumption) (fun b h => by omega)) (by assumption) X
end Bk
namespace Bk
open Go Go.RowKit Go.Proofs
attribute [local irreducible] Go.Calls
theorem getS_bin (t : List UInt8) : getS binMap t = (binOf t).map fun k => .int .u8 k := by
 unfold binMap binOf
 generalize hL : [(8 : Int), 9, 10, 11, 12, 13, 14, 15, 16, 17, 18, 19, 20, 21, 22, 23] = L
 clear hL
 induction L with
 | nil => rfl
 | cons k r ih =>
  simp only [List.map_cons, getS, List.find?_cons]
  by_cases h : symbol k = t
  · simp [h]
  · rw [if_neg (fun e => h e.symm), ih]; simp [h]
theorem level_bounds (k : Int) (h0 : 8 ≤ k) (h1 : k ≤ 23) : 1 ≤ level k ∧ level k ≤ 8 := by
 have : k = 8 ∨ k = 9 ∨ k = 10 ∨ k = 11 ∨ k = 12 ∨ k = 13 ∨ k = 14 ∨ k = 15 ∨ k = 16 ∨ k = 17 ∨ k = 18 ∨ k = 19 ∨ k = 20 ∨ k = 21 ∨ k = 22 ∨ k = 23 := by omega
 rcases this with rfl | rfl | rfl | rfl | rfl | rfl | rfl | rfl | rfl | rfl | rfl | rfl | rfl | rfl | rfl | rfl <;> decide
set_option maxRecDepth 100000 in
set_option maxHeartbeats 1000000 in
theorem expr_w (c : PC) (k : Nat) (IH : ∀ j, j ≤ k → ExprsC c j) : ExprC c (k + 1) := by
 intro lv σ w hP hk hl0 hl1; have X := Fr.refl (· = c.pb) w; have hpb := hP.pbB; have hB := hP.B; have hlen := hP.len; rw [show exprP c.ts c.n (k + 1) lv σ = climbP c.ts c.n k lv (unaryP c.ts c.n k σ).1 (unaryP c.ts c.n k σ).2 from by rw [exprP]]; have hu := ((expr_inv (ts := c.ts) (n := c.n) k).2.2.1 σ hP.at_).1
 have hf : 4 * mS c.ts σ + 3 ≤ k := by omega
 have hf2 : 4 * mS c.ts (unaryP c.ts c.n k σ).2 + 1 ≤ k := by have := mS_le hu; omega
 refine calls_in Tryz.func96 Tryz.ntmps96 rfl rfl ?_
 focus
  refine cS ?_; (refine lw_alloc' [_, _, _, _] zOk rfl rfl ?_; intro b1 w2 n3); have h5 := n3.blk; have x6 := n3.ext; have p7 := n3.pos; have z8 := n3.size; clear n3; replace hP := hP.ext x6; replace X := X.ext x6; clear x6; refine cN (C1 Mv ?_); refine cR (by kernel_rfl) rfl ((IH k (Nat.le_refl _)).unary _ _ (by assumption) hf) (fun _ _ h => h.ret) rfl ?_; rintro _ w14 ⟨a9, ⟨k10, ⟨⟨⟩, ⟨h11, ⟨h12, f13⟩⟩⟩⟩⟩; have z15 := f13.size; replace h5 := h5.fr f13 (by omega); clear hP; replace X := X.fr f13 (by omega); clear f13; (refine lw_alloc' [_, _, _, _] zOk rfl rfl ?_; intro b16 w17 n18); (refine lw_init' [_, _, _, _] tabOk rfl rfl rfl rfl rfl rfl n18 rfl ?_; clear n18; clear w17; intro w19 n18); have h20 := n18.blk; have x21 := n18.ext; have p22 := n18.pos; have z23 := n18.size; clear n18; replace h11 := Nd.sits.ext h11 x21; replace h12 := h12.ext x21; replace h5 := h5.ext x21; replace X := X.ext x21; clear x21; refine cT (cw_block ?_); rotate_left 1
 refine cw_loop (ι := Nat × Nd × Option Addr × Nat × PS) (fun _ => [(0, .pointer (some ⟨c.pb, 0, none⟩)), (1, .int .i64 lv), (4, .pointer (some ⟨b1, 0, none⟩)), (5, .pointer (some ⟨b16, 0, none⟩))])
  (fun x w' => PP c x.2.2.2.2 w' ∧ Blk w' b16 (x.2.1.cells x.2.2.1 x.2.2.2.1) ∧ x.2.1.sits (fun b => w.heap.size ≤ b ∧ b ≠ b1 ∧ b ≠ b16) w' x.2.2.1 ∧ Blk w' b1 [.int .u8 0, .int .i64 0, .string ⟨#[]⟩, .slice none 0 0] ∧ Fr (· = c.pb) w w' ∧ w19.heap.size ≤ w'.heap.size ∧
   climbP c.ts c.n k lv (unaryP c.ts c.n k σ).1 (unaryP c.ts c.n k σ).2 = climbP c.ts c.n x.1 lv x.2.1 x.2.2.2.2 ∧ 4 * mS c.ts x.2.2.2.2 + 1 ≤ x.1 ∧ x.1 ≤ k) (fun x => x.1) (k, (unaryP c.ts c.n k σ).1, a9, k10, (unaryP c.ts c.n k σ).2) (by (refine sub_cons rfl ?_; refine sub_cons rfl ?_; refine sub_cons rfl ?_; refine sub_cons rfl ?_; exact sub_nil))
  ⟨h12, h20, h11.wide (fun b h => ⟨by omega, by omega, by omega⟩), h5, X, Nat.le_refl _, rfl, hf2, Nat.le_refl _⟩ ?_
 rintro ⟨j, x, xa, xc, σ'⟩ w1 ⟨hP, h5, hs, h4, X, hz, he, hfj, hjk⟩; simp only at hP h5 hs he hfj hjk; rw [he]; clear he hu hf hf2 h20 h11; obtain ⟨j, rfl⟩ : ∃ i, j = i + 1 := ⟨j - 1, by omega⟩; have hg := getS_bin (peekP c.ts σ').text
 cases hb : binOf (peekP c.ts σ').text with
 | none =>
  rw [show climbP c.ts c.n (j + 1) lv x σ' = (x, σ') from by rw [climbP]; simp [hb]]; rw [hb] at hg; simp only [Option.map_none] at hg
  focus
   refine cw_block (cw_seq ?_); (refine cw_tdraw (fun wz => Ext w1 wz) 12 (.pure 0 (.pure 1 (.pure 2 (.pure 3 (.pure 4 (.fork 5 (.pure 6 (.pure 7 (.pure 8 (.pure 9 (.pure 10 (.pure 11 .tail)))))) .none)))))) mixed (by kernel_rfl) (panicOk_then (panicOk_block (panicOk_then (panicOk_block panicOk_body)))) ?_; intro wa1 xa2 _); have qsa3 : (fun wz => Ext w1 wz) wa1 := xa2; simp only at qsa3; have d_hP := hP; have d_h5 := h5; have d_hs := hs; have d_h4 := h4; have za4 := xa2.size; replace hP := hP.ext xa2; replace h5 := h5.ext xa2; replace hs := Nd.sits.ext hs xa2; replace h4 := h4.ext xa2; replace X := X.ext xa2; clear xa2; refine ⟨qsa3, ?_⟩; refine Tq rfl Mv (Tq rfl Pn (Tq rfl Pf (Tq rfl (pur_load tabOk rfl rfl rfl (fun wz hz => Blk.cell (Blk.ext (PP.blk d_hP) hz) rfl)) (Tq rfl Mv ?_)))); refine tw_does rfl (does_call (by kernel_rfl) rfl (peek_c _ _ _ (by assumption)) (fun _ _ h => ⟨_, h.1⟩)) rfl ?_ (fun _ h => h) tw_none; rintro _ wa6 ⟨⟨⟩, xa5⟩; have za7 := xa5.size; replace qsa3 := qsa3.ext xa5; replace hP := hP.ext xa5; replace h5 := h5.ext xa5; replace hs := Nd.sits.ext hs xa5; replace h4 := h4.ext xa5; replace X := X.ext xa5; clear xa5; refine ⟨qsa3, ?_⟩; refine Tq rfl (pur_field tabOk rfl rfl rfl rfl rfl rfl) ?_; refine Tq rfl (pur_look_none tabOk rfl rfl rfl rfl rfl (fun wz hz => MapIs.ext (PP.map d_hP) hz) (by assumption)) ?_; refine Tq rfl Mv (Tq rfl Px (Tq rfl Px (Tq rfl Pa ?_))); clear d_hP d_h5 d_hs d_h4 qsa3; refine tw_tail rfl (C1 Pa (cT (cw_seq (cS (C1 Mv (C1 Pt (C1 Mv (lw_off rfl rfl rfl (rfl) rfl (lw_off rfl rfl rfl (rfl) rfl (lw_off rfl rfl rfl (rfl) rfl (lw_off rfl rfl rfl (rfl) rfl ?_)))))))))))
   refine C1 (pur_pick_t rfl rfl rfl) (cT (cw_cond_t rfl (cS (lw_loads_b' [_, _, _, _] tabOk rfl rfl rfl h5 rfl rfl rfl ?_)))); (refine lw_store' [_, _, _, _] [_, _, _, _] tabOk rfl rfl rfl rfl rfl rfl h4 rfl rfl ?_; intro wa8 na9); have ha12 := na9.blk; have fa10 := na9.fr; have za11 := na9.size; clear na9 h4; replace hP := hP.fr fa10 (by omega); replace h5 := h5.fr fa10 (by omega); replace hs := Nd.sits.fr hs fa10 (by omega); replace X := X.fr fa10 (by omega); clear fa10; refine cT (cw_ret (qw_then_ret (qw_block_ret (qw_then_ret (qw_block_ret (qw_retc rfl tabOk rfl rfl rfl ha12 rfl ?_)))))); rotate_left 1
  exact tree_ret (Nd.sits.wide hs (fun b h => h.1)) (by assumption) X
 | some op =>
  rw [hb] at hg; simp only [Option.map_some] at hg; obtain ⟨hne, o1, o2, -⟩ := binOf_ne hb; obtain ⟨hin, hin2⟩ := peek_in hP.at_ (Or.inl hne); have hm := mS_next (ts := c.ts) (σ := σ') ⟨hin, hin2⟩; have hlv := level_bounds op o1 o2
  by_cases hl : level op < lv
  · rw [show climbP c.ts c.n (j + 1) lv x σ' = (x, σ') from by rw [climbP]; simp [hb, hl]]
    focus
     refine cw_block (cw_seq ?_); (refine cw_tdraw (fun wz => Ext w1 wz) 12 (.pure 0 (.pure 1 (.pure 2 (.pure 3 (.pure 4 (.fork 5 (.pure 6 (.pure 7 (.pure 8 (.pure 9 (.pure 10 (.pure 11 .tail)))))) .none)))))) mixed (by kernel_rfl) (panicOk_then (panicOk_block (panicOk_then (panicOk_block panicOk_body)))) ?_; intro wb1 xb2 _); have qsb3 : (fun wz => Ext w1 wz) wb1 := xb2; simp only at qsb3; have d_hP := hP; have d_h5 := h5; have d_hs := hs; have d_h4 := h4; have zb4 := xb2.size; replace hP := hP.ext xb2; replace h5 := h5.ext xb2; replace hs := Nd.sits.ext hs xb2; replace h4 := h4.ext xb2; replace X := X.ext xb2; clear xb2; refine ⟨qsb3, ?_⟩; refine Tq rfl Mv (Tq rfl Pn (Tq rfl Pf (Tq rfl (pur_load tabOk rfl rfl rfl (fun wz hz => Blk.cell (Blk.ext (PP.blk d_hP) hz) rfl)) (Tq rfl Mv ?_)))); refine tw_does rfl (does_call (by kernel_rfl) rfl (peek_c _ _ _ (by assumption)) (fun _ _ h => ⟨_, h.1⟩)) rfl ?_ (fun _ h => h) tw_none; rintro _ wb6 ⟨⟨⟩, xb5⟩; have zb7 := xb5.size; replace qsb3 := qsb3.ext xb5; replace hP := hP.ext xb5; replace h5 := h5.ext xb5; replace hs := Nd.sits.ext hs xb5; replace h4 := h4.ext xb5; replace X := X.ext xb5; clear xb5; refine ⟨qsb3, ?_⟩; refine Tq rfl (pur_field tabOk rfl rfl rfl rfl rfl rfl) ?_; refine Tq rfl (pur_look_some tabOk rfl rfl rfl rfl rfl (fun wz hz => MapIs.ext (PP.map d_hP) hz) (by assumption)) ?_; refine Tq rfl Mv (Tq rfl Px (Tq rfl Px (Tq rfl Pa ?_))); clear d_hP d_h5 d_hs d_h4 qsb3; refine tw_tail rfl (C1 Pa (cT (cw_seq (cS (C1 Mv (C1 Pt (C1 Mv (lw_on rfl rfl rfl (rfl) (C1 Mv (lw_on rfl rfl rfl (rfl) ?_))))))))))
     refine cC rfl (arith_Level_c _ _ (by omega) (by omega)) ?_; rintro _ wb8 ⟨⟨⟩, rfl⟩; refine lw_on rfl rfl rfl (rfl) (C1 Mv (lw_on rfl rfl rfl (rfl) (C1 V3 (C1 (pur_pick_f rfl rfl rfl) (cT (Wya (cS (lw_loads_b' [_, _, _, _] tabOk rfl rfl rfl h5 rfl rfl rfl ?_)))))))); (refine lw_store' [_, _, _, _] [_, _, _, _] tabOk rfl rfl rfl rfl rfl rfl h4 rfl rfl ?_; intro wb9 nb10); have hb13 := nb10.blk; have fb11 := nb10.fr; have zb12 := nb10.size; clear nb10 h4; replace hP := hP.fr fb11 (by omega); replace h5 := h5.fr fb11 (by omega); replace hs := Nd.sits.fr hs fb11 (by omega); replace X := X.fr fb11 (by omega); clear fb11; refine cT (cw_ret (qw_then_ret (qw_block_ret (qw_then_ret (qw_block_ret (qw_retc rfl tabOk rfl rfl rfl hb13 rfl ?_)))))); rotate_left 1
    exact tree_ret (Nd.sits.wide hs (fun b h => h.1)) (by assumption) X
  · rw [show climbP c.ts c.n (j + 1) lv x σ' = climbP c.ts c.n j lv (.mk op 0 [] [x, (exprP c.ts c.n j (level op + 1) (nextP σ')).1]) (exprP c.ts c.n j (level op + 1) (nextP σ')).2 from by rw [climbP]; simp [hb, hl]]
    have hfe : 4 * mS c.ts (nextP σ') + 4 ≤ j := by omega
    have hle := ((expr_inv (ts := c.ts) (n := c.n) j).1 (level op + 1) (nextP σ') hin2).1; have hml := mS_le hle
    focus
     refine cw_block (cw_seq ?_); (refine cw_tdraw (fun wz => Ext w1 wz) 12 (.pure 0 (.pure 1 (.pure 2 (.pure 3 (.pure 4 (.fork 5 (.pure 6 (.pure 7 (.pure 8 (.pure 9 (.pure 10 (.pure 11 .tail)))))) .none)))))) mixed (by kernel_rfl) (panicOk_then (panicOk_block (panicOk_then (panicOk_block panicOk_body)))) ?_; intro wc1 xc2 _); have qsc3 : (fun wz => Ext w1 wz) wc1 := xc2; simp only at qsc3; have d_hP := hP; have d_h5 := h5; have d_hs := hs; have d_h4 := h4; have zc4 := xc2.size; replace hP := hP.ext xc2; replace h5 := h5.ext xc2; replace hs := Nd.sits.ext hs xc2; replace h4 := h4.ext xc2; replace X := X.ext xc2; clear xc2; refine ⟨qsc3, ?_⟩; refine Tq rfl Mv (Tq rfl Pn (Tq rfl Pf (Tq rfl (pur_load tabOk rfl rfl rfl (fun wz hz => Blk.cell (Blk.ext (PP.blk d_hP) hz) rfl)) (Tq rfl Mv ?_)))); refine tw_does rfl (does_call (by kernel_rfl) rfl (peek_c _ _ _ (by assumption)) (fun _ _ h => ⟨_, h.1⟩)) rfl ?_ (fun _ h => h) tw_none; rintro _ wc6 ⟨⟨⟩, xc5⟩; have zc7 := xc5.size; replace qsc3 := qsc3.ext xc5; replace hP := hP.ext xc5; replace h5 := h5.ext xc5; replace hs := Nd.sits.ext hs xc5; replace h4 := h4.ext xc5; replace X := X.ext xc5; clear xc5; refine ⟨qsc3, ?_⟩; refine Tq rfl (pur_field tabOk rfl rfl rfl rfl rfl rfl) ?_; refine Tq rfl (pur_look_some tabOk rfl rfl rfl rfl rfl (fun wz hz => MapIs.ext (PP.map d_hP) hz) (by assumption)) ?_; refine Tq rfl Mv (Tq rfl Px (Tq rfl Px (Tq rfl Pa ?_))); clear d_hP d_h5 d_hs d_h4 qsc3; refine tw_tail rfl (C1 Pa (cT (cw_seq (cS (C1 Mv (C1 Pt (C1 Mv (lw_on rfl rfl rfl (rfl) (C1 Mv (lw_on rfl rfl rfl (rfl) ?_))))))))))
     refine cC rfl (arith_Level_c _ _ (by omega) (by omega)) ?_; rintro _ wc8 ⟨⟨⟩, rfl⟩; refine lw_on rfl rfl rfl (rfl) (C1 Mv (lw_on rfl rfl rfl (rfl) (C1 V3 (C1 (pur_pick_f rfl rfl rfl) (cT (Wna (cw_skip (qw_then (cS (C1 Mv (C1 Pn ?_))))))))))); refine C1 Pf (lw_load_b tabOk rfl rfl rfl (PP.blk hP) rfl rfl (C1 V7 (C1 Pn (C1 Pf ?_)))); refine lw_pp_at tabOk rfl rfl rfl rfl (by assumption) hin2 ?_; rintro wc9 hc10 fc11; have zc12 := fc11.size; clear hP; replace h5 := h5.fr fc11 (by omega); replace hs := Nd.sits.fr hs fc11 (by omega); replace h4 := h4.fr fc11 (by omega); replace X := X.fr fc11 (by omega); clear fc11; refine cN (C1 Mv (C1 Mv ?_)); refine cC rfl (arith_Level_c _ _ (by omega) (by omega)) ?_; rintro _ wc13 ⟨⟨⟩, rfl⟩; refine C1 V7 ?_; refine cR (by kernel_rfl) rfl ((IH j (by omega)).expr _ _ _ (by assumption) hfe (by omega) (by omega)) (fun _ _ h => h.ret) rfl ?_; rintro _ wc19 ⟨ac14, ⟨kc15, ⟨⟨⟩, ⟨hc16, ⟨hc17, fc18⟩⟩⟩⟩⟩; have zc20 := fc18.size; clear hc10; replace h5 := h5.fr fc18 (by omega); replace hs := Nd.sits.fr hs fc18 (by omega); replace h4 := h4.fr fc18 (by omega); replace X := X.fr fc18 (by omega); clear fc18; (refine lw_alloc' [_, _, _, _] zOk rfl rfl ?_; intro bc21 wc22 nc23); (refine lw_init' [_, _, _, _] tabOk rfl rfl rfl rfl rfl rfl nc23 rfl ?_; clear nc23; clear wc22; intro wc24 nc23); have hc25 := nc23.blk; have xc26 := nc23.ext; have pc27 := nc23.pos; have zc28 := nc23.size; clear nc23; replace hc16 := Nd.sits.ext hc16 xc26; replace hc17 := hc17.ext xc26
     replace h5 := h5.ext xc26; replace hs := Nd.sits.ext hs xc26; replace h4 := h4.ext xc26; replace X := X.ext xc26; clear xc26; refine cT (cw_region (C1 Mv (lw_loads_b' [_, _, _, _] tabOk rfl rfl rfl h5 rfl rfl rfl (lw_loads_b' [_, _, _, _] tabOk rfl rfl rfl hc25 rfl rfl rfl ?_)))); (refine lw_does (does_slice' [_, _, _, _, _, _, _, _] tabOk zOk rfl rfl rfl rfl rfl rfl rfl rfl rfl) rfl ?_ (fun _ h => h); rintro _ wc30 ⟨bc29, rfl, nc31, tc32⟩); clear tc32; have hc33 := nc31.blk; have xc34 := nc31.ext; have pc35 := nc31.pos; have zc36 := nc31.size; clear nc31; replace hc25 := hc25.ext xc34; replace hc16 := Nd.sits.ext hc16 xc34; replace hc17 := hc17.ext xc34; replace h5 := h5.ext xc34; replace hs := Nd.sits.ext hs xc34; replace h4 := h4.ext xc34; replace X := X.ext xc34; clear xc34; refine C1 (pur_build' [_, _, _, _] tabOk zOk rfl rfl rfl rfl) ?_; (refine lw_store' [_, _, _, _] [_, _, _, _] tabOk rfl rfl rfl rfl rfl rfl h5 rfl rfl ?_; intro wc37 nc38); have hc41 := nc38.blk; have fc39 := nc38.fr; have zc40 := nc38.size; clear nc38 h5; replace hc33 := hc33.fr fc39 (by omega); replace hc25 := hc25.fr fc39 (by omega); replace hc16 := Nd.sits.fr hc16 fc39 (by omega); replace hc17 := hc17.fr fc39 (by omega); replace hs := Nd.sits.fr hs fc39 (by omega); replace h4 := h4.fr fc39 (by omega); replace X := X.fr fc39 (by omega); clear fc39; refine lw_nil (qw_block_norm ?_); rotate_left 1
    refine qw_round (j, .mk op 0 [] [x, (exprP c.ts c.n j (level op + 1) (nextP σ')).1], some ⟨_, 0, none⟩, 2, (exprP c.ts c.n j (level op + 1) (nextP σ')).2) (by (refine sub_cons rfl ?_; refine sub_cons rfl ?_; refine sub_cons rfl ?_; refine sub_cons rfl ?_; exact sub_nil)) ⟨by assumption, by assumption, sits_2 (by assumption) ⟨by omega, by omega, by omega⟩ hs (fun b h => h) (by assumption) (fun b h => ⟨by omega, by omega, by omega⟩), by assumption, X, by omega, rfl, by simp only; omega, by simp only; omega⟩ (by simp)
theorem exprs_c (c : PC) (k : Nat) : ExprsC c k := by
 induction k using Nat.strongRecOn with
 | _ k ih =>
  cases k with
  | zero => exact ⟨fun _ _ _ _ h => by omega, fun _ _ _ h => by omega, fun _ _ _ h => by omega, fun _ _ _ h => by omega⟩
  | succ k =>
   have IH : ∀ j, j ≤ k → ExprsC c j := fun j hj => ih j (by omega)
   exact ⟨expr_w c k IH, unary_w c k IH, primary_w c k IH, place_w c k IH⟩
end Bk
namespace Bk
open Go
def startsDigit (s : List UInt8) : Bool := match s with
 | [] => false
 | c :: _ => digit c
section
variable (ts : List Tok) (n : Int)
end
section
variable {ts : List Tok} {n : Int}
structure REq {α : Type} (a b : α × PS) : Prop where
 err : a.2.err = b.2.err
 off : a.2.off = b.2.off
 ok : a.2.err = 0 → a.2.at_ = b.2.at_ ∧ a.1 = b.1
theorem REq.refl {α : Type} (a : α × PS) : REq a a := ⟨rfl, rfl, fun _ => ⟨rfl, rfl⟩⟩
theorem REq.same {α : Type} {a b : α × PS} (h : REq a b) (e : a.2.err = 0) : a = b := by
 obtain ⟨x, σ⟩ := a; obtain ⟨y, ρ⟩ := b; obtain ⟨h1, h2, h3⟩ := h; obtain ⟨h4, h5⟩ := h3 e
 cases σ; cases ρ
 simp_all
theorem REq.trans {α : Type} {a b c : α × PS} (h : REq a b) (k : REq b c) : REq a c :=
 ⟨h.err.trans k.err, h.off.trans k.off, fun e => ⟨(h.ok e).1.trans (k.ok (h.err ▸ e)).1, (h.ok e).2.trans (k.ok (h.err ▸ e)).2⟩⟩
theorem REq.bind {α β : Type} {a b : α × PS} (h : REq a b) {f g : α × PS → β × PS} (hf : a.2.err ≠ 0 → (f a).2 = a.2) (hg : b.2.err ≠ 0 → (g b).2 = b.2) (hok : a.2.err = 0 → a = b → REq (f a) (g b)) : REq (f a) (g b) := by
 by_cases e : a.2.err = 0
 · exact hok e (h.same e)
 · have e' : b.2.err ≠ 0 := h.err ▸ e
   refine ⟨by rw [hf e, hg e', h.err], by rw [hf e, hg e', h.off], fun z => ?_⟩
   rw [hf e] at z; exact absurd z e
end
end Bk
namespace Bk
open Go
section
variable {ts : List Tok} {n : Int}
end
end Bk
namespace Bk
open Go
section
variable (ts : List Tok) (n : Int)
end
section
variable {ts : List Tok} {n : Int}
theorem arg_le {σ : PS} (h : σ.at_ ≤ ts.length) : Le ts σ (argP ts n σ).2 := name_le h
theorem args_le (k : Nat) : ∀ acc σ, σ.at_ ≤ ts.length → Le ts σ (argsP ts n k acc σ).2 := by
 induction k with
 | zero => intro acc σ h; rw [argsP]; exact Le.refl h
 | succ k ih =>
  intro acc σ h; rw [argsP]
  split
  · rename_i hh
    have h1 := next_le (has_in h hh (by decide))
    split
    · have h2 := h1.trans (fail_le (off := (peekP ts (nextP σ)).pos) (e := 5) h1.wf)
      exact (h2.trans (arg_le h2.wf)).trans (ih _ _ (arg_le h2.wf).wf)
    · exact (h1.trans (arg_le h1.wf)).trans (ih _ _ (arg_le h1.wf).wf)
  · exact Le.refl h
end
end Bk
namespace Bk
open Go
section
variable {ts : List Tok} {n : Int}
abbrev In (ts : List Tok) (σ : PS) : Prop := σ.err = 0 ∧ σ.at_ < ts.length
theorem expr_le {k : Nat} {lv : Int} {σ : PS} (h : σ.at_ ≤ ts.length) : Le ts σ (exprP ts n k lv σ).2 := ((expr_inv k).1 lv σ h).1
theorem place_le {k : Nat} {σ : PS} (h : σ.at_ ≤ ts.length) : Le ts σ (placeP ts n k σ).2 := ((expr_inv k).2.2.2.2 σ h).1
theorem stack_le {k : Nat} {kind : Int} {σ : PS} (hn : In ts σ) : Le ts σ (stackP ts n k kind σ).2 := by
 unfold stackP
 have h1 := next_le hn; have h2 := h1.trans (place_le (n := n) (k := k) h1.wf); have h3 := h2.trans (expect_le (n := n) (t := [44]) h2.wf (by decide))
 exact h3.trans (name_le h3.wf)
theorem tape_le {k : Nat} {kind : Int} {σ : PS} (hn : In ts σ) : Le ts σ (tapeP ts n k kind σ).2 := by
 unfold tapeP
 have h1 := next_le hn
 exact h1.trans (place_le (n := n) (k := k) h1.wf)
theorem call_le {k : Nat} {kind : Int} {σ : PS} (hn : In ts σ) : Le ts σ (callP ts n k kind σ).2 := by
 unfold callP
 have h1 := next_le hn; have h2 := h1.trans (name_le (n := n) h1.wf); have h3 := h2.trans (expect_le (n := n) (t := [40]) h2.wf (by decide)); simp only
 split
 · rename_i hh; exact h3.trans (next_le (has_in h3.wf hh (by decide)))
 · have h4 := h3.trans (arg_le (n := n) h3.wf)
   exact (h4.trans (args_le (n := n) k _ _ h4.wf)).trans (expect_le (args_le (n := n) k _ _ h4.wf).wf (by decide))
theorem upd_ne {t : List UInt8} (h : ¬ updKind t = 0) : t ≠ [] := by rintro rfl; exact h (by decide)
theorem update_le {k : Nat} {σ : PS} (h : σ.at_ ≤ ts.length) : Le ts σ (updateP ts n k σ).2 := by
 unfold updateP
 have h1 := place_le (n := n) (k := k) h; simp only
 split
 · rename_i hh
   have h2 := h1.trans (next_le (has_in h1.wf hh (by decide)))
   exact h2.trans (place_le h2.wf)
 · split
   · exact h1.trans (unexp_le h1.wf)
   · rename_i hh
     have h2 := h1.trans (next_le (peek_in h1.wf (Or.inl (upd_ne hh))))
     exact h2.trans (expr_le h2.wf)
theorem stmt_inv (k : Nat) : (∀ σ, σ.at_ ≤ ts.length → Le ts σ (stmtP ts n k σ).2) ∧ (∀ kind mid last σ, In ts σ → mid ≠ [] → last ≠ [] → Le ts σ (branchesP ts n k kind mid last σ).2) ∧ (∀ σ, In ts σ → Le ts σ (localP ts n k σ).2) ∧
 (∀ σ, σ.at_ ≤ ts.length → Le ts σ (blockP ts n k σ).2) ∧ (∀ acc σ, σ.at_ ≤ ts.length → Le ts σ (stmtsP ts n k acc σ).2) := by
 induction k with
 | zero =>
  refine ⟨fun σ h => ?_, fun kind mid last σ h _ _ => ?_, fun σ h => ?_, fun σ h => ?_, fun acc σ h => ?_⟩
  · rw [stmtP]; exact Le.refl h
  · rw [branchesP]; exact Le.refl (Nat.le_of_lt h.2)
  · rw [localP]; exact Le.refl (Nat.le_of_lt h.2)
  · rw [blockP]; exact Le.refl h
  · rw [stmtsP]; exact Le.refl h
 | succ k ih =>
  obtain ⟨iS, iB, iL, iK, iT⟩ := ih; refine ⟨fun σ h => ?_, fun kind mid last σ hn hmid hlast => ?_, fun σ hn => ?_, fun σ h => ?_, fun acc σ h => ?_⟩
  · rw [stmtP]
    have hin : ∀ t : List UInt8, t ≠ [] → (peekP ts σ).text = t → In ts σ := fun t ht e => peek_in h (Or.inl (by rw [e]; exact ht))
    by_cases c : (peekP ts σ).text = [112, 117, 115, 104]
    · rw [if_pos c]; exact stack_le (hin _ (by decide) c)
    rw [if_neg c]; clear c
    by_cases c : (peekP ts σ).text = [112, 111, 112]
    · rw [if_pos c]; exact stack_le (hin _ (by decide) c)
    rw [if_neg c]; clear c
    by_cases c : (peekP ts σ).text = [114, 101, 97, 100]
    · rw [if_pos c]; exact tape_le (hin _ (by decide) c)
    rw [if_neg c]; clear c
    by_cases c : (peekP ts σ).text = [117, 110, 114, 101, 97, 100]
    · rw [if_pos c]; exact tape_le (hin _ (by decide) c)
    rw [if_neg c]; clear c
    by_cases c : (peekP ts σ).text = [119, 114, 105, 116, 101]
    · rw [if_pos c]; exact tape_le (hin _ (by decide) c)
    rw [if_neg c]; clear c
    by_cases c : (peekP ts σ).text = [117, 110, 119, 114, 105, 116, 101]
    · rw [if_pos c]; exact tape_le (hin _ (by decide) c)
    rw [if_neg c]; clear c
    by_cases c : (peekP ts σ).text = [99, 97, 108, 108]
    · rw [if_pos c]; exact call_le (hin _ (by decide) c)
    rw [if_neg c]; clear c
    by_cases c : (peekP ts σ).text = [117, 110, 99, 97, 108, 108]
    · rw [if_pos c]; exact call_le (hin _ (by decide) c)
    rw [if_neg c]; clear c
    by_cases c : (peekP ts σ).text = [105, 102]
    · rw [if_pos c]; exact iB _ _ _ _ (hin _ (by decide) c) (by decide) (by decide)
    rw [if_neg c]; clear c
    by_cases c : (peekP ts σ).text = [102, 114, 111, 109]
    · rw [if_pos c]; exact iB _ _ _ _ (hin _ (by decide) c) (by decide) (by decide)
    rw [if_neg c]; clear c
    by_cases c : (peekP ts σ).text = [108, 111, 99, 97, 108]
    · rw [if_pos c]; exact iL _ (hin _ (by decide) c)
    rw [if_neg c]; clear c
    exact update_le h
  · rw [branchesP]
    have h1 := next_le hn; have h2 := h1.trans (expr_le (n := n) (k := k) (lv := 1) h1.wf); have h3 := h2.trans (iK _ h2.wf); have h4 := h3.trans (expect_le (n := n) (t := mid) h3.wf hmid); have h5 := h4.trans (iK _ h4.wf); have h6 := h5.trans (expect_le (n := n) (t := last) h5.wf hlast)
    exact h6.trans (expr_le h6.wf)
  · rw [localP]
    have h1 := next_le hn
    split
    · rename_i hh
      have h2 := h1.trans (next_le (has_in h1.wf hh (by decide))); have h3 := h2.trans (name_le (n := n) h2.wf)
      exact h3.trans (iK _ h3.wf)
    · have h2 := h1.trans (name_le (n := n) h1.wf)
      have h3 := h2.trans (expect_le (n := n) (t := [61]) h2.wf (by decide)); have h4 := h3.trans (expr_le (n := n) (k := k) (lv := 1) h3.wf); have h5 := h4.trans (iK _ h4.wf); have h6 := h5.trans (expect_le (n := n) (t := [100, 101, 108, 111, 99, 97, 108]) h5.wf (by decide))
      exact h6.trans (expr_le h6.wf)
  · rw [blockP]
    have h1 := expect_le (n := n) (t := [123]) h (by decide)
    exact h1.trans (iT [] _ h1.wf)
  · rw [stmtsP]
    split
    · exact Le.refl h
    · split
      · rename_i hh; exact next_le (has_in h hh (by decide))
      · have h1 := iS σ h
        have h2 := h1.trans (expect_le (n := n) (t := [59]) h1.wf (by decide))
        exact h2.trans (iT _ _ h2.wf)
end
end Bk
namespace Bk
open Go Go.RowKit Go.Proofs
attribute [local irreducible] Go.Calls
set_option maxRecDepth 100000 in
set_option maxHeartbeats 1000000 in
theorem stackStmt_c (c : PC) (k : Nat) (kind : Int) (σ : PS) (w : World) (hP : PP c σ w) (hi : In c.ts σ) (hk : 4 * mS c.ts σ ≤ k) :
 Calls Tryz.prog 56 #[.pointer (some ⟨c.pb, 0, none⟩), .int .u8 kind] w (TreeR c w (stackP c.ts c.n k kind σ)) := by
 have X := Fr.refl (· = c.pb) w; have hpb := hP.pbB; have hB := hP.B; have hlen := hP.len; have h2 := hi.2; have hm := mS_next hi
 have hf : 4 * mS c.ts (nextP σ) + 1 ≤ k := by omega
 refine calls_in Tryz.func56 Tryz.ntmps56 rfl rfl ?_
 focus
  refine cS ?_; (refine lw_alloc' [_, _, _, _] zOk rfl rfl ?_; intro b1 w2 n3); have h5 := n3.blk; have x6 := n3.ext; have p7 := n3.pos; have z8 := n3.size; clear n3; replace hP := hP.ext x6; replace X := X.ext x6; clear x6; refine cN (C1 Mv (C1 Pn (C1 Pf (lw_load_b tabOk rfl rfl rfl (PP.blk hP) rfl rfl (C1 V7 (C1 Pn (C1 Pf ?_))))))); refine lw_pp_at tabOk rfl rfl rfl rfl (by assumption) h2 ?_; rintro w9 h10 f11; have z12 := f11.size; replace h5 := h5.fr f11 (by omega); clear hP; replace X := X.fr f11 (by omega); clear f11; refine cN (C1 Mv ?_); refine cR (by kernel_rfl) rfl ((exprs_c c k).place _ _ (by assumption) hf) (fun _ _ h => h.ret) rfl ?_; rintro _ w18 ⟨a13, ⟨k14, ⟨⟨⟩, ⟨h15, ⟨h16, f17⟩⟩⟩⟩⟩; have z19 := f17.size; clear h10; replace h5 := h5.fr f17 (by omega); replace X := X.fr f17 (by omega); clear f17; (refine lw_alloc' [_, _, _, _] zOk rfl rfl ?_; intro b20 w21 n22); (refine lw_init' [_, _, _, _] tabOk rfl rfl rfl rfl rfl rfl n22 rfl ?_; clear n22; clear w21; intro w23 n22); have h24 := n22.blk; have x25 := n22.ext; have p26 := n22.pos; have z27 := n22.size; clear n22; replace h15 := Nd.sits.ext h15 x25; replace h16 := h16.ext x25; replace h5 := h5.ext x25; replace X := X.ext x25; clear x25; refine cN (C1 Mv ?_); refine cC rfl (expect_c _ _ _ _ (by assumption) (by decide)) ?_; rintro _ w30 ⟨⟨⟩, ⟨h28, f29⟩⟩; have z31 := f29.size; replace h24 := h24.fr f29 (by omega); replace h15 := Nd.sits.fr h15 f29 (by omega); clear h16; replace h5 := h5.fr f29 (by omega); replace X := X.fr f29 (by omega)
  clear f29; refine cT (cw_seq ?_); (refine cw_tdraw (fun wz => Fr (· = c.pb) w30 wz) 5 (.pure 0 (.pure 1 (.pure 3 (.fork 2 (.fork 4 .tail .none) (.fork 4 (.fork 2 .tail .none) .none))))) mixed (by kernel_rfl) (panicOk_then panicOk_body) ?_; intro w32 x33 _); have qs34 : (fun wz => Fr (· = c.pb) w30 wz) w32 := Fr.of_ext x33; simp only at qs34; have d_h28 := h28; have d_h24 := h24; have d_h15 := h15; have d_h5 := h5; have z35 := x33.size; replace h28 := h28.ext x33; replace h24 := h24.ext x33; replace h15 := Nd.sits.ext h15 x33; replace h5 := h5.ext x33; replace X := X.ext x33; clear x33; refine ⟨qs34, ?_⟩; refine Tq rfl Mv (Tq rfl Mv ?_); refine Tq rfl (pur_loads_blk' [_, _, _, _] tabOk rfl rfl rfl (fun wz hz => (Blk.fr d_h24 hz (by omega))) rfl rfl) ?_; refine tw_does rfl (does_call (by kernel_rfl) rfl (name_c _ _ _ (by assumption)) (fun _ _ h => ⟨_, h.1⟩)) rfl ?_ (fun _ h => h) ?kr; rintro _ w38 ⟨⟨⟩, ⟨h36, f37⟩⟩; have z39 := f37.size; replace qs34 := qs34.fr f37 (by omega); clear h28; replace h24 := h24.fr f37 (by omega); replace h15 := Nd.sits.fr h15 f37 (by omega); replace h5 := h5.fr f37 (by omega); replace X := X.fr f37 (by omega); clear f37; refine ⟨qs34, ?_⟩; (refine tw_does rfl (does_slice' [_, _, _, _] tabOk zOk rfl rfl rfl rfl rfl rfl rfl rfl rfl) rfl ?_ (fun _ h => h) tw_none; rintro _ w41 ⟨b40, rfl, n42, t43⟩); clear t43; have h44 := n42.blk; have x45 := n42.ext; have p46 := n42.pos; have z47 := n42.size; clear n42; replace h36 := h36.ext x45; replace qs34 := qs34.ext x45
  replace h24 := h24.ext x45; replace h15 := Nd.sits.ext h15 x45; replace h5 := h5.ext x45; replace X := X.ext x45; clear x45; refine ⟨qs34, ?_⟩; clear d_h28 d_h24 d_h15 d_h5 qs34; refine tw_tail rfl (C1 (pur_build' [_, _, _, _] tabOk zOk rfl rfl rfl rfl) ?_); (refine lw_store' [_, _, _, _] [_, _, _, _] tabOk rfl rfl rfl rfl rfl rfl h5 rfl rfl ?_; intro w48 n49); have h52 := n49.blk; have f50 := n49.fr; have z51 := n49.size; clear n49 h5; replace h44 := h44.fr f50 (by omega); replace h36 := h36.fr f50 (by omega); replace h24 := h24.fr f50 (by omega); replace h15 := Nd.sits.fr h15 f50 (by omega); replace X := X.fr f50 (by omega); clear f50; refine cT (cw_ret (qw_retc rfl tabOk rfl rfl rfl h52 rfl ?_)); rotate_left 1; (refine tw_does rfl (does_slice' [_, _, _, _] tabOk zOk rfl rfl rfl rfl rfl rfl rfl rfl rfl) rfl ?_ (fun _ h => h) tw_none; rintro _ w54 ⟨b53, rfl, n55, t56⟩); clear t56; have h57 := n55.blk; have x58 := n55.ext; have p59 := n55.pos; have z60 := n55.size; clear n55; replace qs34 := qs34.ext x58; replace h28 := h28.ext x58; replace h24 := h24.ext x58; replace h15 := Nd.sits.ext h15 x58; replace h5 := h5.ext x58; replace X := X.ext x58; clear x58; refine ⟨qs34, ?_⟩; refine tw_does rfl (does_call (by kernel_rfl) rfl (name_c _ _ _ (by assumption)) (fun _ _ h => ⟨_, h.1⟩)) rfl ?_ (fun _ h => h) tw_none; rintro _ w63 ⟨⟨⟩, ⟨h61, f62⟩⟩; have z64 := f62.size; replace h57 := h57.fr f62 (by omega); replace qs34 := qs34.fr f62 (by omega); clear h28; replace h24 := h24.fr f62 (by omega)
  replace h15 := Nd.sits.fr h15 f62 (by omega); replace h5 := h5.fr f62 (by omega); replace X := X.fr f62 (by omega); clear f62; refine ⟨qs34, ?_⟩; clear d_h28 d_h24 d_h15 d_h5 qs34; refine tw_tail rfl (C1 (pur_build' [_, _, _, _] tabOk zOk rfl rfl rfl rfl) ?_); (refine lw_store' [_, _, _, _] [_, _, _, _] tabOk rfl rfl rfl rfl rfl rfl h5 rfl rfl ?_; intro w65 n66); have h69 := n66.blk; have f67 := n66.fr; have z68 := n66.size; clear n66 h5; replace h61 := h61.fr f67 (by omega); replace h57 := h57.fr f67 (by omega); replace h24 := h24.fr f67 (by omega); replace h15 := Nd.sits.fr h15 f67 (by omega); replace X := X.fr f67 (by omega); clear f67; refine cT (cw_ret (qw_retc rfl tabOk rfl rfl rfl h69 rfl ?_)); rotate_left 1
 all_goals exact tree_ret (sits_1 (by assumption) (by omega) (by assumption) (fun b h => by omega)) (by assumption) X
set_option maxRecDepth 100000 in
set_option maxHeartbeats 1000000 in
theorem tapeStmt_c (c : PC) (k : Nat) (kind : Int) (σ : PS) (w : World) (hP : PP c σ w) (hi : In c.ts σ) (hk : 4 * mS c.ts σ ≤ k) :
 Calls Tryz.prog 57 #[.pointer (some ⟨c.pb, 0, none⟩), .int .u8 kind] w (TreeR c w (tapeP c.ts c.n k kind σ)) := by
 have X := Fr.refl (· = c.pb) w; have hpb := hP.pbB; have hB := hP.B; have hlen := hP.len; have h2 := hi.2; have hm := mS_next hi
 have hf : 4 * mS c.ts (nextP σ) + 1 ≤ k := by omega
 refine calls_in Tryz.func57 Tryz.ntmps57 rfl rfl ?_
 focus
  refine cS ?_; (refine lw_alloc' [_, _, _, _] zOk rfl rfl ?_; intro b1 w2 n3); have h5 := n3.blk; have x6 := n3.ext; have p7 := n3.pos; have z8 := n3.size; clear n3; replace hP := hP.ext x6; replace X := X.ext x6; clear x6; refine cN (C1 Mv (C1 Pn (C1 Pf (lw_load_b tabOk rfl rfl rfl (PP.blk hP) rfl rfl (C1 V7 (C1 Pn (C1 Pf ?_))))))); refine lw_pp_at tabOk rfl rfl rfl rfl (by assumption) h2 ?_; rintro w9 h10 f11; have z12 := f11.size; replace h5 := h5.fr f11 (by omega); clear hP; replace X := X.fr f11 (by omega); clear f11; refine cN (C1 Mv (C1 Mv ?_)); refine cR (by kernel_rfl) rfl ((exprs_c c k).place _ _ (by assumption) hf) (fun _ _ h => h.ret) rfl ?_; rintro _ w18 ⟨a13, ⟨k14, ⟨⟨⟩, ⟨h15, ⟨h16, f17⟩⟩⟩⟩⟩; have z19 := f17.size; clear h10; replace h5 := h5.fr f17 (by omega); replace X := X.fr f17 (by omega); clear f17; (refine lw_does (does_slice' [_, _, _, _] tabOk zOk rfl rfl rfl rfl rfl rfl rfl rfl rfl) rfl ?_ (fun _ h => h); rintro _ w21 ⟨b20, rfl, n22, t23⟩); clear t23; have h24 := n22.blk; have x25 := n22.ext; have p26 := n22.pos; have z27 := n22.size; clear n22; replace h15 := Nd.sits.ext h15 x25; replace h16 := h16.ext x25; replace h5 := h5.ext x25; replace X := X.ext x25; clear x25; refine C1 (pur_build' [_, _, _, _] tabOk zOk rfl rfl rfl rfl) ?_; (refine lw_store' [_, _, _, _] [_, _, _, _] tabOk rfl rfl rfl rfl rfl rfl h5 rfl rfl ?_; intro w28 n29); have h32 := n29.blk; have f30 := n29.fr; have z31 := n29.size; clear n29 h5; replace h24 := h24.fr f30 (by omega); replace h15 := Nd.sits.fr h15 f30 (by omega)
  replace h16 := h16.fr f30 (by omega); replace X := X.fr f30 (by omega); clear f30; refine cT (cw_ret (qw_retc rfl tabOk rfl rfl rfl h32 rfl ?_)); rotate_left 1
 all_goals exact tree_ret (sits_1 (by assumption) (by omega) (by assumption) (fun b h => by omega)) (by assumption) X
set_option maxRecDepth 100000 in
set_option maxHeartbeats 1000000 in
theorem update_c (c : PC) (k : Nat) (σ : PS) (w : World) (hP : PP c σ w) (hk : 4 * mS c.ts σ + 1 ≤ k) :
 Calls Tryz.prog 61 #[.pointer (some ⟨c.pb, 0, none⟩)] w (TreeR c w (updateP c.ts c.n k σ)) := by
 have X := Fr.refl (· = c.pb) w; have hpb := hP.pbB; have hB := hP.B; have hlen := hP.len; have hl := place_le (n := c.n) (k := k) hP.at_; have hm := mS_le hl; have hwf := hl.wf
 unfold updateP
 generalize hp : placeP c.ts c.n k σ = p at *
 have hf1 : ∀ {w' : World}, PP c σ w' → Calls Tryz.prog 92 #[.pointer (some ⟨c.pb, 0, none⟩)] w' (TreeR c w' p) := fun h => hp ▸ (exprs_c c k).place _ _ h hk
 clear hl
 by_cases hsw : (peekP c.ts p.2).text = [60, 61, 62]
 · have hh : hasP c.ts p.2 [60, 61, 62] = true := by simp [hasP, hsw]
   simp only [hh, if_true]; have hin := has_in hwf hh (by decide); have hm2 := mS_next hin; have h2 := hin.2
   have hf : 4 * mS c.ts (nextP p.2) + 1 ≤ k := by omega
   refine calls_in Tryz.func61 Tryz.ntmps61 rfl rfl ?_
   focus
    refine cS ?_; (refine lw_alloc' [_, _, _, _] zOk rfl rfl ?_; intro b1 w2 n3); have h5 := n3.blk; have x6 := n3.ext; have p7 := n3.pos; have z8 := n3.size; clear n3; replace hP := hP.ext x6; replace X := X.ext x6; clear x6; refine cN (C1 Mv ?_); refine cR (by kernel_rfl) rfl (hf1 (by assumption)) (fun _ _ h => h.ret) rfl ?_; rintro _ w14 ⟨a9, ⟨k10, ⟨⟨⟩, ⟨h11, ⟨h12, f13⟩⟩⟩⟩⟩; have z15 := f13.size; replace h5 := h5.fr f13 (by omega); clear hP; replace X := X.fr f13 (by omega); clear f13; (refine lw_alloc' [_, _, _, _] zOk rfl rfl ?_; intro b16 w17 n18); (refine lw_init' [_, _, _, _] tabOk rfl rfl rfl rfl rfl rfl n18 rfl ?_; clear n18; clear w17; intro w19 n18); have h20 := n18.blk; have x21 := n18.ext; have p22 := n18.pos; have z23 := n18.size; clear n18; replace h11 := Nd.sits.ext h11 x21; replace h12 := h12.ext x21; replace h5 := h5.ext x21; replace X := X.ext x21; clear x21; refine cN (C1 Pa (cT (cw_seq (cS (C1 Mv ?_))))); refine cC rfl (peek_c _ _ _ (by assumption)) ?_; rintro _ w25 ⟨⟨⟩, x24⟩; have z26 := x24.size; replace h20 := h20.ext x24; replace h11 := Nd.sits.ext h11 x24; replace h12 := h12.ext x24; replace h5 := h5.ext x24; replace X := X.ext x24; clear x24; refine C1 (pur_field tabOk rfl rfl rfl rfl rfl rfl) (cT (cw_block (cS (C1 V8 (C1 Pa (cT ?_)))))); refine cw_no rfl (fun hq9 => absurd (hsw.symm.trans hq9) (by decide)) ?_; refine cS (C1 V8 (C1 Pa (cT ?_))); refine cw_no rfl (fun hq9 => absurd (hsw.symm.trans hq9) (by decide)) ?_; refine cS (C1 V8 (C1 Pa (cT ?_)))
    refine cw_no rfl (fun hq9 => absurd (hsw.symm.trans hq9) (by decide)) ?_; refine cS (C1 V8 (C1 Pa (cT ?_))); refine cw_no rfl (fun hq9 => absurd (hsw.symm.trans hq9) (by decide)) ?_; refine cS (C1 V8 (C1 Pa (cT (Wya (cS (C1 Mv (C1 Pn (C1 Pf (lw_load_b tabOk rfl rfl rfl (PP.blk h12) rfl rfl (C1 V7 (C1 Pn ?_))))))))))); refine C1 Pf ?_; refine lw_pp_at tabOk rfl rfl rfl rfl (by assumption) h2 ?_; rintro w27 h28 f29; have z30 := f29.size; replace h20 := h20.fr f29 (by omega); replace h11 := Nd.sits.fr h11 f29 (by omega); clear h12; replace h5 := h5.fr f29 (by omega); replace X := X.fr f29 (by omega); clear f29; refine cN (C1 Mv ?_); refine cR (by kernel_rfl) rfl ((exprs_c c k).place _ _ (by assumption) hf) (fun _ _ h => h.ret) rfl ?_; rintro _ w36 ⟨a31, ⟨k32, ⟨⟨⟩, ⟨h33, ⟨h34, f35⟩⟩⟩⟩⟩; have z37 := f35.size; clear h28; replace h20 := h20.fr f35 (by omega); replace h11 := Nd.sits.fr h11 f35 (by omega); replace h5 := h5.fr f35 (by omega); replace X := X.fr f35 (by omega); clear f35; (refine lw_alloc' [_, _, _, _] zOk rfl rfl ?_; intro b38 w39 n40); (refine lw_init' [_, _, _, _] tabOk rfl rfl rfl rfl rfl rfl n40 rfl ?_; clear n40; clear w39; intro w41 n40); have h42 := n40.blk; have x43 := n40.ext; have p44 := n40.pos; have z45 := n40.size; clear n40; replace h33 := Nd.sits.ext h33 x43; replace h34 := h34.ext x43; replace h20 := h20.ext x43; replace h11 := Nd.sits.ext h11 x43; replace h5 := h5.ext x43; replace X := X.ext x43; clear x43; refine cN (lw_loads_b' [_, _, _, _] tabOk rfl rfl rfl h20 rfl rfl rfl (lw_loads_b' [_, _, _, _] tabOk rfl rfl rfl h42 rfl rfl rfl ?_))
    (refine lw_does (does_slice' [_, _, _, _, _, _, _, _] tabOk zOk rfl rfl rfl rfl rfl rfl rfl rfl rfl) rfl ?_ (fun _ h => h); rintro _ w47 ⟨b46, rfl, n48, t49⟩); clear t49; have h50 := n48.blk; have x51 := n48.ext; have p52 := n48.pos; have z53 := n48.size; clear n48; replace h42 := h42.ext x51; replace h33 := Nd.sits.ext h33 x51; replace h34 := h34.ext x51; replace h20 := h20.ext x51; replace h11 := Nd.sits.ext h11 x51; replace h5 := h5.ext x51; replace X := X.ext x51; clear x51; refine C1 (pur_build' [_, _, _, _] tabOk zOk rfl rfl rfl rfl) ?_; (refine lw_store' [_, _, _, _] [_, _, _, _] tabOk rfl rfl rfl rfl rfl rfl h5 rfl rfl ?_; intro w54 n55); have h58 := n55.blk; have f56 := n55.fr; have z57 := n55.size; clear n55 h5; replace h50 := h50.fr f56 (by omega); replace h42 := h42.fr f56 (by omega); replace h33 := Nd.sits.fr h33 f56 (by omega); replace h34 := h34.fr f56 (by omega); replace h20 := h20.fr f56 (by omega); replace h11 := Nd.sits.fr h11 f56 (by omega); replace X := X.fr f56 (by omega); clear f56; refine cT (cw_ret (qw_block_ret (qw_then_ret (qw_retc rfl tabOk rfl rfl rfl h58 rfl ?_)))); rotate_left 1
   all_goals exact tree_ret (sits_2 (by assumption) (by omega) (by assumption) (fun b h => by omega) (by assumption) (fun b h => by omega)) (by assumption) X
 · have hh : hasP c.ts p.2 [60, 61, 62] = false := by simp [hasP, hsw]
   simp only [hh, Bool.false_eq_true, if_false]
   by_cases hu : updKind (peekP c.ts p.2).text = 0
   · rw [if_pos hu]
     have n1 : (peekP c.ts p.2).text ≠ [43, 61] := fun e => by rw [e] at hu; exact absurd hu (by decide)
     have n2 : (peekP c.ts p.2).text ≠ [45, 61] := fun e => by rw [e] at hu; exact absurd hu (by decide)
     have n3 : (peekP c.ts p.2).text ≠ [94, 61] := fun e => by rw [e] at hu; exact absurd hu (by decide)
     have n4 : (peekP c.ts p.2).text ≠ [58, 61] := fun e => by rw [e] at hu; exact absurd hu (by decide)
     refine calls_in Tryz.func61 Tryz.ntmps61 rfl rfl ?_
     focus
      refine cS ?_; (refine lw_alloc' [_, _, _, _] zOk rfl rfl ?_; intro ba1 wa2 na3); have ha5 := na3.blk; have xa6 := na3.ext; have pa7 := na3.pos; have za8 := na3.size; clear na3; replace hP := hP.ext xa6; replace X := X.ext xa6; clear xa6; refine cN (C1 Mv ?_); refine cR (by kernel_rfl) rfl (hf1 (by assumption)) (fun _ _ h => h.ret) rfl ?_; rintro _ wa14 ⟨aa9, ⟨ka10, ⟨⟨⟩, ⟨ha11, ⟨ha12, fa13⟩⟩⟩⟩⟩; have za15 := fa13.size; replace ha5 := ha5.fr fa13 (by omega); clear hP; replace X := X.fr fa13 (by omega); clear fa13; (refine lw_alloc' [_, _, _, _] zOk rfl rfl ?_; intro ba16 wa17 na18); (refine lw_init' [_, _, _, _] tabOk rfl rfl rfl rfl rfl rfl na18 rfl ?_; clear na18; clear wa17; intro wa19 na18); have ha20 := na18.blk; have xa21 := na18.ext; have pa22 := na18.pos; have za23 := na18.size; clear na18; replace ha11 := Nd.sits.ext ha11 xa21; replace ha12 := ha12.ext xa21; replace ha5 := ha5.ext xa21; replace X := X.ext xa21; clear xa21; refine cN (C1 Pa (cT (cw_seq (cS (C1 Mv ?_))))); refine cC rfl (peek_c _ _ _ (by assumption)) ?_; rintro _ wa25 ⟨⟨⟩, xa24⟩; have za26 := xa24.size; replace ha20 := ha20.ext xa24; replace ha11 := Nd.sits.ext ha11 xa24; replace ha12 := ha12.ext xa24; replace ha5 := ha5.ext xa24; replace X := X.ext xa24; clear xa24; refine C1 (pur_field tabOk rfl rfl rfl rfl rfl rfl) (cT (cw_block (cS (C1 V8 (C1 Pa (cT (Wna (cS (C1 V8 (C1 Pa (cT ?_))))))))))); refine Wna (cS (C1 V8 (C1 Pa (cT (Wna (cS (C1 V8 (C1 Pa (cT (Wna (cS ?_))))))))))); refine C1 V8 (C1 Pa (cT (Wna (cS (C1 Mv ?_)))))
      refine cC rfl (unexpected_c _ _ _ (by assumption)) ?_; rintro _ wa29 ⟨⟨⟩, ⟨ha27, fa28⟩⟩; have za30 := fa28.size; replace ha20 := ha20.fr fa28 (by omega); replace ha11 := Nd.sits.fr ha11 fa28 (by omega); clear ha12; replace ha5 := ha5.fr fa28 (by omega); replace X := X.fr fa28 (by omega); clear fa28; refine cN (C1 (pur_build' [_, _, _, _] tabOk zOk rfl rfl rfl rfl) ?_); (refine lw_store' [_, _, _, _] [_, _, _, _] tabOk rfl rfl rfl rfl rfl rfl ha5 rfl rfl ?_; intro wa31 na32); have ha35 := na32.blk; have fa33 := na32.fr; have za34 := na32.size; clear na32 ha5; replace ha27 := ha27.fr fa33 (by omega); replace ha20 := ha20.fr fa33 (by omega); replace ha11 := Nd.sits.fr ha11 fa33 (by omega); replace X := X.fr fa33 (by omega); clear fa33; refine cT (cw_ret (qw_block_ret (qw_then_ret (qw_retc rfl tabOk rfl rfl rfl ha35 rfl ?_)))); rotate_left 1
     all_goals exact tree_ret sits_nil (by assumption) X
   · rw [if_neg hu]
     have hin := peek_in hwf (Or.inl (upd_ne hu)); have hm2 := mS_next hin; have h2 := hin.2
     have hf : 4 * mS c.ts (nextP p.2) + 4 ≤ k := by omega
     have hcase : (peekP c.ts p.2).text = [43, 61] ∨ (peekP c.ts p.2).text = [45, 61] ∨ (peekP c.ts p.2).text = [94, 61] ∨ (peekP c.ts p.2).text = [58, 61] := by
      unfold updKind at hu
      by_cases e1 : (peekP c.ts p.2).text = [43, 61]
      · exact Or.inl e1
      by_cases e2 : (peekP c.ts p.2).text = [45, 61]
      · exact Or.inr (Or.inl e2)
      by_cases e3 : (peekP c.ts p.2).text = [94, 61]
      · exact Or.inr (Or.inr (Or.inl e3))
      by_cases e4 : (peekP c.ts p.2).text = [58, 61]
      · exact Or.inr (Or.inr (Or.inr e4))
      · simp [e1, e2, e3, e4] at hu
     rcases hcase with e | e | e | e
     · rw [show updKind (peekP c.ts p.2).text = 40 from by rw [e]; decide]
       refine calls_in Tryz.func61 Tryz.ntmps61 rfl rfl ?_
       focus
        refine cS ?_; (refine lw_alloc' [_, _, _, _] zOk rfl rfl ?_; intro bb1 wb2 nb3); have hb5 := nb3.blk; have xb6 := nb3.ext; have pb7 := nb3.pos; have zb8 := nb3.size; clear nb3; replace hP := hP.ext xb6; replace X := X.ext xb6; clear xb6; refine cN (C1 Mv ?_); refine cR (by kernel_rfl) rfl (hf1 (by assumption)) (fun _ _ h => h.ret) rfl ?_; rintro _ wb14 ⟨ab9, ⟨kb10, ⟨⟨⟩, ⟨hb11, ⟨hb12, fb13⟩⟩⟩⟩⟩; have zb15 := fb13.size; replace hb5 := hb5.fr fb13 (by omega); clear hP; replace X := X.fr fb13 (by omega); clear fb13; (refine lw_alloc' [_, _, _, _] zOk rfl rfl ?_; intro bb16 wb17 nb18); (refine lw_init' [_, _, _, _] tabOk rfl rfl rfl rfl rfl rfl nb18 rfl ?_; clear nb18; clear wb17; intro wb19 nb18); have hb20 := nb18.blk; have xb21 := nb18.ext; have pb22 := nb18.pos; have zb23 := nb18.size; clear nb18; replace hb11 := Nd.sits.ext hb11 xb21; replace hb12 := hb12.ext xb21; replace hb5 := hb5.ext xb21; replace X := X.ext xb21; clear xb21; refine cN (C1 Pa (cT (cw_seq (cS (C1 Mv ?_))))); refine cC rfl (peek_c _ _ _ (by assumption)) ?_; rintro _ wb25 ⟨⟨⟩, xb24⟩; have zb26 := xb24.size; replace hb20 := hb20.ext xb24; replace hb11 := Nd.sits.ext hb11 xb24; replace hb12 := hb12.ext xb24; replace hb5 := hb5.ext xb24; replace X := X.ext xb24; clear xb24; refine C1 (pur_field tabOk rfl rfl rfl rfl rfl rfl) (cT (cw_block (cS (C1 V8 (C1 Pa (cT (Wya (cw_region (C1 Pa (lw_nil (qw_block_norm ?_))))))))))); refine qw_then (cS (C1 Mv (C1 Pn (C1 Pf (lw_load_b tabOk rfl rfl rfl (PP.blk hb12) rfl rfl (C1 V7 (C1 Pn (C1 Pf ?_))))))))
        refine lw_pp_at tabOk rfl rfl rfl rfl (by assumption) h2 ?_; rintro wb27 hb28 fb29; have zb30 := fb29.size; replace hb20 := hb20.fr fb29 (by omega); replace hb11 := Nd.sits.fr hb11 fb29 (by omega); clear hb12; replace hb5 := hb5.fr fb29 (by omega); replace X := X.fr fb29 (by omega); clear fb29; refine cN (C1 Mv ?_); refine cR (by kernel_rfl) rfl ((exprs_c c k).expr _ _ _ (by assumption) hf (by decide) (by decide)) (fun _ _ h => h.ret) rfl ?_; rintro _ wb36 ⟨ab31, ⟨kb32, ⟨⟨⟩, ⟨hb33, ⟨hb34, fb35⟩⟩⟩⟩⟩; have zb37 := fb35.size; clear hb28; replace hb20 := hb20.fr fb35 (by omega); replace hb11 := Nd.sits.fr hb11 fb35 (by omega); replace hb5 := hb5.fr fb35 (by omega); replace X := X.fr fb35 (by omega); clear fb35; (refine lw_alloc' [_, _, _, _] zOk rfl rfl ?_; intro bb38 wb39 nb40); (refine lw_init' [_, _, _, _] tabOk rfl rfl rfl rfl rfl rfl nb40 rfl ?_; clear nb40; clear wb39; intro wb41 nb40); have hb42 := nb40.blk; have xb43 := nb40.ext; have pb44 := nb40.pos; have zb45 := nb40.size; clear nb40; replace hb33 := Nd.sits.ext hb33 xb43; replace hb34 := hb34.ext xb43; replace hb20 := hb20.ext xb43; replace hb11 := Nd.sits.ext hb11 xb43; replace hb5 := hb5.ext xb43; replace X := X.ext xb43; clear xb43; refine cN (C1 Mv (lw_loads_b' [_, _, _, _] tabOk rfl rfl rfl hb20 rfl rfl rfl (lw_loads_b' [_, _, _, _] tabOk rfl rfl rfl hb42 rfl rfl rfl ?_))); (refine lw_does (does_slice' [_, _, _, _, _, _, _, _] tabOk zOk rfl rfl rfl rfl rfl rfl rfl rfl rfl) rfl ?_ (fun _ h => h); rintro _ wb47 ⟨bb46, rfl, nb48, tb49⟩)
        clear tb49; have hb50 := nb48.blk; have xb51 := nb48.ext; have pb52 := nb48.pos; have zb53 := nb48.size; clear nb48; replace hb42 := hb42.ext xb51; replace hb33 := Nd.sits.ext hb33 xb51; replace hb34 := hb34.ext xb51; replace hb20 := hb20.ext xb51; replace hb11 := Nd.sits.ext hb11 xb51; replace hb5 := hb5.ext xb51; replace X := X.ext xb51; clear xb51; refine C1 (pur_build' [_, _, _, _] tabOk zOk rfl rfl rfl rfl) ?_; (refine lw_store' [_, _, _, _] [_, _, _, _] tabOk rfl rfl rfl rfl rfl rfl hb5 rfl rfl ?_; intro wb54 nb55); have hb58 := nb55.blk; have fb56 := nb55.fr; have zb57 := nb55.size; clear nb55 hb5; replace hb50 := hb50.fr fb56 (by omega); replace hb42 := hb42.fr fb56 (by omega); replace hb33 := Nd.sits.fr hb33 fb56 (by omega); replace hb34 := hb34.fr fb56 (by omega); replace hb20 := hb20.fr fb56 (by omega); replace hb11 := Nd.sits.fr hb11 fb56 (by omega); replace X := X.fr fb56 (by omega); clear fb56; refine cT (cw_ret (qw_retc rfl tabOk rfl rfl rfl hb58 rfl ?_)); rotate_left 1
       all_goals exact tree_ret (sits_2 (by assumption) (by omega) (by assumption) (fun b h => by omega) (by assumption) (fun b h => by omega)) (by assumption) X
     · rw [show updKind (peekP c.ts p.2).text = 41 from by rw [e]; decide]
       refine calls_in Tryz.func61 Tryz.ntmps61 rfl rfl ?_
       focus
        refine cS ?_; (refine lw_alloc' [_, _, _, _] zOk rfl rfl ?_; intro bc1 wc2 nc3); have hc5 := nc3.blk; have xc6 := nc3.ext; have pc7 := nc3.pos; have zc8 := nc3.size; clear nc3; replace hP := hP.ext xc6; replace X := X.ext xc6; clear xc6; refine cN (C1 Mv ?_); refine cR (by kernel_rfl) rfl (hf1 (by assumption)) (fun _ _ h => h.ret) rfl ?_; rintro _ wc14 ⟨ac9, ⟨kc10, ⟨⟨⟩, ⟨hc11, ⟨hc12, fc13⟩⟩⟩⟩⟩; have zc15 := fc13.size; replace hc5 := hc5.fr fc13 (by omega); clear hP; replace X := X.fr fc13 (by omega); clear fc13; (refine lw_alloc' [_, _, _, _] zOk rfl rfl ?_; intro bc16 wc17 nc18); (refine lw_init' [_, _, _, _] tabOk rfl rfl rfl rfl rfl rfl nc18 rfl ?_; clear nc18; clear wc17; intro wc19 nc18); have hc20 := nc18.blk; have xc21 := nc18.ext; have pc22 := nc18.pos; have zc23 := nc18.size; clear nc18; replace hc11 := Nd.sits.ext hc11 xc21; replace hc12 := hc12.ext xc21; replace hc5 := hc5.ext xc21; replace X := X.ext xc21; clear xc21; refine cN (C1 Pa (cT (cw_seq (cS (C1 Mv ?_))))); refine cC rfl (peek_c _ _ _ (by assumption)) ?_; rintro _ wc25 ⟨⟨⟩, xc24⟩; have zc26 := xc24.size; replace hc20 := hc20.ext xc24; replace hc11 := Nd.sits.ext hc11 xc24; replace hc12 := hc12.ext xc24; replace hc5 := hc5.ext xc24; replace X := X.ext xc24; clear xc24; refine C1 (pur_field tabOk rfl rfl rfl rfl rfl rfl) (cT (cw_block (cS (C1 V8 (C1 Pa (cT ?_)))))); refine cw_no rfl (fun hq9 => absurd (e.symm.trans hq9) (by decide)) ?_; refine cS (C1 V8 (C1 Pa (cT (Wya (cw_region (C1 Pa (lw_nil (qw_block_norm (qw_then (cS (C1 Mv ?_)))))))))))
        refine C1 Pn (C1 Pf (lw_load_b tabOk rfl rfl rfl (PP.blk hc12) rfl rfl (C1 V7 (C1 Pn (C1 Pf ?_))))); refine lw_pp_at tabOk rfl rfl rfl rfl (by assumption) h2 ?_; rintro wc27 hc28 fc29; have zc30 := fc29.size; replace hc20 := hc20.fr fc29 (by omega); replace hc11 := Nd.sits.fr hc11 fc29 (by omega); clear hc12; replace hc5 := hc5.fr fc29 (by omega); replace X := X.fr fc29 (by omega); clear fc29; refine cN (C1 Mv ?_); refine cR (by kernel_rfl) rfl ((exprs_c c k).expr _ _ _ (by assumption) hf (by decide) (by decide)) (fun _ _ h => h.ret) rfl ?_; rintro _ wc36 ⟨ac31, ⟨kc32, ⟨⟨⟩, ⟨hc33, ⟨hc34, fc35⟩⟩⟩⟩⟩; have zc37 := fc35.size; clear hc28; replace hc20 := hc20.fr fc35 (by omega); replace hc11 := Nd.sits.fr hc11 fc35 (by omega); replace hc5 := hc5.fr fc35 (by omega); replace X := X.fr fc35 (by omega); clear fc35; (refine lw_alloc' [_, _, _, _] zOk rfl rfl ?_; intro bc38 wc39 nc40); (refine lw_init' [_, _, _, _] tabOk rfl rfl rfl rfl rfl rfl nc40 rfl ?_; clear nc40; clear wc39; intro wc41 nc40); have hc42 := nc40.blk; have xc43 := nc40.ext; have pc44 := nc40.pos; have zc45 := nc40.size; clear nc40; replace hc33 := Nd.sits.ext hc33 xc43; replace hc34 := hc34.ext xc43; replace hc20 := hc20.ext xc43; replace hc11 := Nd.sits.ext hc11 xc43; replace hc5 := hc5.ext xc43; replace X := X.ext xc43; clear xc43; refine cN (C1 Mv (lw_loads_b' [_, _, _, _] tabOk rfl rfl rfl hc20 rfl rfl rfl (lw_loads_b' [_, _, _, _] tabOk rfl rfl rfl hc42 rfl rfl rfl ?_))); (refine lw_does (does_slice' [_, _, _, _, _, _, _, _] tabOk zOk rfl rfl rfl rfl rfl rfl rfl rfl rfl) rfl ?_ (fun _ h => h); rintro _ wc47 ⟨bc46, rfl, nc48, tc49⟩)
        clear tc49; have hc50 := nc48.blk; have xc51 := nc48.ext; have pc52 := nc48.pos; have zc53 := nc48.size; clear nc48; replace hc42 := hc42.ext xc51; replace hc33 := Nd.sits.ext hc33 xc51; replace hc34 := hc34.ext xc51; replace hc20 := hc20.ext xc51; replace hc11 := Nd.sits.ext hc11 xc51; replace hc5 := hc5.ext xc51; replace X := X.ext xc51; clear xc51; refine C1 (pur_build' [_, _, _, _] tabOk zOk rfl rfl rfl rfl) ?_; (refine lw_store' [_, _, _, _] [_, _, _, _] tabOk rfl rfl rfl rfl rfl rfl hc5 rfl rfl ?_; intro wc54 nc55); have hc58 := nc55.blk; have fc56 := nc55.fr; have zc57 := nc55.size; clear nc55 hc5; replace hc50 := hc50.fr fc56 (by omega); replace hc42 := hc42.fr fc56 (by omega); replace hc33 := Nd.sits.fr hc33 fc56 (by omega); replace hc34 := hc34.fr fc56 (by omega); replace hc20 := hc20.fr fc56 (by omega); replace hc11 := Nd.sits.fr hc11 fc56 (by omega); replace X := X.fr fc56 (by omega); clear fc56; refine cT (cw_ret (qw_retc rfl tabOk rfl rfl rfl hc58 rfl ?_)); rotate_left 1
       all_goals exact tree_ret (sits_2 (by assumption) (by omega) (by assumption) (fun b h => by omega) (by assumption) (fun b h => by omega)) (by assumption) X
     · rw [show updKind (peekP c.ts p.2).text = 42 from by rw [e]; decide]
       refine calls_in Tryz.func61 Tryz.ntmps61 rfl rfl ?_
       focus
        refine cS ?_; (refine lw_alloc' [_, _, _, _] zOk rfl rfl ?_; intro bd1 wd2 nd3); have hd5 := nd3.blk; have xd6 := nd3.ext; have pd7 := nd3.pos; have zd8 := nd3.size; clear nd3; replace hP := hP.ext xd6; replace X := X.ext xd6; clear xd6; refine cN (C1 Mv ?_); refine cR (by kernel_rfl) rfl (hf1 (by assumption)) (fun _ _ h => h.ret) rfl ?_; rintro _ wd14 ⟨ad9, ⟨kd10, ⟨⟨⟩, ⟨hd11, ⟨hd12, fd13⟩⟩⟩⟩⟩; have zd15 := fd13.size; replace hd5 := hd5.fr fd13 (by omega); clear hP; replace X := X.fr fd13 (by omega); clear fd13; (refine lw_alloc' [_, _, _, _] zOk rfl rfl ?_; intro bd16 wd17 nd18); (refine lw_init' [_, _, _, _] tabOk rfl rfl rfl rfl rfl rfl nd18 rfl ?_; clear nd18; clear wd17; intro wd19 nd18); have hd20 := nd18.blk; have xd21 := nd18.ext; have pd22 := nd18.pos; have zd23 := nd18.size; clear nd18; replace hd11 := Nd.sits.ext hd11 xd21; replace hd12 := hd12.ext xd21; replace hd5 := hd5.ext xd21; replace X := X.ext xd21; clear xd21; refine cN (C1 Pa (cT (cw_seq (cS (C1 Mv ?_))))); refine cC rfl (peek_c _ _ _ (by assumption)) ?_; rintro _ wd25 ⟨⟨⟩, xd24⟩; have zd26 := xd24.size; replace hd20 := hd20.ext xd24; replace hd11 := Nd.sits.ext hd11 xd24; replace hd12 := hd12.ext xd24; replace hd5 := hd5.ext xd24; replace X := X.ext xd24; clear xd24; refine C1 (pur_field tabOk rfl rfl rfl rfl rfl rfl) (cT (cw_block (cS (C1 V8 (C1 Pa (cT ?_)))))); refine cw_no rfl (fun hq9 => absurd (e.symm.trans hq9) (by decide)) ?_; refine cS (C1 V8 (C1 Pa (cT ?_))); refine cw_no rfl (fun hq9 => absurd (e.symm.trans hq9) (by decide)) ?_
        refine cS (C1 V8 (C1 Pa (cT (Wya (cw_region (C1 Pa (lw_nil (qw_block_norm (qw_then (cS (C1 Mv ?_))))))))))); refine C1 Pn (C1 Pf (lw_load_b tabOk rfl rfl rfl (PP.blk hd12) rfl rfl (C1 V7 (C1 Pn (C1 Pf ?_))))); refine lw_pp_at tabOk rfl rfl rfl rfl (by assumption) h2 ?_; rintro wd27 hd28 fd29; have zd30 := fd29.size; replace hd20 := hd20.fr fd29 (by omega); replace hd11 := Nd.sits.fr hd11 fd29 (by omega); clear hd12; replace hd5 := hd5.fr fd29 (by omega); replace X := X.fr fd29 (by omega); clear fd29; refine cN (C1 Mv ?_); refine cR (by kernel_rfl) rfl ((exprs_c c k).expr _ _ _ (by assumption) hf (by decide) (by decide)) (fun _ _ h => h.ret) rfl ?_; rintro _ wd36 ⟨ad31, ⟨kd32, ⟨⟨⟩, ⟨hd33, ⟨hd34, fd35⟩⟩⟩⟩⟩; have zd37 := fd35.size; clear hd28; replace hd20 := hd20.fr fd35 (by omega); replace hd11 := Nd.sits.fr hd11 fd35 (by omega); replace hd5 := hd5.fr fd35 (by omega); replace X := X.fr fd35 (by omega); clear fd35; (refine lw_alloc' [_, _, _, _] zOk rfl rfl ?_; intro bd38 wd39 nd40); (refine lw_init' [_, _, _, _] tabOk rfl rfl rfl rfl rfl rfl nd40 rfl ?_; clear nd40; clear wd39; intro wd41 nd40); have hd42 := nd40.blk; have xd43 := nd40.ext; have pd44 := nd40.pos; have zd45 := nd40.size; clear nd40; replace hd33 := Nd.sits.ext hd33 xd43; replace hd34 := hd34.ext xd43; replace hd20 := hd20.ext xd43; replace hd11 := Nd.sits.ext hd11 xd43; replace hd5 := hd5.ext xd43; replace X := X.ext xd43; clear xd43; refine cN (C1 Mv (lw_loads_b' [_, _, _, _] tabOk rfl rfl rfl hd20 rfl rfl rfl (lw_loads_b' [_, _, _, _] tabOk rfl rfl rfl hd42 rfl rfl rfl ?_)))
        (refine lw_does (does_slice' [_, _, _, _, _, _, _, _] tabOk zOk rfl rfl rfl rfl rfl rfl rfl rfl rfl) rfl ?_ (fun _ h => h); rintro _ wd47 ⟨bd46, rfl, nd48, td49⟩); clear td49; have hd50 := nd48.blk; have xd51 := nd48.ext; have pd52 := nd48.pos; have zd53 := nd48.size; clear nd48; replace hd42 := hd42.ext xd51; replace hd33 := Nd.sits.ext hd33 xd51; replace hd34 := hd34.ext xd51; replace hd20 := hd20.ext xd51; replace hd11 := Nd.sits.ext hd11 xd51; replace hd5 := hd5.ext xd51; replace X := X.ext xd51; clear xd51; refine C1 (pur_build' [_, _, _, _] tabOk zOk rfl rfl rfl rfl) ?_; (refine lw_store' [_, _, _, _] [_, _, _, _] tabOk rfl rfl rfl rfl rfl rfl hd5 rfl rfl ?_; intro wd54 nd55); have hd58 := nd55.blk; have fd56 := nd55.fr; have zd57 := nd55.size; clear nd55 hd5; replace hd50 := hd50.fr fd56 (by omega); replace hd42 := hd42.fr fd56 (by omega); replace hd33 := Nd.sits.fr hd33 fd56 (by omega); replace hd34 := hd34.fr fd56 (by omega); replace hd20 := hd20.fr fd56 (by omega); replace hd11 := Nd.sits.fr hd11 fd56 (by omega); replace X := X.fr fd56 (by omega); clear fd56; refine cT (cw_ret (qw_retc rfl tabOk rfl rfl rfl hd58 rfl ?_)); rotate_left 1
       all_goals exact tree_ret (sits_2 (by assumption) (by omega) (by assumption) (fun b h => by omega) (by assumption) (fun b h => by omega)) (by assumption) X
     · rw [show updKind (peekP c.ts p.2).text = 56 from by rw [e]; decide]
       refine calls_in Tryz.func61 Tryz.ntmps61 rfl rfl ?_
       focus
        refine cS ?_; (refine lw_alloc' [_, _, _, _] zOk rfl rfl ?_; intro be1 we2 ne3); have he5 := ne3.blk; have xe6 := ne3.ext; have pe7 := ne3.pos; have ze8 := ne3.size; clear ne3; replace hP := hP.ext xe6; replace X := X.ext xe6; clear xe6; refine cN (C1 Mv ?_); refine cR (by kernel_rfl) rfl (hf1 (by assumption)) (fun _ _ h => h.ret) rfl ?_; rintro _ we14 ⟨ae9, ⟨ke10, ⟨⟨⟩, ⟨he11, ⟨he12, fe13⟩⟩⟩⟩⟩; have ze15 := fe13.size; replace he5 := he5.fr fe13 (by omega); clear hP; replace X := X.fr fe13 (by omega); clear fe13; (refine lw_alloc' [_, _, _, _] zOk rfl rfl ?_; intro be16 we17 ne18); (refine lw_init' [_, _, _, _] tabOk rfl rfl rfl rfl rfl rfl ne18 rfl ?_; clear ne18; clear we17; intro we19 ne18); have he20 := ne18.blk; have xe21 := ne18.ext; have pe22 := ne18.pos; have ze23 := ne18.size; clear ne18; replace he11 := Nd.sits.ext he11 xe21; replace he12 := he12.ext xe21; replace he5 := he5.ext xe21; replace X := X.ext xe21; clear xe21; refine cN (C1 Pa (cT (cw_seq (cS (C1 Mv ?_))))); refine cC rfl (peek_c _ _ _ (by assumption)) ?_; rintro _ we25 ⟨⟨⟩, xe24⟩; have ze26 := xe24.size; replace he20 := he20.ext xe24; replace he11 := Nd.sits.ext he11 xe24; replace he12 := he12.ext xe24; replace he5 := he5.ext xe24; replace X := X.ext xe24; clear xe24; refine C1 (pur_field tabOk rfl rfl rfl rfl rfl rfl) (cT (cw_block (cS (C1 V8 (C1 Pa (cT ?_)))))); refine cw_no rfl (fun hq9 => absurd (e.symm.trans hq9) (by decide)) ?_; refine cS (C1 V8 (C1 Pa (cT ?_))); refine cw_no rfl (fun hq9 => absurd (e.symm.trans hq9) (by decide)) ?_
        refine cS (C1 V8 (C1 Pa (cT ?_))); refine cw_no rfl (fun hq9 => absurd (e.symm.trans hq9) (by decide)) ?_; refine cS (C1 V8 (C1 Pa (cT (Wya (cw_region (C1 Pa (lw_nil (qw_block_norm (qw_then (cS (C1 Mv ?_))))))))))); refine C1 Pn (C1 Pf (lw_load_b tabOk rfl rfl rfl (PP.blk he12) rfl rfl (C1 V7 (C1 Pn (C1 Pf ?_))))); refine lw_pp_at tabOk rfl rfl rfl rfl (by assumption) h2 ?_; rintro we27 he28 fe29; have ze30 := fe29.size; replace he20 := he20.fr fe29 (by omega); replace he11 := Nd.sits.fr he11 fe29 (by omega); clear he12; replace he5 := he5.fr fe29 (by omega); replace X := X.fr fe29 (by omega); clear fe29; refine cN (C1 Mv ?_); refine cR (by kernel_rfl) rfl ((exprs_c c k).expr _ _ _ (by assumption) hf (by decide) (by decide)) (fun _ _ h => h.ret) rfl ?_; rintro _ we36 ⟨ae31, ⟨ke32, ⟨⟨⟩, ⟨he33, ⟨he34, fe35⟩⟩⟩⟩⟩; have ze37 := fe35.size; clear he28; replace he20 := he20.fr fe35 (by omega); replace he11 := Nd.sits.fr he11 fe35 (by omega); replace he5 := he5.fr fe35 (by omega); replace X := X.fr fe35 (by omega); clear fe35; (refine lw_alloc' [_, _, _, _] zOk rfl rfl ?_; intro be38 we39 ne40); (refine lw_init' [_, _, _, _] tabOk rfl rfl rfl rfl rfl rfl ne40 rfl ?_; clear ne40; clear we39; intro we41 ne40); have he42 := ne40.blk; have xe43 := ne40.ext; have pe44 := ne40.pos; have ze45 := ne40.size; clear ne40; replace he33 := Nd.sits.ext he33 xe43; replace he34 := he34.ext xe43; replace he20 := he20.ext xe43; replace he11 := Nd.sits.ext he11 xe43; replace he5 := he5.ext xe43; replace X := X.ext xe43
        clear xe43; refine cN (C1 Mv (lw_loads_b' [_, _, _, _] tabOk rfl rfl rfl he20 rfl rfl rfl (lw_loads_b' [_, _, _, _] tabOk rfl rfl rfl he42 rfl rfl rfl ?_))); (refine lw_does (does_slice' [_, _, _, _, _, _, _, _] tabOk zOk rfl rfl rfl rfl rfl rfl rfl rfl rfl) rfl ?_ (fun _ h => h); rintro _ we47 ⟨be46, rfl, ne48, te49⟩); clear te49; have he50 := ne48.blk; have xe51 := ne48.ext; have pe52 := ne48.pos; have ze53 := ne48.size; clear ne48; replace he42 := he42.ext xe51; replace he33 := Nd.sits.ext he33 xe51; replace he34 := he34.ext xe51; replace he20 := he20.ext xe51; replace he11 := Nd.sits.ext he11 xe51; replace he5 := he5.ext xe51; replace X := X.ext xe51; clear xe51; refine C1 (pur_build' [_, _, _, _] tabOk zOk rfl rfl rfl rfl) ?_; (refine lw_store' [_, _, _, _] [_, _, _, _] tabOk rfl rfl rfl rfl rfl rfl he5 rfl rfl ?_; intro we54 ne55); have he58 := ne55.blk; have fe56 := ne55.fr; have ze57 := ne55.size; clear ne55 he5; replace he50 := he50.fr fe56 (by omega); replace he42 := he42.fr fe56 (by omega); replace he33 := Nd.sits.fr he33 fe56 (by omega); replace he34 := he34.fr fe56 (by omega); replace he20 := he20.fr fe56 (by omega); replace he11 := Nd.sits.fr he11 fe56 (by omega); replace X := X.fr fe56 (by omega); clear fe56; refine cT (cw_ret (qw_retc rfl tabOk rfl rfl rfl he58 rfl ?_)); rotate_left 1
       all_goals exact tree_ret (sits_2 (by assumption) (by omega) (by assumption) (fun b h => by omega) (by assumption) (fun b h => by omega)) (by assumption) X
end Bk
namespace Bk
open Go Go.RowKit Go.Proofs
attribute [local irreducible] Go.Calls
theorem peek_len_of {c : PC} {σ : PS} {w : World} (hP : PP c σ w) (ρ : PS) : (peekP c.ts ρ).text.length ≤ 1000000 := by
 unfold peekP
 split
 · simp [Tok.zero]
 · rw [List.getD_eq_getElem?_getD]
   rcases Nat.lt_or_ge ρ.at_ c.ts.length with h | h
   · rw [List.getElem?_eq_getElem h]; exact hP.tok _ (List.getElem_mem h)
   · rw [List.getElem?_eq_none h]; simp [Tok.zero]
set_option maxRecDepth 100000 in
set_option maxHeartbeats 2000000 in
theorem callStmt_c (c : PC) (k : Nat) (kind : Int) (σ : PS) (w : World) (hP : PP c σ w) (hi : In c.ts σ) (hk : 4 * mS c.ts σ ≤ k) :
 Calls Tryz.prog 58 #[.pointer (some ⟨c.pb, 0, none⟩), .int .u8 kind] w (TreeR c w (callP c.ts c.n k kind σ)) := by
 have X := Fr.refl (· = c.pb) w; have hpb := hP.pbB; have hB := hP.B; have hlen := hP.len; have h2 := hi.2; have hm := mS_next hi; have hl1 := next_le hi; have hl2 := hl1.trans (name_le (n := c.n) hl1.wf); have hl3 := hl2.trans (expect_le (n := c.n) (t := [40]) hl2.wf (by decide))
 unfold callP
 dsimp only
 generalize hM : nameP c.ts c.n (nextP σ) = M at *
 have hname : ∀ {w' : World}, PP c (nextP σ) w' → Calls Tryz.prog 93 #[.pointer (some ⟨c.pb, 0, none⟩)] w' fun r w'' => r = .returned (str M.1) ∧ PP c M.2 w'' ∧ Fr (· = c.pb) w' w'' := fun h => hM ▸ name_c c _ _ h
 cases hh : hasP c.ts (expectP c.ts c.n M.2 [40]) [41]
 case true =>
  simp only [if_true]; refine calls_in Tryz.func58 Tryz.ntmps58 rfl rfl ?_
  focus
   refine cS ?_; (refine lw_alloc' [_, _, _, _] zOk rfl rfl ?_; intro b1 w2 n3); have h5 := n3.blk; have x6 := n3.ext; have p7 := n3.pos; have z8 := n3.size; clear n3; replace hP := hP.ext x6; replace X := X.ext x6; clear x6; refine cN (C1 Mv (C1 Pn (C1 Pf (lw_load_b tabOk rfl rfl rfl (PP.blk hP) rfl rfl (C1 V7 (C1 Pn (C1 Pf ?_))))))); refine lw_pp_at tabOk rfl rfl rfl rfl (by assumption) h2 ?_; rintro w9 h10 f11; have z12 := f11.size; replace h5 := h5.fr f11 (by omega); clear hP; replace X := X.fr f11 (by omega); clear f11; refine cN (C1 Mv (C1 Mv ?_)); refine cC rfl (hname (by assumption)) ?_; rintro _ w15 ⟨⟨⟩, ⟨h13, f14⟩⟩; have z16 := f14.size; clear h10; replace h5 := h5.fr f14 (by omega); replace X := X.fr f14 (by omega); clear f14; refine C1 (pur_build' [_, _, _, _] tabOk zOk rfl rfl rfl rfl) ?_; (refine lw_alloc' [_, _, _, _] zOk rfl rfl ?_; intro b17 w18 n19); (refine lw_init' [_, _, _, _] tabOk rfl rfl rfl rfl rfl rfl n19 rfl ?_; clear n19; clear w18; intro w20 n19); have h21 := n19.blk; have x22 := n19.ext; have p23 := n19.pos; have z24 := n19.size; clear n19; replace h13 := h13.ext x22; replace h5 := h5.ext x22; replace X := X.ext x22; clear x22; refine cN (C1 Mv ?_); refine cC rfl (expect_c _ _ _ _ (by assumption) (by decide)) ?_; rintro _ w27 ⟨⟨⟩, ⟨h25, f26⟩⟩; have z28 := f26.size; replace h21 := h21.fr f26 (by omega); clear h13; replace h5 := h5.fr f26 (by omega); replace X := X.fr f26 (by omega); clear f26; refine cT (cw_seq (cS (C1 Mv ?_))); refine cC rfl (accept_t _ _ _ _ (by assumption) (by decide) (by assumption)) ?_
   rintro _ w31 ⟨⟨⟩, ⟨h29, f30⟩⟩; have z32 := f30.size; clear h25; replace h21 := h21.fr f30 (by omega); replace h5 := h5.fr f30 (by omega); replace X := X.fr f30 (by omega); clear f30; refine cT (cw_cond_t rfl (cS (lw_loads_b' [_, _, _, _] tabOk rfl rfl rfl h21 rfl rfl rfl ?_))); (refine lw_store' [_, _, _, _] [_, _, _, _] tabOk rfl rfl rfl rfl rfl rfl h5 rfl rfl ?_; intro w33 n34); have h37 := n34.blk; have f35 := n34.fr; have z36 := n34.size; clear n34 h5; replace h29 := h29.fr f35 (by omega); replace h21 := h21.fr f35 (by omega); replace X := X.fr f35 (by omega); clear f35; refine cT (cw_ret (qw_then_ret (qw_retc rfl tabOk rfl rfl rfl h37 rfl ?_))); rotate_left 1
  exact tree_ret sits_nil (by assumption) X
 simp only [Bool.false_eq_true, if_false]; refine calls_in Tryz.func58 Tryz.ntmps58 rfl rfl ?_
 focus
  refine cS ?_; (refine lw_alloc' [_, _, _, _] zOk rfl rfl ?_; intro ba1 wa2 na3); have ha5 := na3.blk; have xa6 := na3.ext; have pa7 := na3.pos; have za8 := na3.size; clear na3; replace hP := hP.ext xa6; replace X := X.ext xa6; clear xa6; refine cN (C1 Mv (C1 Pn (C1 Pf (lw_load_b tabOk rfl rfl rfl (PP.blk hP) rfl rfl (C1 V7 (C1 Pn (C1 Pf ?_))))))); refine lw_pp_at tabOk rfl rfl rfl rfl (by assumption) h2 ?_; rintro wa9 ha10 fa11; have za12 := fa11.size; replace ha5 := ha5.fr fa11 (by omega); clear hP; replace X := X.fr fa11 (by omega); clear fa11; refine cN (C1 Mv (C1 Mv ?_)); refine cC rfl (hname (by assumption)) ?_; rintro _ wa15 ⟨⟨⟩, ⟨ha13, fa14⟩⟩; have za16 := fa14.size; clear ha10; replace ha5 := ha5.fr fa14 (by omega); replace X := X.fr fa14 (by omega); clear fa14; refine C1 (pur_build' [_, _, _, _] tabOk zOk rfl rfl rfl rfl) ?_; (refine lw_alloc' [_, _, _, _] zOk rfl rfl ?_; intro ba17 wa18 na19); (refine lw_init' [_, _, _, _] tabOk rfl rfl rfl rfl rfl rfl na19 rfl ?_; clear na19; clear wa18; intro wa20 na19); have ha21 := na19.blk; have xa22 := na19.ext; have pa23 := na19.pos; have za24 := na19.size; clear na19; replace ha13 := ha13.ext xa22; replace ha5 := ha5.ext xa22; replace X := X.ext xa22; clear xa22; refine cN (C1 Mv ?_); refine cC rfl (expect_c _ _ _ _ (by assumption) (by decide)) ?_; rintro _ wa27 ⟨⟨⟩, ⟨ha25, fa26⟩⟩; have za28 := fa26.size; replace ha21 := ha21.fr fa26 (by omega); clear ha13; replace ha5 := ha5.fr fa26 (by omega); replace X := X.fr fa26 (by omega)
  clear fa26; refine cT (cw_seq (cS (C1 Mv ?_))); refine cC rfl (accept_f _ _ _ _ (by assumption) (by decide) (by assumption)) ?_; rintro _ wa31 ⟨⟨⟩, ⟨ha29, fa30⟩⟩; have za32 := fa30.size; clear ha25; replace ha21 := ha21.fr fa30 (by omega); replace ha5 := ha5.fr fa30 (by omega); replace X := X.fr fa30 (by omega); clear fa30; refine cT (cw_cond_f rfl (cw_skip (qw_then (cw_seq ?_)))); (refine cw_tdraw (fun wz => Fr (· = c.pb) wa31 wz) 5 (.pure 0 (.pure 1 (.pure 2 (.fork 3 (.fork 4 .tail .none) .none)))) mixed (by kernel_rfl) (panicOk_then panicOk_body) ?_; intro wa33 xa34 _); have qsa35 : (fun wz => Fr (· = c.pb) wa31 wz) wa33 := Fr.of_ext xa34; simp only at qsa35; have d_ha29 := ha29; have d_ha21 := ha21; have d_ha5 := ha5; have za36 := xa34.size; replace ha29 := ha29.ext xa34; replace ha21 := ha21.ext xa34; replace ha5 := ha5.ext xa34; replace X := X.ext xa34; clear xa34; refine ⟨qsa35, ?_⟩; refine Tq rfl Pf ?_; refine Tq rfl (pur_load tabOk rfl rfl rfl (fun wz hz => Blk.cell (Blk.fr d_ha21 hz (by omega)) rfl)) ?_; refine Tq rfl Mv ?_; refine tw_does rfl (does_call (by kernel_rfl) rfl (argument_c _ _ _ (by assumption)) (fun _ _ h => h.ret)) rfl ?_ (fun _ h => h) tw_none; rintro _ wa42 ⟨aa37, ⟨ka38, ⟨⟨⟩, ⟨ha39, ⟨ha40, fa41⟩⟩⟩⟩⟩; have za43 := fa41.size; replace qsa35 := qsa35.fr fa41 (by omega); clear ha29; replace ha21 := ha21.fr fa41 (by omega); replace ha5 := ha5.fr fa41 (by omega); replace X := X.fr fa41 (by omega); clear fa41; refine ⟨qsa35, ?_⟩; (refine tw_does rfl (does_slice' [_, _, _, _] tabOk zOk rfl rfl rfl rfl rfl rfl rfl rfl rfl) rfl ?_ (fun _ h => h) tw_none; rintro _ wa45 ⟨ba44, rfl, na46, ta47⟩)
  clear ta47; have ha48 := na46.blk; have xa49 := na46.ext; have pa50 := na46.pos; have za51 := na46.size; clear na46; replace ha39 := Nd.sits.ext ha39 xa49; replace ha40 := ha40.ext xa49; replace qsa35 := qsa35.ext xa49; replace ha21 := ha21.ext xa49; replace ha5 := ha5.ext xa49; replace X := X.ext xa49; clear xa49; refine ⟨qsa35, ?_⟩; clear d_ha29 d_ha21 d_ha5 qsa35; refine tw_tail rfl ?_; rotate_left 1
 refine lw_appendL (sh := ndShape) (B := ba17 + 1) tabOk zOk rfl rfl rfl rfl (by kernel_rfl) rfl rfl rfl OwnL.nil (Blk.row ha48) ⟨_, _, rfl, sits_nil⟩ (by simp) (by omega) rfl ?_; intro g cap wA hown fA; have zA := fA.size; replace ha40 := ha40.fr fA (fun k hk => by omega); replace ha21 := ha21.fr fA (by omega); replace ha5 := ha5.fr fA (by omega); replace X := X.fr fA (fun k hk => Or.inr (by omega)); clear fA ha48 ha39
 focus
  refine C1 Pf ?_; (refine lw_store' [_] [_, _, _, _] tabOk rfl rfl rfl rfl rfl rfl ha21 rfl rfl ?_; intro wb1 nb2); have hb5 := nb2.blk; have fb3 := nb2.fr; have zb4 := nb2.size; clear nb2 ha21; replace hown := hown.fr fb3 (by omega); replace ha40 := ha40.fr fb3 (by omega); replace ha5 := ha5.fr fb3 (by omega); replace X := X.fr fb3 (by omega); clear fb3; refine cT (cw_seq (cw_block ?_)); rotate_left 1
 generalize ha : argP c.ts c.n (expectP c.ts c.n M.2 [40]) = A at *
 have hA : Le c.ts σ A.2 := by rw [← ha]; exact hl3.trans (name_le (n := c.n) hl3.wf)
 have hl4 := mS_le hA
 have hmt : mS c.ts σ ≤ c.ts.length := by unfold mS; split <;> omega
 refine cw_loop (ι := Nat × List Nd × Nat × Nat × PS) (fun _ => [(0, .pointer (some ⟨c.pb, 0, none⟩)), (4, .pointer (some ⟨ba1, 0, none⟩)), (5, .pointer (some ⟨ba17, 0, none⟩))])
  (fun x w' => PP c x.2.2.2.2 w' ∧ Blk w' ba17 [.int .u8 kind, .int .i64 0, str M.1, .slice (some ⟨x.2.2.1, 0, none⟩) x.2.1.length x.2.2.2.1] ∧ OwnL ndShape w' (ba17 + 1) 26 (.slice (some ⟨x.2.2.1, 0, none⟩) x.2.1.length x.2.2.2.1) x.2.1 ∧
   Blk w' ba1 [.int .u8 0, .int .i64 0, .string ⟨#[]⟩, .slice none 0 0] ∧ Fr (· = c.pb) w w' ∧ wb1.heap.size ≤ w'.heap.size ∧
   argsP c.ts c.n k [A.1] A.2 = argsP c.ts c.n x.1 x.2.1 x.2.2.2.2 ∧ mS c.ts x.2.2.2.2 + 1 ≤ x.1 ∧ x.2.1.length + mS c.ts x.2.2.2.2 ≤ 1000001) (fun x => x.1) (k, [A.1], g, cap, A.2) (by (refine sub_cons rfl ?_; refine sub_cons rfl ?_; refine sub_cons rfl ?_; exact sub_nil))
  ⟨by assumption, hb5, hown, by assumption, X, Nat.le_refl _, rfl, by simp only; omega, by simp only [List.length_cons, List.length_nil]; omega⟩ ?_
 rintro ⟨j, acc, g, cap, σ'⟩ w1 ⟨hP, hbn, hown, hbr, X, hz, he, hfj, hacc⟩; simp only at hP hbn hown he hfj hacc; clear hb5 hM hname; rw [he]; obtain ⟨j, rfl⟩ : ∃ i, j = i + 1 := ⟨j - 1, by omega⟩
 cases hc : hasP c.ts σ' [44]
 case false =>
  rw [show argsP c.ts c.n (j + 1) acc σ' = (acc, σ') from by rw [argsP]; simp [hc]]
  focus
   refine cw_seq (cS (C1 Mv ?_)); refine cC rfl (accept_f _ _ _ _ (by assumption) (by decide) (by assumption)) ?_; rintro _ wc3 ⟨⟨⟩, ⟨hc1, fc2⟩⟩; have zc4 := fc2.size; clear hP; replace hbn := hbn.fr fc2 (by omega); replace hown := hown.fr fc2 (by omega); replace hbr := hbr.fr fc2 (by omega); replace X := X.fr fc2 (by omega); clear fc2; refine cT (cw_cond_f rfl (cw_exit (qw_then_exit (qw_then_exit (qw_block_exit (qw_then (cS (C1 Mv ?_)))))))); refine cC rfl (expect_c _ _ _ _ (by assumption) (by decide)) ?_; rintro _ wc7 ⟨⟨⟩, ⟨hc5, fc6⟩⟩; have zc8 := fc6.size; clear hc1; replace hbn := hbn.fr fc6 (by omega); replace hown := hown.fr fc6 (by omega); replace hbr := hbr.fr fc6 (by omega); replace X := X.fr fc6 (by omega); clear fc6; refine cN (lw_loads_b' [_, _, _, _] tabOk rfl rfl rfl hbn rfl rfl rfl ?_); (refine lw_store' [_, _, _, _] [_, _, _, _] tabOk rfl rfl rfl rfl rfl rfl hbr rfl rfl ?_; intro wc9 nc10); have hc13 := nc10.blk; have fc11 := nc10.fr; have zc12 := nc10.size; clear nc10 hbr; replace hc5 := hc5.fr fc11 (by omega); replace hbn := hbn.fr fc11 (by omega); replace hown := hown.fr fc11 (by omega); replace X := X.fr fc11 (by omega); clear fc11; refine cT (cw_ret (qw_retc rfl tabOk rfl rfl rfl hc13 rfl ?_)); rotate_left 1
  exact tree_ret (sits_mk (hown.sits (fun b h => by omega))) (by assumption) X
 have hin := has_in hP.at_ hc (by decide); have hmn := mS_next hin; have hnl := peek_len_of hP (nextP σ')
 by_cases h8 : acc.length = 8
 · cases hnm : isName (peekP c.ts (nextP σ')).text
   · rw [show argsP c.ts c.n (j + 1) acc σ' = argsP c.ts c.n j (acc ++ [(argP c.ts c.n (nextP σ')).1]) (argP c.ts c.n (nextP σ')).2 from by rw [argsP]; simp [hc, h8, hnm]]
     have hml := mS_le (name_le (n := c.n) (show (nextP σ').at_ ≤ c.ts.length from hin.2)); have hml2 : mS c.ts (argP c.ts c.n (nextP σ')).2 ≤ mS c.ts (nextP σ') := hml
     focus
      refine cw_seq (cS (C1 Mv ?_)); refine cC rfl (accept_t _ _ _ _ (by assumption) (by decide) (by assumption)) ?_; rintro _ wd3 ⟨⟨⟩, ⟨hd1, fd2⟩⟩; have zd4 := fd2.size; clear hP; replace hbn := hbn.fr fd2 (by omega); replace hown := hown.fr fd2 (by omega); replace hbr := hbr.fr fd2 (by omega); replace X := X.fr fd2 (by omega); clear fd2; refine cT (cw_cond_t rfl (cw_skip (qw_then (cw_block (cw_seq (cS (C1 Mv ?_))))))); refine cC rfl (peek_c _ _ _ (by assumption)) ?_; rintro _ wd6 ⟨⟨⟩, xd5⟩; have zd7 := xd5.size; replace hd1 := hd1.ext xd5; replace hbn := hbn.ext xd5; replace hown := hown.ext xd5; replace hbr := hbr.ext xd5; replace X := X.ext xd5; clear xd5; (refine lw_alloc' [_, _, _] zOk rfl rfl ?_; intro bd8 wd9 nd10); (refine lw_init' [_, _, _] tabOk rfl rfl rfl rfl rfl rfl nd10 rfl ?_; clear nd10; clear wd9; intro wd11 nd10); have hd12 := nd10.blk; have xd13 := nd10.ext; have pd14 := nd10.pos; have zd15 := nd10.size; clear nd10; replace hd1 := hd1.ext xd13; replace hbn := hbn.ext xd13; replace hown := hown.ext xd13; replace hbr := hbr.ext xd13; replace X := X.ext xd13; clear xd13; refine cN (C1 Pf (C1 (Pl hbn) (C1 Pz (C1 V1 (C1 Mv (Gyo (C1 Pf (Gyo (C1 (Pl hd12) (Gyo ?_)))))))))); refine cC rfl (Name_c _ _ (by omega)) ?_; rintro _ wd17 ⟨⟨⟩, xd16⟩; have zd18 := xd16.size; replace hd12 := hd12.ext xd16; replace hd1 := hd1.ext xd16; replace hbn := hbn.ext xd16; replace hown := hown.ext xd16; replace hbr := hbr.ext xd16; replace X := X.ext xd16; clear xd16; refine C1 Qyo (cT ?_)
      refine cw_bf rfl (by assumption) ?_; refine cw_skip (qw_then ?_); (refine cw_tdraw (fun wz => Fr (· = c.pb) wd17 wz) 5 (.pure 0 (.pure 1 (.pure 2 (.fork 3 (.fork 4 .tail .none) .none)))) mixed (by kernel_rfl) (panicOk_block (panicOk_then (panicOk_block (panicOk_then panicOk_body)))) ?_; intro wd19 xd20 _); have qsd21 : (fun wz => Fr (· = c.pb) wd17 wz) wd19 := Fr.of_ext xd20; simp only at qsd21; have d_hd12 := hd12; have d_hd1 := hd1; have d_hbn := hbn; have d_hown := hown; have d_hbr := hbr; have zd22 := xd20.size; replace hd12 := hd12.ext xd20; replace hd1 := hd1.ext xd20; replace hbn := hbn.ext xd20; replace hown := hown.ext xd20; replace hbr := hbr.ext xd20; replace X := X.ext xd20; clear xd20; refine ⟨qsd21, ?_⟩; refine Tq rfl Pf ?_; refine Tq rfl (pur_load tabOk rfl rfl rfl (fun wz hz => Blk.cell (Blk.fr d_hbn hz (by omega)) rfl)) ?_; refine Tq rfl Mv ?_; refine tw_does rfl (does_call (by kernel_rfl) rfl (argument_c _ _ _ (by assumption)) (fun _ _ h => h.ret)) rfl ?_ (fun _ h => h) tw_none; rintro _ wd28 ⟨ad23, ⟨kd24, ⟨⟨⟩, ⟨hd25, ⟨hd26, fd27⟩⟩⟩⟩⟩; have zd29 := fd27.size; replace qsd21 := qsd21.fr fd27 (by omega); replace hd12 := hd12.fr fd27 (by omega); clear hd1; replace hbn := hbn.fr fd27 (by omega); replace hown := hown.fr fd27 (by omega); replace hbr := hbr.fr fd27 (by omega); replace X := X.fr fd27 (by omega); clear fd27; refine ⟨qsd21, ?_⟩; (refine tw_does rfl (does_slice' [_, _, _, _] tabOk zOk rfl rfl rfl rfl rfl rfl rfl rfl rfl) rfl ?_ (fun _ h => h) tw_none; rintro _ wd31 ⟨bd30, rfl, nd32, td33⟩)
      clear td33; have hd34 := nd32.blk; have xd35 := nd32.ext; have pd36 := nd32.pos; have zd37 := nd32.size; clear nd32; replace hd25 := Nd.sits.ext hd25 xd35; replace hd26 := hd26.ext xd35; replace qsd21 := qsd21.ext xd35; replace hd12 := hd12.ext xd35; replace hbn := hbn.ext xd35; replace hown := hown.ext xd35; replace hbr := hbr.ext xd35; replace X := X.ext xd35; clear xd35; refine ⟨qsd21, ?_⟩; clear d_hd12 d_hd1 d_hbn d_hown d_hbr qsd21; refine tw_tail rfl ?_; refine lw_appendL (sh := ndShape) tabOk zOk rfl rfl rfl rfl (by kernel_rfl) rfl rfl rfl hown (Blk.row (by assumption)) ⟨_, _, rfl, sits_nil⟩ (by omega) (by omega) rfl ?_; rintro gd38 cap'd39 wd40 hd41 fd42; have zd43 := fd42.size; clear hd34 hd25; replace hd26 := hd26.fr fd42 (by omega); clear hd12; replace hbn := hbn.fr fd42 (by omega); clear hown; replace hbr := hbr.fr fd42 (by omega); replace X := X.fr fd42 (by omega); clear fd42; refine C1 Pf ?_; (refine lw_store' [_] [_, _, _, _] tabOk rfl rfl rfl rfl rfl rfl hbn rfl rfl ?_; intro wd44 nd45); have hd48 := nd45.blk; have fd46 := nd45.fr; have zd47 := nd45.size; clear nd45 hbn; replace hd41 := hd41.fr fd46 (by omega); replace hd26 := hd26.fr fd46 (by omega); replace hbr := hbr.fr fd46 (by omega); replace X := X.fr fd46 (by omega); clear fd46; refine lw_nil (qw_block_norm ?_); rotate_left 1
     refine qw_round (j, acc ++ [(argP c.ts c.n (nextP σ')).1], _, _, (argP c.ts c.n (nextP σ')).2) (by (refine sub_cons rfl ?_; refine sub_cons rfl ?_; refine sub_cons rfl ?_; exact sub_nil)) ⟨by assumption, by assumption, by assumption, by assumption, X, by omega, rfl, by simp only; omega, by simp only [List.length_append, List.length_cons, List.length_nil]; omega⟩ (by simp)
   · rw [show argsP c.ts c.n (j + 1) acc σ' = argsP c.ts c.n j (acc ++ [(argP c.ts c.n (failP (nextP σ') (peekP c.ts (nextP σ')).pos 5)).1]) (argP c.ts c.n (failP (nextP σ') (peekP c.ts (nextP σ')).pos 5)).2 from by rw [argsP]; simp [hc, h8, hnm]]
     have hfl := fail_le (show (nextP σ').at_ ≤ c.ts.length from hin.2) (peekP c.ts (nextP σ')).pos 5; have hml := mS_le (hfl.trans (name_le (n := c.n) hfl.wf)); have hml2 : mS c.ts (argP c.ts c.n (failP (nextP σ') (peekP c.ts (nextP σ')).pos 5)).2 ≤ mS c.ts (nextP σ') := hml
     focus
      refine cw_seq (cS (C1 Mv ?_)); refine cC rfl (accept_t _ _ _ _ (by assumption) (by decide) (by assumption)) ?_; rintro _ we3 ⟨⟨⟩, ⟨he1, fe2⟩⟩; have ze4 := fe2.size; clear hP; replace hbn := hbn.fr fe2 (by omega); replace hown := hown.fr fe2 (by omega); replace hbr := hbr.fr fe2 (by omega); replace X := X.fr fe2 (by omega); clear fe2; refine cT (cw_cond_t rfl (cw_skip (qw_then (cw_block (cw_seq (cS (C1 Mv ?_))))))); refine cC rfl (peek_c _ _ _ (by assumption)) ?_; rintro _ we6 ⟨⟨⟩, xe5⟩; have ze7 := xe5.size; replace he1 := he1.ext xe5; replace hbn := hbn.ext xe5; replace hown := hown.ext xe5; replace hbr := hbr.ext xe5; replace X := X.ext xe5; clear xe5; (refine lw_alloc' [_, _, _] zOk rfl rfl ?_; intro be8 we9 ne10); (refine lw_init' [_, _, _] tabOk rfl rfl rfl rfl rfl rfl ne10 rfl ?_; clear ne10; clear we9; intro we11 ne10); have he12 := ne10.blk; have xe13 := ne10.ext; have pe14 := ne10.pos; have ze15 := ne10.size; clear ne10; replace he1 := he1.ext xe13; replace hbn := hbn.ext xe13; replace hown := hown.ext xe13; replace hbr := hbr.ext xe13; replace X := X.ext xe13; clear xe13; refine cN (C1 Pf (C1 (Pl hbn) (C1 Pz (C1 V1 (C1 Mv (Gyo (C1 Pf (Gyo (C1 (Pl he12) (Gyo ?_)))))))))); refine cC rfl (Name_c _ _ (by omega)) ?_; rintro _ we17 ⟨⟨⟩, xe16⟩; have ze18 := xe16.size; replace he12 := he12.ext xe16; replace he1 := he1.ext xe16; replace hbn := hbn.ext xe16; replace hown := hown.ext xe16; replace hbr := hbr.ext xe16; replace X := X.ext xe16; clear xe16; refine C1 Qyo (cT ?_)
      refine cw_bt rfl (by assumption) ?_; refine cw_region (C1 Mv (C1 Pf (C1 (Pl he12) ?_))); refine cC rfl (fail_c _ _ _ _ _ (by assumption)) ?_; rintro _ we21 ⟨⟨⟩, ⟨he19, fe20⟩⟩; have ze22 := fe20.size; replace he12 := he12.fr fe20 (by omega); clear he1; replace hbn := hbn.fr fe20 (by omega); replace hown := hown.fr fe20 (by omega); replace hbr := hbr.fr fe20 (by omega); replace X := X.fr fe20 (by omega); clear fe20; refine cT ?_; (refine cw_tdraw (fun wz => Fr (· = c.pb) we21 wz) 5 (.pure 0 (.pure 1 (.pure 2 (.fork 3 (.fork 4 .tail .none) .none)))) mixed (by kernel_rfl) (panicOk_block (panicOk_then (panicOk_block (panicOk_then panicOk_body)))) ?_; intro we23 xe24 _); have qse25 : (fun wz => Fr (· = c.pb) we21 wz) we23 := Fr.of_ext xe24; simp only at qse25; have d_he19 := he19; have d_he12 := he12; have d_hbn := hbn; have d_hown := hown; have d_hbr := hbr; have ze26 := xe24.size; replace he19 := he19.ext xe24; replace he12 := he12.ext xe24; replace hbn := hbn.ext xe24; replace hown := hown.ext xe24; replace hbr := hbr.ext xe24; replace X := X.ext xe24; clear xe24; refine ⟨qse25, ?_⟩; refine Tq rfl Pf ?_; refine Tq rfl (pur_load tabOk rfl rfl rfl (fun wz hz => Blk.cell (Blk.fr d_hbn hz (by omega)) rfl)) ?_; refine Tq rfl Mv ?_; refine tw_does rfl (does_call (by kernel_rfl) rfl (argument_c _ _ _ (by assumption)) (fun _ _ h => h.ret)) rfl ?_ (fun _ h => h) tw_none; rintro _ we32 ⟨ae27, ⟨ke28, ⟨⟨⟩, ⟨he29, ⟨he30, fe31⟩⟩⟩⟩⟩; have ze33 := fe31.size; replace qse25 := qse25.fr fe31 (by omega)
      clear he19; replace he12 := he12.fr fe31 (by omega); replace hbn := hbn.fr fe31 (by omega); replace hown := hown.fr fe31 (by omega); replace hbr := hbr.fr fe31 (by omega); replace X := X.fr fe31 (by omega); clear fe31; refine ⟨qse25, ?_⟩; (refine tw_does rfl (does_slice' [_, _, _, _] tabOk zOk rfl rfl rfl rfl rfl rfl rfl rfl rfl) rfl ?_ (fun _ h => h) tw_none; rintro _ we35 ⟨be34, rfl, ne36, te37⟩); clear te37; have he38 := ne36.blk; have xe39 := ne36.ext; have pe40 := ne36.pos; have ze41 := ne36.size; clear ne36; replace he29 := Nd.sits.ext he29 xe39; replace he30 := he30.ext xe39; replace qse25 := qse25.ext xe39; replace he12 := he12.ext xe39; replace hbn := hbn.ext xe39; replace hown := hown.ext xe39; replace hbr := hbr.ext xe39; replace X := X.ext xe39; clear xe39; refine ⟨qse25, ?_⟩; clear d_he19 d_he12 d_hbn d_hown d_hbr qse25; refine tw_tail rfl ?_; refine lw_appendL (sh := ndShape) tabOk zOk rfl rfl rfl rfl (by kernel_rfl) rfl rfl rfl hown (Blk.row (by assumption)) ⟨_, _, rfl, sits_nil⟩ (by omega) (by omega) rfl ?_; rintro ge42 cap'e43 we44 he45 fe46; have ze47 := fe46.size; clear he38 he29; replace he30 := he30.fr fe46 (by omega); clear he12; replace hbn := hbn.fr fe46 (by omega); clear hown; replace hbr := hbr.fr fe46 (by omega); replace X := X.fr fe46 (by omega); clear fe46; refine C1 Pf ?_; (refine lw_store' [_] [_, _, _, _] tabOk rfl rfl rfl rfl rfl rfl hbn rfl rfl ?_; intro we48 ne49); have he52 := ne49.blk; have fe50 := ne49.fr; have ze51 := ne49.size; clear ne49 hbn
      replace he45 := he45.fr fe50 (by omega); replace he30 := he30.fr fe50 (by omega); replace hbr := hbr.fr fe50 (by omega); replace X := X.fr fe50 (by omega); clear fe50; refine lw_nil (qw_block_norm ?_); rotate_left 1
     refine qw_round (j, acc ++ [(argP c.ts c.n (failP (nextP σ') (peekP c.ts (nextP σ')).pos 5)).1], _, _, (argP c.ts c.n (failP (nextP σ') (peekP c.ts (nextP σ')).pos 5)).2) (by (refine sub_cons rfl ?_; refine sub_cons rfl ?_; refine sub_cons rfl ?_; exact sub_nil)) ⟨by assumption, by assumption, by assumption, by assumption, X, by omega, rfl, by simp only; omega, by simp only [List.length_append, List.length_cons, List.length_nil]; omega⟩ (by simp)
 · rw [show argsP c.ts c.n (j + 1) acc σ' = argsP c.ts c.n j (acc ++ [(argP c.ts c.n (nextP σ')).1]) (argP c.ts c.n (nextP σ')).2 from by rw [argsP]; simp [hc, h8]]
   have hml := mS_le (name_le (n := c.n) (show (nextP σ').at_ ≤ c.ts.length from hin.2)); have hml2 : mS c.ts (argP c.ts c.n (nextP σ')).2 ≤ mS c.ts (nextP σ') := hml
   focus
    refine cw_seq (cS (C1 Mv ?_)); refine cC rfl (accept_t _ _ _ _ (by assumption) (by decide) (by assumption)) ?_; rintro _ wf3 ⟨⟨⟩, ⟨hf1, ff2⟩⟩; have zf4 := ff2.size; clear hP; replace hbn := hbn.fr ff2 (by omega); replace hown := hown.fr ff2 (by omega); replace hbr := hbr.fr ff2 (by omega); replace X := X.fr ff2 (by omega); clear ff2; refine cT (cw_cond_t rfl (cw_skip (qw_then (cw_block (cw_seq (cS (C1 Mv ?_))))))); refine cC rfl (peek_c _ _ _ (by assumption)) ?_; rintro _ wf6 ⟨⟨⟩, xf5⟩; have zf7 := xf5.size; replace hf1 := hf1.ext xf5; replace hbn := hbn.ext xf5; replace hown := hown.ext xf5; replace hbr := hbr.ext xf5; replace X := X.ext xf5; clear xf5; (refine lw_alloc' [_, _, _] zOk rfl rfl ?_; intro bf8 wf9 nf10); (refine lw_init' [_, _, _] tabOk rfl rfl rfl rfl rfl rfl nf10 rfl ?_; clear nf10; clear wf9; intro wf11 nf10); have hf12 := nf10.blk; have xf13 := nf10.ext; have pf14 := nf10.pos; have zf15 := nf10.size; clear nf10; replace hf1 := hf1.ext xf13; replace hbn := hbn.ext xf13; replace hown := hown.ext xf13; replace hbr := hbr.ext xf13; replace X := X.ext xf13; clear xf13; refine cN (C1 Pf (C1 (Pl hbn) (C1 Pz (C1 V1 (C1 Mv (Ono (Ono (Ono (C1 Qno (cT (cw_cond_f rfl ?_))))))))))); refine cw_skip (qw_then ?_); (refine cw_tdraw (fun wz => Fr (· = c.pb) wf11 wz) 5 (.pure 0 (.pure 1 (.pure 2 (.fork 3 (.fork 4 .tail .none) .none)))) mixed (by kernel_rfl) (panicOk_block (panicOk_then (panicOk_block (panicOk_then panicOk_body)))) ?_; intro wf16 xf17 _); have qsf18 : (fun wz => Fr (· = c.pb) wf11 wz) wf16 := Fr.of_ext xf17
    simp only at qsf18; have d_hf12 := hf12; have d_hf1 := hf1; have d_hbn := hbn; have d_hown := hown; have d_hbr := hbr; have zf19 := xf17.size; replace hf12 := hf12.ext xf17; replace hf1 := hf1.ext xf17; replace hbn := hbn.ext xf17; replace hown := hown.ext xf17; replace hbr := hbr.ext xf17; replace X := X.ext xf17; clear xf17; refine ⟨qsf18, ?_⟩; refine Tq rfl Pf ?_; refine Tq rfl (pur_load tabOk rfl rfl rfl (fun wz hz => Blk.cell (Blk.fr d_hbn hz (by omega)) rfl)) ?_; refine Tq rfl Mv ?_; refine tw_does rfl (does_call (by kernel_rfl) rfl (argument_c _ _ _ (by assumption)) (fun _ _ h => h.ret)) rfl ?_ (fun _ h => h) tw_none; rintro _ wf25 ⟨af20, ⟨kf21, ⟨⟨⟩, ⟨hf22, ⟨hf23, ff24⟩⟩⟩⟩⟩; have zf26 := ff24.size; replace qsf18 := qsf18.fr ff24 (by omega); replace hf12 := hf12.fr ff24 (by omega); clear hf1; replace hbn := hbn.fr ff24 (by omega); replace hown := hown.fr ff24 (by omega); replace hbr := hbr.fr ff24 (by omega); replace X := X.fr ff24 (by omega); clear ff24; refine ⟨qsf18, ?_⟩; (refine tw_does rfl (does_slice' [_, _, _, _] tabOk zOk rfl rfl rfl rfl rfl rfl rfl rfl rfl) rfl ?_ (fun _ h => h) tw_none; rintro _ wf28 ⟨bf27, rfl, nf29, tf30⟩); clear tf30; have hf31 := nf29.blk; have xf32 := nf29.ext; have pf33 := nf29.pos; have zf34 := nf29.size; clear nf29; replace hf22 := Nd.sits.ext hf22 xf32; replace hf23 := hf23.ext xf32; replace qsf18 := qsf18.ext xf32; replace hf12 := hf12.ext xf32; replace hbn := hbn.ext xf32; replace hown := hown.ext xf32; replace hbr := hbr.ext xf32
    replace X := X.ext xf32; clear xf32; refine ⟨qsf18, ?_⟩; clear d_hf12 d_hf1 d_hbn d_hown d_hbr qsf18; refine tw_tail rfl ?_; refine lw_appendL (sh := ndShape) tabOk zOk rfl rfl rfl rfl (by kernel_rfl) rfl rfl rfl hown (Blk.row (by assumption)) ⟨_, _, rfl, sits_nil⟩ (by omega) (by omega) rfl ?_; rintro gf35 cap'f36 wf37 hf38 ff39; have zf40 := ff39.size; clear hf31 hf22; replace hf23 := hf23.fr ff39 (by omega); clear hf12; replace hbn := hbn.fr ff39 (by omega); clear hown; replace hbr := hbr.fr ff39 (by omega); replace X := X.fr ff39 (by omega); clear ff39; refine C1 Pf ?_; (refine lw_store' [_] [_, _, _, _] tabOk rfl rfl rfl rfl rfl rfl hbn rfl rfl ?_; intro wf41 nf42); have hf45 := nf42.blk; have ff43 := nf42.fr; have zf44 := nf42.size; clear nf42 hbn; replace hf38 := hf38.fr ff43 (by omega); replace hf23 := hf23.fr ff43 (by omega); replace hbr := hbr.fr ff43 (by omega); replace X := X.fr ff43 (by omega); clear ff43; refine lw_nil (qw_block_norm ?_); rotate_left 1
   refine qw_round (j, acc ++ [(argP c.ts c.n (nextP σ')).1], _, _, (argP c.ts c.n (nextP σ')).2) (by (refine sub_cons rfl ?_; refine sub_cons rfl ?_; refine sub_cons rfl ?_; exact sub_nil)) ⟨by assumption, by assumption, by assumption, by assumption, X, by omega, rfl, by simp only; omega, by simp only [List.length_append, List.length_cons, List.length_nil]; omega⟩ (by simp)
end Bk
namespace Bk
open Go Go.RowKit Go.Proofs
attribute [local irreducible] Go.Calls
structure StmtsC (c : PC) (k : Nat) : Prop where
 stmt : ∀ (σ : PS) (w : World), PP c σ w → 4 * mS c.ts σ + 6 ≤ k → Calls Tryz.prog 30 #[.pointer (some ⟨c.pb, 0, none⟩)] w (TreeR c w (stmtP c.ts c.n k σ))
 branches : ∀ (kind : Int) (mid last : List UInt8) (σ : PS) (w : World), PP c σ w → In c.ts σ → mid ≠ [] → last ≠ [] → 4 * mS c.ts σ + 5 ≤ k → Calls Tryz.prog 59 #[.pointer (some ⟨c.pb, 0, none⟩), .int .u8 kind, str mid, str last] w (TreeR c w (branchesP c.ts c.n k kind mid last σ))
 local_ : ∀ (σ : PS) (w : World), PP c σ w → In c.ts σ → 4 * mS c.ts σ + 5 ≤ k → Calls Tryz.prog 60 #[.pointer (some ⟨c.pb, 0, none⟩)] w (TreeR c w (localP c.ts c.n k σ))
 block : ∀ (σ : PS) (w : World), PP c σ w → 4 * mS c.ts σ + 8 ≤ k → Calls Tryz.prog 97 #[.pointer (some ⟨c.pb, 0, none⟩)] w (TreeR c w (blockP c.ts c.n k σ))
set_option maxRecDepth 100000 in
set_option maxHeartbeats 2000000 in
theorem branches_w (c : PC) (k : Nat) (IH : ∀ j, j ≤ k → StmtsC c j) (kind : Int) (mid last : List UInt8) (σ : PS) (w : World) (hP : PP c σ w) (hi : In c.ts σ) (hmid : mid ≠ []) (hlast : last ≠ []) (hk : 4 * mS c.ts σ + 5 ≤ k + 1) :
 Calls Tryz.prog 59 #[.pointer (some ⟨c.pb, 0, none⟩), .int .u8 kind, str mid, str last] w (TreeR c w (branchesP c.ts c.n (k + 1) kind mid last σ)) := by
 have X := Fr.refl (· = c.pb) w; have hpb := hP.pbB; have hB := hP.B; have hlen := hP.len; have h2 := hi.2; have hm := mS_next hi; rw [branchesP]; (try dsimp only); have l1 := next_le hi; have l2 := expr_le (n := c.n) (k := k) (lv := 1) l1.wf; have l3 := (stmt_inv (ts := c.ts) (n := c.n) k).2.2.2.1 _ l2.wf; have l4 := expect_le (n := c.n) l3.wf hmid; have l5 := (stmt_inv (ts := c.ts) (n := c.n) k).2.2.2.1 _ l4.wf; have l6 := expect_le (n := c.n) l5.wf hlast; have m2 := mS_le l2; have m3 := mS_le l3; have m4 := mS_le l4; have m5 := mS_le l5; have m6 := mS_le l6; clear l1 l2 l3 l4 l5 l6; refine calls_in Tryz.func59 Tryz.ntmps59 rfl rfl ?_
 focus
  refine cS ?_; (refine lw_alloc' [_, _, _, _] zOk rfl rfl ?_; intro b1 w2 n3); have h5 := n3.blk; have x6 := n3.ext; have p7 := n3.pos; have z8 := n3.size; clear n3; replace hP := hP.ext x6; replace X := X.ext x6; clear x6; refine cN (C1 Mv (C1 Pn (C1 Pf (lw_load_b tabOk rfl rfl rfl (PP.blk hP) rfl rfl (C1 V7 (C1 Pn (C1 Pf ?_))))))); refine lw_pp_at tabOk rfl rfl rfl rfl (by assumption) h2 ?_; rintro w9 h10 f11; have z12 := f11.size; replace h5 := h5.fr f11 (by omega); clear hP; replace X := X.fr f11 (by omega); clear f11; refine cN (C1 Mv ?_); refine cR (by kernel_rfl) rfl ((exprs_c c k).expr _ _ _ (by assumption) (by omega) (by decide) (by decide)) (fun _ _ h => h.ret) rfl ?_; rintro _ w18 ⟨a13, ⟨k14, ⟨⟨⟩, ⟨h15, ⟨h16, f17⟩⟩⟩⟩⟩; have z19 := f17.size; clear h10; replace h5 := h5.fr f17 (by omega); replace X := X.fr f17 (by omega); clear f17; (refine lw_alloc' [_, _, _, _] zOk rfl rfl ?_; intro b20 w21 n22); (refine lw_init' [_, _, _, _] tabOk rfl rfl rfl rfl rfl rfl n22 rfl ?_; clear n22; clear w21; intro w23 n22); have h24 := n22.blk; have x25 := n22.ext; have p26 := n22.pos; have z27 := n22.size; clear n22; replace h15 := Nd.sits.ext h15 x25; replace h16 := h16.ext x25; replace h5 := h5.ext x25; replace X := X.ext x25; clear x25; refine cN (C1 Mv ?_); refine cR (by kernel_rfl) rfl ((IH k (Nat.le_refl _)).block _ _ (by assumption) (by omega)) (fun _ _ h => h.ret) rfl ?_; rintro _ w33 ⟨a28, ⟨k29, ⟨⟨⟩, ⟨h30, ⟨h31, f32⟩⟩⟩⟩⟩; have z34 := f32.size; replace h24 := h24.fr f32 (by omega)
  replace h15 := Nd.sits.fr h15 f32 (by omega); clear h16; replace h5 := h5.fr f32 (by omega); replace X := X.fr f32 (by omega); clear f32; (refine lw_alloc' [_, _, _, _] zOk rfl rfl ?_; intro b35 w36 n37); (refine lw_init' [_, _, _, _] tabOk rfl rfl rfl rfl rfl rfl n37 rfl ?_; clear n37; clear w36; intro w38 n37); have h39 := n37.blk; have x40 := n37.ext; have p41 := n37.pos; have z42 := n37.size; clear n37; replace h30 := Nd.sits.ext h30 x40; replace h31 := h31.ext x40; replace h24 := h24.ext x40; replace h15 := Nd.sits.ext h15 x40; replace h5 := h5.ext x40; replace X := X.ext x40; clear x40; refine cN (C1 Mv (C1 Mv ?_)); refine cC rfl (expect_c _ _ _ _ (by assumption) (by assumption)) ?_; rintro _ w45 ⟨⟨⟩, ⟨h43, f44⟩⟩; have z46 := f44.size; replace h39 := h39.fr f44 (by omega); replace h30 := Nd.sits.fr h30 f44 (by omega); clear h31; replace h24 := h24.fr f44 (by omega); replace h15 := Nd.sits.fr h15 f44 (by omega); replace h5 := h5.fr f44 (by omega); replace X := X.fr f44 (by omega); clear f44; refine cN (C1 Mv ?_); refine cR (by kernel_rfl) rfl ((IH k (Nat.le_refl _)).block _ _ (by assumption) (by omega)) (fun _ _ h => h.ret) rfl ?_; rintro _ w52 ⟨a47, ⟨k48, ⟨⟨⟩, ⟨h49, ⟨h50, f51⟩⟩⟩⟩⟩; have z53 := f51.size; clear h43; replace h39 := h39.fr f51 (by omega); replace h30 := Nd.sits.fr h30 f51 (by omega); replace h24 := h24.fr f51 (by omega); replace h15 := Nd.sits.fr h15 f51 (by omega); replace h5 := h5.fr f51 (by omega); replace X := X.fr f51 (by omega); clear f51; (refine lw_alloc' [_, _, _, _] zOk rfl rfl ?_; intro b54 w55 n56)
  (refine lw_init' [_, _, _, _] tabOk rfl rfl rfl rfl rfl rfl n56 rfl ?_; clear n56; clear w55; intro w57 n56); have h58 := n56.blk; have x59 := n56.ext; have p60 := n56.pos; have z61 := n56.size; clear n56; replace h49 := Nd.sits.ext h49 x59; replace h50 := h50.ext x59; replace h39 := h39.ext x59; replace h30 := Nd.sits.ext h30 x59; replace h24 := h24.ext x59; replace h15 := Nd.sits.ext h15 x59; replace h5 := h5.ext x59; replace X := X.ext x59; clear x59; refine cN (C1 Mv (C1 Mv ?_)); refine cC rfl (expect_c _ _ _ _ (by assumption) (by assumption)) ?_; rintro _ w64 ⟨⟨⟩, ⟨h62, f63⟩⟩; have z65 := f63.size; replace h58 := h58.fr f63 (by omega); replace h49 := Nd.sits.fr h49 f63 (by omega); clear h50; replace h39 := h39.fr f63 (by omega); replace h30 := Nd.sits.fr h30 f63 (by omega); replace h24 := h24.fr f63 (by omega); replace h15 := Nd.sits.fr h15 f63 (by omega); replace h5 := h5.fr f63 (by omega); replace X := X.fr f63 (by omega); clear f63; refine cN (C1 Mv ?_); refine cR (by kernel_rfl) rfl ((exprs_c c k).expr _ _ _ (by assumption) (by omega) (by decide) (by decide)) (fun _ _ h => h.ret) rfl ?_; rintro _ w71 ⟨a66, ⟨k67, ⟨⟨⟩, ⟨h68, ⟨h69, f70⟩⟩⟩⟩⟩; have z72 := f70.size; clear h62; replace h58 := h58.fr f70 (by omega); replace h49 := Nd.sits.fr h49 f70 (by omega); replace h39 := h39.fr f70 (by omega); replace h30 := Nd.sits.fr h30 f70 (by omega); replace h24 := h24.fr f70 (by omega); replace h15 := Nd.sits.fr h15 f70 (by omega); replace h5 := h5.fr f70 (by omega); replace X := X.fr f70 (by omega)
  clear f70; (refine lw_alloc' [_, _, _, _] zOk rfl rfl ?_; intro b73 w74 n75); (refine lw_init' [_, _, _, _] tabOk rfl rfl rfl rfl rfl rfl n75 rfl ?_; clear n75; clear w74; intro w76 n75); have h77 := n75.blk; have x78 := n75.ext; have p79 := n75.pos; have z80 := n75.size; clear n75; replace h68 := Nd.sits.ext h68 x78; replace h69 := h69.ext x78; replace h58 := h58.ext x78; replace h49 := Nd.sits.ext h49 x78; replace h39 := h39.ext x78; replace h30 := Nd.sits.ext h30 x78; replace h24 := h24.ext x78; replace h15 := Nd.sits.ext h15 x78; replace h5 := h5.ext x78; replace X := X.ext x78; clear x78; refine cN (C1 Mv (lw_loads_b' [_, _, _, _] tabOk rfl rfl rfl h24 rfl rfl rfl (lw_loads_b' [_, _, _, _] tabOk rfl rfl rfl h39 rfl rfl rfl (lw_loads_b' [_, _, _, _] tabOk rfl rfl rfl h58 rfl rfl rfl (lw_loads_b' [_, _, _, _] tabOk rfl rfl rfl h77 rfl rfl rfl ?_))))); (refine lw_does (does_slice' [_, _, _, _, _, _, _, _, _, _, _, _, _, _, _, _] tabOk zOk rfl rfl rfl rfl rfl rfl rfl rfl rfl) rfl ?_ (fun _ h => h); rintro _ w82 ⟨b81, rfl, n83, t84⟩); clear t84; have h85 := n83.blk; have x86 := n83.ext; have p87 := n83.pos; have z88 := n83.size; clear n83; replace h77 := h77.ext x86; replace h68 := Nd.sits.ext h68 x86; replace h69 := h69.ext x86; replace h58 := h58.ext x86; replace h49 := Nd.sits.ext h49 x86; replace h39 := h39.ext x86; replace h30 := Nd.sits.ext h30 x86; replace h24 := h24.ext x86; replace h15 := Nd.sits.ext h15 x86; replace h5 := h5.ext x86; replace X := X.ext x86; clear x86
  refine C1 (pur_build' [_, _, _, _] tabOk zOk rfl rfl rfl rfl) ?_; (refine lw_store' [_, _, _, _] [_, _, _, _] tabOk rfl rfl rfl rfl rfl rfl h5 rfl rfl ?_; intro w89 n90); have h93 := n90.blk; have f91 := n90.fr; have z92 := n90.size; clear n90 h5; replace h85 := h85.fr f91 (by omega); replace h77 := h77.fr f91 (by omega); replace h68 := Nd.sits.fr h68 f91 (by omega); replace h69 := h69.fr f91 (by omega); replace h58 := h58.fr f91 (by omega); replace h49 := Nd.sits.fr h49 f91 (by omega); replace h39 := h39.fr f91 (by omega); replace h30 := Nd.sits.fr h30 f91 (by omega); replace h24 := h24.fr f91 (by omega); replace h15 := Nd.sits.fr h15 f91 (by omega); replace X := X.fr f91 (by omega); clear f91; refine cT (cw_ret (qw_retc rfl tabOk rfl rfl rfl h93 rfl ?_)); rotate_left 1
 exact tree_ret (sits_4 (by assumption) (by omega) (by assumption) (fun b h => by omega) (by assumption) (fun b h => by omega) (by assumption) (fun b h => by omega) (by assumption) (fun b h => by omega)) (by assumption) X
set_option maxRecDepth 100000 in
set_option maxHeartbeats 2000000 in
theorem local_w (c : PC) (k : Nat) (IH : ∀ j, j ≤ k → StmtsC c j) (σ : PS) (w : World) (hP : PP c σ w) (hi : In c.ts σ) (hk : 4 * mS c.ts σ + 5 ≤ k + 1) :
 Calls Tryz.prog 60 #[.pointer (some ⟨c.pb, 0, none⟩)] w (TreeR c w (localP c.ts c.n (k + 1) σ)) := by
 have X := Fr.refl (· = c.pb) w; have hpb := hP.pbB; have hB := hP.B; have hlen := hP.len; have h2 := hi.2; have hm := mS_next hi; have l1 := next_le hi; rw [localP]; (try dsimp only)
 cases hs : hasP c.ts (nextP σ) [115, 116, 97, 99, 107]
 case true =>
  simp only [if_true]; have l2 := next_le (has_in l1.wf hs (by decide)); have l3 := name_le (n := c.n) l2.wf; have m2 := mS_le l2; have m3 := mS_le l3; clear l1 l2 l3; refine calls_in Tryz.func60 Tryz.ntmps60 rfl rfl ?_
  focus
   refine cS ?_; (refine lw_alloc' [_, _, _, _] zOk rfl rfl ?_; intro b1 w2 n3); have h5 := n3.blk; have x6 := n3.ext; have p7 := n3.pos; have z8 := n3.size; clear n3; replace hP := hP.ext x6; replace X := X.ext x6; clear x6; refine cN (C1 Mv (C1 Pn (C1 Pf (lw_load_b tabOk rfl rfl rfl (PP.blk hP) rfl rfl (C1 V7 (C1 Pn (C1 Pf ?_))))))); refine lw_pp_at tabOk rfl rfl rfl rfl (by assumption) h2 ?_; rintro w9 h10 f11; have z12 := f11.size; replace h5 := h5.fr f11 (by omega); clear hP; replace X := X.fr f11 (by omega); clear f11; refine cT (cw_seq (cS (C1 Mv ?_))); refine cC rfl (accept_t _ _ _ _ (by assumption) (by decide) (by assumption)) ?_; rintro _ w15 ⟨⟨⟩, ⟨h13, f14⟩⟩; have z16 := f14.size; clear h10; replace h5 := h5.fr f14 (by omega); replace X := X.fr f14 (by omega); clear f14; refine cT (cw_cond_t rfl (cS (C1 Mv ?_))); refine cC rfl (name_c _ _ _ (by assumption)) ?_; rintro _ w19 ⟨⟨⟩, ⟨h17, f18⟩⟩; have z20 := f18.size; clear h13; replace h5 := h5.fr f18 (by omega); replace X := X.fr f18 (by omega); clear f18; refine C1 Pa (cN (C1 Mv (C1 Mv ?_))); refine cR (by kernel_rfl) rfl ((IH k (Nat.le_refl _)).block _ _ (by assumption) (by omega)) (fun _ _ h => h.ret) rfl ?_; rintro _ w26 ⟨a21, ⟨k22, ⟨⟨⟩, ⟨h23, ⟨h24, f25⟩⟩⟩⟩⟩; have z27 := f25.size; clear h17; replace h5 := h5.fr f25 (by omega); replace X := X.fr f25 (by omega); clear f25; (refine lw_does (does_slice' [_, _, _, _] tabOk zOk rfl rfl rfl rfl rfl rfl rfl rfl rfl) rfl ?_ (fun _ h => h); rintro _ w29 ⟨b28, rfl, n30, t31⟩)
   clear t31; have h32 := n30.blk; have x33 := n30.ext; have p34 := n30.pos; have z35 := n30.size; clear n30; replace h23 := Nd.sits.ext h23 x33; replace h24 := h24.ext x33; replace h5 := h5.ext x33; replace X := X.ext x33; clear x33; refine C1 (pur_build' [_, _, _, _] tabOk zOk rfl rfl rfl rfl) ?_; (refine lw_store' [_, _, _, _] [_, _, _, _] tabOk rfl rfl rfl rfl rfl rfl h5 rfl rfl ?_; intro w36 n37); have h40 := n37.blk; have f38 := n37.fr; have z39 := n37.size; clear n37 h5; replace h32 := h32.fr f38 (by omega); replace h23 := Nd.sits.fr h23 f38 (by omega); replace h24 := h24.fr f38 (by omega); replace X := X.fr f38 (by omega); clear f38; refine cT (cw_ret (qw_then_ret (qw_retc rfl tabOk rfl rfl rfl h40 rfl ?_))); rotate_left 1
  exact tree_ret (sits_1 (by assumption) (by omega) (by assumption) (fun b h => by omega)) (by assumption) X
 simp only [Bool.false_eq_true, if_false]; have l2 := name_le (n := c.n) l1.wf; have l3 := expect_le (n := c.n) (t := [61]) l2.wf (by decide); have l4 := expr_le (n := c.n) (k := k) (lv := 1) l3.wf; have l5 := (stmt_inv (ts := c.ts) (n := c.n) k).2.2.2.1 _ l4.wf; have l6 := expect_le (n := c.n) (t := [100, 101, 108, 111, 99, 97, 108]) l5.wf (by decide); have m2 := mS_le l2; have m3 := mS_le l3; have m4 := mS_le l4; have m5 := mS_le l5; have m6 := mS_le l6; clear l1 l2 l3 l4 l5 l6; refine calls_in Tryz.func60 Tryz.ntmps60 rfl rfl ?_
 focus
  refine cS ?_; (refine lw_alloc' [_, _, _, _] zOk rfl rfl ?_; intro ba1 wa2 na3); have ha5 := na3.blk; have xa6 := na3.ext; have pa7 := na3.pos; have za8 := na3.size; clear na3; replace hP := hP.ext xa6; replace X := X.ext xa6; clear xa6; refine cN (C1 Mv (C1 Pn (C1 Pf (lw_load_b tabOk rfl rfl rfl (PP.blk hP) rfl rfl (C1 V7 (C1 Pn (C1 Pf ?_))))))); refine lw_pp_at tabOk rfl rfl rfl rfl (by assumption) h2 ?_; rintro wa9 ha10 fa11; have za12 := fa11.size; replace ha5 := ha5.fr fa11 (by omega); clear hP; replace X := X.fr fa11 (by omega); clear fa11; refine cT (cw_seq (cS (C1 Mv ?_))); refine cC rfl (accept_f _ _ _ _ (by assumption) (by decide) (by assumption)) ?_; rintro _ wa15 ⟨⟨⟩, ⟨ha13, fa14⟩⟩; have za16 := fa14.size; clear ha10; replace ha5 := ha5.fr fa14 (by omega); replace X := X.fr fa14 (by omega); clear fa14; refine cT (cw_cond_f rfl (cw_skip (qw_then (cS (C1 Mv ?_))))); refine cC rfl (name_c _ _ _ (by assumption)) ?_; rintro _ wa19 ⟨⟨⟩, ⟨ha17, fa18⟩⟩; have za20 := fa18.size; clear ha13; replace ha5 := ha5.fr fa18 (by omega); replace X := X.fr fa18 (by omega); clear fa18; refine C1 Pa (cN (C1 Mv ?_)); refine cC rfl (expect_c _ _ _ _ (by assumption) (by decide)) ?_; rintro _ wa23 ⟨⟨⟩, ⟨ha21, fa22⟩⟩; have za24 := fa22.size; clear ha17; replace ha5 := ha5.fr fa22 (by omega); replace X := X.fr fa22 (by omega); clear fa22; refine cN (C1 Mv ?_); refine cR (by kernel_rfl) rfl ((exprs_c c k).expr _ _ _ (by assumption) (by omega) (by decide) (by decide)) (fun _ _ h => h.ret) rfl ?_
  rintro _ wa30 ⟨aa25, ⟨ka26, ⟨⟨⟩, ⟨ha27, ⟨ha28, fa29⟩⟩⟩⟩⟩; have za31 := fa29.size; clear ha21; replace ha5 := ha5.fr fa29 (by omega); replace X := X.fr fa29 (by omega); clear fa29; (refine lw_alloc' [_, _, _, _] zOk rfl rfl ?_; intro ba32 wa33 na34); (refine lw_init' [_, _, _, _] tabOk rfl rfl rfl rfl rfl rfl na34 rfl ?_; clear na34; clear wa33; intro wa35 na34); have ha36 := na34.blk; have xa37 := na34.ext; have pa38 := na34.pos; have za39 := na34.size; clear na34; replace ha27 := Nd.sits.ext ha27 xa37; replace ha28 := ha28.ext xa37; replace ha5 := ha5.ext xa37; replace X := X.ext xa37; clear xa37; refine cN (C1 Mv ?_); refine cR (by kernel_rfl) rfl ((IH k (Nat.le_refl _)).block _ _ (by assumption) (by omega)) (fun _ _ h => h.ret) rfl ?_; rintro _ wa45 ⟨aa40, ⟨ka41, ⟨⟨⟩, ⟨ha42, ⟨ha43, fa44⟩⟩⟩⟩⟩; have za46 := fa44.size; replace ha36 := ha36.fr fa44 (by omega); replace ha27 := Nd.sits.fr ha27 fa44 (by omega); clear ha28; replace ha5 := ha5.fr fa44 (by omega); replace X := X.fr fa44 (by omega); clear fa44; (refine lw_alloc' [_, _, _, _] zOk rfl rfl ?_; intro ba47 wa48 na49); (refine lw_init' [_, _, _, _] tabOk rfl rfl rfl rfl rfl rfl na49 rfl ?_; clear na49; clear wa48; intro wa50 na49); have ha51 := na49.blk; have xa52 := na49.ext; have pa53 := na49.pos; have za54 := na49.size; clear na49; replace ha42 := Nd.sits.ext ha42 xa52; replace ha43 := ha43.ext xa52; replace ha36 := ha36.ext xa52; replace ha27 := Nd.sits.ext ha27 xa52; replace ha5 := ha5.ext xa52; replace X := X.ext xa52
  clear xa52; refine cN (C1 Mv ?_); refine cC rfl (expect_c _ _ _ _ (by assumption) (by decide)) ?_; rintro _ wa57 ⟨⟨⟩, ⟨ha55, fa56⟩⟩; have za58 := fa56.size; replace ha51 := ha51.fr fa56 (by omega); replace ha42 := Nd.sits.fr ha42 fa56 (by omega); clear ha43; replace ha36 := ha36.fr fa56 (by omega); replace ha27 := Nd.sits.fr ha27 fa56 (by omega); replace ha5 := ha5.fr fa56 (by omega); replace X := X.fr fa56 (by omega); clear fa56; refine cN (C1 Mv ?_); refine cR (by kernel_rfl) rfl ((exprs_c c k).expr _ _ _ (by assumption) (by omega) (by decide) (by decide)) (fun _ _ h => h.ret) rfl ?_; rintro _ wa64 ⟨aa59, ⟨ka60, ⟨⟨⟩, ⟨ha61, ⟨ha62, fa63⟩⟩⟩⟩⟩; have za65 := fa63.size; clear ha55; replace ha51 := ha51.fr fa63 (by omega); replace ha42 := Nd.sits.fr ha42 fa63 (by omega); replace ha36 := ha36.fr fa63 (by omega); replace ha27 := Nd.sits.fr ha27 fa63 (by omega); replace ha5 := ha5.fr fa63 (by omega); replace X := X.fr fa63 (by omega); clear fa63; (refine lw_alloc' [_, _, _, _] zOk rfl rfl ?_; intro ba66 wa67 na68); (refine lw_init' [_, _, _, _] tabOk rfl rfl rfl rfl rfl rfl na68 rfl ?_; clear na68; clear wa67; intro wa69 na68); have ha70 := na68.blk; have xa71 := na68.ext; have pa72 := na68.pos; have za73 := na68.size; clear na68; replace ha61 := Nd.sits.ext ha61 xa71; replace ha62 := ha62.ext xa71; replace ha51 := ha51.ext xa71; replace ha42 := Nd.sits.ext ha42 xa71; replace ha36 := ha36.ext xa71; replace ha27 := Nd.sits.ext ha27 xa71; replace ha5 := ha5.ext xa71; replace X := X.ext xa71
  clear xa71; refine cN (C1 Mv (lw_loads_b' [_, _, _, _] tabOk rfl rfl rfl ha36 rfl rfl rfl (lw_loads_b' [_, _, _, _] tabOk rfl rfl rfl ha51 rfl rfl rfl (lw_loads_b' [_, _, _, _] tabOk rfl rfl rfl ha70 rfl rfl rfl ?_)))); (refine lw_does (does_slice' [_, _, _, _, _, _, _, _, _, _, _, _] tabOk zOk rfl rfl rfl rfl rfl rfl rfl rfl rfl) rfl ?_ (fun _ h => h); rintro _ wa75 ⟨ba74, rfl, na76, ta77⟩); clear ta77; have ha78 := na76.blk; have xa79 := na76.ext; have pa80 := na76.pos; have za81 := na76.size; clear na76; replace ha70 := ha70.ext xa79; replace ha61 := Nd.sits.ext ha61 xa79; replace ha62 := ha62.ext xa79; replace ha51 := ha51.ext xa79; replace ha42 := Nd.sits.ext ha42 xa79; replace ha36 := ha36.ext xa79; replace ha27 := Nd.sits.ext ha27 xa79; replace ha5 := ha5.ext xa79; replace X := X.ext xa79; clear xa79; refine C1 (pur_build' [_, _, _, _] tabOk zOk rfl rfl rfl rfl) ?_; (refine lw_store' [_, _, _, _] [_, _, _, _] tabOk rfl rfl rfl rfl rfl rfl ha5 rfl rfl ?_; intro wa82 na83); have ha86 := na83.blk; have fa84 := na83.fr; have za85 := na83.size; clear na83 ha5; replace ha78 := ha78.fr fa84 (by omega); replace ha70 := ha70.fr fa84 (by omega); replace ha61 := Nd.sits.fr ha61 fa84 (by omega); replace ha62 := ha62.fr fa84 (by omega); replace ha51 := ha51.fr fa84 (by omega); replace ha42 := Nd.sits.fr ha42 fa84 (by omega); replace ha36 := ha36.fr fa84 (by omega); replace ha27 := Nd.sits.fr ha27 fa84 (by omega); replace X := X.fr fa84 (by omega); clear fa84; refine cT (cw_ret (qw_retc rfl tabOk rfl rfl rfl ha86 rfl ?_))
  rotate_left 1
 exact tree_ret (sits_3 (by assumption) (by omega) (by assumption) (fun b h => by omega) (by assumption) (fun b h => by omega) (by assumption) (fun b h => by omega)) (by assumption) X
set_option maxRecDepth 100000 in
set_option maxHeartbeats 2000000 in
theorem stmt_w (c : PC) (k : Nat) (IH : ∀ j, j ≤ k → StmtsC c j) (σ : PS) (w : World) (hP : PP c σ w) (hk : 4 * mS c.ts σ + 6 ≤ k + 1) :
 Calls Tryz.prog 30 #[.pointer (some ⟨c.pb, 0, none⟩)] w (TreeR c w (stmtP c.ts c.n (k + 1) σ)) := by
 have X := Fr.refl (· = c.pb) w; have hpb := hP.pbB; have hB := hP.B
 have hin : ∀ t : List UInt8, (peekP c.ts σ).text = t → t ≠ [] → In c.ts σ := fun t h ht => peek_in hP.at_ (Or.inl (by rw [h]; exact ht))
 have HIN := Lib.hid hin; clear hin
 rw [stmtP]
 by_cases e0 : (peekP c.ts σ).text = [112, 117, 115, 104]
 · rw [if_pos e0]
   have hin := HIN.out _ e0 (by decide); refine calls_in Tryz.func30 Tryz.ntmps30 rfl rfl ?_
   focus
    refine cS ?_; (refine lw_alloc' [_, _, _, _] zOk rfl rfl ?_; intro b1 w2 n3); have h5 := n3.blk; have x6 := n3.ext; have p7 := n3.pos; have z8 := n3.size; clear n3; replace hP := hP.ext x6; replace X := X.ext x6; clear x6; refine cT (cw_seq (cS (C1 Mv ?_))); refine cC rfl (peek_c _ _ _ (by assumption)) ?_; rintro _ w10 ⟨⟨⟩, x9⟩; have z11 := x9.size; replace h5 := h5.ext x9; replace hP := hP.ext x9; replace X := X.ext x9; clear x9; refine C1 (pur_field tabOk rfl rfl rfl rfl rfl rfl) (cT (cw_block (cS (C1 V8 (C1 Pa (cT (Wya (cS (C1 Mv ?_))))))))); refine cR (by kernel_rfl) rfl (stackStmt_c c k 44 _ _ (by assumption) hin (by omega)) (fun _ _ h => h.ret) rfl ?_; rintro _ w17 ⟨a12, ⟨k13, ⟨⟨⟩, ⟨h14, ⟨h15, f16⟩⟩⟩⟩⟩; have z18 := f16.size; replace h5 := h5.fr f16 (by omega); clear hP; replace X := X.fr f16 (by omega); clear f16; (refine lw_store' [_, _, _, _] [_, _, _, _] tabOk rfl rfl rfl rfl rfl rfl h5 rfl rfl ?_; intro w19 n20); have h23 := n20.blk; have f21 := n20.fr; have z22 := n20.size; clear n20 h5; replace h14 := Nd.sits.fr h14 f21 (by omega); replace h15 := h15.fr f21 (by omega); replace X := X.fr f21 (by omega); clear f21; refine cT (cw_ret (qw_block_ret (qw_then_ret (qw_retc rfl tabOk rfl rfl rfl h23 rfl ?_)))); rotate_left 1
   exact tree_ret (Nd.sits.wide (by assumption) (fun b h => by omega)) (by assumption) X
 rw [if_neg e0]
 by_cases e1 : (peekP c.ts σ).text = [112, 111, 112]
 · rw [if_pos e1]
   have hin := HIN.out _ e1 (by decide); refine calls_in Tryz.func30 Tryz.ntmps30 rfl rfl ?_
   focus
    refine cS ?_; (refine lw_alloc' [_, _, _, _] zOk rfl rfl ?_; intro ba1 wa2 na3); have ha5 := na3.blk; have xa6 := na3.ext; have pa7 := na3.pos; have za8 := na3.size; clear na3; replace hP := hP.ext xa6; replace X := X.ext xa6; clear xa6; refine cT (cw_seq (cS (C1 Mv ?_))); refine cC rfl (peek_c _ _ _ (by assumption)) ?_; rintro _ wa10 ⟨⟨⟩, xa9⟩; have za11 := xa9.size; replace ha5 := ha5.ext xa9; replace hP := hP.ext xa9; replace X := X.ext xa9; clear xa9; refine C1 (pur_field tabOk rfl rfl rfl rfl rfl rfl) (cT (cw_block (cS (C1 V8 (C1 Pa (cT (Wna (cS (C1 V8 (C1 Pa (cT ?_))))))))))); refine Wya (cS (C1 Mv ?_)); refine cR (by kernel_rfl) rfl (stackStmt_c c k 45 _ _ (by assumption) hin (by omega)) (fun _ _ h => h.ret) rfl ?_; rintro _ wa17 ⟨aa12, ⟨ka13, ⟨⟨⟩, ⟨ha14, ⟨ha15, fa16⟩⟩⟩⟩⟩; have za18 := fa16.size; replace ha5 := ha5.fr fa16 (by omega); clear hP; replace X := X.fr fa16 (by omega); clear fa16; (refine lw_store' [_, _, _, _] [_, _, _, _] tabOk rfl rfl rfl rfl rfl rfl ha5 rfl rfl ?_; intro wa19 na20); have ha23 := na20.blk; have fa21 := na20.fr; have za22 := na20.size; clear na20 ha5; replace ha14 := Nd.sits.fr ha14 fa21 (by omega); replace ha15 := ha15.fr fa21 (by omega); replace X := X.fr fa21 (by omega); clear fa21; refine cT (cw_ret (qw_block_ret (qw_then_ret (qw_retc rfl tabOk rfl rfl rfl ha23 rfl ?_)))); rotate_left 1
   exact tree_ret (Nd.sits.wide (by assumption) (fun b h => by omega)) (by assumption) X
 rw [if_neg e1]
 by_cases e2 : (peekP c.ts σ).text = [114, 101, 97, 100]
 · rw [if_pos e2]
   have hin := HIN.out _ e2 (by decide); refine calls_in Tryz.func30 Tryz.ntmps30 rfl rfl ?_
   focus
    refine cS ?_; (refine lw_alloc' [_, _, _, _] zOk rfl rfl ?_; intro bb1 wb2 nb3); have hb5 := nb3.blk; have xb6 := nb3.ext; have pb7 := nb3.pos; have zb8 := nb3.size; clear nb3; replace hP := hP.ext xb6; replace X := X.ext xb6; clear xb6; refine cT (cw_seq (cS (C1 Mv ?_))); refine cC rfl (peek_c _ _ _ (by assumption)) ?_; rintro _ wb10 ⟨⟨⟩, xb9⟩; have zb11 := xb9.size; replace hb5 := hb5.ext xb9; replace hP := hP.ext xb9; replace X := X.ext xb9; clear xb9; refine C1 (pur_field tabOk rfl rfl rfl rfl rfl rfl) (cT (cw_block (cS (C1 V8 (C1 Pa (cT (Wna (cS (C1 V8 (C1 Pa (cT ?_))))))))))); refine Wna (cS (C1 V8 (C1 Pa (cT (Wya (cS (C1 Mv ?_))))))); refine cR (by kernel_rfl) rfl (tapeStmt_c c k 46 _ _ (by assumption) hin (by omega)) (fun _ _ h => h.ret) rfl ?_; rintro _ wb17 ⟨ab12, ⟨kb13, ⟨⟨⟩, ⟨hb14, ⟨hb15, fb16⟩⟩⟩⟩⟩; have zb18 := fb16.size; replace hb5 := hb5.fr fb16 (by omega); clear hP; replace X := X.fr fb16 (by omega); clear fb16; (refine lw_store' [_, _, _, _] [_, _, _, _] tabOk rfl rfl rfl rfl rfl rfl hb5 rfl rfl ?_; intro wb19 nb20); have hb23 := nb20.blk; have fb21 := nb20.fr; have zb22 := nb20.size; clear nb20 hb5; replace hb14 := Nd.sits.fr hb14 fb21 (by omega); replace hb15 := hb15.fr fb21 (by omega); replace X := X.fr fb21 (by omega); clear fb21; refine cT (cw_ret (qw_block_ret (qw_then_ret (qw_retc rfl tabOk rfl rfl rfl hb23 rfl ?_)))); rotate_left 1
   exact tree_ret (Nd.sits.wide (by assumption) (fun b h => by omega)) (by assumption) X
 rw [if_neg e2]
 by_cases e3 : (peekP c.ts σ).text = [117, 110, 114, 101, 97, 100]
 · rw [if_pos e3]
   have hin := HIN.out _ e3 (by decide); refine calls_in Tryz.func30 Tryz.ntmps30 rfl rfl ?_
   focus
    refine cS ?_; (refine lw_alloc' [_, _, _, _] zOk rfl rfl ?_; intro bc1 wc2 nc3); have hc5 := nc3.blk; have xc6 := nc3.ext; have pc7 := nc3.pos; have zc8 := nc3.size; clear nc3; replace hP := hP.ext xc6; replace X := X.ext xc6; clear xc6; refine cT (cw_seq (cS (C1 Mv ?_))); refine cC rfl (peek_c _ _ _ (by assumption)) ?_; rintro _ wc10 ⟨⟨⟩, xc9⟩; have zc11 := xc9.size; replace hc5 := hc5.ext xc9; replace hP := hP.ext xc9; replace X := X.ext xc9; clear xc9; refine C1 (pur_field tabOk rfl rfl rfl rfl rfl rfl) (cT (cw_block (cS (C1 V8 (C1 Pa (cT (Wna (cS (C1 V8 (C1 Pa (cT ?_))))))))))); refine Wna (cS (C1 V8 (C1 Pa (cT (Wna (cS (C1 V8 (C1 Pa (cT (Wya (cS ?_))))))))))); refine C1 Mv ?_; refine cR (by kernel_rfl) rfl (tapeStmt_c c k 47 _ _ (by assumption) hin (by omega)) (fun _ _ h => h.ret) rfl ?_; rintro _ wc17 ⟨ac12, ⟨kc13, ⟨⟨⟩, ⟨hc14, ⟨hc15, fc16⟩⟩⟩⟩⟩; have zc18 := fc16.size; replace hc5 := hc5.fr fc16 (by omega); clear hP; replace X := X.fr fc16 (by omega); clear fc16; (refine lw_store' [_, _, _, _] [_, _, _, _] tabOk rfl rfl rfl rfl rfl rfl hc5 rfl rfl ?_; intro wc19 nc20); have hc23 := nc20.blk; have fc21 := nc20.fr; have zc22 := nc20.size; clear nc20 hc5; replace hc14 := Nd.sits.fr hc14 fc21 (by omega); replace hc15 := hc15.fr fc21 (by omega); replace X := X.fr fc21 (by omega); clear fc21; refine cT (cw_ret (qw_block_ret (qw_then_ret (qw_retc rfl tabOk rfl rfl rfl hc23 rfl ?_)))); rotate_left 1
   exact tree_ret (Nd.sits.wide (by assumption) (fun b h => by omega)) (by assumption) X
 rw [if_neg e3]
 by_cases e4 : (peekP c.ts σ).text = [119, 114, 105, 116, 101]
 · rw [if_pos e4]
   have hin := HIN.out _ e4 (by decide); refine calls_in Tryz.func30 Tryz.ntmps30 rfl rfl ?_
   focus
    refine cS ?_; (refine lw_alloc' [_, _, _, _] zOk rfl rfl ?_; intro bd1 wd2 nd3); have hd5 := nd3.blk; have xd6 := nd3.ext; have pd7 := nd3.pos; have zd8 := nd3.size; clear nd3; replace hP := hP.ext xd6; replace X := X.ext xd6; clear xd6; refine cT (cw_seq (cS (C1 Mv ?_))); refine cC rfl (peek_c _ _ _ (by assumption)) ?_; rintro _ wd10 ⟨⟨⟩, xd9⟩; have zd11 := xd9.size; replace hd5 := hd5.ext xd9; replace hP := hP.ext xd9; replace X := X.ext xd9; clear xd9; refine C1 (pur_field tabOk rfl rfl rfl rfl rfl rfl) (cT (cw_block (cS (C1 V8 (C1 Pa (cT (Wna (cS (C1 V8 (C1 Pa (cT ?_))))))))))); refine Wna (cS (C1 V8 (C1 Pa (cT (Wna (cS (C1 V8 (C1 Pa (cT (Wna (cS ?_))))))))))); refine C1 V8 (C1 Pa (cT (Wya (cS (C1 Mv ?_))))); refine cR (by kernel_rfl) rfl (tapeStmt_c c k 48 _ _ (by assumption) hin (by omega)) (fun _ _ h => h.ret) rfl ?_; rintro _ wd17 ⟨ad12, ⟨kd13, ⟨⟨⟩, ⟨hd14, ⟨hd15, fd16⟩⟩⟩⟩⟩; have zd18 := fd16.size; replace hd5 := hd5.fr fd16 (by omega); clear hP; replace X := X.fr fd16 (by omega); clear fd16; (refine lw_store' [_, _, _, _] [_, _, _, _] tabOk rfl rfl rfl rfl rfl rfl hd5 rfl rfl ?_; intro wd19 nd20); have hd23 := nd20.blk; have fd21 := nd20.fr; have zd22 := nd20.size; clear nd20 hd5; replace hd14 := Nd.sits.fr hd14 fd21 (by omega); replace hd15 := hd15.fr fd21 (by omega); replace X := X.fr fd21 (by omega); clear fd21; refine cT (cw_ret (qw_block_ret (qw_then_ret (qw_retc rfl tabOk rfl rfl rfl hd23 rfl ?_)))); rotate_left 1
   exact tree_ret (Nd.sits.wide (by assumption) (fun b h => by omega)) (by assumption) X
 rw [if_neg e4]
 by_cases e5 : (peekP c.ts σ).text = [117, 110, 119, 114, 105, 116, 101]
 · rw [if_pos e5]
   have hin := HIN.out _ e5 (by decide); refine calls_in Tryz.func30 Tryz.ntmps30 rfl rfl ?_
   focus
    refine cS ?_; (refine lw_alloc' [_, _, _, _] zOk rfl rfl ?_; intro be1 we2 ne3); have he5 := ne3.blk; have xe6 := ne3.ext; have pe7 := ne3.pos; have ze8 := ne3.size; clear ne3; replace hP := hP.ext xe6; replace X := X.ext xe6; clear xe6; refine cT (cw_seq (cS (C1 Mv ?_))); refine cC rfl (peek_c _ _ _ (by assumption)) ?_; rintro _ we10 ⟨⟨⟩, xe9⟩; have ze11 := xe9.size; replace he5 := he5.ext xe9; replace hP := hP.ext xe9; replace X := X.ext xe9; clear xe9; refine C1 (pur_field tabOk rfl rfl rfl rfl rfl rfl) (cT (cw_block (cS (C1 V8 (C1 Pa (cT (Wna (cS (C1 V8 (C1 Pa (cT ?_))))))))))); refine Wna (cS (C1 V8 (C1 Pa (cT (Wna (cS (C1 V8 (C1 Pa (cT (Wna (cS ?_))))))))))); refine C1 V8 (C1 Pa (cT (Wna (cS (C1 V8 (C1 Pa (cT (Wya (cS (C1 Mv ?_)))))))))); refine cR (by kernel_rfl) rfl (tapeStmt_c c k 49 _ _ (by assumption) hin (by omega)) (fun _ _ h => h.ret) rfl ?_; rintro _ we17 ⟨ae12, ⟨ke13, ⟨⟨⟩, ⟨he14, ⟨he15, fe16⟩⟩⟩⟩⟩; have ze18 := fe16.size; replace he5 := he5.fr fe16 (by omega); clear hP; replace X := X.fr fe16 (by omega); clear fe16; (refine lw_store' [_, _, _, _] [_, _, _, _] tabOk rfl rfl rfl rfl rfl rfl he5 rfl rfl ?_; intro we19 ne20); have he23 := ne20.blk; have fe21 := ne20.fr; have ze22 := ne20.size; clear ne20 he5; replace he14 := Nd.sits.fr he14 fe21 (by omega); replace he15 := he15.fr fe21 (by omega); replace X := X.fr fe21 (by omega); clear fe21; refine cT (cw_ret (qw_block_ret (qw_then_ret (qw_retc rfl tabOk rfl rfl rfl he23 rfl ?_)))); rotate_left 1
   exact tree_ret (Nd.sits.wide (by assumption) (fun b h => by omega)) (by assumption) X
 rw [if_neg e5]
 by_cases e6 : (peekP c.ts σ).text = [99, 97, 108, 108]
 · rw [if_pos e6]
   have hin := HIN.out _ e6 (by decide); refine calls_in Tryz.func30 Tryz.ntmps30 rfl rfl ?_
   focus
    refine cS ?_; (refine lw_alloc' [_, _, _, _] zOk rfl rfl ?_; intro bf1 wf2 nf3); have hf5 := nf3.blk; have xf6 := nf3.ext; have pf7 := nf3.pos; have zf8 := nf3.size; clear nf3; replace hP := hP.ext xf6; replace X := X.ext xf6; clear xf6; refine cT (cw_seq (cS (C1 Mv ?_))); refine cC rfl (peek_c _ _ _ (by assumption)) ?_; rintro _ wf10 ⟨⟨⟩, xf9⟩; have zf11 := xf9.size; replace hf5 := hf5.ext xf9; replace hP := hP.ext xf9; replace X := X.ext xf9; clear xf9; refine C1 (pur_field tabOk rfl rfl rfl rfl rfl rfl) (cT (cw_block (cS (C1 V8 (C1 Pa (cT (Wna (cS (C1 V8 (C1 Pa (cT ?_))))))))))); refine Wna (cS (C1 V8 (C1 Pa (cT (Wna (cS (C1 V8 (C1 Pa (cT (Wna (cS ?_))))))))))); refine C1 V8 (C1 Pa (cT (Wna (cS (C1 V8 (C1 Pa (cT (Wna (cS (C1 V8 (C1 Pa ?_))))))))))); refine cT (Wya (cS (C1 Mv ?_))); refine cR (by kernel_rfl) rfl (callStmt_c c k 50 _ _ (by assumption) hin (by omega)) (fun _ _ h => h.ret) rfl ?_; rintro _ wf17 ⟨af12, ⟨kf13, ⟨⟨⟩, ⟨hf14, ⟨hf15, ff16⟩⟩⟩⟩⟩; have zf18 := ff16.size; replace hf5 := hf5.fr ff16 (by omega); clear hP; replace X := X.fr ff16 (by omega); clear ff16; (refine lw_store' [_, _, _, _] [_, _, _, _] tabOk rfl rfl rfl rfl rfl rfl hf5 rfl rfl ?_; intro wf19 nf20); have hf23 := nf20.blk; have ff21 := nf20.fr; have zf22 := nf20.size; clear nf20 hf5; replace hf14 := Nd.sits.fr hf14 ff21 (by omega); replace hf15 := hf15.fr ff21 (by omega); replace X := X.fr ff21 (by omega); clear ff21; refine cT (cw_ret (qw_block_ret (qw_then_ret (qw_retc rfl tabOk rfl rfl rfl hf23 rfl ?_))))
    rotate_left 1
   exact tree_ret (Nd.sits.wide (by assumption) (fun b h => by omega)) (by assumption) X
 rw [if_neg e6]
 by_cases e7 : (peekP c.ts σ).text = [117, 110, 99, 97, 108, 108]
 · rw [if_pos e7]
   have hin := HIN.out _ e7 (by decide); refine calls_in Tryz.func30 Tryz.ntmps30 rfl rfl ?_
   focus
    refine cS ?_; (refine lw_alloc' [_, _, _, _] zOk rfl rfl ?_; intro bg1 wg2 ng3); have hg5 := ng3.blk; have xg6 := ng3.ext; have pg7 := ng3.pos; have zg8 := ng3.size; clear ng3; replace hP := hP.ext xg6; replace X := X.ext xg6; clear xg6; refine cT (cw_seq (cS (C1 Mv ?_))); refine cC rfl (peek_c _ _ _ (by assumption)) ?_; rintro _ wg10 ⟨⟨⟩, xg9⟩; have zg11 := xg9.size; replace hg5 := hg5.ext xg9; replace hP := hP.ext xg9; replace X := X.ext xg9; clear xg9; refine C1 (pur_field tabOk rfl rfl rfl rfl rfl rfl) (cT (cw_block (cS (C1 V8 (C1 Pa (cT (Wna (cS (C1 V8 (C1 Pa (cT ?_))))))))))); refine Wna (cS (C1 V8 (C1 Pa (cT (Wna (cS (C1 V8 (C1 Pa (cT (Wna (cS ?_))))))))))); refine C1 V8 (C1 Pa (cT (Wna (cS (C1 V8 (C1 Pa (cT (Wna (cS (C1 V8 (C1 Pa ?_))))))))))); refine cT (Wna (cS (C1 V8 (C1 Pa (cT (Wya (cS (C1 Mv ?_)))))))); refine cR (by kernel_rfl) rfl (callStmt_c c k 51 _ _ (by assumption) hin (by omega)) (fun _ _ h => h.ret) rfl ?_; rintro _ wg17 ⟨ag12, ⟨kg13, ⟨⟨⟩, ⟨hg14, ⟨hg15, fg16⟩⟩⟩⟩⟩; have zg18 := fg16.size; replace hg5 := hg5.fr fg16 (by omega); clear hP; replace X := X.fr fg16 (by omega); clear fg16; (refine lw_store' [_, _, _, _] [_, _, _, _] tabOk rfl rfl rfl rfl rfl rfl hg5 rfl rfl ?_; intro wg19 ng20); have hg23 := ng20.blk; have fg21 := ng20.fr; have zg22 := ng20.size; clear ng20 hg5; replace hg14 := Nd.sits.fr hg14 fg21 (by omega); replace hg15 := hg15.fr fg21 (by omega); replace X := X.fr fg21 (by omega); clear fg21; refine cT (cw_ret (qw_block_ret (qw_then_ret (qw_retc rfl tabOk rfl rfl rfl hg23 rfl ?_))))
    rotate_left 1
   exact tree_ret (Nd.sits.wide (by assumption) (fun b h => by omega)) (by assumption) X
 rw [if_neg e7]
 by_cases e8 : (peekP c.ts σ).text = [105, 102]
 · rw [if_pos e8]
   have hin := HIN.out _ e8 (by decide); refine calls_in Tryz.func30 Tryz.ntmps30 rfl rfl ?_
   focus
    refine cS ?_; (refine lw_alloc' [_, _, _, _] zOk rfl rfl ?_; intro bh1 wh2 nh3); have hh5 := nh3.blk; have xh6 := nh3.ext; have ph7 := nh3.pos; have zh8 := nh3.size; clear nh3; replace hP := hP.ext xh6; replace X := X.ext xh6; clear xh6; refine cT (cw_seq (cS (C1 Mv ?_))); refine cC rfl (peek_c _ _ _ (by assumption)) ?_; rintro _ wh10 ⟨⟨⟩, xh9⟩; have zh11 := xh9.size; replace hh5 := hh5.ext xh9; replace hP := hP.ext xh9; replace X := X.ext xh9; clear xh9; refine C1 (pur_field tabOk rfl rfl rfl rfl rfl rfl) (cT (cw_block (cS (C1 V8 (C1 Pa (cT (Wna (cS (C1 V8 (C1 Pa (cT ?_))))))))))); refine Wna (cS (C1 V8 (C1 Pa (cT (Wna (cS (C1 V8 (C1 Pa (cT (Wna (cS ?_))))))))))); refine C1 V8 (C1 Pa (cT (Wna (cS (C1 V8 (C1 Pa (cT (Wna (cS (C1 V8 (C1 Pa ?_))))))))))); refine cT (Wna (cS (C1 V8 (C1 Pa (cT (Wna (cS (C1 V8 (C1 Pa (cT (Wya ?_))))))))))); refine cS (C1 Mv ?_); refine cR (by kernel_rfl) rfl ((IH k (Nat.le_refl _)).branches 52 _ _ _ _ (by assumption) hin (by decide) (by decide) (by omega)) (fun _ _ h => h.ret) rfl ?_; rintro _ wh17 ⟨ah12, ⟨kh13, ⟨⟨⟩, ⟨hh14, ⟨hh15, fh16⟩⟩⟩⟩⟩; have zh18 := fh16.size; replace hh5 := hh5.fr fh16 (by omega); clear hP; replace X := X.fr fh16 (by omega); clear fh16; (refine lw_store' [_, _, _, _] [_, _, _, _] tabOk rfl rfl rfl rfl rfl rfl hh5 rfl rfl ?_; intro wh19 nh20); have hh23 := nh20.blk; have fh21 := nh20.fr; have zh22 := nh20.size; clear nh20 hh5; replace hh14 := Nd.sits.fr hh14 fh21 (by omega); replace hh15 := hh15.fr fh21 (by omega); replace X := X.fr fh21 (by omega)
    clear fh21; refine cT (cw_ret (qw_block_ret (qw_then_ret (qw_retc rfl tabOk rfl rfl rfl hh23 rfl ?_)))); rotate_left 1
   exact tree_ret (Nd.sits.wide (by assumption) (fun b h => by omega)) (by assumption) X
 rw [if_neg e8]
 by_cases e9 : (peekP c.ts σ).text = [102, 114, 111, 109]
 · rw [if_pos e9]
   have hin := HIN.out _ e9 (by decide); refine calls_in Tryz.func30 Tryz.ntmps30 rfl rfl ?_
   focus
    refine cS ?_; (refine lw_alloc' [_, _, _, _] zOk rfl rfl ?_; intro bi1 wi2 ni3); have hi5 := ni3.blk; have xi6 := ni3.ext; have pi7 := ni3.pos; have zi8 := ni3.size; clear ni3; replace hP := hP.ext xi6; replace X := X.ext xi6; clear xi6; refine cT (cw_seq (cS (C1 Mv ?_))); refine cC rfl (peek_c _ _ _ (by assumption)) ?_; rintro _ wi10 ⟨⟨⟩, xi9⟩; have zi11 := xi9.size; replace hi5 := hi5.ext xi9; replace hP := hP.ext xi9; replace X := X.ext xi9; clear xi9; refine C1 (pur_field tabOk rfl rfl rfl rfl rfl rfl) (cT (cw_block (cS (C1 V8 (C1 Pa (cT (Wna (cS (C1 V8 (C1 Pa (cT ?_))))))))))); refine Wna (cS (C1 V8 (C1 Pa (cT (Wna (cS (C1 V8 (C1 Pa (cT (Wna (cS ?_))))))))))); refine C1 V8 (C1 Pa (cT (Wna (cS (C1 V8 (C1 Pa (cT (Wna (cS (C1 V8 (C1 Pa ?_))))))))))); refine cT (Wna (cS (C1 V8 (C1 Pa (cT (Wna (cS (C1 V8 (C1 Pa (cT (Wna ?_))))))))))); refine cS (C1 V8 (C1 Pa (cT (Wya (cS (C1 Mv ?_)))))); refine cR (by kernel_rfl) rfl ((IH k (Nat.le_refl _)).branches 53 _ _ _ _ (by assumption) hin (by decide) (by decide) (by omega)) (fun _ _ h => h.ret) rfl ?_; rintro _ wi17 ⟨ai12, ⟨ki13, ⟨⟨⟩, ⟨hi14, ⟨hi15, fi16⟩⟩⟩⟩⟩; have zi18 := fi16.size; replace hi5 := hi5.fr fi16 (by omega); clear hP; replace X := X.fr fi16 (by omega); clear fi16; (refine lw_store' [_, _, _, _] [_, _, _, _] tabOk rfl rfl rfl rfl rfl rfl hi5 rfl rfl ?_; intro wi19 ni20); have hi23 := ni20.blk; have fi21 := ni20.fr; have zi22 := ni20.size; clear ni20 hi5; replace hi14 := Nd.sits.fr hi14 fi21 (by omega); replace hi15 := hi15.fr fi21 (by omega)
    replace X := X.fr fi21 (by omega); clear fi21; refine cT (cw_ret (qw_block_ret (qw_then_ret (qw_retc rfl tabOk rfl rfl rfl hi23 rfl ?_)))); rotate_left 1
   exact tree_ret (Nd.sits.wide (by assumption) (fun b h => by omega)) (by assumption) X
 rw [if_neg e9]
 by_cases e10 : (peekP c.ts σ).text = [108, 111, 99, 97, 108]
 · rw [if_pos e10]
   have hin := HIN.out _ e10 (by decide); refine calls_in Tryz.func30 Tryz.ntmps30 rfl rfl ?_
   focus
    refine cS ?_; (refine lw_alloc' [_, _, _, _] zOk rfl rfl ?_; intro bj1 wj2 nj3); have hj5 := nj3.blk; have xj6 := nj3.ext; have pj7 := nj3.pos; have zj8 := nj3.size; clear nj3; replace hP := hP.ext xj6; replace X := X.ext xj6; clear xj6; refine cT (cw_seq (cS (C1 Mv ?_))); refine cC rfl (peek_c _ _ _ (by assumption)) ?_; rintro _ wj10 ⟨⟨⟩, xj9⟩; have zj11 := xj9.size; replace hj5 := hj5.ext xj9; replace hP := hP.ext xj9; replace X := X.ext xj9; clear xj9; refine C1 (pur_field tabOk rfl rfl rfl rfl rfl rfl) (cT (cw_block (cS (C1 V8 (C1 Pa (cT (Wna (cS (C1 V8 (C1 Pa (cT ?_))))))))))); refine Wna (cS (C1 V8 (C1 Pa (cT (Wna (cS (C1 V8 (C1 Pa (cT (Wna (cS ?_))))))))))); refine C1 V8 (C1 Pa (cT (Wna (cS (C1 V8 (C1 Pa (cT (Wna (cS (C1 V8 (C1 Pa ?_))))))))))); refine cT (Wna (cS (C1 V8 (C1 Pa (cT (Wna (cS (C1 V8 (C1 Pa (cT (Wna ?_))))))))))); refine cS (C1 V8 (C1 Pa (cT (Wna (cS (C1 V8 (C1 Pa (cT (Wya (cS (C1 Mv ?_))))))))))); refine cR (by kernel_rfl) rfl ((IH k (Nat.le_refl _)).local_ _ _ (by assumption) hin (by omega)) (fun _ _ h => h.ret) rfl ?_; rintro _ wj17 ⟨aj12, ⟨kj13, ⟨⟨⟩, ⟨hj14, ⟨hj15, fj16⟩⟩⟩⟩⟩; have zj18 := fj16.size; replace hj5 := hj5.fr fj16 (by omega); clear hP; replace X := X.fr fj16 (by omega); clear fj16; (refine lw_store' [_, _, _, _] [_, _, _, _] tabOk rfl rfl rfl rfl rfl rfl hj5 rfl rfl ?_; intro wj19 nj20); have hj23 := nj20.blk; have fj21 := nj20.fr; have zj22 := nj20.size; clear nj20 hj5; replace hj14 := Nd.sits.fr hj14 fj21 (by omega); replace hj15 := hj15.fr fj21 (by omega)
    replace X := X.fr fj21 (by omega); clear fj21; refine cT (cw_ret (qw_block_ret (qw_then_ret (qw_retc rfl tabOk rfl rfl rfl hj23 rfl ?_)))); rotate_left 1
   exact tree_ret (Nd.sits.wide (by assumption) (fun b h => by omega)) (by assumption) X
 rw [if_neg e10]; refine calls_in Tryz.func30 Tryz.ntmps30 rfl rfl ?_
 focus
  refine cS ?_; (refine lw_alloc' [_, _, _, _] zOk rfl rfl ?_; intro bk1 wk2 nk3); have hk5 := nk3.blk; have xk6 := nk3.ext; have pk7 := nk3.pos; have zk8 := nk3.size; clear nk3; replace hP := hP.ext xk6; replace X := X.ext xk6; clear xk6; refine cT (cw_seq (cS (C1 Mv ?_))); refine cC rfl (peek_c _ _ _ (by assumption)) ?_; rintro _ wk10 ⟨⟨⟩, xk9⟩; have zk11 := xk9.size; replace hk5 := hk5.ext xk9; replace hP := hP.ext xk9; replace X := X.ext xk9; clear xk9; refine C1 (pur_field tabOk rfl rfl rfl rfl rfl rfl) (cT (cw_block (cS (C1 V8 (C1 Pa (cT (Wna (cS (C1 V8 (C1 Pa (cT ?_))))))))))); refine Wna (cS (C1 V8 (C1 Pa (cT (Wna (cS (C1 V8 (C1 Pa (cT (Wna (cS ?_))))))))))); refine C1 V8 (C1 Pa (cT (Wna (cS (C1 V8 (C1 Pa (cT (Wna (cS (C1 V8 (C1 Pa ?_))))))))))); refine cT (Wna (cS (C1 V8 (C1 Pa (cT (Wna (cS (C1 V8 (C1 Pa (cT (Wna ?_))))))))))); refine cS (C1 V8 (C1 Pa (cT (Wna (cS (C1 V8 (C1 Pa (cT (Wna (cw_skip (qw_block_norm ?_))))))))))); refine qw_then (cS (C1 Mv ?_)); refine cR (by kernel_rfl) rfl (update_c c k _ _ (by assumption) (by omega)) (fun _ _ h => h.ret) rfl ?_; rintro _ wk17 ⟨ak12, ⟨kk13, ⟨⟨⟩, ⟨hk14, ⟨hk15, fk16⟩⟩⟩⟩⟩; have zk18 := fk16.size; replace hk5 := hk5.fr fk16 (by omega); clear hP; replace X := X.fr fk16 (by omega); clear fk16; (refine lw_store' [_, _, _, _] [_, _, _, _] tabOk rfl rfl rfl rfl rfl rfl hk5 rfl rfl ?_; intro wk19 nk20); have hk23 := nk20.blk; have fk21 := nk20.fr; have zk22 := nk20.size; clear nk20 hk5; replace hk14 := Nd.sits.fr hk14 fk21 (by omega)
  replace hk15 := hk15.fr fk21 (by omega); replace X := X.fr fk21 (by omega); clear fk21; refine cT (cw_ret (qw_retc rfl tabOk rfl rfl rfl hk23 rfl ?_)); rotate_left 1
 exact tree_ret (Nd.sits.wide (by assumption) (fun b h => by omega)) (by assumption) X
end Bk
namespace Bk
open Go Go.RowKit Go.Proofs
attribute [local irreducible] Go.Calls
theorem mS_drop {ts : List Tok} {σ σ' : PS} (h : Le ts σ σ') (k : Lt σ σ') (e : σ'.err = 0) : mS ts σ' + 1 ≤ mS ts σ := by
 have h1 := h.ok e; have h2 := k e; have h3 := h.wf
 unfold mS
 rw [if_pos e, if_pos h1]
 omega
set_option maxRecDepth 100000 in
set_option maxHeartbeats 2000000 in
theorem block_w (c : PC) (k : Nat) (IH : ∀ j, j ≤ k → StmtsC c j) (σ : PS) (w : World) (hP : PP c σ w) (hk : 4 * mS c.ts σ + 8 ≤ k + 1) :
 Calls Tryz.prog 97 #[.pointer (some ⟨c.pb, 0, none⟩)] w (TreeR c w (blockP c.ts c.n (k + 1) σ)) := by
 have X := Fr.refl (· = c.pb) w; have hpb := hP.pbB; have hB := hP.B; have hlen := hP.len; rw [blockP]; (try dsimp only); have l1 := expect_le (n := c.n) (t := [123]) hP.at_ (by decide); have m1 := mS_le l1
 have hmt : mS c.ts σ ≤ c.ts.length := by unfold mS; split <;> omega
 clear l1; refine calls_in Tryz.func97 Tryz.ntmps97 rfl rfl ?_
 focus
  refine cS ?_; (refine lw_alloc' [_, _, _, _] zOk rfl rfl ?_; intro b1 w2 n3); have h5 := n3.blk; have x6 := n3.ext; have p7 := n3.pos; have z8 := n3.size; clear n3; replace hP := hP.ext x6; replace X := X.ext x6; clear x6; refine cN (C1 (pur_build' [_, _, _, _] tabOk zOk rfl rfl rfl rfl) ?_); (refine lw_alloc' [_, _, _, _] zOk rfl rfl ?_; intro b9 w10 n11); (refine lw_init' [_, _, _, _] tabOk rfl rfl rfl rfl rfl rfl n11 rfl ?_; clear n11; clear w10; intro w12 n11); have h13 := n11.blk; have x14 := n11.ext; have p15 := n11.pos; have z16 := n11.size; clear n11; replace h5 := h5.ext x14; replace hP := hP.ext x14; replace X := X.ext x14; clear x14; refine cN (C1 Mv ?_); refine cC rfl (expect_c _ _ _ _ (by assumption) (by decide)) ?_; rintro _ w19 ⟨⟨⟩, ⟨h17, f18⟩⟩; have z20 := f18.size; replace h13 := h13.fr f18 (by omega); replace h5 := h5.fr f18 (by omega); clear hP; replace X := X.fr f18 (by omega); clear f18; refine cT (cw_seq (cw_block ?_)); rotate_left 1
 generalize expectP c.ts c.n σ [123] = ρ at *
 refine cw_loop (ι := Nat × List Nd × Option Addr × Nat × PS) (fun _ => [(0, .pointer (some ⟨c.pb, 0, none⟩)), (2, .pointer (some ⟨b1, 0, none⟩)), (3, .pointer (some ⟨b9, 0, none⟩))])
  (fun x w' => PP c x.2.2.2.2 w' ∧ Blk w' b9 [.int .u8 57, .int .i64 0, str [], .slice x.2.2.1 x.2.1.length x.2.2.2.1] ∧ OwnL ndShape w' (b9 + 1) 26 (.slice x.2.2.1 x.2.1.length x.2.2.2.1) x.2.1 ∧
   Blk w' b1 [.int .u8 0, .int .i64 0, .string ⟨#[]⟩, .slice none 0 0] ∧ Fr (· = c.pb) w w' ∧ w19.heap.size ≤ w'.heap.size ∧
   stmtsP c.ts c.n k [] ρ = stmtsP c.ts c.n x.1 x.2.1 x.2.2.2.2 ∧ (x.2.2.2.2.err = 0 → 4 * mS c.ts x.2.2.2.2 + 7 ≤ x.1) ∧ 1 ≤ x.1 ∧ x.1 ≤ k ∧ (x.2.2.2.2.err = 0 → x.2.1.length + mS c.ts x.2.2.2.2 ≤ 1000001)) (fun x => x.1) (k, [], none, 0, ρ) (by (refine sub_cons rfl ?_; refine sub_cons rfl ?_; refine sub_cons rfl ?_; exact sub_nil))
  ⟨h17, h13, OwnL.nil, h5, X, Nat.le_refl _, rfl, fun _ => by simp only; omega, by simp only; omega, Nat.le_refl _, fun _ => by simp only [List.length_nil]; omega⟩ ?_
 rintro ⟨j, acc, a, cap, σ'⟩ w1 ⟨hP, hbn, hown, hbr, X, hz, he, hfj, hj1, hjk, hacc⟩; simp only at hP hbn hown he hfj hj1 hjk hacc; clear h13 h5 h17; rw [he]; obtain ⟨j, rfl⟩ : ∃ i, j = i + 1 := ⟨j - 1, by omega⟩
 have hob : ∀ g, (Value.slice a acc.length cap).ownBlock = some g → g < w1.heap.size := fun g h => hown.lt h
 by_cases h0 : σ'.err = 0
 case neg =>
  rw [show stmtsP c.ts c.n (j + 1) acc σ' = (acc, σ') from by rw [stmtsP]; simp [h0]]
  focus
   refine cw_seq (cS (C1 Mv (C1 Pn (C1 Pf (lw_load_b tabOk rfl rfl rfl (PP.blk hP) rfl rfl (C1 V1 (C1 Mv (Ona (Ona (Ona (C1 Qna ?_))))))))))); refine cT (cw_cond_f rfl (cw_exit (qw_then_exit (qw_then_exit (qw_block_exit (qw_then (cS (lw_loads_b' [_, _, _, _] tabOk rfl rfl rfl hbn rfl rfl rfl ?_)))))))); (refine lw_store' [_, _, _, _] [_, _, _, _] tabOk rfl rfl rfl rfl rfl rfl hbr rfl rfl ?_; intro wa1 na2); have ha5 := na2.blk; have fa3 := na2.fr; have za4 := na2.size; clear na2 hbr; replace hP := hP.fr fa3 (by omega); replace hbn := hbn.fr fa3 (by omega); replace hown := hown.fr fa3 (by omega); replace X := X.fr fa3 (by omega); clear fa3; refine cT (cw_ret (qw_retc rfl tabOk rfl rfl rfl ha5 rfl ?_)); rotate_left 1
  exact tree_ret (sits_mk (hown.sits (fun b h => by omega))) (by assumption) X
 cases hc : hasP c.ts σ' [125]
 case true =>
  rw [show stmtsP c.ts c.n (j + 1) acc σ' = (acc, nextP σ') from by rw [stmtsP]; simp [h0, hc]]
  focus
   refine cw_seq (cS (C1 Mv (C1 Pn (C1 Pf (lw_load_b tabOk rfl rfl rfl (PP.blk hP) rfl rfl (C1 V1 (C1 Mv (Gya (C1 Mv (Gya ?_)))))))))); refine cC rfl (accept_t _ _ _ _ (by assumption) (by decide) (by assumption)) ?_; rintro _ wb3 ⟨⟨⟩, ⟨hb1, fb2⟩⟩; have zb4 := fb2.size; clear hP; replace hbn := hbn.fr fb2 (by omega); replace hown := hown.fr fb2 (by omega); replace hbr := hbr.fr fb2 (by omega); replace X := X.fr fb2 (by omega); clear fb2; refine Gya (C1 Pt (C1 Qya (cT (cw_cond_f rfl (cw_exit (qw_then_exit (qw_then_exit (qw_block_exit (qw_then (cS (lw_loads_b' [_, _, _, _] tabOk rfl rfl rfl hbn rfl rfl rfl ?_))))))))))); (refine lw_store' [_, _, _, _] [_, _, _, _] tabOk rfl rfl rfl rfl rfl rfl hbr rfl rfl ?_; intro wb5 nb6); have hb9 := nb6.blk; have fb7 := nb6.fr; have zb8 := nb6.size; clear nb6 hbr; replace hb1 := hb1.fr fb7 (by omega); replace hbn := hbn.fr fb7 (by omega); replace hown := hown.fr fb7 (by omega); replace X := X.fr fb7 (by omega); clear fb7; refine cT (cw_ret (qw_retc rfl tabOk rfl rfl rfl hb9 rfl ?_)); rotate_left 1
  exact tree_ret (sits_mk (hown.sits (fun b h => by omega))) (by assumption) X
 rw [show stmtsP c.ts c.n (j + 1) acc σ' = stmtsP c.ts c.n j (acc ++ [(stmtP c.ts c.n j σ').1]) (expectP c.ts c.n (stmtP c.ts c.n j σ').2 [59]) from by rw [stmtsP]; simp [h0, hc]]; have l1 := (stmt_inv (ts := c.ts) (n := c.n) j).1 σ' hP.at_; have l2 := expect_le (n := c.n) (t := [59]) l1.wf (by decide); have hlt : Lt σ' (expectP c.ts c.n (stmtP c.ts c.n j σ').2 [59]) := Lt.of_le l1 expect_lt; have hdrop := mS_drop (l1.trans l2) hlt; have hmv := mS_lt (l1.trans l2) hlt; have hacc0 := hacc h0; have hfj0 := hfj h0; clear l1 l2
 focus
  refine cw_seq (cS (C1 Mv (C1 Pn (C1 Pf (lw_load_b tabOk rfl rfl rfl (PP.blk hP) rfl rfl (C1 V1 (C1 Mv (Gya (C1 Mv (Gya ?_)))))))))); refine cC rfl (accept_f _ _ _ _ (by assumption) (by decide) (by assumption)) ?_; rintro _ wc3 ⟨⟨⟩, ⟨hc1, fc2⟩⟩; have zc4 := fc2.size; clear hP; replace hbn := hbn.fr fc2 (by omega); replace hown := hown.fr fc2 (by omega); replace hbr := hbr.fr fc2 (by omega); replace X := X.fr fc2 (by omega); clear fc2; refine Gya (C1 Pt (C1 Qya (cT (cw_cond_t rfl (cw_skip (qw_then (cw_block (cw_seq ?_)))))))); (refine cw_tdraw (fun wz => Fr (· = c.pb) wc3 wz) 5 (.pure 0 (.pure 1 (.pure 2 (.fork 3 (.fork 4 .tail .none) .none)))) mixed (by kernel_rfl) (panicOk_then (panicOk_block (panicOk_then (panicOk_block (panicOk_then panicOk_body))))) ?_; intro wc5 xc6 _); have qsc7 : (fun wz => Fr (· = c.pb) wc3 wz) wc5 := Fr.of_ext xc6; simp only at qsc7; have d_hc1 := hc1; have d_hbn := hbn; have d_hown := hown; have d_hbr := hbr; have zc8 := xc6.size; replace hc1 := hc1.ext xc6; replace hbn := hbn.ext xc6; replace hown := hown.ext xc6; replace hbr := hbr.ext xc6; replace X := X.ext xc6; clear xc6; refine ⟨qsc7, ?_⟩; refine Tq rfl Pf ?_; refine Tq rfl (pur_load tabOk rfl rfl rfl (fun wz hz => Blk.cell (Blk.fr d_hbn hz (by omega)) rfl)) ?_; refine Tq rfl Mv ?_; refine tw_does rfl (does_call (by kernel_rfl) rfl ((IH j (by omega)).stmt _ _ (by assumption) (by omega)) (fun _ _ h => h.ret)) rfl ?_ (fun _ h => h) tw_none; rintro _ wc14 ⟨ac9, ⟨kc10, ⟨⟨⟩, ⟨hc11, ⟨hc12, fc13⟩⟩⟩⟩⟩
  have zc15 := fc13.size; replace qsc7 := qsc7.fr fc13 (by omega); clear hc1; replace hbn := hbn.fr fc13 (by omega); replace hown := hown.fr fc13 (by omega); replace hbr := hbr.fr fc13 (by omega); replace X := X.fr fc13 (by omega); clear fc13; refine ⟨qsc7, ?_⟩; (refine tw_does rfl (does_slice' [_, _, _, _] tabOk zOk rfl rfl rfl rfl rfl rfl rfl rfl rfl) rfl ?_ (fun _ h => h) tw_none; rintro _ wc17 ⟨bc16, rfl, nc18, tc19⟩); clear tc19; have hc20 := nc18.blk; have xc21 := nc18.ext; have pc22 := nc18.pos; have zc23 := nc18.size; clear nc18; replace hc11 := Nd.sits.ext hc11 xc21; replace hc12 := hc12.ext xc21; replace qsc7 := qsc7.ext xc21; replace hbn := hbn.ext xc21; replace hown := hown.ext xc21; replace hbr := hbr.ext xc21; replace X := X.ext xc21; clear xc21; refine ⟨qsc7, ?_⟩; clear d_hc1 d_hbn d_hown d_hbr qsc7; refine tw_tail rfl ?_; refine lw_appendL (sh := ndShape) tabOk zOk rfl rfl rfl rfl (by kernel_rfl) rfl rfl rfl hown (Blk.row (by assumption)) ⟨_, _, rfl, Nd.sits.wide (by assumption) (fun b h => ⟨by omega, fun e => by have := hob _ e; omega⟩)⟩ (by omega) (by omega) rfl ?_; rintro gc24 cap'c25 wc26 hc27 fc28; have zc29 := fc28.size; clear hc20 hc11; replace hc12 := hc12.fr fc28 (by omega); replace hbn := hbn.fr fc28 (by omega); clear hown; replace hbr := hbr.fr fc28 (by omega); replace X := X.fr fc28 (by omega); clear fc28; refine C1 Pf ?_; (refine lw_store' [_] [_, _, _, _] tabOk rfl rfl rfl rfl rfl rfl hbn rfl rfl ?_; intro wc30 nc31); have hc34 := nc31.blk; have fc32 := nc31.fr
  have zc33 := nc31.size; clear nc31 hbn; replace hc27 := hc27.fr fc32 (by omega); replace hc12 := hc12.fr fc32 (by omega); replace hbr := hbr.fr fc32 (by omega); replace X := X.fr fc32 (by omega); clear fc32; refine cT (cw_region (C1 Mv ?_)); refine cC rfl (expect_c _ _ _ _ (by assumption) (by decide)) ?_; rintro _ wc37 ⟨⟨⟩, ⟨hc35, fc36⟩⟩; have zc38 := fc36.size; replace hc34 := hc34.fr fc36 (by omega); replace hc27 := hc27.fr fc36 (by omega); clear hc12; replace hbr := hbr.fr fc36 (by omega); replace X := X.fr fc36 (by omega); clear fc36; refine lw_nil (qw_block_norm ?_); rotate_left 1
 refine qw_round (j, acc ++ [(stmtP c.ts c.n j σ').1], some ⟨_, 0, none⟩, _, expectP c.ts c.n (stmtP c.ts c.n j σ').2 [59]) (by (refine sub_cons rfl ?_; refine sub_cons rfl ?_; refine sub_cons rfl ?_; exact sub_nil)) ⟨by assumption, by assumption, by assumption, by assumption, X, by omega, rfl, fun e => by have := hdrop e; simp only; omega, by simp only; omega, by simp only; omega, fun e => ?_⟩ (by simp); have := hdrop e; simp only [List.length_append, List.length_cons, List.length_nil]
 omega
theorem stmts_c (c : PC) (k : Nat) : StmtsC c k := by
 induction k using Nat.strongRecOn with
 | _ k ih =>
  cases k with
  | zero => exact ⟨fun _ _ _ h => by omega, fun _ _ _ _ _ _ _ _ _ h => by omega, fun _ _ _ _ h => by omega, fun _ _ _ h => by omega⟩
  | succ k =>
   have IH : ∀ j, j ≤ k → StmtsC c j := fun j hj => ih j (by omega)
   exact ⟨stmt_w c k IH, branches_w c k IH, local_w c k IH, block_w c k IH⟩
end Bk
namespace Bk
open Go Go.RowKit Go.Proofs
attribute [local irreducible] Go.Calls
theorem rowDepth_snoc (l : List Nd) (x : Nd) : rowDepth (l ++ [x]) = max (rowDepth l) x.depth := by
 induction l with
 | nil => simp only [List.nil_append, rowDepth]; omega
 | cons y r ih => simp only [List.cons_append, rowDepth, ih]; omega
mutual
theorem depth_le : ∀ t : Nd, 1 ≤ t.depth ∧ t.depth ≤ t.size
 | .mk _ _ _ l => by
  have := rowDepth_le l
  simp only [Nd.depth, Nd.size]; omega
theorem rowDepth_le : ∀ l : List Nd, 0 ≤ rowDepth l ∧ rowDepth l ≤ rowSize l
 | [] => by simp [rowDepth, rowSize]
 | t :: r => by
  have h1 := depth_le t; have h2 := rowDepth_le r
  simp only [rowDepth, rowSize]; omega
end
theorem rowSize_snoc (l : List Nd) (x : Nd) : rowSize (l ++ [x]) = rowSize l + x.size := by
 induction l with
 | nil => simp [rowSize]
 | cons y r ih => simp only [List.cons_append, rowSize, ih]; omega
theorem rowSize_take (l : List Nd) (j : Nat) : rowSize (l.take j) ≤ rowSize l := by
 induction l generalizing j with
 | nil => simp
 | cons x r ih =>
  cases j with
  | zero => simp [rowSize]
  | succ j => simp only [List.take_succ_cons, rowSize]; have := ih j; omega
theorem length_rowSize (l : List Nd) : l.length ≤ rowSize l := by
 induction l with
 | nil => simp [rowSize]
 | cons x r ih => have := Nd.size_pos x; simp only [rowSize, List.length_cons]; omega
set_option maxRecDepth 100000 in
set_option maxHeartbeats 1000000 in
theorem Depth_c (N : Nat) : ∀ (t : Nd) (S : Nat → Prop) (a : Option Addr) (c : Nat) (w : World), t.size < N → t.size ≤ 1000000000 → t.sits S w a →
 Calls Tryz.prog 98 #[t.val a c] w fun e w' => e = .returned (.int .i64 t.depth) ∧ Ext w w' := by
 induction N with
 | zero => intro t S a c w h; omega
 | succ N ih =>
  rintro ⟨k, n, s, l⟩ S a c w hN hM hs
  have IH := Lib.hid ih; clear ih
  simp only [Nd.sits] at hs; simp only [Nd.size] at hN hM; have X := Ext.refl w; have hl := length_rowSize l; rw [show (Nd.mk k n s l).depth = rowDepth l + 1 from by simp only [Nd.depth]]; refine calls_in Tryz.func98 Tryz.ntmps98 rfl rfl ?_
  focus
   refine cS ?_; (refine lw_box' [_, _, _, _] rfl rfl rfl ?_; intro b1 w2 n3); have h4 := n3.blk; have x5 := n3.ext; have p6 := n3.pos; have z7 := n3.size; clear n3; replace hs := Bk.rowSits.ext hs x5; replace X := X.ext x5; clear x5; refine C1 Pa (cN (C1 Pa (cT (cw_seq (cS (C1 Pf (C1 (Pl h4) (C1 Pz (C1 Mv (cT (cw_block ?_))))))))))); rotate_left 1
  refine cw_loop (ι := Nat) (fun j => [(9, .int .i64 j), (8, .int .i64 l.length), (7, .slice a l.length c), (3, .int .i64 (rowDepth (l.take j)))]) (fun j w' => rowSits S w' l a ∧ Ext w w' ∧ j ≤ l.length) (fun j => l.length - j) 0 (by (refine sub_cons rfl ?_; refine sub_cons rfl ?_; refine sub_cons rfl ?_; refine sub_cons rfl ?_; exact sub_nil)) ⟨hs, X, Nat.zero_le _⟩ ?_; rintro j w1 ⟨hs, X, hj⟩; clear h4
  by_cases hlt : j < l.length
  · obtain ⟨kb, ko, rfl, hkS, hkid⟩ := kidRows hs (by intro e; subst e; simp at hlt)
    obtain ⟨xa, xc, rx, sx⟩ := hkid j l[j] (List.getElem?_eq_getElem hlt); have hsz := size_mem (List.getElem_mem hlt)
    have ht : l.take (j + 1) = l.take j ++ [l[j]] := by rw [List.take_add_one, List.getElem?_eq_getElem hlt]; rfl
    have hb0 := rowDepth_le (l.take j); have hb1 := rowSize_take l j; have hb2 := rowSize_take l (j + 1); have hb3 := depth_le l[j]; rw [ht, rowSize_snoc] at hb2; clear hkid
    generalize l[j] = x at *
    focus
     refine cS (C1 V3 (cT (cw_seq (Wyo (cw_skip (qw_then (cw_seq (cw_block (cS (C1 Pi (C1 (Pws rx) ?_))))))))))); (refine lw_alloc' [_, _, _, _] zOk rfl rfl ?_; intro ba1 wa2 na3); (refine lw_init' [_, _, _, _] tabOk rfl rfl rfl rfl rfl rfl na3 rfl ?_; clear na3; clear wa2; intro wa4 na3); have ha5 := na3.blk; have xa6 := na3.ext; have pa7 := na3.pos; have za8 := na3.size; clear na3; replace X := X.ext xa6; replace hs := Bk.rowSits.ext hs xa6; replace rx := rx.ext xa6; replace sx := Nd.sits.ext sx xa6; clear xa6; refine cT (cw_region (C1 Mv (lw_loads_b' [_, _, _, _] tabOk rfl rfl rfl ha5 rfl rfl rfl ?_))); refine cC rfl (IH.out _ S _ _ _ (by omega) (by omega) (by assumption)) ?_; rintro _ wa10 ⟨⟨⟩, xa9⟩; have za11 := xa9.size; replace ha5 := ha5.ext xa9; replace X := X.ext xa9; replace hs := Bk.rowSits.ext hs xa9; replace rx := rx.ext xa9; replace sx := Nd.sits.ext sx xa9; clear xa9; refine C1 (pur_max rfl rfl rfl) (C1 Pa (lw_nil (qw_block_norm (qw_then (cw_region (C1 V7 (C1 Mv (lw_nil ?_)))))))); rotate_left 1
    refine qw_round (j + 1) ?_ ⟨hs, X, by omega⟩ (by omega); refine sub_cons rfl (sub_cons rfl (sub_cons rfl (sub_cons' rfl ?_ sub_nil))); rw [ht, rowDepth_snoc]
  · have : j = l.length := by omega
    subst this; have hb0 := rowDepth_le l; rw [List.take_length]
    focus
     refine cS (C1 V3 (cT (cw_seq (Wno (cw_exit (qw_then_exit (qw_then_exit (qw_block_exit (qw_then (cS (C1 Mv ?_))))))))))); refine C1 V7 (C1 Pa (cT (cw_ret (qw_ret1 rfl rfl ?_)))); rotate_left 1
    exact ⟨rfl, X⟩
set_option maxRecDepth 100000 in
set_option maxHeartbeats 1000000 in
theorem Size_c (N : Nat) : ∀ (t : Nd) (S : Nat → Prop) (a : Option Addr) (c : Nat) (w : World), t.size < N → t.size ≤ 1000000000 → t.sits S w a →
 Calls Tryz.prog 99 #[t.val a c] w fun e w' => e = .returned (.int .i64 t.size) ∧ Ext w w' := by
 induction N with
 | zero => intro t S a c w h; omega
 | succ N ih =>
  rintro ⟨k, n, s, l⟩ S a c w hN hM hs
  have IH := Lib.hid ih; clear ih
  simp only [Nd.sits] at hs; simp only [Nd.size] at hN hM; have X := Ext.refl w; have hl := length_rowSize l; rw [show ((Nd.mk k n s l).size : Int) = ((rowSize l : Nat) : Int) + 1 from by simp only [Nd.size]; omega]; refine calls_in Tryz.func99 Tryz.ntmps99 rfl rfl ?_
  focus
   refine cS ?_; (refine lw_box' [_, _, _, _] rfl rfl rfl ?_; intro b1 w2 n3); have h4 := n3.blk; have x5 := n3.ext; have p6 := n3.pos; have z7 := n3.size; clear n3; replace hs := Bk.rowSits.ext hs x5; replace X := X.ext x5; clear x5; refine C1 Pa (cN (C1 Pa (cT (cw_seq (cS (C1 Pf (C1 (Pl h4) (C1 Pz (C1 Mv (cT (cw_block ?_))))))))))); rotate_left 1
  refine cw_loop (ι := Nat) (fun j => [(9, .int .i64 j), (8, .int .i64 l.length), (7, .slice a l.length c), (3, .int .i64 (((rowSize (l.take j) : Nat) : Int) + 1))]) (fun j w' => rowSits S w' l a ∧ Ext w w' ∧ j ≤ l.length) (fun j => l.length - j) 0 (by (refine sub_cons rfl ?_; refine sub_cons rfl ?_; refine sub_cons rfl ?_; refine sub_cons rfl ?_; exact sub_nil)) ⟨hs, X, Nat.zero_le _⟩ ?_; rintro j w1 ⟨hs, X, hj⟩; clear h4
  by_cases hlt : j < l.length
  · obtain ⟨kb, ko, rfl, hkS, hkid⟩ := kidRows hs (by intro e; subst e; simp at hlt)
    obtain ⟨xa, xc, rx, sx⟩ := hkid j l[j] (List.getElem?_eq_getElem hlt); have hsz := size_mem (List.getElem_mem hlt)
    have ht : l.take (j + 1) = l.take j ++ [l[j]] := by rw [List.take_add_one, List.getElem?_eq_getElem hlt]; rfl
    have hb0 := rowDepth_le (l.take j); have hb1 := rowSize_take l j; have hb2 := rowSize_take l (j + 1); have hb3 := depth_le l[j]; rw [ht, rowSize_snoc] at hb2; clear hkid
    generalize l[j] = x at *
    focus
     refine cS (C1 V3 (cT (cw_seq (Wyo (cw_skip (qw_then (cw_seq (cw_block (cS (C1 Pi (C1 (Pws rx) ?_))))))))))); (refine lw_alloc' [_, _, _, _] zOk rfl rfl ?_; intro ba1 wa2 na3); (refine lw_init' [_, _, _, _] tabOk rfl rfl rfl rfl rfl rfl na3 rfl ?_; clear na3; clear wa2; intro wa4 na3); have ha5 := na3.blk; have xa6 := na3.ext; have pa7 := na3.pos; have za8 := na3.size; clear na3; replace X := X.ext xa6; replace hs := Bk.rowSits.ext hs xa6; replace rx := rx.ext xa6; replace sx := Nd.sits.ext sx xa6; clear xa6; refine cT (cw_region (C1 Mv (lw_loads_b' [_, _, _, _] tabOk rfl rfl rfl ha5 rfl rfl rfl ?_))); refine cC rfl (IH.out _ S _ _ _ (by omega) (by omega) (by assumption)) ?_; rintro _ wa10 ⟨⟨⟩, xa9⟩; have za11 := xa9.size; replace ha5 := ha5.ext xa9; replace X := X.ext xa9; replace hs := Bk.rowSits.ext hs xa9; replace rx := rx.ext xa9; replace sx := Nd.sits.ext sx xa9; clear xa9; refine C1 V7 (C1 Pa (lw_nil (qw_block_norm (qw_then (cw_region (C1 V7 (C1 Mv (lw_nil ?_)))))))); rotate_left 1
    refine qw_round (j + 1) ?_ ⟨hs, X, by omega⟩ (by omega); refine sub_cons rfl (sub_cons rfl (sub_cons rfl (sub_cons' rfl ?_ sub_nil))); rw [ht, rowSize_snoc]
    congr 1; omega
  · have : j = l.length := by omega
    subst this; have hb0 := rowDepth_le l; rw [List.take_length]
    focus
     refine cS (C1 V3 (cT (cw_seq (Wno (cw_exit (qw_then_exit (qw_then_exit (qw_block_exit (qw_then (cS (C1 Mv ?_))))))))))); refine C1 Pa (cT (cw_ret (qw_ret1 rfl rfl ?_))); rotate_left 1
    exact ⟨rfl, X⟩
end Bk
namespace Bk
section
variable {ts : List Tok} {n : Int}
theorem next_at (σ : PS) : (nextP σ).at_ = σ.at_ + 1 := rfl
theorem expr_size (k : Nat) : (∀ lv σ, σ.at_ ≤ ts.length → (exprP ts n k lv σ).1.size + 8 * σ.at_ ≤ 8 * (exprP ts n k lv σ).2.at_ + 1) ∧ (∀ lv x σ, σ.at_ ≤ ts.length → (climbP ts n k lv x σ).1.size + 8 * σ.at_ ≤ 8 * (climbP ts n k lv x σ).2.at_ + x.size) ∧
 (∀ σ, σ.at_ ≤ ts.length → (unaryP ts n k σ).1.size + 8 * σ.at_ ≤ 8 * (unaryP ts n k σ).2.at_ + 1) ∧ (∀ σ, σ.at_ ≤ ts.length → (primaryP ts n k σ).1.size + 8 * σ.at_ ≤ 8 * (primaryP ts n k σ).2.at_ + 1) ∧
 (∀ σ, σ.at_ ≤ ts.length → (placeP ts n k σ).1.size + 8 * σ.at_ ≤ 8 * (placeP ts n k σ).2.at_ + 1) := by
 induction k with
 | zero =>
  refine ⟨fun lv σ h => ?_, fun lv x σ h => ?_, fun σ h => ?_, fun σ h => ?_, fun σ h => ?_⟩
  · rw [exprP]; simp [Nd.size, rowSize]; omega
  · rw [climbP]; simp; omega
  · rw [unaryP]; simp [Nd.size, rowSize]; omega
  · rw [primaryP]; simp [Nd.size, rowSize]; omega
  · rw [placeP]; simp [Nd.size, rowSize]; omega
 | succ k ih =>
  obtain ⟨iE, iC, iU, iP, iL⟩ := ih; obtain ⟨lE, lC, lU, lP, lL⟩ := expr_inv (ts := ts) (n := n) k; refine ⟨fun lv σ h => ?_, fun lv x σ h => ?_, fun σ h => ?_, fun σ h => ?_, fun σ h => ?_⟩
  · rw [exprP]
    have h1 := iU σ h; have h2 := iC lv (unaryP ts n k σ).1 (unaryP ts n k σ).2 (lU σ h).1.wf
    omega
  · rw [climbP]
    split
    · simp; omega
    · rename_i op hop
      obtain ⟨hne, -⟩ := binOf_ne hop; have hn := next_le (peek_in h (Or.inl hne))
      split
      · simp; omega
      · have h1 := iE (level op + 1) (nextP σ) hn.wf
        have h2 := iC lv (.mk op 0 [] [x, (exprP ts n k (level op + 1) (nextP σ)).1]) (exprP ts n k (level op + 1) (nextP σ)).2 (lE (level op + 1) (nextP σ) hn.wf).1.wf; have h3 := (lE (level op + 1) (nextP σ) hn.wf).1.le; rw [next_at] at h1 h3; simp only [Nd.size, rowSize] at h2
        omega
  · rw [unaryP]
    split
    · rename_i hh
      have hn := next_le (has_in h hh (by decide)); have h1 := iU (nextP σ) hn.wf; rw [next_at] at h1
      simp only [Nd.size, rowSize]; omega
    · split
      · rename_i hh
        have hn := next_le (has_in h hh (by decide)); have h1 := iU (nextP σ) hn.wf; rw [next_at] at h1
        simp only [Nd.size, rowSize]; omega
      · exact iP σ h
  · rw [primaryP]
    split
    · have := (number_le (n := n) (a := 0) (b := 9223372036854775807) h).le
      simp only [Nd.size, rowSize]; omega
    · split
      · rename_i hh
        have h1 := next_le (has_in h hh (by decide)); have h2 := h1.trans (expect_le (n := n) (t := [40]) h1.wf (by decide)); have h3 := h2.trans (name_le (n := n) h2.wf); have h4 := (h3.trans (expect_le (n := n) (t := [41]) h3.wf (by decide))).le
        simp only [Nd.size, rowSize]; omega
      · split
        · rename_i hh
          have h1 := next_le (has_in h hh (by decide)); have h2 := h1.trans (expect_le (n := n) (t := [40]) h1.wf (by decide)); have h3 := h2.trans (name_le (n := n) h2.wf); have h4 := (h3.trans (expect_le (n := n) (t := [41]) h3.wf (by decide))).le
          simp only [Nd.size, rowSize]; omega
        · split
          · rename_i hh
            have hn := next_le (has_in h hh (by decide)); have h1 := iE 1 (nextP σ) hn.wf; have h2 := (expect_le (n := n) (t := [41]) (lE 1 (nextP σ) hn.wf).1.wf (by decide)).le; rw [next_at] at h1
            simp only; omega
          · exact iL σ h
  · rw [placeP]
    have h0 := name_le (n := n) h; have h0' := h0.le
    split
    · rename_i hh
      have hn := next_le (has_in h0.wf hh (by decide)); have h1 := iE 1 (nextP (nameP ts n σ).2) hn.wf; have h2 := (expect_le (n := n) (t := [93]) (lE 1 _ hn.wf).1.wf (by decide)).le; rw [next_at] at h1
      simp only [Nd.size, rowSize]; omega
    · simp only [Nd.size, rowSize]; omega
theorem rowSize_append (l m : List Nd) : rowSize (l ++ m) = rowSize l + rowSize m := by
 induction l with
 | nil => simp [rowSize]
 | cons x r ih => simp only [List.cons_append, rowSize, ih]; omega
theorem arg_size (σ : PS) : (argP ts n σ).1.size = 1 := rfl
theorem args_size : ∀ (k : Nat) (acc : List Nd) (σ : PS), σ.at_ ≤ ts.length → rowSize (argsP ts n k acc σ).1 + 8 * σ.at_ ≤ 8 * (argsP ts n k acc σ).2.at_ + rowSize acc
 | 0, acc, σ, h => by rw [argsP]; simp; omega
 | k + 1, acc, σ, h => by
  rw [argsP]
  split
  · rename_i hh
    have h1 := next_le (has_in h hh (by decide))
    generalize hS : (if acc.length = 8 ∧ isName (peekP ts (nextP σ)).text = true then failP (nextP σ) (peekP ts (nextP σ)).pos 5 else nextP σ) = ρ
    have h2 : Le ts (nextP σ) ρ := by
     rw [← hS]
     split
     · exact fail_le h1.wf _ _
     · exact Le.refl h1.wf
    have h3 := name_le (n := n) h2.wf; have h4 := args_size k (acc ++ [(argP ts n ρ).1]) (argP ts n ρ).2 h3.wf; rw [rowSize_append] at h4
    have h5 : (argP ts n ρ).2.at_ ≥ σ.at_ + 1 := by
     have e1 := h2.le; have e2 := h3.le
     rw [next_at] at e1
     show (nameP ts n ρ).2.at_ ≥ σ.at_ + 1
     omega
    simp only [rowSize, arg_size] at h4
    omega
  · simp; omega
theorem call_size {k : Nat} {kind : Int} {σ : PS} (hn : In ts σ) : (callP ts n k kind σ).1.size + 8 * σ.at_ ≤ 8 * (callP ts n k kind σ).2.at_ + 1 := by
 unfold callP
 dsimp only; have h1 := next_le hn; have h2 := h1.trans (name_le (n := n) h1.wf); have h3 := h2.trans (expect_le (n := n) (t := [40]) h2.wf (by decide)); have e1 := (name_le (n := n) h1.wf).le; have e2 := (expect_le (n := n) (t := [40]) h2.wf (by decide)).le; rw [next_at] at e1
 split
 · have := next_at (expectP ts n (nameP ts n (nextP σ)).2 [40])
   simp only [Nd.size, rowSize]; omega
 · have h4 := name_le (n := n) h3.wf
   have e3 := h4.le; have h5 := args_size (ts := ts) (n := n) k [(argP ts n (expectP ts n (nameP ts n (nextP σ)).2 [40])).1] (argP ts n (expectP ts n (nameP ts n (nextP σ)).2 [40])).2 h4.wf; have h6 := args_le (n := n) k [(argP ts n (expectP ts n (nameP ts n (nextP σ)).2 [40])).1] (argP ts n (expectP ts n (nameP ts n (nextP σ)).2 [40])).2 h4.wf; have e4 := (expect_le (n := n) (t := [41]) h6.wf (by decide)).le; have e5 : (argP ts n (expectP ts n (nameP ts n (nextP σ)).2 [40])).2.at_ ≥ (expectP ts n (nameP ts n (nextP σ)).2 [40]).at_ := e3; simp only [rowSize, arg_size] at h5
   simp only [Nd.size]; omega
theorem place_size {k : Nat} {σ : PS} (h : σ.at_ ≤ ts.length) : (placeP ts n k σ).1.size + 8 * σ.at_ ≤ 8 * (placeP ts n k σ).2.at_ + 1 := (expr_size k).2.2.2.2 σ h
theorem exprs_size {k : Nat} {lv : Int} {σ : PS} (h : σ.at_ ≤ ts.length) : (exprP ts n k lv σ).1.size + 8 * σ.at_ ≤ 8 * (exprP ts n k lv σ).2.at_ + 1 := (expr_size k).1 lv σ h
theorem update_size {k : Nat} {σ : PS} (h : σ.at_ ≤ ts.length) : (updateP ts n k σ).1.size + 8 * σ.at_ ≤ 8 * (updateP ts n k σ).2.at_ + 1 := by
 unfold updateP
 dsimp only; have h1 := place_size (n := n) (k := k) h; have l1 := place_le (n := n) (k := k) h
 split
 · rename_i hh
   have l2 := next_le (has_in l1.wf hh (by decide)); have h2 := place_size (n := n) (k := k) l2.wf; rw [next_at] at h2
   simp only [Nd.size, rowSize]; omega
 · split
   · have := (unexp_le (n := n) l1.wf).le
     have := l1.le
     simp only [Nd.size, rowSize]; omega
   · rename_i hh
     have l2 := next_le (peek_in l1.wf (Or.inl (upd_ne hh))); have h2 := exprs_size (n := n) (k := k) (lv := 1) l2.wf; rw [next_at] at h2
     simp only [Nd.size, rowSize]; omega
theorem stack_size {k : Nat} {kind : Int} {σ : PS} (hn : In ts σ) : (stackP ts n k kind σ).1.size + 8 * σ.at_ ≤ 8 * (stackP ts n k kind σ).2.at_ + 1 := by
 unfold stackP
 dsimp only; have h1 := next_le hn; have h2 := place_size (n := n) (k := k) h1.wf; have l2 := place_le (n := n) (k := k) h1.wf; have l3 := expect_le (n := n) (t := [44]) l2.wf (by decide); have l4 := (name_le (n := n) l3.wf).le; have l3' := l3.le; rw [next_at] at h2
 simp only [Nd.size, rowSize]; omega
theorem tape_size {k : Nat} {kind : Int} {σ : PS} (hn : In ts σ) : (tapeP ts n k kind σ).1.size + 8 * σ.at_ ≤ 8 * (tapeP ts n k kind σ).2.at_ + 1 := by
 unfold tapeP
 have h1 := next_le hn; have h2 := place_size (n := n) (k := k) h1.wf; rw [next_at] at h2
 simp only [Nd.size, rowSize]; omega
theorem stmt_size (k : Nat) : (∀ σ, σ.at_ ≤ ts.length → (stmtP ts n k σ).1.size + 8 * σ.at_ ≤ 8 * (stmtP ts n k σ).2.at_ + 1) ∧ (∀ kind mid last σ, In ts σ → mid ≠ [] → last ≠ [] → (branchesP ts n k kind mid last σ).1.size + 8 * σ.at_ ≤ 8 * (branchesP ts n k kind mid last σ).2.at_ + 1) ∧ (∀ σ, In ts σ → (localP ts n k σ).1.size + 8 * σ.at_ ≤ 8 * (localP ts n k σ).2.at_ + 1) ∧
 (∀ σ, σ.at_ ≤ ts.length → (blockP ts n k σ).1.size + 8 * σ.at_ ≤ 8 * (blockP ts n k σ).2.at_ + 2) ∧ (∀ acc σ, σ.at_ ≤ ts.length → rowSize (stmtsP ts n k acc σ).1 + 8 * σ.at_ ≤ 8 * (stmtsP ts n k acc σ).2.at_ + rowSize acc + (if σ.err = 0 then 1 else 0)) := by
 induction k with
 | zero =>
  refine ⟨fun σ h => ?_, fun kind mid last σ h _ _ => ?_, fun σ h => ?_, fun σ h => ?_, fun acc σ h => ?_⟩
  · rw [stmtP]; simp [Nd.size, rowSize]; omega
  · rw [branchesP]; simp [Nd.size, rowSize]; omega
  · rw [localP]; simp [Nd.size, rowSize]; omega
  · rw [blockP]; simp [Nd.size, rowSize]; omega
  · rw [stmtsP]; simp only; split <;> omega
 | succ k ih =>
  obtain ⟨iS, iB, iL, iK, iT⟩ := ih; obtain ⟨lS, lB, lL, lK, lT⟩ := stmt_inv (ts := ts) (n := n) k; refine ⟨fun σ h => ?_, fun kind mid last σ hn hmid hlast => ?_, fun σ hn => ?_, fun σ h => ?_, fun acc σ h => ?_⟩
  · have hin : ∀ t : List UInt8, (peekP ts σ).text = t → t ≠ [] → In ts σ := fun t e ht => peek_in h (Or.inl (by rw [e]; exact ht))
    rw [stmtP]
    by_cases e : (peekP ts σ).text = [112, 117, 115, 104]
    · rw [if_pos e]; exact stack_size (hin _ e (by decide))
    rw [if_neg e]; clear e
    by_cases e : (peekP ts σ).text = [112, 111, 112]
    · rw [if_pos e]; exact stack_size (hin _ e (by decide))
    rw [if_neg e]; clear e
    by_cases e : (peekP ts σ).text = [114, 101, 97, 100]
    · rw [if_pos e]; exact tape_size (hin _ e (by decide))
    rw [if_neg e]; clear e
    by_cases e : (peekP ts σ).text = [117, 110, 114, 101, 97, 100]
    · rw [if_pos e]; exact tape_size (hin _ e (by decide))
    rw [if_neg e]; clear e
    by_cases e : (peekP ts σ).text = [119, 114, 105, 116, 101]
    · rw [if_pos e]; exact tape_size (hin _ e (by decide))
    rw [if_neg e]; clear e
    by_cases e : (peekP ts σ).text = [117, 110, 119, 114, 105, 116, 101]
    · rw [if_pos e]; exact tape_size (hin _ e (by decide))
    rw [if_neg e]; clear e
    by_cases e : (peekP ts σ).text = [99, 97, 108, 108]
    · rw [if_pos e]; exact call_size (hin _ e (by decide))
    rw [if_neg e]; clear e
    by_cases e : (peekP ts σ).text = [117, 110, 99, 97, 108, 108]
    · rw [if_pos e]; exact call_size (hin _ e (by decide))
    rw [if_neg e]; clear e
    by_cases e : (peekP ts σ).text = [105, 102]
    · rw [if_pos e]; exact iB _ _ _ σ (hin _ e (by decide)) (by decide) (by decide)
    rw [if_neg e]; clear e
    by_cases e : (peekP ts σ).text = [102, 114, 111, 109]
    · rw [if_pos e]; exact iB _ _ _ σ (hin _ e (by decide)) (by decide) (by decide)
    rw [if_neg e]; clear e
    by_cases e : (peekP ts σ).text = [108, 111, 99, 97, 108]
    · rw [if_pos e]; exact iL σ (hin _ e (by decide))
    rw [if_neg e]; clear e
    exact update_size h
  · rw [branchesP]
    (try dsimp only); have l1 := next_le hn; have s2 := exprs_size (n := n) (k := k) (lv := 1) l1.wf; have l2 := expr_le (n := n) (k := k) (lv := 1) l1.wf; have s3 := iK _ l2.wf; have l3 := lK _ l2.wf; have l4 := expect_le (n := n) l3.wf hmid; have s5 := iK _ l4.wf; have l5 := lK _ l4.wf; have l6 := expect_le (n := n) l5.wf hlast; have s7 := exprs_size (n := n) (k := k) (lv := 1) l6.wf; have e4 := l4.le; have e6 := l6.le; rw [next_at] at s2
    simp only [Nd.size, rowSize]; omega
  · rw [localP]
    (try dsimp only); have l1 := next_le hn
    split
    · rename_i hh
      have l2 := next_le (has_in l1.wf hh (by decide)); have l3 := name_le (n := n) l2.wf; have s4 := iK _ l3.wf; have e3 := l3.le; rw [next_at, next_at] at e3
      simp only [Nd.size, rowSize]; omega
    · have l2 := name_le (n := n) l1.wf
      have l3 := expect_le (n := n) (t := [61]) l2.wf (by decide); have s4 := exprs_size (n := n) (k := k) (lv := 1) l3.wf; have l4 := expr_le (n := n) (k := k) (lv := 1) l3.wf; have s5 := iK _ l4.wf; have l5 := lK _ l4.wf; have l6 := expect_le (n := n) (t := [100, 101, 108, 111, 99, 97, 108]) l5.wf (by decide); have s7 := exprs_size (n := n) (k := k) (lv := 1) l6.wf; have e2 := l2.le; have e3 := l3.le; have e6 := l6.le; rw [next_at] at e2
      simp only [Nd.size, rowSize]; omega
  · rw [blockP]
    (try dsimp only); have l1 := expect_le (n := n) (t := [123]) h (by decide); have s2 := iT [] _ l1.wf; have e1 := l1.le; simp only [rowSize] at s2; simp only [Nd.size]
    split at s2 <;> omega
  · rw [stmtsP]
    split
    · simp only; (try split) <;> omega
    · rename_i he
      have h0 : σ.err = 0 := Decidable.byContradiction he
      split
      · rename_i hh
        have := next_at σ
        simp only; (try split) <;> omega
      · have s1 := iS σ h
        have l1 := lS σ h; have l2 := expect_le (n := n) (t := [59]) l1.wf (by decide); have s3 := iT (acc ++ [(stmtP ts n k σ).1]) _ l2.wf; rw [rowSize_append] at s3; simp only [rowSize] at s3; have e2 := l2.le
        have e3 : (expectP ts n (stmtP ts n k σ).2 [59]).err = 0 → (stmtP ts n k σ).2.at_ + 1 ≤ (expectP ts n (stmtP ts n k σ).2 [59]).at_ := fun e => expect_lt (n := n) e
        (try rw [if_pos h0])
        split at s3
        · rename_i e; have := e3 e; omega
        · omega
end
end Bk
