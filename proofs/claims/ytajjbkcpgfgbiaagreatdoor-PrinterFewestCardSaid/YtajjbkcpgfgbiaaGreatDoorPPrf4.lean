/- Texts that the proofs of PrinterFewest need. No condition. (Part 4 of 6.) -/
import Derived.Test.YtajjbkcpgfgbiaaGreatDoorPPrf3
set_option linter.unusedSimpArgs false
set_option linter.unusedVariables false
namespace Bk
open Go
section
variable {ts : List Tok} {n : Int}
def mS (ts : List Tok) (σ : PS) : Nat := if σ.err = 0 then ts.length - σ.at_ else 0
theorem mS_le {σ σ' : PS} (h : Le ts σ σ') : mS ts σ' ≤ mS ts σ := by
 unfold mS
 by_cases e' : σ'.err = 0
 · have := h.ok e'
   have := h.le
   rw [if_pos e', if_pos (by assumption)]; omega
 · rw [if_neg e']; omega
theorem mS_lt {σ σ' : PS} (h : Le ts σ σ') (k : Lt σ σ') : mS ts σ' + 1 ≤ mS ts σ ∨ mS ts σ' = 0 := by
 unfold mS
 by_cases e' : σ'.err = 0
 · have := h.ok e'
   have := k e'; have := h.wf
   rw [if_pos e', if_pos (by assumption)]; omega
 · rw [if_neg e']; exact Or.inr rfl
theorem mS_next {σ : PS} (h : σ.err = 0 ∧ σ.at_ < ts.length) : mS ts (nextP σ) + 1 = mS ts σ := by
 unfold mS nextP
 simp only [h.1, if_true]
 omega
theorem mS_pos {σ : PS} (h : σ.err = 0 ∧ σ.at_ < ts.length) : 1 ≤ mS ts σ := by have := mS_next h; omega
theorem expr_fuel (k : Nat) : (∀ lv σ, σ.at_ ≤ ts.length → 4 * mS ts σ + 4 ≤ k → exprP ts n (k + 1) lv σ = exprP ts n k lv σ) ∧ (∀ lv x σ, σ.at_ ≤ ts.length → 4 * mS ts σ + 1 ≤ k → climbP ts n (k + 1) lv x σ = climbP ts n k lv x σ) ∧
 (∀ σ, σ.at_ ≤ ts.length → 4 * mS ts σ + 3 ≤ k → unaryP ts n (k + 1) σ = unaryP ts n k σ) ∧ (∀ σ, σ.at_ ≤ ts.length → 4 * mS ts σ + 2 ≤ k → primaryP ts n (k + 1) σ = primaryP ts n k σ) ∧
 (∀ σ, σ.at_ ≤ ts.length → 4 * mS ts σ + 1 ≤ k → placeP ts n (k + 1) σ = placeP ts n k σ) := by
 induction k with
 | zero => refine ⟨fun _ _ _ h => ?_, fun _ _ _ _ h => ?_, fun _ _ h => ?_, fun _ _ h => ?_, fun _ _ h => ?_⟩ <;> omega
 | succ k ih =>
  obtain ⟨iE, iC, iU, iP, iL⟩ := ih; refine ⟨fun lv σ h hk => ?_, fun lv x σ h hk => ?_, fun σ h hk => ?_, fun σ h hk => ?_, fun σ h hk => ?_⟩
  · conv => lhs; rw [exprP]
    conv => rhs; rw [exprP]
    rw [iU σ h (by omega)]; have hu := (expr_inv (ts := ts) (n := n) k).2.2.1 σ h; have := mS_lt hu.1 (hu.2 (by omega))
    exact iC _ _ _ hu.1.wf (by omega)
  · conv => lhs; rw [climbP]
    conv => rhs; rw [climbP]
    split
    · rfl
    · rename_i op hop
      obtain ⟨hne, -⟩ := binOf_ne hop; have hn := peek_in h (Or.inl hne); have hm := mS_next hn; have hp := mS_pos hn
      split
      · rfl
      · have h1 := next_le hn
        rw [iE _ _ h1.wf (by omega)]; have h2 := ((expr_inv (ts := ts) (n := n) k).1 (level op + 1) (nextP σ) h1.wf).1; have h3 := mS_le h2
        exact iC _ _ _ h2.wf (by omega)
  · conv => lhs; rw [unaryP]
    conv => rhs; rw [unaryP]
    split
    · rename_i hh
      have hn := has_in h hh (by decide); have hm := mS_next hn; rw [iU _ (next_le hn).wf (by omega)]
    · split
      · rename_i hh
        have hn := has_in h hh (by decide); have hm := mS_next hn; rw [iU _ (next_le hn).wf (by omega)]
      · exact iP σ h (by omega)
  · conv => lhs; rw [primaryP]
    conv => rhs; rw [primaryP]
    split
    · rfl
    · split
      · rfl
      · split
        · rfl
        · split
          · rename_i hh
            have hn := has_in h hh (by decide); have hm := mS_next hn; rw [iE _ _ (next_le hn).wf (by omega)]
          · exact iL σ h (by omega)
  · conv => lhs; rw [placeP]
    conv => rhs; rw [placeP]
    split
    · rename_i hh
      have h0 := name_le (n := n) h; have hn := has_in h0.wf hh (by decide); have hm := mS_next hn; have hl := mS_le h0; rw [iE _ _ (next_le hn).wf (by omega)]
    · rfl
theorem expr_same {k k' : Nat} (hkk : k ≤ k') : ∀ lv σ, σ.at_ ≤ ts.length → 4 * mS ts σ + 4 ≤ k → exprP ts n k' lv σ = exprP ts n k lv σ := by
 intro lv σ h hk
 induction hkk with
 | refl => rfl
 | step hle ih => rw [(expr_fuel _).1 lv σ h (Nat.le_trans hk hle), ih]
end
end Bk
namespace Bk
open Go Go.RowKit Go.Proofs
attribute [local irreducible] Go.Calls
def ExprC (c : PC) (k : Nat) : Prop := ∀ (lv : Int) (σ : PS) (w : World), PP c σ w → 4 * mS c.ts σ + 4 ≤ k → 1 ≤ lv → lv ≤ 9 →
 Calls Tryz.prog 32 #[.pointer (some ⟨c.pb, 0, none⟩), .int .i64 lv] w (TreeR c w (exprP c.ts c.n k lv σ))
def UnaryC (c : PC) (k : Nat) : Prop := ∀ (σ : PS) (w : World), PP c σ w → 4 * mS c.ts σ + 3 ≤ k →
 Calls Tryz.prog 59 #[.pointer (some ⟨c.pb, 0, none⟩)] w (TreeR c w (unaryP c.ts c.n k σ))
def PrimaryC (c : PC) (k : Nat) : Prop := ∀ (σ : PS) (w : World), PP c σ w → 4 * mS c.ts σ + 2 ≤ k →
 Calls Tryz.prog 84 #[.pointer (some ⟨c.pb, 0, none⟩)] w (TreeR c w (primaryP c.ts c.n k σ))
def PlaceC (c : PC) (k : Nat) : Prop := ∀ (σ : PS) (w : World), PP c σ w → 4 * mS c.ts σ + 1 ≤ k →
 Calls Tryz.prog 91 #[.pointer (some ⟨c.pb, 0, none⟩)] w (TreeR c w (placeP c.ts c.n k σ))
structure ExprsC (c : PC) (k : Nat) : Prop where
 expr : ExprC c k
 unary : UnaryC c k
 primary : PrimaryC c k
 place : PlaceC c k
theorem mS_has {c : PC} {σ : PS} {t : List UInt8} (h : σ.at_ ≤ c.ts.length) (hh : hasP c.ts σ t = true) (ht : t ≠ []) : mS c.ts (nextP σ) + 1 = mS c.ts σ := mS_next (has_in h hh ht)
set_option maxRecDepth 100000 in
set_option maxHeartbeats 1000000 in
theorem place_w (c : PC) (k : Nat) (IH : ∀ j, j ≤ k → ExprsC c j) : PlaceC c (k + 1) := by
 intro σ w hP hk; have X := Fr.refl (· = c.pb) w; have hpb := hP.pbB; have hB := hP.B; have hn := name_le (n := c.n) hP.at_
 cases hh : hasP c.ts (nameP c.ts c.n σ).2 [91]
 · rw [show placeP c.ts c.n (k + 1) σ = (.mk 2 0 (nameP c.ts c.n σ).1 [], (nameP c.ts c.n σ).2) from by rw [placeP]; simp [hh]]
   refine calls_in Tryz.func91 Tryz.ntmps91 rfl rfl ?_
   focus
    refine cS ?_; (refine lw_alloc' [_, _, _, _] zOk rfl rfl ?_; intro b1 w2 n3); have h5 := n3.blk; have x6 := n3.ext; have p7 := n3.pos; have z8 := n3.size; clear n3; replace hP := hP.ext x6; replace X := X.ext x6; clear x6; refine cN (cM rfl rfl ?_); refine cC (by kernel_rfl) rfl (name_c _ _ _ (by assumption)) rfl ?_; rintro _ w11 ⟨⟨⟩, ⟨h9, f10⟩⟩; have z12 := f10.size; replace h5 := h5.fr f10 (by omega); clear hP; replace X := X.fr f10 (by omega); clear f10; refine cA rfl rfl (cT (cw_seq (cS (cM rfl rfl ?_)))); refine cC (by kernel_rfl) rfl (accept_f _ _ _ _ (by assumption) (by decide) (by assumption)) rfl ?_; rintro _ w15 ⟨⟨⟩, ⟨h13, f14⟩⟩; have z16 := f14.size; clear h9; replace h5 := h5.fr f14 (by omega); replace X := X.fr f14 (by omega); clear f14; refine lw_pure (pur_not rfl) rfl (cT (cw_cond_t rfl (cS (cM rfl rfl (lw_pure (pur_build' [_, _, _, _] tabOk zOk rfl rfl rfl rfl) rfl ?_))))); (refine lw_store' [_, _, _, _] [_, _, _, _] tabOk rfl rfl rfl rfl rfl rfl h5 rfl rfl ?_; intro w17 n18); have h21 := n18.blk; have f19 := n18.fr; have z20 := n18.size; clear n18 h5; replace h13 := h13.fr f19 (by omega); replace X := X.fr f19 (by omega); clear f19; refine cT (cw_ret (qw_then_ret (qw_retc rfl tabOk rfl rfl rfl h21 rfl ?_))); rotate_left 1
   exact tree_ret sits_nil (by assumption) X
 · rw [show placeP c.ts c.n (k + 1) σ = (.mk 3 0 (nameP c.ts c.n σ).1 [(exprP c.ts c.n k 1 (nextP (nameP c.ts c.n σ).2)).1], expectP c.ts c.n (exprP c.ts c.n k 1 (nextP (nameP c.ts c.n σ).2)).2 [93]) from by rw [placeP]; simp [hh]]
   have hm := mS_has hn.wf hh (by decide); have hm2 := mS_le hn
   have hf : 4 * mS c.ts (nextP (nameP c.ts c.n σ).2) + 4 ≤ k := by omega
   refine calls_in Tryz.func91 Tryz.ntmps91 rfl rfl ?_
   focus
    refine cS ?_; (refine lw_alloc' [_, _, _, _] zOk rfl rfl ?_; intro ba1 wa2 na3); have ha5 := na3.blk; have xa6 := na3.ext; have pa7 := na3.pos; have za8 := na3.size; clear na3; replace hP := hP.ext xa6; replace X := X.ext xa6; clear xa6; refine cN (cM rfl rfl ?_); refine cC (by kernel_rfl) rfl (name_c _ _ _ (by assumption)) rfl ?_; rintro _ wa11 ⟨⟨⟩, ⟨ha9, fa10⟩⟩; have za12 := fa10.size; replace ha5 := ha5.fr fa10 (by omega); clear hP; replace X := X.fr fa10 (by omega); clear fa10; refine cA rfl rfl (cT (cw_seq (cS (cM rfl rfl ?_)))); refine cC (by kernel_rfl) rfl (accept_t _ _ _ _ (by assumption) (by decide) (by assumption)) rfl ?_; rintro _ wa15 ⟨⟨⟩, ⟨ha13, fa14⟩⟩; have za16 := fa14.size; clear ha9; replace ha5 := ha5.fr fa14 (by omega); replace X := X.fr fa14 (by omega); clear fa14; refine lw_pure (pur_not rfl) rfl (cT (cw_cond_f rfl (cw_skip (qw_then (cS (cM rfl rfl ?_)))))); refine cR (by kernel_rfl) rfl ((IH k (Nat.le_refl _)).expr _ _ _ (by assumption) hf (by decide) (by decide)) (fun _ _ h => h.ret) rfl ?_; rintro _ wa22 ⟨aa17, ⟨ka18, ⟨⟨⟩, ⟨ha19, ⟨ha20, fa21⟩⟩⟩⟩⟩; have za23 := fa21.size; clear ha13; replace ha5 := ha5.fr fa21 (by omega); replace X := X.fr fa21 (by omega); clear fa21; (refine lw_alloc' [_, _, _, _] zOk rfl rfl ?_; intro ba24 wa25 na26); (refine lw_init' [_, _, _, _] tabOk rfl rfl rfl rfl rfl rfl na26 rfl ?_; clear na26; clear wa25; intro wa27 na26); have ha28 := na26.blk; have xa29 := na26.ext; have pa30 := na26.pos; have za31 := na26.size; clear na26
    replace ha19 := Nd.sits.ext ha19 xa29; replace ha20 := ha20.ext xa29; replace ha5 := ha5.ext xa29; replace X := X.ext xa29; clear xa29; refine cN (cM rfl rfl ?_); refine cC (by kernel_rfl) rfl (expect_c _ _ _ _ (by assumption) (by decide)) rfl ?_; rintro _ wa34 ⟨⟨⟩, ⟨ha32, fa33⟩⟩; have za35 := fa33.size; replace ha28 := ha28.fr fa33 (by omega); replace ha19 := Nd.sits.fr ha19 fa33 (by omega); clear ha20; replace ha5 := ha5.fr fa33 (by omega); replace X := X.fr fa33 (by omega); clear fa33; refine cN (cM rfl rfl (lw_loads_b' [_, _, _, _] tabOk rfl rfl rfl ha28 rfl rfl rfl ?_)); (refine lw_does (does_slice' [_, _, _, _] tabOk zOk rfl rfl rfl rfl rfl rfl rfl rfl rfl) rfl ?_ (fun _ h => h); rintro _ wa37 ⟨ba36, rfl, na38, ta39⟩); clear ta39; have ha40 := na38.blk; have xa41 := na38.ext; have pa42 := na38.pos; have za43 := na38.size; clear na38; replace ha32 := ha32.ext xa41; replace ha28 := ha28.ext xa41; replace ha19 := Nd.sits.ext ha19 xa41; replace ha5 := ha5.ext xa41; replace X := X.ext xa41; clear xa41; refine lw_pure (pur_build' [_, _, _, _] tabOk zOk rfl rfl rfl rfl) rfl ?_; (refine lw_store' [_, _, _, _] [_, _, _, _] tabOk rfl rfl rfl rfl rfl rfl ha5 rfl rfl ?_; intro wa44 na45); have ha48 := na45.blk; have fa46 := na45.fr; have za47 := na45.size; clear na45 ha5; replace ha40 := ha40.fr fa46 (by omega); replace ha32 := ha32.fr fa46 (by omega); replace ha28 := ha28.fr fa46 (by omega); replace ha19 := Nd.sits.fr ha19 fa46 (by omega); replace X := X.fr fa46 (by omega); clear fa46
    refine cT (cw_ret (qw_retc rfl tabOk rfl rfl rfl ha48 rfl ?_)); rotate_left 1
   exact tree_ret (sits_1 (by assumption) (by omega) (by assumption) (fun b h => by omega)) (by assumption) X
set_option maxRecDepth 100000 in
set_option maxHeartbeats 1000000 in
theorem primary_w (c : PC) (k : Nat) (IH : ∀ j, j ≤ k → ExprsC c j) : PrimaryC c (k + 1) := by
 intro σ w hP hk; have X := Fr.refl (· = c.pb) w; have hpb := hP.pbB; have hB := hP.B
 by_cases h2 : (peekP c.ts σ).kind = 2
 · rw [show primaryP c.ts c.n (k + 1) σ = (.mk 1 (numberP c.ts c.n 0 9223372036854775807 σ).1 [] [], (numberP c.ts c.n 0 9223372036854775807 σ).2) from by rw [primaryP]; simp [h2]]
   refine calls_in Tryz.func84 Tryz.ntmps84 rfl rfl ?_
   focus
    refine cS ?_; (refine lw_alloc' [_, _, _, _] zOk rfl rfl ?_; intro b1 w2 n3); have h5 := n3.blk; have x6 := n3.ext; have p7 := n3.pos; have z8 := n3.size; clear n3; replace hP := hP.ext x6; replace X := X.ext x6; clear x6; refine cT (cw_seq (cw_block (cS (cM rfl rfl ?_)))); refine cC (by kernel_rfl) rfl (peek_c _ _ _ (by assumption)) rfl ?_; rintro _ w10 ⟨⟨⟩, x9⟩; have z11 := x9.size; replace h5 := h5.ext x9; replace hP := hP.ext x9; replace X := X.ext x9; clear x9; refine lw_pure (pur_field tabOk rfl rfl rfl rfl rfl rfl) rfl (lw_pure (pur_eql rfl rfl) rfl (cA rfl rfl (cT ?_))); refine cw_yes rfl (by assumption) ?_; refine cS (cM rfl rfl ?_); refine cC (by kernel_rfl) rfl (number_c _ _ _ _ _ (by assumption) (by decide)) rfl ?_; rintro _ w14 ⟨⟨⟩, ⟨h12, f13⟩⟩; have z15 := f13.size; replace h5 := h5.fr f13 (by omega); clear hP; replace X := X.fr f13 (by omega); clear f13; refine lw_pure (pur_build' [_, _, _, _] tabOk zOk rfl rfl rfl rfl) rfl ?_; (refine lw_store' [_, _, _, _] [_, _, _, _] tabOk rfl rfl rfl rfl rfl rfl h5 rfl rfl ?_; intro w16 n17); have h20 := n17.blk; have f18 := n17.fr; have z19 := n17.size; clear n17 h5; replace h12 := h12.fr f18 (by omega); replace X := X.fr f18 (by omega); clear f18; refine cT (cw_ret (qw_block_ret (qw_then_ret (qw_retc rfl tabOk rfl rfl rfl h20 rfl ?_)))); rotate_left 1
   exact tree_ret sits_nil (by assumption) X
 cases ht : hasP c.ts σ [116, 111, 112]
 case true =>
  rw [show primaryP c.ts c.n (k + 1) σ = (.mk 4 0 (nameP c.ts c.n (expectP c.ts c.n (nextP σ) [40])).1 [], expectP c.ts c.n (nameP c.ts c.n (expectP c.ts c.n (nextP σ) [40])).2 [41]) from by rw [primaryP]; simp [h2, ht]]; refine calls_in Tryz.func84 Tryz.ntmps84 rfl rfl ?_
  focus
   refine cS ?_; (refine lw_alloc' [_, _, _, _] zOk rfl rfl ?_; intro ba1 wa2 na3); have ha5 := na3.blk; have xa6 := na3.ext; have pa7 := na3.pos; have za8 := na3.size; clear na3; replace hP := hP.ext xa6; replace X := X.ext xa6; clear xa6; refine cT (cw_seq (cw_block (cS (cM rfl rfl ?_)))); refine cC (by kernel_rfl) rfl (peek_c _ _ _ (by assumption)) rfl ?_; rintro _ wa10 ⟨⟨⟩, xa9⟩; have za11 := xa9.size; replace ha5 := ha5.ext xa9; replace hP := hP.ext xa9; replace X := X.ext xa9; clear xa9; refine lw_pure (pur_field tabOk rfl rfl rfl rfl rfl rfl) rfl (lw_pure (pur_eql rfl rfl) rfl (cA rfl rfl (cT ?_))); refine cw_no rfl (by assumption) ?_; refine cS (cM rfl rfl ?_); refine cC (by kernel_rfl) rfl (accept_t _ _ _ _ (by assumption) (by decide) (by assumption)) rfl ?_; rintro _ wa14 ⟨⟨⟩, ⟨ha12, fa13⟩⟩; have za15 := fa13.size; replace ha5 := ha5.fr fa13 (by omega); clear hP; replace X := X.fr fa13 (by omega); clear fa13; refine cA rfl rfl (cT (cw_cond_t rfl (cS (cM rfl rfl ?_)))); refine cR (by kernel_rfl) rfl (stackExpr_c _ _ _ _ (by assumption)) (fun _ _ h => h.ret) rfl ?_; rintro _ wa21 ⟨aa16, ⟨ka17, ⟨⟨⟩, ⟨ha18, ⟨ha19, fa20⟩⟩⟩⟩⟩; have za22 := fa20.size; clear ha12; replace ha5 := ha5.fr fa20 (by omega); replace X := X.fr fa20 (by omega); clear fa20; (refine lw_store' [_, _, _, _] [_, _, _, _] tabOk rfl rfl rfl rfl rfl rfl ha5 rfl rfl ?_; intro wa23 na24); have ha27 := na24.blk; have fa25 := na24.fr; have za26 := na24.size; clear na24 ha5; replace ha18 := Nd.sits.fr ha18 fa25 (by omega)
   replace ha19 := ha19.fr fa25 (by omega); replace X := X.fr fa25 (by omega); clear fa25; refine cT (cw_ret (qw_block_ret (qw_then_ret (qw_retc rfl tabOk rfl rfl rfl ha27 rfl ?_)))); rotate_left 1
  exact tree_ret sits_nil (by assumption) X
 cases hs : hasP c.ts σ [115, 105, 122, 101]
 case true =>
  rw [show primaryP c.ts c.n (k + 1) σ = (.mk 5 0 (nameP c.ts c.n (expectP c.ts c.n (nextP σ) [40])).1 [], expectP c.ts c.n (nameP c.ts c.n (expectP c.ts c.n (nextP σ) [40])).2 [41]) from by rw [primaryP]; simp [h2, ht, hs]]; refine calls_in Tryz.func84 Tryz.ntmps84 rfl rfl ?_
  focus
   refine cS ?_; (refine lw_alloc' [_, _, _, _] zOk rfl rfl ?_; intro bb1 wb2 nb3); have hb5 := nb3.blk; have xb6 := nb3.ext; have pb7 := nb3.pos; have zb8 := nb3.size; clear nb3; replace hP := hP.ext xb6; replace X := X.ext xb6; clear xb6; refine cT (cw_seq (cw_block (cS (cM rfl rfl ?_)))); refine cC (by kernel_rfl) rfl (peek_c _ _ _ (by assumption)) rfl ?_; rintro _ wb10 ⟨⟨⟩, xb9⟩; have zb11 := xb9.size; replace hb5 := hb5.ext xb9; replace hP := hP.ext xb9; replace X := X.ext xb9; clear xb9; refine lw_pure (pur_field tabOk rfl rfl rfl rfl rfl rfl) rfl (lw_pure (pur_eql rfl rfl) rfl (cA rfl rfl (cT ?_))); refine cw_no rfl (by assumption) ?_; refine cS (cM rfl rfl ?_); refine cC (by kernel_rfl) rfl (accept_f _ _ _ _ (by assumption) (by decide) (by assumption)) rfl ?_; rintro _ wb14 ⟨⟨⟩, ⟨hb12, fb13⟩⟩; have zb15 := fb13.size; replace hb5 := hb5.fr fb13 (by omega); clear hP; replace X := X.fr fb13 (by omega); clear fb13; refine cA rfl rfl (cT (cw_cond_f rfl (cS (cM rfl rfl ?_)))); refine cC (by kernel_rfl) rfl (accept_t _ _ _ _ (by assumption) (by decide) (by assumption)) rfl ?_; rintro _ wb18 ⟨⟨⟩, ⟨hb16, fb17⟩⟩; have zb19 := fb17.size; clear hb12; replace hb5 := hb5.fr fb17 (by omega); replace X := X.fr fb17 (by omega); clear fb17; refine cA rfl rfl (cT (cw_cond_t rfl (cS (cM rfl rfl ?_)))); refine cR (by kernel_rfl) rfl (stackExpr_c _ _ _ _ (by assumption)) (fun _ _ h => h.ret) rfl ?_; rintro _ wb25 ⟨ab20, ⟨kb21, ⟨⟨⟩, ⟨hb22, ⟨hb23, fb24⟩⟩⟩⟩⟩; have zb26 := fb24.size; clear hb16
   replace hb5 := hb5.fr fb24 (by omega); replace X := X.fr fb24 (by omega); clear fb24; (refine lw_store' [_, _, _, _] [_, _, _, _] tabOk rfl rfl rfl rfl rfl rfl hb5 rfl rfl ?_; intro wb27 nb28); have hb31 := nb28.blk; have fb29 := nb28.fr; have zb30 := nb28.size; clear nb28 hb5; replace hb22 := Nd.sits.fr hb22 fb29 (by omega); replace hb23 := hb23.fr fb29 (by omega); replace X := X.fr fb29 (by omega); clear fb29; refine cT (cw_ret (qw_block_ret (qw_then_ret (qw_retc rfl tabOk rfl rfl rfl hb31 rfl ?_)))); rotate_left 1
  exact tree_ret sits_nil (by assumption) X
 cases hp : hasP c.ts σ [40]
 case true =>
  rw [show primaryP c.ts c.n (k + 1) σ = ((exprP c.ts c.n k 1 (nextP σ)).1, expectP c.ts c.n (exprP c.ts c.n k 1 (nextP σ)).2 [41]) from by rw [primaryP]; simp [h2, ht, hs, hp]]; have hm := mS_has hP.at_ hp (by decide)
  have hf : 4 * mS c.ts (nextP σ) + 4 ≤ k := by omega
  refine calls_in Tryz.func84 Tryz.ntmps84 rfl rfl ?_
  focus
   refine cS ?_; (refine lw_alloc' [_, _, _, _] zOk rfl rfl ?_; intro bc1 wc2 nc3); have hc5 := nc3.blk; have xc6 := nc3.ext; have pc7 := nc3.pos; have zc8 := nc3.size; clear nc3; replace hP := hP.ext xc6; replace X := X.ext xc6; clear xc6; refine cT (cw_seq (cw_block (cS (cM rfl rfl ?_)))); refine cC (by kernel_rfl) rfl (peek_c _ _ _ (by assumption)) rfl ?_; rintro _ wc10 ⟨⟨⟩, xc9⟩; have zc11 := xc9.size; replace hc5 := hc5.ext xc9; replace hP := hP.ext xc9; replace X := X.ext xc9; clear xc9; refine lw_pure (pur_field tabOk rfl rfl rfl rfl rfl rfl) rfl (lw_pure (pur_eql rfl rfl) rfl (cA rfl rfl (cT ?_))); refine cw_no rfl (by assumption) ?_; refine cS (cM rfl rfl ?_); refine cC (by kernel_rfl) rfl (accept_f _ _ _ _ (by assumption) (by decide) (by assumption)) rfl ?_; rintro _ wc14 ⟨⟨⟩, ⟨hc12, fc13⟩⟩; have zc15 := fc13.size; replace hc5 := hc5.fr fc13 (by omega); clear hP; replace X := X.fr fc13 (by omega); clear fc13; refine cA rfl rfl (cT (cw_cond_f rfl (cS (cM rfl rfl ?_)))); refine cC (by kernel_rfl) rfl (accept_f _ _ _ _ (by assumption) (by decide) (by assumption)) rfl ?_; rintro _ wc18 ⟨⟨⟩, ⟨hc16, fc17⟩⟩; have zc19 := fc17.size; clear hc12; replace hc5 := hc5.fr fc17 (by omega); replace X := X.fr fc17 (by omega); clear fc17; refine cA rfl rfl (cT (cw_cond_f rfl (cS (cM rfl rfl ?_)))); refine cC (by kernel_rfl) rfl (accept_t _ _ _ _ (by assumption) (by decide) (by assumption)) rfl ?_; rintro _ wc22 ⟨⟨⟩, ⟨hc20, fc21⟩⟩; have zc23 := fc21.size; clear hc16; replace hc5 := hc5.fr fc21 (by omega)
   replace X := X.fr fc21 (by omega); clear fc21; refine cA rfl rfl (cT (cw_cond_t rfl (cS (cM rfl rfl ?_)))); refine cR (by kernel_rfl) rfl ((IH k (Nat.le_refl _)).expr _ _ _ (by assumption) hf (by decide) (by decide)) (fun _ _ h => h.ret) rfl ?_; rintro _ wc29 ⟨ac24, ⟨kc25, ⟨⟨⟩, ⟨hc26, ⟨hc27, fc28⟩⟩⟩⟩⟩; have zc30 := fc28.size; clear hc20; replace hc5 := hc5.fr fc28 (by omega); replace X := X.fr fc28 (by omega); clear fc28; (refine lw_alloc' [_, _, _, _] zOk rfl rfl ?_; intro bc31 wc32 nc33); (refine lw_init' [_, _, _, _] tabOk rfl rfl rfl rfl rfl rfl nc33 rfl ?_; clear nc33; clear wc32; intro wc34 nc33); have hc35 := nc33.blk; have xc36 := nc33.ext; have pc37 := nc33.pos; have zc38 := nc33.size; clear nc33; replace hc26 := Nd.sits.ext hc26 xc36; replace hc27 := hc27.ext xc36; replace hc5 := hc5.ext xc36; replace X := X.ext xc36; clear xc36; refine cN (cM rfl rfl ?_); refine cC (by kernel_rfl) rfl (expect_c _ _ _ _ (by assumption) (by decide)) rfl ?_; rintro _ wc41 ⟨⟨⟩, ⟨hc39, fc40⟩⟩; have zc42 := fc40.size; replace hc35 := hc35.fr fc40 (by omega); replace hc26 := Nd.sits.fr hc26 fc40 (by omega); clear hc27; replace hc5 := hc5.fr fc40 (by omega); replace X := X.fr fc40 (by omega); clear fc40; refine cN (lw_loads_b' [_, _, _, _] tabOk rfl rfl rfl hc35 rfl rfl rfl ?_); (refine lw_store' [_, _, _, _] [_, _, _, _] tabOk rfl rfl rfl rfl rfl rfl hc5 rfl rfl ?_; intro wc43 nc44); have hc47 := nc44.blk; have fc45 := nc44.fr; have zc46 := nc44.size; clear nc44 hc5; replace hc39 := hc39.fr fc45 (by omega)
   replace hc35 := hc35.fr fc45 (by omega); replace hc26 := Nd.sits.fr hc26 fc45 (by omega); replace X := X.fr fc45 (by omega); clear fc45; refine cT (cw_ret (qw_block_ret (qw_then_ret (qw_retc rfl tabOk rfl rfl rfl hc47 rfl ?_)))); rotate_left 1
  exact tree_ret (Nd.sits.wide (by assumption) (fun b h => by omega)) (by assumption) X
 · rw [show primaryP c.ts c.n (k + 1) σ = placeP c.ts c.n k σ from by rw [primaryP]; simp [h2, ht, hs, hp]]
   have hf : 4 * mS c.ts σ + 1 ≤ k := by omega
   refine calls_in Tryz.func84 Tryz.ntmps84 rfl rfl ?_
   focus
    refine cS ?_; (refine lw_alloc' [_, _, _, _] zOk rfl rfl ?_; intro bd1 wd2 nd3); have hd5 := nd3.blk; have xd6 := nd3.ext; have pd7 := nd3.pos; have zd8 := nd3.size; clear nd3; replace hP := hP.ext xd6; replace X := X.ext xd6; clear xd6; refine cT (cw_seq (cw_block (cS (cM rfl rfl ?_)))); refine cC (by kernel_rfl) rfl (peek_c _ _ _ (by assumption)) rfl ?_; rintro _ wd10 ⟨⟨⟩, xd9⟩; have zd11 := xd9.size; replace hd5 := hd5.ext xd9; replace hP := hP.ext xd9; replace X := X.ext xd9; clear xd9; refine lw_pure (pur_field tabOk rfl rfl rfl rfl rfl rfl) rfl (lw_pure (pur_eql rfl rfl) rfl (cA rfl rfl (cT ?_))); refine cw_no rfl (by assumption) ?_; refine cS (cM rfl rfl ?_); refine cC (by kernel_rfl) rfl (accept_f _ _ _ _ (by assumption) (by decide) (by assumption)) rfl ?_; rintro _ wd14 ⟨⟨⟩, ⟨hd12, fd13⟩⟩; have zd15 := fd13.size; replace hd5 := hd5.fr fd13 (by omega); clear hP; replace X := X.fr fd13 (by omega); clear fd13; refine cA rfl rfl (cT (cw_cond_f rfl (cS (cM rfl rfl ?_)))); refine cC (by kernel_rfl) rfl (accept_f _ _ _ _ (by assumption) (by decide) (by assumption)) rfl ?_; rintro _ wd18 ⟨⟨⟩, ⟨hd16, fd17⟩⟩; have zd19 := fd17.size; clear hd12; replace hd5 := hd5.fr fd17 (by omega); replace X := X.fr fd17 (by omega); clear fd17; refine cA rfl rfl (cT (cw_cond_f rfl (cS (cM rfl rfl ?_)))); refine cC (by kernel_rfl) rfl (accept_f _ _ _ _ (by assumption) (by decide) (by assumption)) rfl ?_; rintro _ wd22 ⟨⟨⟩, ⟨hd20, fd21⟩⟩; have zd23 := fd21.size; clear hd16; replace hd5 := hd5.fr fd21 (by omega)
    replace X := X.fr fd21 (by omega); clear fd21; refine cA rfl rfl (cT (cw_cond_f rfl (cw_skip (qw_block_norm (qw_then (cS (cM rfl rfl ?_))))))); refine cR (by kernel_rfl) rfl ((IH k (Nat.le_refl _)).place _ _ (by assumption) hf) (fun _ _ h => h.ret) rfl ?_; rintro _ wd29 ⟨ad24, ⟨kd25, ⟨⟨⟩, ⟨hd26, ⟨hd27, fd28⟩⟩⟩⟩⟩; have zd30 := fd28.size; clear hd20; replace hd5 := hd5.fr fd28 (by omega); replace X := X.fr fd28 (by omega); clear fd28; (refine lw_store' [_, _, _, _] [_, _, _, _] tabOk rfl rfl rfl rfl rfl rfl hd5 rfl rfl ?_; intro wd31 nd32); have hd35 := nd32.blk; have fd33 := nd32.fr; have zd34 := nd32.size; clear nd32 hd5; replace hd26 := Nd.sits.fr hd26 fd33 (by omega); replace hd27 := hd27.fr fd33 (by omega); replace X := X.fr fd33 (by omega); clear fd33; refine cT (cw_ret (qw_retc rfl tabOk rfl rfl rfl hd35 rfl ?_)); rotate_left 1
   exact tree_ret (Nd.sits.wide (by assumption) (fun b h => by omega)) (by assumption) X
set_option maxRecDepth 100000 in
set_option maxHeartbeats 1000000 in
theorem unary_w (c : PC) (k : Nat) (IH : ∀ j, j ≤ k → ExprsC c j) : UnaryC c (k + 1) := by
 intro σ w hP hk; have X := Fr.refl (· = c.pb) w; have hpb := hP.pbB; have hB := hP.B
 cases h1 : hasP c.ts σ [45]
 case true =>
  rw [show unaryP c.ts c.n (k + 1) σ = (.mk 6 0 [] [(unaryP c.ts c.n k (nextP σ)).1], (unaryP c.ts c.n k (nextP σ)).2) from by rw [unaryP]; simp [h1]]; have hm := mS_has hP.at_ h1 (by decide)
  have hf : 4 * mS c.ts (nextP σ) + 3 ≤ k := by omega
  refine calls_in Tryz.func59 Tryz.ntmps59 rfl rfl ?_
  focus
   refine cS ?_; (refine lw_alloc' [_, _, _, _] zOk rfl rfl ?_; intro b1 w2 n3); have h5 := n3.blk; have x6 := n3.ext; have p7 := n3.pos; have z8 := n3.size; clear n3; replace hP := hP.ext x6; replace X := X.ext x6; clear x6; refine cT (cw_seq (cw_block (cS (cM rfl rfl ?_)))); refine cC (by kernel_rfl) rfl (accept_t _ _ _ _ (by assumption) (by decide) (by assumption)) rfl ?_; rintro _ w11 ⟨⟨⟩, ⟨h9, f10⟩⟩; have z12 := f10.size; replace h5 := h5.fr f10 (by omega); clear hP; replace X := X.fr f10 (by omega); clear f10; refine cA rfl rfl (cT (cw_cond_t rfl (cS (cM rfl rfl ?_)))); refine cR (by kernel_rfl) rfl ((IH k (Nat.le_refl _)).unary _ _ (by assumption) hf) (fun _ _ h => h.ret) rfl ?_; rintro _ w18 ⟨a13, ⟨k14, ⟨⟨⟩, ⟨h15, ⟨h16, f17⟩⟩⟩⟩⟩; have z19 := f17.size; clear h9; replace h5 := h5.fr f17 (by omega); replace X := X.fr f17 (by omega); clear f17; (refine lw_does (does_slice' [_, _, _, _] tabOk zOk rfl rfl rfl rfl rfl rfl rfl rfl rfl) rfl ?_ (fun _ h => h); rintro _ w21 ⟨b20, rfl, n22, t23⟩); clear t23; have h24 := n22.blk; have x25 := n22.ext; have p26 := n22.pos; have z27 := n22.size; clear n22; replace h15 := Nd.sits.ext h15 x25; replace h16 := h16.ext x25; replace h5 := h5.ext x25; replace X := X.ext x25; clear x25; refine lw_pure (pur_build' [_, _, _, _] tabOk zOk rfl rfl rfl rfl) rfl ?_; (refine lw_store' [_, _, _, _] [_, _, _, _] tabOk rfl rfl rfl rfl rfl rfl h5 rfl rfl ?_; intro w28 n29); have h32 := n29.blk; have f30 := n29.fr; have z31 := n29.size; clear n29 h5; replace h24 := h24.fr f30 (by omega)
   replace h15 := Nd.sits.fr h15 f30 (by omega); replace h16 := h16.fr f30 (by omega); replace X := X.fr f30 (by omega); clear f30; refine cT (cw_ret (qw_block_ret (qw_then_ret (qw_retc rfl tabOk rfl rfl rfl h32 rfl ?_)))); rotate_left 1
  exact tree_ret (sits_1 (by assumption) (by omega) (by assumption) (fun b h => by omega)) (by assumption) X
 cases h2 : hasP c.ts σ [33]
 case true =>
  rw [show unaryP c.ts c.n (k + 1) σ = (.mk 7 0 [] [(unaryP c.ts c.n k (nextP σ)).1], (unaryP c.ts c.n k (nextP σ)).2) from by rw [unaryP]; simp [h1, h2]]; have hm := mS_has hP.at_ h2 (by decide)
  have hf : 4 * mS c.ts (nextP σ) + 3 ≤ k := by omega
  refine calls_in Tryz.func59 Tryz.ntmps59 rfl rfl ?_
  focus
   refine cS ?_; (refine lw_alloc' [_, _, _, _] zOk rfl rfl ?_; intro ba1 wa2 na3); have ha5 := na3.blk; have xa6 := na3.ext; have pa7 := na3.pos; have za8 := na3.size; clear na3; replace hP := hP.ext xa6; replace X := X.ext xa6; clear xa6; refine cT (cw_seq (cw_block (cS (cM rfl rfl ?_)))); refine cC (by kernel_rfl) rfl (accept_f _ _ _ _ (by assumption) (by decide) (by assumption)) rfl ?_; rintro _ wa11 ⟨⟨⟩, ⟨ha9, fa10⟩⟩; have za12 := fa10.size; replace ha5 := ha5.fr fa10 (by omega); clear hP; replace X := X.fr fa10 (by omega); clear fa10; refine cA rfl rfl (cT (cw_cond_f rfl (cS (cM rfl rfl ?_)))); refine cC (by kernel_rfl) rfl (accept_t _ _ _ _ (by assumption) (by decide) (by assumption)) rfl ?_; rintro _ wa15 ⟨⟨⟩, ⟨ha13, fa14⟩⟩; have za16 := fa14.size; clear ha9; replace ha5 := ha5.fr fa14 (by omega); replace X := X.fr fa14 (by omega); clear fa14; refine cA rfl rfl (cT (cw_cond_t rfl (cS (cM rfl rfl ?_)))); refine cR (by kernel_rfl) rfl ((IH k (Nat.le_refl _)).unary _ _ (by assumption) hf) (fun _ _ h => h.ret) rfl ?_; rintro _ wa22 ⟨aa17, ⟨ka18, ⟨⟨⟩, ⟨ha19, ⟨ha20, fa21⟩⟩⟩⟩⟩; have za23 := fa21.size; clear ha13; replace ha5 := ha5.fr fa21 (by omega); replace X := X.fr fa21 (by omega); clear fa21; (refine lw_does (does_slice' [_, _, _, _] tabOk zOk rfl rfl rfl rfl rfl rfl rfl rfl rfl) rfl ?_ (fun _ h => h); rintro _ wa25 ⟨ba24, rfl, na26, ta27⟩); clear ta27; have ha28 := na26.blk; have xa29 := na26.ext; have pa30 := na26.pos; have za31 := na26.size; clear na26; replace ha19 := Nd.sits.ext ha19 xa29
   replace ha20 := ha20.ext xa29; replace ha5 := ha5.ext xa29; replace X := X.ext xa29; clear xa29; refine lw_pure (pur_build' [_, _, _, _] tabOk zOk rfl rfl rfl rfl) rfl ?_; (refine lw_store' [_, _, _, _] [_, _, _, _] tabOk rfl rfl rfl rfl rfl rfl ha5 rfl rfl ?_; intro wa32 na33); have ha36 := na33.blk; have fa34 := na33.fr; have za35 := na33.size; clear na33 ha5; replace ha28 := ha28.fr fa34 (by omega); replace ha19 := Nd.sits.fr ha19 fa34 (by omega); replace ha20 := ha20.fr fa34 (by omega); replace X := X.fr fa34 (by omega); clear fa34; refine cT (cw_ret (qw_block_ret (qw_then_ret (qw_retc rfl tabOk rfl rfl rfl ha36 rfl ?_)))); rotate_left 1
  exact tree_ret (sits_1 (by assumption) (by omega) (by assumption) (fun b h => by omega)) (by assumption) X
 · rw [show unaryP c.ts c.n (k + 1) σ = primaryP c.ts c.n k σ from by rw [unaryP]; simp [h1, h2]]
   have hf : 4 * mS c.ts σ + 2 ≤ k := by omega
   refine calls_in Tryz.func59 Tryz.ntmps59 rfl rfl ?_
   focus
    refine cS ?_; (refine lw_alloc' [_, _, _, _] zOk rfl rfl ?_; intro bb1 wb2 nb3); have hb5 := nb3.blk; have xb6 := nb3.ext; have pb7 := nb3.pos; have zb8 := nb3.size; clear nb3; replace hP := hP.ext xb6; replace X := X.ext xb6; clear xb6; refine cT (cw_seq (cw_block (cS (cM rfl rfl ?_)))); refine cC (by kernel_rfl) rfl (accept_f _ _ _ _ (by assumption) (by decide) (by assumption)) rfl ?_; rintro _ wb11 ⟨⟨⟩, ⟨hb9, fb10⟩⟩; have zb12 := fb10.size; replace hb5 := hb5.fr fb10 (by omega); clear hP; replace X := X.fr fb10 (by omega); clear fb10; refine cA rfl rfl (cT (cw_cond_f rfl (cS (cM rfl rfl ?_)))); refine cC (by kernel_rfl) rfl (accept_f _ _ _ _ (by assumption) (by decide) (by assumption)) rfl ?_; rintro _ wb15 ⟨⟨⟩, ⟨hb13, fb14⟩⟩; have zb16 := fb14.size; clear hb9; replace hb5 := hb5.fr fb14 (by omega); replace X := X.fr fb14 (by omega); clear fb14; refine cA rfl rfl (cT (cw_cond_f rfl (cw_skip (qw_block_norm (qw_then (cS (cM rfl rfl ?_))))))); refine cR (by kernel_rfl) rfl ((IH k (Nat.le_refl _)).primary _ _ (by assumption) hf) (fun _ _ h => h.ret) rfl ?_; rintro _ wb22 ⟨ab17, ⟨kb18, ⟨⟨⟩, ⟨hb19, ⟨hb20, fb21⟩⟩⟩⟩⟩; have zb23 := fb21.size; clear hb13; replace hb5 := hb5.fr fb21 (by omega); replace X := X.fr fb21 (by omega); clear fb21; (refine lw_store' [_, _, _, _] [_, _, _, _] tabOk rfl rfl rfl rfl rfl rfl hb5 rfl rfl ?_; intro wb24 nb25); have hb28 := nb25.blk; have fb26 := nb25.fr; have zb27 := nb25.size; clear nb25 hb5; replace hb19 := Nd.sits.fr hb19 fb26 (by omega); replace hb20 := hb20.fr fb26 (by omega)
    replace X := X.fr fb26 (by omega); clear fb26; refine cT (cw_ret (qw_retc rfl tabOk rfl rfl rfl hb28 rfl ?_)); rotate_left 1
   exact tree_ret (Nd.sits.wide (by assumption) (fun b h => by omega)) (by assumption) X
end Bk
namespace Bk
open Go Go.RowKit Go.Proofs
attribute [local irreducible] Go.Calls
theorem getS_bin (t : List UInt8) : getS binMap t = (binOf t).map fun k => .int .u8 k := by
 unfold binMap binOf
 generalize hL : [(8 : Int), 9, 10, 11, 12, 13, 14, 15, 16, 17, 18, 19, 20, 21, 22, 23] = L
 clear hL
 induction L with
 | nil => rfl
 | cons k r ih =>
  simp only [List.map_cons, getS, List.find?_cons]
  by_cases h : symbol k = t
  · simp [h]
  · rw [if_neg (fun e => h e.symm), ih]; simp [h]
theorem level_bounds (k : Int) (h0 : 8 ≤ k) (h1 : k ≤ 23) : 1 ≤ level k ∧ level k ≤ 8 := by
 have : k = 8 ∨ k = 9 ∨ k = 10 ∨ k = 11 ∨ k = 12 ∨ k = 13 ∨ k = 14 ∨ k = 15 ∨ k = 16 ∨ k = 17 ∨ k = 18 ∨ k = 19 ∨ k = 20 ∨ k = 21 ∨ k = 22 ∨ k = 23 := by omega
 rcases this with rfl | rfl | rfl | rfl | rfl | rfl | rfl | rfl | rfl | rfl | rfl | rfl | rfl | rfl | rfl | rfl <;> decide
set_option maxRecDepth 100000 in
set_option maxHeartbeats 1000000 in
theorem expr_w (c : PC) (k : Nat) (IH : ∀ j, j ≤ k → ExprsC c j) : ExprC c (k + 1) := by
 intro lv σ w hP hk hl0 hl1; have X := Fr.refl (· = c.pb) w; have hpb := hP.pbB; have hB := hP.B; have hlen := hP.len; rw [show exprP c.ts c.n (k + 1) lv σ = climbP c.ts c.n k lv (unaryP c.ts c.n k σ).1 (unaryP c.ts c.n k σ).2 from by rw [exprP]]; have hu := ((expr_inv (ts := c.ts) (n := c.n) k).2.2.1 σ hP.at_).1
 have hf : 4 * mS c.ts σ + 3 ≤ k := by omega
 have hf2 : 4 * mS c.ts (unaryP c.ts c.n k σ).2 + 1 ≤ k := by have := mS_le hu; omega
 refine calls_in Tryz.func32 Tryz.ntmps32 rfl rfl ?_
 focus
  refine cS ?_; (refine lw_alloc' [_, _, _, _] zOk rfl rfl ?_; intro b1 w2 n3); have h5 := n3.blk; have x6 := n3.ext; have p7 := n3.pos; have z8 := n3.size; clear n3; replace hP := hP.ext x6; replace X := X.ext x6; clear x6; refine cN (cM rfl rfl ?_); refine cR (by kernel_rfl) rfl ((IH k (Nat.le_refl _)).unary _ _ (by assumption) hf) (fun _ _ h => h.ret) rfl ?_; rintro _ w14 ⟨a9, ⟨k10, ⟨⟨⟩, ⟨h11, ⟨h12, f13⟩⟩⟩⟩⟩; have z15 := f13.size; replace h5 := h5.fr f13 (by omega); clear hP; replace X := X.fr f13 (by omega); clear f13; (refine lw_alloc' [_, _, _, _] zOk rfl rfl ?_; intro b16 w17 n18); (refine lw_init' [_, _, _, _] tabOk rfl rfl rfl rfl rfl rfl n18 rfl ?_; clear n18; clear w17; intro w19 n18); have h20 := n18.blk; have x21 := n18.ext; have p22 := n18.pos; have z23 := n18.size; clear n18; replace h11 := Nd.sits.ext h11 x21; replace h12 := h12.ext x21; replace h5 := h5.ext x21; replace X := X.ext x21; clear x21; refine cT (cw_block ?_); rotate_left 1
 refine cw_loop (ι := Nat × Nd × Option Addr × Nat × PS) (fun _ => [(0, .pointer (some ⟨c.pb, 0, none⟩)), (1, .int .i64 lv), (4, .pointer (some ⟨b1, 0, none⟩)), (5, .pointer (some ⟨b16, 0, none⟩))])
  (fun x w' => PP c x.2.2.2.2 w' ∧ Blk w' b16 (x.2.1.cells x.2.2.1 x.2.2.2.1) ∧ x.2.1.sits (fun b => w.heap.size ≤ b ∧ b ≠ b1 ∧ b ≠ b16) w' x.2.2.1 ∧ Blk w' b1 [.int .u8 0, .int .i64 0, .string ⟨#[]⟩, .slice none 0 0] ∧ Fr (· = c.pb) w w' ∧ w19.heap.size ≤ w'.heap.size ∧
   climbP c.ts c.n k lv (unaryP c.ts c.n k σ).1 (unaryP c.ts c.n k σ).2 = climbP c.ts c.n x.1 lv x.2.1 x.2.2.2.2 ∧ 4 * mS c.ts x.2.2.2.2 + 1 ≤ x.1 ∧ x.1 ≤ k) (fun x => x.1) (k, (unaryP c.ts c.n k σ).1, a9, k10, (unaryP c.ts c.n k σ).2) (by (refine sub_cons rfl ?_; refine sub_cons rfl ?_; refine sub_cons rfl ?_; refine sub_cons rfl ?_; exact sub_nil))
  ⟨h12, h20, h11.wide (fun b h => ⟨by omega, by omega, by omega⟩), h5, X, Nat.le_refl _, rfl, hf2, Nat.le_refl _⟩ ?_
 rintro ⟨j, x, xa, xc, σ'⟩ w1 ⟨hP, h5, hs, h4, X, hz, he, hfj, hjk⟩; simp only at hP h5 hs he hfj hjk; rw [he]; clear he hu hf hf2 h20 h11; obtain ⟨j, rfl⟩ : ∃ i, j = i + 1 := ⟨j - 1, by omega⟩; have hg := getS_bin (peekP c.ts σ').text
 cases hb : binOf (peekP c.ts σ').text with
 | none =>
  rw [show climbP c.ts c.n (j + 1) lv x σ' = (x, σ') from by rw [climbP]; simp [hb]]; rw [hb] at hg; simp only [Option.map_none] at hg
  focus
   refine cw_block (cw_seq ?_); (refine cw_tdraw (fun wz => Ext w1 wz) 12 (.pure 0 (.pure 1 (.pure 2 (.pure 3 (.pure 4 (.fork 5 (.pure 6 (.pure 7 (.pure 8 (.pure 9 (.pure 10 (.pure 11 .tail)))))) .none)))))) mixed (by kernel_rfl) (panicOk_then (panicOk_block (panicOk_then (panicOk_block panicOk_body)))) ?_; intro wa1 xa2 _); have qsa3 : (fun wz => Ext w1 wz) wa1 := xa2; simp only at qsa3; have d_hP := hP; have d_h5 := h5; have d_hs := hs; have d_h4 := h4; have za4 := xa2.size; replace hP := hP.ext xa2; replace h5 := h5.ext xa2; replace hs := Nd.sits.ext hs xa2; replace h4 := h4.ext xa2; replace X := X.ext xa2; clear xa2; refine ⟨qsa3, ?_⟩; refine tw_pure rfl (pur_move rfl) rfl (tw_pure rfl (pur_nilCheck rfl) rfl (tw_pure rfl (pur_fieldAddr tabOk rfl rfl rfl) rfl (tw_pure rfl (pur_load tabOk rfl rfl rfl (fun wz hz => Blk.cell (Blk.ext (PP.blk d_hP) hz) rfl)) rfl (tw_pure rfl (pur_move rfl) rfl ?_)))); refine tw_does rfl (does_call (by kernel_rfl) rfl (peek_c _ _ _ (by assumption)) (fun _ _ h => ⟨_, h.1⟩)) rfl ?_ (fun _ h => h) tw_none; rintro _ wa6 ⟨⟨⟩, xa5⟩; have za7 := xa5.size; replace qsa3 := qsa3.ext xa5; replace hP := hP.ext xa5; replace h5 := h5.ext xa5; replace hs := Nd.sits.ext hs xa5; replace h4 := h4.ext xa5; replace X := X.ext xa5; clear xa5; refine ⟨qsa3, ?_⟩; refine tw_pure rfl (pur_field tabOk rfl rfl rfl rfl rfl rfl) rfl ?_; refine tw_pure rfl (pur_look_none tabOk rfl rfl rfl rfl rfl (fun wz hz => MapIs.ext (PP.map d_hP) hz) (by assumption)) rfl ?_; refine tw_pure rfl (pur_move rfl) rfl (tw_pure rfl (pur_extract rfl rfl) rfl (tw_pure rfl (pur_extract rfl rfl) rfl (tw_pure rfl (pur_assign rfl) rfl ?_)))
   clear d_hP d_h5 d_hs d_h4 qsa3; refine tw_tail rfl (cA rfl rfl (cT (cw_seq (cS (cM rfl rfl (lw_pure (pur_not rfl) rfl (cM rfl rfl (lw_off rfl rfl rfl (rfl) rfl (lw_off rfl rfl rfl (rfl) rfl (lw_off rfl rfl rfl (rfl) rfl (lw_off rfl rfl rfl (rfl) rfl ?_))))))))))); refine lw_pure (pur_pick_t rfl rfl rfl) rfl (cT (cw_cond_t rfl (cS (lw_loads_b' [_, _, _, _] tabOk rfl rfl rfl h5 rfl rfl rfl ?_)))); (refine lw_store' [_, _, _, _] [_, _, _, _] tabOk rfl rfl rfl rfl rfl rfl h4 rfl rfl ?_; intro wa8 na9); have ha12 := na9.blk; have fa10 := na9.fr; have za11 := na9.size; clear na9 h4; replace hP := hP.fr fa10 (by omega); replace h5 := h5.fr fa10 (by omega); replace hs := Nd.sits.fr hs fa10 (by omega); replace X := X.fr fa10 (by omega); clear fa10; refine cT (cw_ret (qw_then_ret (qw_block_ret (qw_then_ret (qw_block_ret (qw_retc rfl tabOk rfl rfl rfl ha12 rfl ?_)))))); rotate_left 1
  exact tree_ret (Nd.sits.wide hs (fun b h => h.1)) (by assumption) X
 | some op =>
  rw [hb] at hg; simp only [Option.map_some] at hg; obtain ⟨hne, o1, o2, -⟩ := binOf_ne hb; obtain ⟨hin, hin2⟩ := peek_in hP.at_ (Or.inl hne); have hm := mS_next (ts := c.ts) (σ := σ') ⟨hin, hin2⟩; have hlv := level_bounds op o1 o2
  by_cases hl : level op < lv
  · rw [show climbP c.ts c.n (j + 1) lv x σ' = (x, σ') from by rw [climbP]; simp [hb, hl]]
    focus
     refine cw_block (cw_seq ?_); (refine cw_tdraw (fun wz => Ext w1 wz) 12 (.pure 0 (.pure 1 (.pure 2 (.pure 3 (.pure 4 (.fork 5 (.pure 6 (.pure 7 (.pure 8 (.pure 9 (.pure 10 (.pure 11 .tail)))))) .none)))))) mixed (by kernel_rfl) (panicOk_then (panicOk_block (panicOk_then (panicOk_block panicOk_body)))) ?_; intro wb1 xb2 _); have qsb3 : (fun wz => Ext w1 wz) wb1 := xb2; simp only at qsb3; have d_hP := hP; have d_h5 := h5; have d_hs := hs; have d_h4 := h4; have zb4 := xb2.size; replace hP := hP.ext xb2; replace h5 := h5.ext xb2; replace hs := Nd.sits.ext hs xb2; replace h4 := h4.ext xb2; replace X := X.ext xb2; clear xb2; refine ⟨qsb3, ?_⟩; refine tw_pure rfl (pur_move rfl) rfl (tw_pure rfl (pur_nilCheck rfl) rfl (tw_pure rfl (pur_fieldAddr tabOk rfl rfl rfl) rfl (tw_pure rfl (pur_load tabOk rfl rfl rfl (fun wz hz => Blk.cell (Blk.ext (PP.blk d_hP) hz) rfl)) rfl (tw_pure rfl (pur_move rfl) rfl ?_)))); refine tw_does rfl (does_call (by kernel_rfl) rfl (peek_c _ _ _ (by assumption)) (fun _ _ h => ⟨_, h.1⟩)) rfl ?_ (fun _ h => h) tw_none; rintro _ wb6 ⟨⟨⟩, xb5⟩; have zb7 := xb5.size; replace qsb3 := qsb3.ext xb5; replace hP := hP.ext xb5; replace h5 := h5.ext xb5; replace hs := Nd.sits.ext hs xb5; replace h4 := h4.ext xb5; replace X := X.ext xb5; clear xb5; refine ⟨qsb3, ?_⟩; refine tw_pure rfl (pur_field tabOk rfl rfl rfl rfl rfl rfl) rfl ?_; refine tw_pure rfl (pur_look_some tabOk rfl rfl rfl rfl rfl (fun wz hz => MapIs.ext (PP.map d_hP) hz) (by assumption)) rfl ?_; refine tw_pure rfl (pur_move rfl) rfl (tw_pure rfl (pur_extract rfl rfl) rfl (tw_pure rfl (pur_extract rfl rfl) rfl (tw_pure rfl (pur_assign rfl) rfl ?_)))
     clear d_hP d_h5 d_hs d_h4 qsb3; refine tw_tail rfl (cA rfl rfl (cT (cw_seq (cS (cM rfl rfl (lw_pure (pur_not rfl) rfl (cM rfl rfl (lw_on rfl rfl rfl (rfl) (cM rfl rfl (lw_on rfl rfl rfl (rfl) ?_)))))))))); refine cC (by kernel_rfl) rfl (arith_Level_c _ _ (by omega) (by omega)) rfl ?_; rintro _ wb8 ⟨⟨⟩, rfl⟩; refine lw_on rfl rfl rfl (rfl) (cM rfl rfl (lw_on rfl rfl rfl (rfl) (lw_pure (pur_lss rfl rfl) rfl (lw_pure (pur_pick_f rfl rfl rfl) rfl (cT ?_))))); refine cw_yes rfl (by assumption) ?_; refine cS (lw_loads_b' [_, _, _, _] tabOk rfl rfl rfl h5 rfl rfl rfl ?_); (refine lw_store' [_, _, _, _] [_, _, _, _] tabOk rfl rfl rfl rfl rfl rfl h4 rfl rfl ?_; intro wb9 nb10); have hb13 := nb10.blk; have fb11 := nb10.fr; have zb12 := nb10.size; clear nb10 h4; replace hP := hP.fr fb11 (by omega); replace h5 := h5.fr fb11 (by omega); replace hs := Nd.sits.fr hs fb11 (by omega); replace X := X.fr fb11 (by omega); clear fb11; refine cT (cw_ret (qw_then_ret (qw_block_ret (qw_then_ret (qw_block_ret (qw_retc rfl tabOk rfl rfl rfl hb13 rfl ?_)))))); rotate_left 1
    exact tree_ret (Nd.sits.wide hs (fun b h => h.1)) (by assumption) X
  · rw [show climbP c.ts c.n (j + 1) lv x σ' = climbP c.ts c.n j lv (.mk op 0 [] [x, (exprP c.ts c.n j (level op + 1) (nextP σ')).1]) (exprP c.ts c.n j (level op + 1) (nextP σ')).2 from by rw [climbP]; simp [hb, hl]]
    have hfe : 4 * mS c.ts (nextP σ') + 4 ≤ j := by omega
    have hle := ((expr_inv (ts := c.ts) (n := c.n) j).1 (level op + 1) (nextP σ') hin2).1; have hml := mS_le hle
    focus
     refine cw_block (cw_seq ?_); (refine cw_tdraw (fun wz => Ext w1 wz) 12 (.pure 0 (.pure 1 (.pure 2 (.pure 3 (.pure 4 (.fork 5 (.pure 6 (.pure 7 (.pure 8 (.pure 9 (.pure 10 (.pure 11 .tail)))))) .none)))))) mixed (by kernel_rfl) (panicOk_then (panicOk_block (panicOk_then (panicOk_block panicOk_body)))) ?_; intro wc1 xc2 _); have qsc3 : (fun wz => Ext w1 wz) wc1 := xc2; simp only at qsc3; have d_hP := hP; have d_h5 := h5; have d_hs := hs; have d_h4 := h4; have zc4 := xc2.size; replace hP := hP.ext xc2; replace h5 := h5.ext xc2; replace hs := Nd.sits.ext hs xc2; replace h4 := h4.ext xc2; replace X := X.ext xc2; clear xc2; refine ⟨qsc3, ?_⟩; refine tw_pure rfl (pur_move rfl) rfl (tw_pure rfl (pur_nilCheck rfl) rfl (tw_pure rfl (pur_fieldAddr tabOk rfl rfl rfl) rfl (tw_pure rfl (pur_load tabOk rfl rfl rfl (fun wz hz => Blk.cell (Blk.ext (PP.blk d_hP) hz) rfl)) rfl (tw_pure rfl (pur_move rfl) rfl ?_)))); refine tw_does rfl (does_call (by kernel_rfl) rfl (peek_c _ _ _ (by assumption)) (fun _ _ h => ⟨_, h.1⟩)) rfl ?_ (fun _ h => h) tw_none; rintro _ wc6 ⟨⟨⟩, xc5⟩; have zc7 := xc5.size; replace qsc3 := qsc3.ext xc5; replace hP := hP.ext xc5; replace h5 := h5.ext xc5; replace hs := Nd.sits.ext hs xc5; replace h4 := h4.ext xc5; replace X := X.ext xc5; clear xc5; refine ⟨qsc3, ?_⟩; refine tw_pure rfl (pur_field tabOk rfl rfl rfl rfl rfl rfl) rfl ?_; refine tw_pure rfl (pur_look_some tabOk rfl rfl rfl rfl rfl (fun wz hz => MapIs.ext (PP.map d_hP) hz) (by assumption)) rfl ?_; refine tw_pure rfl (pur_move rfl) rfl (tw_pure rfl (pur_extract rfl rfl) rfl (tw_pure rfl (pur_extract rfl rfl) rfl (tw_pure rfl (pur_assign rfl) rfl ?_)))
     clear d_hP d_h5 d_hs d_h4 qsc3; refine tw_tail rfl (cA rfl rfl (cT (cw_seq (cS (cM rfl rfl (lw_pure (pur_not rfl) rfl (cM rfl rfl (lw_on rfl rfl rfl (rfl) (cM rfl rfl (lw_on rfl rfl rfl (rfl) ?_)))))))))); refine cC (by kernel_rfl) rfl (arith_Level_c _ _ (by omega) (by omega)) rfl ?_; rintro _ wc8 ⟨⟨⟩, rfl⟩; refine lw_on rfl rfl rfl (rfl) (cM rfl rfl (lw_on rfl rfl rfl (rfl) (lw_pure (pur_lss rfl rfl) rfl (lw_pure (pur_pick_f rfl rfl rfl) rfl (cT ?_))))); refine cw_no rfl (by assumption) ?_; refine cw_skip (qw_then (cS (cM rfl rfl (lw_pure (pur_nilCheck rfl) rfl (lw_pure (pur_fieldAddr tabOk rfl rfl rfl) rfl (lw_load_b tabOk rfl rfl rfl (PP.blk hP) rfl rfl ?_)))))); refine lw_pure (pur_add rfl rfl (IntWalk.i64_in _ (by omega))) rfl ?_; refine lw_pure (pur_nilCheck rfl) rfl (lw_pure (pur_fieldAddr tabOk rfl rfl rfl) rfl ?_); refine lw_pp_at tabOk rfl rfl rfl rfl (by assumption) hin2 ?_; rintro wc9 hc10 fc11; have zc12 := fc11.size; clear hP; replace h5 := h5.fr fc11 (by omega); replace hs := Nd.sits.fr hs fc11 (by omega); replace h4 := h4.fr fc11 (by omega); replace X := X.fr fc11 (by omega); clear fc11; refine cN (cM rfl rfl (cM rfl rfl ?_)); refine cC (by kernel_rfl) rfl (arith_Level_c _ _ (by omega) (by omega)) rfl ?_; rintro _ wc13 ⟨⟨⟩, rfl⟩; refine lw_pure (pur_add rfl rfl (IntWalk.i64_in _ (by omega))) rfl ?_; refine cR (by kernel_rfl) rfl ((IH j (by omega)).expr _ _ _ (by assumption) hfe (by omega) (by omega)) (fun _ _ h => h.ret) rfl ?_; rintro _ wc19 ⟨ac14, ⟨kc15, ⟨⟨⟩, ⟨hc16, ⟨hc17, fc18⟩⟩⟩⟩⟩
     have zc20 := fc18.size; clear hc10; replace h5 := h5.fr fc18 (by omega); replace hs := Nd.sits.fr hs fc18 (by omega); replace h4 := h4.fr fc18 (by omega); replace X := X.fr fc18 (by omega); clear fc18; (refine lw_alloc' [_, _, _, _] zOk rfl rfl ?_; intro bc21 wc22 nc23); (refine lw_init' [_, _, _, _] tabOk rfl rfl rfl rfl rfl rfl nc23 rfl ?_; clear nc23; clear wc22; intro wc24 nc23); have hc25 := nc23.blk; have xc26 := nc23.ext; have pc27 := nc23.pos; have zc28 := nc23.size; clear nc23; replace hc16 := Nd.sits.ext hc16 xc26; replace hc17 := hc17.ext xc26; replace h5 := h5.ext xc26; replace hs := Nd.sits.ext hs xc26; replace h4 := h4.ext xc26; replace X := X.ext xc26; clear xc26; refine cT (cw_region (cM rfl rfl (lw_loads_b' [_, _, _, _] tabOk rfl rfl rfl h5 rfl rfl rfl (lw_loads_b' [_, _, _, _] tabOk rfl rfl rfl hc25 rfl rfl rfl ?_)))); (refine lw_does (does_slice' [_, _, _, _, _, _, _, _] tabOk zOk rfl rfl rfl rfl rfl rfl rfl rfl rfl) rfl ?_ (fun _ h => h); rintro _ wc30 ⟨bc29, rfl, nc31, tc32⟩); clear tc32; have hc33 := nc31.blk; have xc34 := nc31.ext; have pc35 := nc31.pos; have zc36 := nc31.size; clear nc31; replace hc25 := hc25.ext xc34; replace hc16 := Nd.sits.ext hc16 xc34; replace hc17 := hc17.ext xc34; replace h5 := h5.ext xc34; replace hs := Nd.sits.ext hs xc34; replace h4 := h4.ext xc34; replace X := X.ext xc34; clear xc34; refine lw_pure (pur_build' [_, _, _, _] tabOk zOk rfl rfl rfl rfl) rfl ?_; (refine lw_store' [_, _, _, _] [_, _, _, _] tabOk rfl rfl rfl rfl rfl rfl h5 rfl rfl ?_; intro wc37 nc38)
     have hc41 := nc38.blk; have fc39 := nc38.fr; have zc40 := nc38.size; clear nc38 h5; replace hc33 := hc33.fr fc39 (by omega); replace hc25 := hc25.fr fc39 (by omega); replace hc16 := Nd.sits.fr hc16 fc39 (by omega); replace hc17 := hc17.fr fc39 (by omega); replace hs := Nd.sits.fr hs fc39 (by omega); replace h4 := h4.fr fc39 (by omega); replace X := X.fr fc39 (by omega); clear fc39; refine lw_nil (qw_block_norm ?_); rotate_left 1
    refine qw_round (j, .mk op 0 [] [x, (exprP c.ts c.n j (level op + 1) (nextP σ')).1], some ⟨_, 0, none⟩, 2, (exprP c.ts c.n j (level op + 1) (nextP σ')).2) (by (refine sub_cons rfl ?_; refine sub_cons rfl ?_; refine sub_cons rfl ?_; refine sub_cons rfl ?_; exact sub_nil)) ⟨by assumption, by assumption, sits_2 (by assumption) ⟨by omega, by omega, by omega⟩ hs (fun b h => h) (by assumption) (fun b h => ⟨by omega, by omega, by omega⟩), by assumption, X, by omega, rfl, by simp only; omega, by simp only; omega⟩ (by simp)
theorem exprs_c (c : PC) (k : Nat) : ExprsC c k := by
 induction k using Nat.strongRecOn with
 | _ k ih =>
  cases k with
  | zero => exact ⟨fun _ _ _ _ h => by omega, fun _ _ _ h => by omega, fun _ _ _ h => by omega, fun _ _ _ h => by omega⟩
  | succ k =>
   have IH : ∀ j, j ≤ k → ExprsC c j := fun j hj => ih j (by omega)
   exact ⟨expr_w c k IH, unary_w c k IH, primary_w c k IH, place_w c k IH⟩
end Bk
namespace Bk
open Go
def startsDigit (s : List UInt8) : Bool := match s with
 | [] => false
 | c :: _ => digit c
section
variable (ts : List Tok) (n : Int)
def numberR (σ : PS) : Int × PS :=
 if startsDigit (peekP ts σ).text then
  if (digitsVal (peekP ts σ).text : Int) ≤ 9223372036854775807 then ((digitsVal (peekP ts σ).text : Int), nextP σ)
  else (0, failP σ (peekP ts σ).pos 2)
 else (0, unexpP ts n σ)
mutual
def exprR : Nat → Int → PS → Nd × PS
 | 0, _, σ => (.mk 0 0 [] [], σ)
 | k + 1, lv, σ => if 8 < lv then unaryR k σ else loopR k lv (exprR k (lv + 1) σ).1 (exprR k (lv + 1) σ).2
def loopR : Nat → Int → Nd → PS → Nd × PS
 | 0, _, x, σ => (x, σ)
 | k + 1, lv, x, σ => if σ.err ≠ 0 then (x, σ) else match binOf (peekP ts σ).text with
  | none => (x, σ)
  | some op => if level op ≠ lv then (x, σ) else
   loopR k lv (.mk op 0 [] [x, (exprR k (lv + 1) (nextP σ)).1]) (exprR k (lv + 1) (nextP σ)).2
def unaryR : Nat → PS → Nd × PS
 | 0, σ => (.mk 0 0 [] [], σ)
 | k + 1, σ =>
  if hasP ts σ [45] then (.mk 6 0 [] [(unaryR k (nextP σ)).1], (unaryR k (nextP σ)).2)
  else if hasP ts σ [33] then (.mk 7 0 [] [(unaryR k (nextP σ)).1], (unaryR k (nextP σ)).2)
  else if hasP ts σ [40] then ((exprR k 1 (nextP σ)).1, expectP ts n (exprR k 1 (nextP σ)).2 [41])
  else if hasP ts σ [116, 111, 112] then (.mk 4 0 (nameP ts n (expectP ts n (nextP σ) [40])).1 [], expectP ts n (nameP ts n (expectP ts n (nextP σ) [40])).2 [41])
  else if hasP ts σ [115, 105, 122, 101] then (.mk 5 0 (nameP ts n (expectP ts n (nextP σ) [40])).1 [], expectP ts n (nameP ts n (expectP ts n (nextP σ) [40])).2 [41])
  else if startsDigit (peekP ts σ).text then (.mk 1 (numberR ts n σ).1 [] [], (numberR ts n σ).2)
  else placeR k σ
def placeR : Nat → PS → Nd × PS
 | 0, σ => (.mk 0 0 [] [], σ)
 | k + 1, σ =>
  if hasP ts (nameP ts n σ).2 [91] then (.mk 3 0 (nameP ts n σ).1 [(exprR k 1 (nextP (nameP ts n σ).2)).1], expectP ts n (exprR k 1 (nextP (nameP ts n σ).2)).2 [93])
  else (.mk 2 0 (nameP ts n σ).1 [], (nameP ts n σ).2)
end
end
section
variable {ts : List Tok} {n : Int}
structure REq {α : Type} (a b : α × PS) : Prop where
 err : a.2.err = b.2.err
 off : a.2.off = b.2.off
 ok : a.2.err = 0 → a.2.at_ = b.2.at_ ∧ a.1 = b.1
theorem REq.refl {α : Type} (a : α × PS) : REq a a := ⟨rfl, rfl, fun _ => ⟨rfl, rfl⟩⟩
theorem REq.same {α : Type} {a b : α × PS} (h : REq a b) (e : a.2.err = 0) : a = b := by
 obtain ⟨x, σ⟩ := a; obtain ⟨y, ρ⟩ := b; obtain ⟨h1, h2, h3⟩ := h; obtain ⟨h4, h5⟩ := h3 e
 cases σ; cases ρ
 simp_all
theorem REq.trans {α : Type} {a b c : α × PS} (h : REq a b) (k : REq b c) : REq a c :=
 ⟨h.err.trans k.err, h.off.trans k.off, fun e => ⟨(h.ok e).1.trans (k.ok (h.err ▸ e)).1, (h.ok e).2.trans (k.ok (h.err ▸ e)).2⟩⟩
theorem REq.bind {α β : Type} {a b : α × PS} (h : REq a b) {f g : α × PS → β × PS} (hf : a.2.err ≠ 0 → (f a).2 = a.2) (hg : b.2.err ≠ 0 → (g b).2 = b.2) (hok : a.2.err = 0 → a = b → REq (f a) (g b)) : REq (f a) (g b) := by
 by_cases e : a.2.err = 0
 · exact hok e (h.same e)
 · have e' : b.2.err ≠ 0 := h.err ▸ e
   refine ⟨by rw [hf e, hg e', h.err], by rw [hf e, hg e', h.off], fun z => ?_⟩
   rw [hf e] at z; exact absurd z e
end
end Bk
namespace Bk
open Go
section
variable {ts : List Tok} {n : Int}
theorem level_bd {op : Int} (h0 : 8 ≤ op) (h1 : op ≤ 23) : 1 ≤ level op ∧ level op ≤ 8 := by
 have : op = 8 ∨ op = 9 ∨ op = 10 ∨ op = 11 ∨ op = 12 ∨ op = 13 ∨ op = 14 ∨ op = 15 ∨ op = 16 ∨ op = 17 ∨ op = 18 ∨ op = 19 ∨ op = 20 ∨ op = 21 ∨ op = 22 ∨ op = 23 := by omega
 rcases this with rfl | rfl | rfl | rfl | rfl | rfl | rfl | rfl | rfl | rfl | rfl | rfl | rfl | rfl | rfl | rfl <;> decide
def DigitKinds (ts : List Tok) : Prop := ∀ t ∈ ts, t.kind = 2 ↔ startsDigit t.text = true
end
end Bk
namespace Bk
open Go
section
variable (ts : List Tok) (n : Int)
def argsR : Nat → List Nd → PS → List Nd × PS
 | 0, acc, σ => (acc, σ)
 | k + 1, acc, σ =>
  if σ.err ≠ 0 then (acc, σ)
  else
   let v := argP ts n σ
   let σ1 := if acc.length = 8 then failP v.2 (posR σ) 5 else v.2
   if hasP ts σ1 [44] then argsR k (acc ++ [v.1]) (nextP σ1) else (acc ++ [v.1], σ1)
where posR (σ : PS) : Int := if ts.length ≤ σ.at_ then n else (ts.getD σ.at_ Tok.zero).pos
def callR (k : Nat) (kind : Int) (σ : PS) : Nd × PS :=
 let m := nameP ts n (nextP σ)
 let σ1 := expectP ts n m.2 [40]
 if hasP ts σ1 [41] then (.mk kind 0 m.1 [], nextP σ1)
 else
  let r := argsR ts n k [] σ1
  (.mk kind 0 m.1 r.1, expectP ts n r.2 [41])
def updateR (k : Nat) (σ : PS) : Nd × PS :=
 let p := placeR ts n k σ
 let t := (peekP ts p.2).text
 if t = [60, 61, 62] then (.mk 43 0 [] [p.1, (placeR ts n k (nextP p.2)).1], (placeR ts n k (nextP p.2)).2)
 else if t = [43, 61] ∨ t = [45, 61] ∨ t = [94, 61] then (.mk (updKind t) 0 [] [p.1, (exprR ts n k 1 (nextP p.2)).1], (exprR ts n k 1 (nextP p.2)).2)
 else (.mk 56 0 [] [p.1, (exprR ts n k 1 (expectP ts n p.2 [58, 61])).1], (exprR ts n k 1 (expectP ts n p.2 [58, 61])).2)
def stackR (k : Nat) (kind : Int) (σ : PS) : Nd × PS :=
 let p := placeR ts n k (nextP σ)
 let m := nameP ts n (expectP ts n p.2 [44])
 (.mk kind 0 m.1 [p.1], m.2)
def tapeR (k : Nat) (kind : Int) (σ : PS) : Nd × PS := (.mk kind 0 [] [(placeR ts n k (nextP σ)).1], (placeR ts n k (nextP σ)).2)
mutual
def stmtR : Nat → PS → Nd × PS
 | 0, σ => (.mk 0 0 [] [], σ)
 | k + 1, σ =>
  if (peekP ts σ).text = [112, 117, 115, 104] then stackR ts n k 44 σ else if (peekP ts σ).text = [112, 111, 112] then stackR ts n k 45 σ
  else if (peekP ts σ).text = [114, 101, 97, 100] then tapeR ts n k 46 σ else if (peekP ts σ).text = [117, 110, 114, 101, 97, 100] then tapeR ts n k 47 σ else if (peekP ts σ).text = [119, 114, 105, 116, 101] then tapeR ts n k 48 σ else if (peekP ts σ).text = [117, 110, 119, 114, 105, 116, 101] then tapeR ts n k 49 σ
  else if (peekP ts σ).text = [99, 97, 108, 108] then callR ts n k 50 σ else if (peekP ts σ).text = [117, 110, 99, 97, 108, 108] then callR ts n k 51 σ
  else if (peekP ts σ).text = [105, 102] then branchesR k 52 [101, 108, 115, 101] [102, 105] σ else if (peekP ts σ).text = [102, 114, 111, 109] then branchesR k 53 [108, 111, 111, 112] [117, 110, 116, 105, 108] σ
  else if (peekP ts σ).text = [108, 111, 99, 97, 108] then localR k σ else updateR ts n k σ
def branchesR : Nat → Int → List UInt8 → List UInt8 → PS → Nd × PS
 | 0, _, _, _, σ => (.mk 0 0 [] [], σ)
 | k + 1, kind, mid, last, σ =>
  let a := exprR ts n k 1 (nextP σ)
  let x := bodyR k a.2
  let y := bodyR k (expectP ts n x.2 mid)
  let e := exprR ts n k 1 (expectP ts n y.2 last)
  (.mk kind 0 [] [a.1, x.1, y.1, e.1], e.2)
def localR : Nat → PS → Nd × PS
 | 0, σ => (.mk 0 0 [] [], σ)
 | k + 1, σ =>
  if hasP ts (nextP σ) [115, 116, 97, 99, 107] then
   let m := nameP ts n (nextP (nextP σ))
   let x := bodyR k m.2
   (.mk 55 0 m.1 [x.1], x.2)
  else
   let m := nameP ts n (nextP σ)
   let a := exprR ts n k 1 (expectP ts n m.2 [61])
   let x := bodyR k a.2
   let e := exprR ts n k 1 (expectP ts n x.2 [100, 101, 108, 111, 99, 97, 108])
   (.mk 54 0 m.1 [a.1, x.1, e.1], e.2)
def bodyR : Nat → PS → Nd × PS
 | 0, σ => (.mk 57 0 [] [], σ)
 | k + 1, σ => let r := stmtsR k [] (expectP ts n σ [123]); (.mk 57 0 [] r.1, expectP ts n r.2 [125])
def stmtsR : Nat → List Nd → PS → List Nd × PS
 | 0, acc, σ => (acc, σ)
 | k + 1, acc, σ =>
  if σ.err = 0 ∧ σ.at_ < ts.length ∧ hasP ts σ [125] = false then stmtsR k (acc ++ [(stmtR k σ).1]) (expectP ts n (stmtR k σ).2 [59])
  else (acc, σ)
end
end
section
variable {ts : List Tok} {n : Int}
theorem arg_le {σ : PS} (h : σ.at_ ≤ ts.length) : Le ts σ (argP ts n σ).2 := name_le h
theorem args_le (k : Nat) : ∀ acc σ, σ.at_ ≤ ts.length → Le ts σ (argsP ts n k acc σ).2 := by
 induction k with
 | zero => intro acc σ h; rw [argsP]; exact Le.refl h
 | succ k ih =>
  intro acc σ h; rw [argsP]
  split
  · rename_i hh
    have h1 := next_le (has_in h hh (by decide))
    split
    · have h2 := h1.trans (fail_le (off := (peekP ts (nextP σ)).pos) (e := 5) h1.wf)
      exact (h2.trans (arg_le h2.wf)).trans (ih _ _ (arg_le h2.wf).wf)
    · exact (h1.trans (arg_le h1.wf)).trans (ih _ _ (arg_le h1.wf).wf)
  · exact Le.refl h
end
end Bk
namespace Bk
open Go
section
variable {ts : List Tok} {n : Int}
abbrev In (ts : List Tok) (σ : PS) : Prop := σ.err = 0 ∧ σ.at_ < ts.length
theorem expr_le {k : Nat} {lv : Int} {σ : PS} (h : σ.at_ ≤ ts.length) : Le ts σ (exprP ts n k lv σ).2 := ((expr_inv k).1 lv σ h).1
theorem place_le {k : Nat} {σ : PS} (h : σ.at_ ≤ ts.length) : Le ts σ (placeP ts n k σ).2 := ((expr_inv k).2.2.2.2 σ h).1
theorem stack_le {k : Nat} {kind : Int} {σ : PS} (hn : In ts σ) : Le ts σ (stackP ts n k kind σ).2 := by
 unfold stackP
 have h1 := next_le hn; have h2 := h1.trans (place_le (n := n) (k := k) h1.wf); have h3 := h2.trans (expect_le (n := n) (t := [44]) h2.wf (by decide))
 exact h3.trans (name_le h3.wf)
theorem tape_le {k : Nat} {kind : Int} {σ : PS} (hn : In ts σ) : Le ts σ (tapeP ts n k kind σ).2 := by
 unfold tapeP
 have h1 := next_le hn
 exact h1.trans (place_le (n := n) (k := k) h1.wf)
theorem call_le {k : Nat} {kind : Int} {σ : PS} (hn : In ts σ) : Le ts σ (callP ts n k kind σ).2 := by
 unfold callP
 have h1 := next_le hn; have h2 := h1.trans (name_le (n := n) h1.wf); have h3 := h2.trans (expect_le (n := n) (t := [40]) h2.wf (by decide)); simp only
 split
 · rename_i hh; exact h3.trans (next_le (has_in h3.wf hh (by decide)))
 · have h4 := h3.trans (arg_le (n := n) h3.wf)
   exact (h4.trans (args_le (n := n) k _ _ h4.wf)).trans (expect_le (args_le (n := n) k _ _ h4.wf).wf (by decide))
theorem upd_ne {t : List UInt8} (h : ¬ updKind t = 0) : t ≠ [] := by rintro rfl; exact h (by decide)
theorem update_le {k : Nat} {σ : PS} (h : σ.at_ ≤ ts.length) : Le ts σ (updateP ts n k σ).2 := by
 unfold updateP
 have h1 := place_le (n := n) (k := k) h; simp only
 split
 · rename_i hh
   have h2 := h1.trans (next_le (has_in h1.wf hh (by decide)))
   exact h2.trans (place_le h2.wf)
 · split
   · exact h1.trans (unexp_le h1.wf)
   · rename_i hh
     have h2 := h1.trans (next_le (peek_in h1.wf (Or.inl (upd_ne hh))))
     exact h2.trans (expr_le h2.wf)
theorem stmt_inv (k : Nat) : (∀ σ, σ.at_ ≤ ts.length → Le ts σ (stmtP ts n k σ).2) ∧ (∀ kind mid last σ, In ts σ → mid ≠ [] → last ≠ [] → Le ts σ (branchesP ts n k kind mid last σ).2) ∧ (∀ σ, In ts σ → Le ts σ (localP ts n k σ).2) ∧
 (∀ σ, σ.at_ ≤ ts.length → Le ts σ (blockP ts n k σ).2) ∧ (∀ acc σ, σ.at_ ≤ ts.length → Le ts σ (stmtsP ts n k acc σ).2) := by
 induction k with
 | zero =>
  refine ⟨fun σ h => ?_, fun kind mid last σ h _ _ => ?_, fun σ h => ?_, fun σ h => ?_, fun acc σ h => ?_⟩
  · rw [stmtP]; exact Le.refl h
  · rw [branchesP]; exact Le.refl (Nat.le_of_lt h.2)
  · rw [localP]; exact Le.refl (Nat.le_of_lt h.2)
  · rw [blockP]; exact Le.refl h
  · rw [stmtsP]; exact Le.refl h
 | succ k ih =>
  obtain ⟨iS, iB, iL, iK, iT⟩ := ih; refine ⟨fun σ h => ?_, fun kind mid last σ hn hmid hlast => ?_, fun σ hn => ?_, fun σ h => ?_, fun acc σ h => ?_⟩
  · rw [stmtP]
    have hin : ∀ t : List UInt8, t ≠ [] → (peekP ts σ).text = t → In ts σ := fun t ht e => peek_in h (Or.inl (by rw [e]; exact ht))
    by_cases c : (peekP ts σ).text = [112, 117, 115, 104]
    · rw [if_pos c]; exact stack_le (hin _ (by decide) c)
    rw [if_neg c]; clear c
    by_cases c : (peekP ts σ).text = [112, 111, 112]
    · rw [if_pos c]; exact stack_le (hin _ (by decide) c)
    rw [if_neg c]; clear c
    by_cases c : (peekP ts σ).text = [114, 101, 97, 100]
    · rw [if_pos c]; exact tape_le (hin _ (by decide) c)
    rw [if_neg c]; clear c
    by_cases c : (peekP ts σ).text = [117, 110, 114, 101, 97, 100]
    · rw [if_pos c]; exact tape_le (hin _ (by decide) c)
    rw [if_neg c]; clear c
    by_cases c : (peekP ts σ).text = [119, 114, 105, 116, 101]
    · rw [if_pos c]; exact tape_le (hin _ (by decide) c)
    rw [if_neg c]; clear c
    by_cases c : (peekP ts σ).text = [117, 110, 119, 114, 105, 116, 101]
    · rw [if_pos c]; exact tape_le (hin _ (by decide) c)
    rw [if_neg c]; clear c
    by_cases c : (peekP ts σ).text = [99, 97, 108, 108]
    · rw [if_pos c]; exact call_le (hin _ (by decide) c)
    rw [if_neg c]; clear c
    by_cases c : (peekP ts σ).text = [117, 110, 99, 97, 108, 108]
    · rw [if_pos c]; exact call_le (hin _ (by decide) c)
    rw [if_neg c]; clear c
    by_cases c : (peekP ts σ).text = [105, 102]
    · rw [if_pos c]; exact iB _ _ _ _ (hin _ (by decide) c) (by decide) (by decide)
    rw [if_neg c]; clear c
    by_cases c : (peekP ts σ).text = [102, 114, 111, 109]
    · rw [if_pos c]; exact iB _ _ _ _ (hin _ (by decide) c) (by decide) (by decide)
    rw [if_neg c]; clear c
    by_cases c : (peekP ts σ).text = [108, 111, 99, 97, 108]
    · rw [if_pos c]; exact iL _ (hin _ (by decide) c)
    rw [if_neg c]; clear c
    exact update_le h
  · rw [branchesP]
    have h1 := next_le hn; have h2 := h1.trans (expr_le (n := n) (k := k) (lv := 1) h1.wf); have h3 := h2.trans (iK _ h2.wf); have h4 := h3.trans (expect_le (n := n) (t := mid) h3.wf hmid); have h5 := h4.trans (iK _ h4.wf); have h6 := h5.trans (expect_le (n := n) (t := last) h5.wf hlast)
    exact h6.trans (expr_le h6.wf)
  · rw [localP]
    have h1 := next_le hn
    split
    · rename_i hh
      have h2 := h1.trans (next_le (has_in h1.wf hh (by decide))); have h3 := h2.trans (name_le (n := n) h2.wf)
      exact h3.trans (iK _ h3.wf)
    · have h2 := h1.trans (name_le (n := n) h1.wf)
      have h3 := h2.trans (expect_le (n := n) (t := [61]) h2.wf (by decide)); have h4 := h3.trans (expr_le (n := n) (k := k) (lv := 1) h3.wf); have h5 := h4.trans (iK _ h4.wf); have h6 := h5.trans (expect_le (n := n) (t := [100, 101, 108, 111, 99, 97, 108]) h5.wf (by decide))
      exact h6.trans (expr_le h6.wf)
  · rw [blockP]
    have h1 := expect_le (n := n) (t := [123]) h (by decide)
    exact h1.trans (iT [] _ h1.wf)
  · rw [stmtsP]
    split
    · exact Le.refl h
    · split
      · rename_i hh; exact next_le (has_in h hh (by decide))
      · have h1 := iS σ h
        have h2 := h1.trans (expect_le (n := n) (t := [59]) h1.wf (by decide))
        exact h2.trans (iT _ _ h2.wf)
end
end Bk
namespace Bk
open Go Go.RowKit Go.Proofs
attribute [local irreducible] Go.Calls
end Bk
namespace Bk
open Go Go.RowKit Go.Proofs
attribute [local irreducible] Go.Calls
end Bk
namespace Bk
open Go Go.RowKit Go.Proofs
attribute [local irreducible] Go.Calls
structure StmtsC (c : PC) (k : Nat) : Prop where
 stmt : ∀ (σ : PS) (w : World), PP c σ w → 4 * mS c.ts σ + 6 ≤ k → Calls Tryz.prog 39 #[.pointer (some ⟨c.pb, 0, none⟩)] w (TreeR c w (stmtP c.ts c.n k σ))
 branches : ∀ (kind : Int) (mid last : List UInt8) (σ : PS) (w : World), PP c σ w → In c.ts σ → mid ≠ [] → last ≠ [] → 4 * mS c.ts σ + 5 ≤ k → Calls Tryz.prog 70 #[.pointer (some ⟨c.pb, 0, none⟩), .int .u8 kind, str mid, str last] w (TreeR c w (branchesP c.ts c.n k kind mid last σ))
 local_ : ∀ (σ : PS) (w : World), PP c σ w → In c.ts σ → 4 * mS c.ts σ + 5 ≤ k → Calls Tryz.prog 71 #[.pointer (some ⟨c.pb, 0, none⟩)] w (TreeR c w (localP c.ts c.n k σ))
 block : ∀ (σ : PS) (w : World), PP c σ w → 4 * mS c.ts σ + 8 ≤ k → Calls Tryz.prog 94 #[.pointer (some ⟨c.pb, 0, none⟩)] w (TreeR c w (blockP c.ts c.n k σ))
end Bk
namespace Bk
open Go Go.RowKit Go.Proofs
attribute [local irreducible] Go.Calls
end Bk
namespace Bk
open Go Go.RowKit Go.Proofs
attribute [local irreducible] Go.Calls
theorem rowDepth_snoc (l : List Nd) (x : Nd) : rowDepth (l ++ [x]) = max (rowDepth l) x.depth := by
 induction l with
 | nil => simp only [List.nil_append, rowDepth]; omega
 | cons y r ih => simp only [List.cons_append, rowDepth, ih]; omega
mutual
theorem depth_le : ∀ t : Nd, 1 ≤ t.depth ∧ t.depth ≤ t.size
 | .mk _ _ _ l => by
  have := rowDepth_le l
  simp only [Nd.depth, Nd.size]; omega
theorem rowDepth_le : ∀ l : List Nd, 0 ≤ rowDepth l ∧ rowDepth l ≤ rowSize l
 | [] => by simp [rowDepth, rowSize]
 | t :: r => by
  have h1 := depth_le t; have h2 := rowDepth_le r
  simp only [rowDepth, rowSize]; omega
end
theorem rowSize_snoc (l : List Nd) (x : Nd) : rowSize (l ++ [x]) = rowSize l + x.size := by
 induction l with
 | nil => simp [rowSize]
 | cons y r ih => simp only [List.cons_append, rowSize, ih]; omega
theorem rowSize_take (l : List Nd) (j : Nat) : rowSize (l.take j) ≤ rowSize l := by
 induction l generalizing j with
 | nil => simp
 | cons x r ih =>
  cases j with
  | zero => simp [rowSize]
  | succ j => simp only [List.take_succ_cons, rowSize]; have := ih j; omega
theorem length_rowSize (l : List Nd) : l.length ≤ rowSize l := by
 induction l with
 | nil => simp [rowSize]
 | cons x r ih => have := Nd.size_pos x; simp only [rowSize, List.length_cons]; omega
set_option maxRecDepth 100000 in
set_option maxHeartbeats 1000000 in
theorem Depth_c (N : Nat) : ∀ (t : Nd) (S : Nat → Prop) (a : Option Addr) (c : Nat) (w : World), t.size < N → t.size ≤ 1000000000 → t.sits S w a →
 Calls Tryz.prog 85 #[t.val a c] w fun e w' => e = .returned (.int .i64 t.depth) ∧ Ext w w' := by
 induction N with
 | zero => intro t S a c w h; omega
 | succ N ih =>
  rintro ⟨k, n, s, l⟩ S a c w hN hM hs
  have IH := Lib.hid ih; clear ih
  simp only [Nd.sits] at hs; simp only [Nd.size] at hN hM; have X := Ext.refl w; have hl := length_rowSize l; rw [show (Nd.mk k n s l).depth = rowDepth l + 1 from by simp only [Nd.depth]]; refine calls_in Tryz.func85 Tryz.ntmps85 rfl rfl ?_
  focus
   refine cS ?_; (refine lw_box' [_, _, _, _] rfl rfl rfl ?_; intro b1 w2 n3); have h4 := n3.blk; have x5 := n3.ext; have p6 := n3.pos; have z7 := n3.size; clear n3; replace hs := Bk.rowSits.ext hs x5; replace X := X.ext x5; clear x5; refine cA rfl rfl (cN (cA rfl rfl (cT (cw_seq (cS (lw_pure (pur_fieldAddr tabOk rfl rfl rfl) rfl (lw_load_b tabOk rfl rfl rfl h4 rfl rfl (lw_pure (pur_len_slice tabOk rfl rfl) rfl (cM rfl rfl (cT (cw_block ?_))))))))))); rotate_left 1
  refine cw_loop (ι := Nat) (fun j => [(9, .int .i64 j), (8, .int .i64 l.length), (7, .slice a l.length c), (3, .int .i64 (rowDepth (l.take j)))]) (fun j w' => rowSits S w' l a ∧ Ext w w' ∧ j ≤ l.length) (fun j => l.length - j) 0 (by (refine sub_cons rfl ?_; refine sub_cons rfl ?_; refine sub_cons rfl ?_; refine sub_cons rfl ?_; exact sub_nil)) ⟨hs, X, Nat.zero_le _⟩ ?_; rintro j w1 ⟨hs, X, hj⟩; clear h4
  by_cases hlt : j < l.length
  · obtain ⟨kb, ko, rfl, hkS, hkid⟩ := kidRows hs (by intro e; subst e; simp at hlt)
    obtain ⟨xa, xc, rx, sx⟩ := hkid j l[j] (List.getElem?_eq_getElem hlt); have hsz := size_mem (List.getElem_mem hlt)
    have ht : l.take (j + 1) = l.take j ++ [l[j]] := by rw [List.take_add_one, List.getElem?_eq_getElem hlt]; rfl
    have hb0 := rowDepth_le (l.take j); have hb1 := rowSize_take l j; have hb2 := rowSize_take l (j + 1); have hb3 := depth_le l[j]; rw [ht, rowSize_snoc] at hb2; clear hkid
    generalize l[j] = x at *
    focus
     refine cS (lw_pure (pur_lss rfl rfl) rfl (cT (cw_seq ?_))); refine cw_yes rfl (by omega) ?_; refine cw_skip (qw_then (cw_seq (cw_block (cS ?_)))); refine lw_pure (pur_indexAddr tabOk rfl rfl rfl rfl (by omega) (by omega)) rfl ?_; refine lw_loads_r0 tabOk rfl rfl rfl rx rfl rfl ?_; (refine lw_alloc' [_, _, _, _] zOk rfl rfl ?_; intro ba1 wa2 na3); (refine lw_init' [_, _, _, _] tabOk rfl rfl rfl rfl rfl rfl na3 rfl ?_; clear na3; clear wa2; intro wa4 na3); have ha5 := na3.blk; have xa6 := na3.ext; have pa7 := na3.pos; have za8 := na3.size; clear na3; replace X := X.ext xa6; replace hs := Bk.rowSits.ext hs xa6; replace rx := rx.ext xa6; replace sx := Nd.sits.ext sx xa6; clear xa6; refine cT (cw_region (cM rfl rfl (lw_loads_b' [_, _, _, _] tabOk rfl rfl rfl ha5 rfl rfl rfl ?_))); refine cC (by kernel_rfl) rfl (IH.out _ S _ _ _ (by omega) (by omega) (by assumption)) rfl ?_; rintro _ wa10 ⟨⟨⟩, xa9⟩; have za11 := xa9.size; replace ha5 := ha5.ext xa9; replace X := X.ext xa9; replace hs := Bk.rowSits.ext hs xa9; replace rx := rx.ext xa9; replace sx := Nd.sits.ext sx xa9; clear xa9; refine lw_pure (pur_max rfl rfl rfl) rfl (cA rfl rfl (lw_nil (qw_block_norm (qw_then (cw_region ?_))))); refine lw_pure (pur_add rfl rfl (IntWalk.i64_in _ (by omega))) rfl ?_; refine cM rfl rfl (lw_nil ?_); rotate_left 1
    refine qw_round (j + 1) ?_ ⟨hs, X, by omega⟩ (by omega); refine sub_cons rfl (sub_cons rfl (sub_cons rfl (sub_cons' rfl ?_ sub_nil))); rw [ht, rowDepth_snoc]
  · have : j = l.length := by omega
    subst this; have hb0 := rowDepth_le l; rw [List.take_length]
    focus
     refine cS (lw_pure (pur_lss rfl rfl) rfl (cT (cw_seq ?_))); refine cw_no rfl (by omega) ?_; refine cw_exit (qw_then_exit (qw_then_exit (qw_block_exit (qw_then (cS (cM rfl rfl ?_)))))); refine lw_pure (pur_add rfl rfl (IntWalk.i64_in _ (by omega))) rfl ?_; refine cA rfl rfl (cT (cw_ret (qw_ret1 rfl rfl ?_))); rotate_left 1
    exact ⟨rfl, X⟩
set_option maxRecDepth 100000 in
set_option maxHeartbeats 1000000 in
theorem Size_c (N : Nat) : ∀ (t : Nd) (S : Nat → Prop) (a : Option Addr) (c : Nat) (w : World), t.size < N → t.size ≤ 1000000000 → t.sits S w a →
 Calls Tryz.prog 86 #[t.val a c] w fun e w' => e = .returned (.int .i64 t.size) ∧ Ext w w' := by
 induction N with
 | zero => intro t S a c w h; omega
 | succ N ih =>
  rintro ⟨k, n, s, l⟩ S a c w hN hM hs
  have IH := Lib.hid ih; clear ih
  simp only [Nd.sits] at hs; simp only [Nd.size] at hN hM; have X := Ext.refl w; have hl := length_rowSize l; rw [show ((Nd.mk k n s l).size : Int) = ((rowSize l : Nat) : Int) + 1 from by simp only [Nd.size]; omega]; refine calls_in Tryz.func86 Tryz.ntmps86 rfl rfl ?_
  focus
   refine cS ?_; (refine lw_box' [_, _, _, _] rfl rfl rfl ?_; intro b1 w2 n3); have h4 := n3.blk; have x5 := n3.ext; have p6 := n3.pos; have z7 := n3.size; clear n3; replace hs := Bk.rowSits.ext hs x5; replace X := X.ext x5; clear x5; refine cA rfl rfl (cN (cA rfl rfl (cT (cw_seq (cS (lw_pure (pur_fieldAddr tabOk rfl rfl rfl) rfl (lw_load_b tabOk rfl rfl rfl h4 rfl rfl (lw_pure (pur_len_slice tabOk rfl rfl) rfl (cM rfl rfl (cT (cw_block ?_))))))))))); rotate_left 1
  refine cw_loop (ι := Nat) (fun j => [(9, .int .i64 j), (8, .int .i64 l.length), (7, .slice a l.length c), (3, .int .i64 (((rowSize (l.take j) : Nat) : Int) + 1))]) (fun j w' => rowSits S w' l a ∧ Ext w w' ∧ j ≤ l.length) (fun j => l.length - j) 0 (by (refine sub_cons rfl ?_; refine sub_cons rfl ?_; refine sub_cons rfl ?_; refine sub_cons rfl ?_; exact sub_nil)) ⟨hs, X, Nat.zero_le _⟩ ?_; rintro j w1 ⟨hs, X, hj⟩; clear h4
  by_cases hlt : j < l.length
  · obtain ⟨kb, ko, rfl, hkS, hkid⟩ := kidRows hs (by intro e; subst e; simp at hlt)
    obtain ⟨xa, xc, rx, sx⟩ := hkid j l[j] (List.getElem?_eq_getElem hlt); have hsz := size_mem (List.getElem_mem hlt)
    have ht : l.take (j + 1) = l.take j ++ [l[j]] := by rw [List.take_add_one, List.getElem?_eq_getElem hlt]; rfl
    have hb0 := rowDepth_le (l.take j); have hb1 := rowSize_take l j; have hb2 := rowSize_take l (j + 1); have hb3 := depth_le l[j]; rw [ht, rowSize_snoc] at hb2; clear hkid
    generalize l[j] = x at *
    focus
     refine cS (lw_pure (pur_lss rfl rfl) rfl (cT (cw_seq ?_))); refine cw_yes rfl (by omega) ?_; refine cw_skip (qw_then (cw_seq (cw_block (cS ?_)))); refine lw_pure (pur_indexAddr tabOk rfl rfl rfl rfl (by omega) (by omega)) rfl ?_; refine lw_loads_r0 tabOk rfl rfl rfl rx rfl rfl ?_; (refine lw_alloc' [_, _, _, _] zOk rfl rfl ?_; intro ba1 wa2 na3); (refine lw_init' [_, _, _, _] tabOk rfl rfl rfl rfl rfl rfl na3 rfl ?_; clear na3; clear wa2; intro wa4 na3); have ha5 := na3.blk; have xa6 := na3.ext; have pa7 := na3.pos; have za8 := na3.size; clear na3; replace X := X.ext xa6; replace hs := Bk.rowSits.ext hs xa6; replace rx := rx.ext xa6; replace sx := Nd.sits.ext sx xa6; clear xa6; refine cT (cw_region (cM rfl rfl (lw_loads_b' [_, _, _, _] tabOk rfl rfl rfl ha5 rfl rfl rfl ?_))); refine cC (by kernel_rfl) rfl (IH.out _ S _ _ _ (by omega) (by omega) (by assumption)) rfl ?_; rintro _ wa10 ⟨⟨⟩, xa9⟩; have za11 := xa9.size; replace ha5 := ha5.ext xa9; replace X := X.ext xa9; replace hs := Bk.rowSits.ext hs xa9; replace rx := rx.ext xa9; replace sx := Nd.sits.ext sx xa9; clear xa9; refine lw_pure (pur_add rfl rfl (IntWalk.i64_in _ (by omega))) rfl ?_; refine cA rfl rfl (lw_nil (qw_block_norm (qw_then (cw_region ?_)))); refine lw_pure (pur_add rfl rfl (IntWalk.i64_in _ (by omega))) rfl ?_; refine cM rfl rfl (lw_nil ?_); rotate_left 1
    refine qw_round (j + 1) ?_ ⟨hs, X, by omega⟩ (by omega); refine sub_cons rfl (sub_cons rfl (sub_cons rfl (sub_cons' rfl ?_ sub_nil))); rw [ht, rowSize_snoc]
    congr 1; omega
  · have : j = l.length := by omega
    subst this; have hb0 := rowDepth_le l; rw [List.take_length]
    focus
     refine cS (lw_pure (pur_lss rfl rfl) rfl (cT (cw_seq ?_))); refine cw_no rfl (by omega) ?_; refine cw_exit (qw_then_exit (qw_then_exit (qw_block_exit (qw_then (cS (cM rfl rfl (cA rfl rfl (cT (cw_ret (qw_ret1 rfl rfl ?_)))))))))); rotate_left 1
    exact ⟨rfl, X⟩
end Bk
namespace Bk
open Go Go.RowKit
abbrev VD.cells (v : VD) : List Value := [str v.name, .int .u8 v.kind, .int .i64 v.len]
abbrev VD.val (v : VD) : Value := .agg #[str v.name, .int .u8 v.kind, .int .i64 v.len]
def VDAt (w : World) (b o : Nat) (v : VD) : Prop := Row w ⟨b, o, none⟩ v.cells
def VDs (S : Nat → Prop) (w : World) (l : List VD) (a : Option Addr) : Prop := Arr S 3 VDAt w l a
abbrev PD.cells (p : PD) (pa : Option Addr) (pc : Nat) (ba : Option Addr) (bc : Nat) : List Value := [str p.name, .slice pa p.params.length pc, .int .u8 p.body.kind, .int .i64 p.body.num, str p.body.name, .slice ba p.body.kids.length bc]
def PDAt (S : Nat → Prop) (w : World) (b o : Nat) (p : PD) : Prop := ∃ pa pc ba bc, Row w ⟨b, o, none⟩ (p.cells pa pc ba bc) ∧ VDs S w p.params pa ∧ p.body.sits S w ba
def PDs (S : Nat → Prop) (w : World) (l : List PD) (a : Option Addr) : Prop := Arr S 6 (PDAt S) w l a
theorem VDs.ext {S : Nat → Prop} {w w' : World} {l : List VD} {a : Option Addr} (h : VDs S w l a) (x : Ext w w') : VDs S w' l a := h.mono (fun _ h => h) (fun _ _ _ _ _ h => Row.ext h x)
theorem PDs.ext {S : Nat → Prop} {w w' : World} {l : List PD} {a : Option Addr} (h : PDs S w l a) (x : Ext w w') : PDs S w' l a :=
 h.mono (fun _ h => h) (fun _ _ _ _ _ ⟨pa, pc, ba, bc, h1, h2, h3⟩ => ⟨pa, pc, ba, bc, h1.ext x, h2.ext x, h3.ext x⟩)
abbrev PG.cells (g : PG) (va : Option Addr) (vc : Nat) (pa : Option Addr) (pc : Nat) (ma : Option Addr) (mc : Nat) : List Value :=
 [.slice va g.vars.length vc, .slice pa g.procs.length pc, .int .u8 g.main.kind, .int .i64 g.main.num, str g.main.name, .slice ma g.main.kids.length mc]
structure PG.sits (S : Nat → Prop) (w : World) (g : PG) (va pa ma : Option Addr) : Prop where
 vars : VDs S w g.vars va
 procs : PDs S w g.procs pa
 main : g.main.sits S w ma
theorem PG.sits.ext {S : Nat → Prop} {w w' : World} {g : PG} {va pa ma : Option Addr} (h : g.sits S w va pa ma) (x : Ext w w') : g.sits S w' va pa ma := ⟨h.vars.ext x, h.procs.ext x, h.main.ext x⟩
theorem VDs.fr {S T : Nat → Prop} {w w' : World} {l : List VD} {a : Option Addr} (h : VDs S w l a) (x : Fr T w w') (hs : ∀ b, S b → ¬ T b) : VDs S w' l a := h.mono (fun _ h => h) (fun b _ _ _ hb h => Row.fr h x (hs b hb))
theorem PDs.fr {S T : Nat → Prop} {w w' : World} {l : List PD} {a : Option Addr} (h : PDs S w l a) (x : Fr T w w') (hs : ∀ b, S b → ¬ T b) : PDs S w' l a :=
 h.mono (fun _ h => h) (fun b _ _ _ hb ⟨pa, pc, ba, bc, h1, h2, h3⟩ => ⟨pa, pc, ba, bc, h1.fr x (hs b hb), h2.fr x hs, h3.fr x hs⟩)
theorem PG.sits.fr {S T : Nat → Prop} {w w' : World} {g : PG} {va pa ma : Option Addr} (h : g.sits S w va pa ma) (x : Fr T w w') (hs : ∀ b, S b → ¬ T b) : g.sits S w' va pa ma := ⟨h.vars.fr x hs, h.procs.fr x hs, h.main.fr x hs⟩
theorem VDs.wide {S S' : Nat → Prop} {w : World} {l : List VD} {a : Option Addr} (h : VDs S w l a) (hs : ∀ b, S b → S' b) : VDs S' w l a := h.mono hs (fun _ _ _ _ _ h => h)
theorem row_move {w w' : World} {b o : Nat} {vs : List Value} (h : Row w ⟨b, o, none⟩ vs) (hc : ∀ o v, w.cell? ⟨b, o, none⟩ = some v → w'.cell? ⟨b, o, none⟩ = some v) : Row w' ⟨b, o, none⟩ vs := fun i v hi => by
 have := h.at hi
 have e : (⟨b, o, none⟩ : Addr).add i = ⟨b, o + i, none⟩ := by unfold Addr.add; by_cases h0 : i = 0 <;> simp [h0]
 rw [e]; exact hc _ _ this
theorem VDs.move {S S' : Nat → Prop} {w w' : World} {l : List VD} {a : Option Addr} (h : VDs S w l a) (hS : ∀ b, S b → S' b) (hc : ∀ b o v, S b → w.cell? ⟨b, o, none⟩ = some v → w'.cell? ⟨b, o, none⟩ = some v) : VDs S' w' l a :=
 h.mono hS (fun b o x _ hb h => row_move h (fun o v => hc b o v hb))
theorem VDs.lt2 {S : Nat → Prop} {w : World} {l : List VD} {a : Option Addr} (h : VDs S w l a) : VDs (fun b => S b ∧ b < w.heap.size) w l a := by
 rcases h with h | ⟨b, o, h1, h2, h3⟩
 · exact Or.inl h
 · cases l with
   | nil => exact Or.inl rfl
   | cons v r => exact Or.inr ⟨b, o, h1, ⟨h2, cell_lt (Row.at0 (h3 0 v rfl) rfl)⟩, h3⟩
def vdShape : Shape VD where
 sz := 3
 rep := fun _ _ v cs => cs = v.cells
 len := fun h => by rw [h]; rfl
 one := fun h => by rw [h]; rfl
 mono := fun h _ _ => h
 lt := fun h => h
def pdShape : Shape PD where
 sz := 6
 rep := fun w S p cs => ∃ pa pc ba bc, cs = p.cells pa pc ba bc ∧ VDs S w p.params pa ∧ p.body.sits S w ba
 len := fun ⟨_, _, _, _, h, _⟩ => by rw [h]; rfl
 one := fun ⟨_, _, _, _, h, _⟩ => by rw [h]; rfl
 mono := fun ⟨pa, pc, ba, bc, h, h1, h2⟩ hS hc => ⟨pa, pc, ba, bc, h, h1.move hS hc, Nd.sits_mono hS hc _ ba h2⟩
 lt := fun ⟨pa, pc, ba, bc, h, h1, h2⟩ => ⟨pa, pc, ba, bc, h, h1.lt2, sits_lt2 _ ba h2⟩
theorem maxLen_one : 1 ≤ maxLen := by unfold maxLen; omega
theorem OwnL.lit {α : Type} {sh : Shape α} {w : World} {B b e : Nat} {x : α} {cs : List Value} (h : TB w b cs e) (hB : B ≤ b) (hr : sh.rep w (fun k => B ≤ k ∧ k ≠ b) x cs) : OwnL sh w B e (.slice (some ⟨b, 0, none⟩) 1 1) [x] := by
 have hl := sh.len hr; refine ⟨[cs], ⟨by simp [hl], Or.inr ⟨b, 1, cs.toArray, rfl, hB, h, Nat.le_refl _, maxLen_one, by simp [hl], by simp [← hl]⟩⟩, rfl, fun i y ds hy hd => ?_⟩
 match i, hy, hd with
 | 0, hy, hd =>
  simp at hy hd
  subst hy hd
  exact sh.mono hr (fun k hk => ⟨hk.1, fun e => hk.2 (by simpa [Value.ownBlock] using e.symm)⟩) (fun _ _ _ _ h => h)
end Bk
namespace Bk
section
variable {ts : List Tok} {n : Int}
theorem next_at (σ : PS) : (nextP σ).at_ = σ.at_ + 1 := rfl
theorem expr_size (k : Nat) : (∀ lv σ, σ.at_ ≤ ts.length → (exprP ts n k lv σ).1.size + 8 * σ.at_ ≤ 8 * (exprP ts n k lv σ).2.at_ + 1) ∧ (∀ lv x σ, σ.at_ ≤ ts.length → (climbP ts n k lv x σ).1.size + 8 * σ.at_ ≤ 8 * (climbP ts n k lv x σ).2.at_ + x.size) ∧
 (∀ σ, σ.at_ ≤ ts.length → (unaryP ts n k σ).1.size + 8 * σ.at_ ≤ 8 * (unaryP ts n k σ).2.at_ + 1) ∧ (∀ σ, σ.at_ ≤ ts.length → (primaryP ts n k σ).1.size + 8 * σ.at_ ≤ 8 * (primaryP ts n k σ).2.at_ + 1) ∧
 (∀ σ, σ.at_ ≤ ts.length → (placeP ts n k σ).1.size + 8 * σ.at_ ≤ 8 * (placeP ts n k σ).2.at_ + 1) := by
 induction k with
 | zero =>
  refine ⟨fun lv σ h => ?_, fun lv x σ h => ?_, fun σ h => ?_, fun σ h => ?_, fun σ h => ?_⟩
  · rw [exprP]; simp [Nd.size, rowSize]; omega
  · rw [climbP]; simp; omega
  · rw [unaryP]; simp [Nd.size, rowSize]; omega
  · rw [primaryP]; simp [Nd.size, rowSize]; omega
  · rw [placeP]; simp [Nd.size, rowSize]; omega
 | succ k ih =>
  obtain ⟨iE, iC, iU, iP, iL⟩ := ih; obtain ⟨lE, lC, lU, lP, lL⟩ := expr_inv (ts := ts) (n := n) k; refine ⟨fun lv σ h => ?_, fun lv x σ h => ?_, fun σ h => ?_, fun σ h => ?_, fun σ h => ?_⟩
  · rw [exprP]
    have h1 := iU σ h; have h2 := iC lv (unaryP ts n k σ).1 (unaryP ts n k σ).2 (lU σ h).1.wf
    omega
  · rw [climbP]
    split
    · simp; omega
    · rename_i op hop
      obtain ⟨hne, -⟩ := binOf_ne hop; have hn := next_le (peek_in h (Or.inl hne))
      split
      · simp; omega
      · have h1 := iE (level op + 1) (nextP σ) hn.wf
        have h2 := iC lv (.mk op 0 [] [x, (exprP ts n k (level op + 1) (nextP σ)).1]) (exprP ts n k (level op + 1) (nextP σ)).2 (lE (level op + 1) (nextP σ) hn.wf).1.wf; have h3 := (lE (level op + 1) (nextP σ) hn.wf).1.le; rw [next_at] at h1 h3; simp only [Nd.size, rowSize] at h2
        omega
  · rw [unaryP]
    split
    · rename_i hh
      have hn := next_le (has_in h hh (by decide)); have h1 := iU (nextP σ) hn.wf; rw [next_at] at h1
      simp only [Nd.size, rowSize]; omega
    · split
      · rename_i hh
        have hn := next_le (has_in h hh (by decide)); have h1 := iU (nextP σ) hn.wf; rw [next_at] at h1
        simp only [Nd.size, rowSize]; omega
      · exact iP σ h
  · rw [primaryP]
    split
    · have := (number_le (n := n) (a := 0) (b := 9223372036854775807) h).le
      simp only [Nd.size, rowSize]; omega
    · split
      · rename_i hh
        have h1 := next_le (has_in h hh (by decide)); have h2 := h1.trans (expect_le (n := n) (t := [40]) h1.wf (by decide)); have h3 := h2.trans (name_le (n := n) h2.wf); have h4 := (h3.trans (expect_le (n := n) (t := [41]) h3.wf (by decide))).le
        simp only [Nd.size, rowSize]; omega
      · split
        · rename_i hh
          have h1 := next_le (has_in h hh (by decide)); have h2 := h1.trans (expect_le (n := n) (t := [40]) h1.wf (by decide)); have h3 := h2.trans (name_le (n := n) h2.wf); have h4 := (h3.trans (expect_le (n := n) (t := [41]) h3.wf (by decide))).le
          simp only [Nd.size, rowSize]; omega
        · split
          · rename_i hh
            have hn := next_le (has_in h hh (by decide)); have h1 := iE 1 (nextP σ) hn.wf; have h2 := (expect_le (n := n) (t := [41]) (lE 1 (nextP σ) hn.wf).1.wf (by decide)).le; rw [next_at] at h1
            simp only; omega
          · exact iL σ h
  · rw [placeP]
    have h0 := name_le (n := n) h; have h0' := h0.le
    split
    · rename_i hh
      have hn := next_le (has_in h0.wf hh (by decide)); have h1 := iE 1 (nextP (nameP ts n σ).2) hn.wf; have h2 := (expect_le (n := n) (t := [93]) (lE 1 _ hn.wf).1.wf (by decide)).le; rw [next_at] at h1
      simp only [Nd.size, rowSize]; omega
    · simp only [Nd.size, rowSize]; omega
theorem exprs_size {k : Nat} {lv : Int} {σ : PS} (h : σ.at_ ≤ ts.length) : (exprP ts n k lv σ).1.size + 8 * σ.at_ ≤ 8 * (exprP ts n k lv σ).2.at_ + 1 := (expr_size k).1 lv σ h
end
end Bk
namespace Bk
open Go Go.RowKit Go.Proofs
attribute [local irreducible] Go.Calls
set_option maxRecDepth 100000 in
set_option maxHeartbeats 1000000 in
theorem limit_c (c : PC) (σ : PS) (t : Nd) (S : Nat → Prop) (a : Option Addr) (k : Nat) (off : Int) (w : World) (hP : PP c σ w) (hz : t.size ≤ 1000000000) (hs : t.sits S w a) :
 Calls Tryz.prog 62 #[.pointer (some ⟨c.pb, 0, none⟩), t.val a k, .int .i64 off] w fun r w' => r = .returned (.tuple #[]) ∧ PP c (limitP t off σ) w' ∧ Fr (· = c.pb) w w' := by
 have X := Fr.refl (· = c.pb) w; have hpb := hP.pbB; have hB := hP.B
 by_cases h0 : σ.err = 0
 · by_cases hd : 80 < t.depth
   · rw [show limitP t off σ = failP σ off 19 from by simp [limitP, h0, hd]]
     refine calls_in Tryz.func62 Tryz.ntmps62 rfl rfl ?_
     focus
      refine cS ?_; (refine lw_box' [_, _, _, _] rfl rfl rfl ?_; intro b1 w2 n3); have h4 := n3.blk; have x5 := n3.ext; have p6 := n3.pos; have z7 := n3.size; clear n3; replace hP := hP.ext x5; replace hs := Nd.sits.ext hs x5; replace X := X.ext x5; clear x5; refine cT (cw_block (cS (cM rfl rfl (lw_pure (pur_nilCheck rfl) rfl (lw_pure (pur_fieldAddr tabOk rfl rfl rfl) rfl (lw_load_b tabOk rfl rfl rfl (PP.blk hP) rfl rfl (lw_pure (pur_neq rfl rfl) rfl (cA rfl rfl (cT ?_))))))))); refine cw_no rfl (by omega) ?_; refine cS (lw_loads_b' [_, _, _, _] tabOk rfl rfl rfl h4 rfl rfl rfl ?_); refine cC (by kernel_rfl) rfl (Depth_c _ _ _ _ _ _ (Nat.lt_succ_self _) (by omega) (by assumption)) rfl ?_; rintro _ w9 ⟨⟨⟩, x8⟩; have z10 := x8.size; replace h4 := h4.ext x8; replace hP := hP.ext x8; replace hs := Nd.sits.ext hs x8; replace X := X.ext x8; clear x8; refine lw_pure (pur_gtr rfl rfl) rfl (cA rfl rfl (cT ?_)); refine cw_yes rfl (by assumption) ?_; refine cw_region (cM rfl rfl (cM rfl rfl ?_)); refine cC (by kernel_rfl) rfl (fail_c _ _ _ _ _ (by assumption)) rfl ?_; rintro _ w13 ⟨⟨⟩, ⟨h11, f12⟩⟩; have z14 := f12.size; replace h4 := h4.fr f12 (by omega); clear hP hs; replace X := X.fr f12 (by omega); clear f12; refine lw_nil (qw_block_norm (qw_end0 rfl ?_)); rotate_left 1
     exact ⟨rfl, by assumption, X⟩
   · by_cases h2 : 2000 < t.size
     · rw [show limitP t off σ = failP σ off 5 from by simp [limitP, h0, hd, h2]]
       refine calls_in Tryz.func62 Tryz.ntmps62 rfl rfl ?_
       focus
        refine cS ?_; (refine lw_box' [_, _, _, _] rfl rfl rfl ?_; intro ba1 wa2 na3); have ha4 := na3.blk; have xa5 := na3.ext; have pa6 := na3.pos; have za7 := na3.size; clear na3; replace hP := hP.ext xa5; replace hs := Nd.sits.ext hs xa5; replace X := X.ext xa5; clear xa5; refine cT (cw_block (cS (cM rfl rfl (lw_pure (pur_nilCheck rfl) rfl (lw_pure (pur_fieldAddr tabOk rfl rfl rfl) rfl (lw_load_b tabOk rfl rfl rfl (PP.blk hP) rfl rfl (lw_pure (pur_neq rfl rfl) rfl (cA rfl rfl (cT ?_))))))))); refine cw_no rfl (by omega) ?_; refine cS (lw_loads_b' [_, _, _, _] tabOk rfl rfl rfl ha4 rfl rfl rfl ?_); refine cC (by kernel_rfl) rfl (Depth_c _ _ _ _ _ _ (Nat.lt_succ_self _) (by omega) (by assumption)) rfl ?_; rintro _ wa9 ⟨⟨⟩, xa8⟩; have za10 := xa8.size; replace ha4 := ha4.ext xa8; replace hP := hP.ext xa8; replace hs := Nd.sits.ext hs xa8; replace X := X.ext xa8; clear xa8; refine lw_pure (pur_gtr rfl rfl) rfl (cA rfl rfl (cT ?_)); refine cw_no rfl (by assumption) ?_; refine cS (lw_loads_b' [_, _, _, _] tabOk rfl rfl rfl ha4 rfl rfl rfl ?_); refine cC (by kernel_rfl) rfl (Size_c _ _ _ _ _ _ (Nat.lt_succ_self _) (by omega) (by assumption)) rfl ?_; rintro _ wa12 ⟨⟨⟩, xa11⟩; have za13 := xa11.size; replace ha4 := ha4.ext xa11; replace hP := hP.ext xa11; replace hs := Nd.sits.ext hs xa11; replace X := X.ext xa11; clear xa11; refine lw_pure (pur_gtr rfl rfl) rfl (cA rfl rfl (cT ?_)); refine cw_yes rfl (by omega) ?_; refine cw_region (cM rfl rfl (cM rfl rfl ?_)); refine cC (by kernel_rfl) rfl (fail_c _ _ _ _ _ (by assumption)) rfl ?_
        rintro _ wa16 ⟨⟨⟩, ⟨ha14, fa15⟩⟩; have za17 := fa15.size; replace ha4 := ha4.fr fa15 (by omega); clear hP hs; replace X := X.fr fa15 (by omega); clear fa15; refine lw_nil (qw_block_norm (qw_end0 rfl ?_)); rotate_left 1
       exact ⟨rfl, by assumption, X⟩
     · rw [show limitP t off σ = σ from by simp [limitP, h0, hd, h2]]
       refine calls_in Tryz.func62 Tryz.ntmps62 rfl rfl ?_
       focus
        refine cS ?_; (refine lw_box' [_, _, _, _] rfl rfl rfl ?_; intro bb1 wb2 nb3); have hb4 := nb3.blk; have xb5 := nb3.ext; have pb6 := nb3.pos; have zb7 := nb3.size; clear nb3; replace hP := hP.ext xb5; replace hs := Nd.sits.ext hs xb5; replace X := X.ext xb5; clear xb5; refine cT (cw_block (cS (cM rfl rfl (lw_pure (pur_nilCheck rfl) rfl (lw_pure (pur_fieldAddr tabOk rfl rfl rfl) rfl (lw_load_b tabOk rfl rfl rfl (PP.blk hP) rfl rfl (lw_pure (pur_neq rfl rfl) rfl (cA rfl rfl (cT ?_))))))))); refine cw_no rfl (by omega) ?_; refine cS (lw_loads_b' [_, _, _, _] tabOk rfl rfl rfl hb4 rfl rfl rfl ?_); refine cC (by kernel_rfl) rfl (Depth_c _ _ _ _ _ _ (Nat.lt_succ_self _) (by omega) (by assumption)) rfl ?_; rintro _ wb9 ⟨⟨⟩, xb8⟩; have zb10 := xb8.size; replace hb4 := hb4.ext xb8; replace hP := hP.ext xb8; replace hs := Nd.sits.ext hs xb8; replace X := X.ext xb8; clear xb8; refine lw_pure (pur_gtr rfl rfl) rfl (cA rfl rfl (cT ?_)); refine cw_no rfl (by assumption) ?_; refine cS (lw_loads_b' [_, _, _, _] tabOk rfl rfl rfl hb4 rfl rfl rfl ?_); refine cC (by kernel_rfl) rfl (Size_c _ _ _ _ _ _ (Nat.lt_succ_self _) (by omega) (by assumption)) rfl ?_; rintro _ wb12 ⟨⟨⟩, xb11⟩; have zb13 := xb11.size; replace hb4 := hb4.ext xb11; replace hP := hP.ext xb11; replace hs := Nd.sits.ext hs xb11; replace X := X.ext xb11; clear xb11; refine lw_pure (pur_gtr rfl rfl) rfl (cA rfl rfl (cT ?_)); refine cw_no rfl (by omega) ?_; refine cw_skip (qw_block_norm (qw_end0 rfl ?_)); rotate_left 1
       exact ⟨rfl, by assumption, X⟩
 · rw [show limitP t off σ = σ from by simp [limitP, h0]]
   refine calls_in Tryz.func62 Tryz.ntmps62 rfl rfl ?_
   focus
    refine cS ?_; (refine lw_box' [_, _, _, _] rfl rfl rfl ?_; intro bc1 wc2 nc3); have hc4 := nc3.blk; have xc5 := nc3.ext; have pc6 := nc3.pos; have zc7 := nc3.size; clear nc3; replace hP := hP.ext xc5; replace hs := Nd.sits.ext hs xc5; replace X := X.ext xc5; clear xc5; refine cT (cw_block (cS (cM rfl rfl (lw_pure (pur_nilCheck rfl) rfl (lw_pure (pur_fieldAddr tabOk rfl rfl rfl) rfl (lw_load_b tabOk rfl rfl rfl (PP.blk hP) rfl rfl (lw_pure (pur_neq rfl rfl) rfl (cA rfl rfl (cT ?_))))))))); refine cw_yes rfl (by assumption) ?_; refine cw_skip (qw_block_norm (qw_end0 rfl ?_)); rotate_left 1
   exact ⟨rfl, by assumption, X⟩
end Bk
namespace Bk
open Go
section
variable {ts : List Tok} {n : Int}
theorem block_le {k : Nat} {σ : PS} (h : σ.at_ ≤ ts.length) : Le ts σ (blockP ts n k σ).2 := (stmt_inv k).2.2.2.1 σ h
end
end Bk
namespace Bk
open Go
section
variable {ts : List Tok} {n : Int}
end
end Bk
namespace Bk
open Go
section
variable (ts : List Tok) (n : Int)
def posR (σ : PS) : Int := if ts.length ≤ σ.at_ then n else (ts.getD σ.at_ Tok.zero).pos
def declKind (t : List UInt8) : Int := if t = [105, 110, 116] then 1 else if t = [97, 114, 114, 97, 121] then 2 else 3
def declR (many most : Nat) (σ : PS) : VD × PS :=
 if atDeclP ts σ = false then (⟨[], 0, 0⟩, unexpP ts n σ)
 else if many = most then (⟨[], 0, 0⟩, failP σ (posR ts n σ) 5)
 else
  let m := nameP ts n (nextP σ)
  if declKind (peekP ts σ).text = 2 then
   let σ1 := expectP ts n m.2 [91]
   let r := numberR ts n σ1
   let σ2 := if r.2.err = 0 ∧ (r.1 < 1 ∨ 16 < r.1) then failP r.2 (posR ts n σ1) 2 else r.2
   (⟨m.1, 2, r.1⟩, expectP ts n σ2 [93])
  else (⟨m.1, declKind (peekP ts σ).text, 0⟩, m.2)
end
section
variable {ts : List Tok} {n : Int}
theorem decl_le {σ : PS} (h : σ.at_ ≤ ts.length) : Le ts σ (declP ts n σ).2 := by
 unfold declP
 split
 · rename_i hh
   have h1 := next_le (has_in h hh (by decide))
   exact h1.trans (name_le h1.wf)
 · split
   · rename_i hh
     have h1 := next_le (has_in h hh (by decide))
     exact h1.trans (name_le h1.wf)
   · split
     · rename_i hh
       have h1 := next_le (has_in h hh (by decide)); have h2 := h1.trans (name_le (n := n) h1.wf); have h3 := h2.trans (expect_le (n := n) (t := [91]) h2.wf (by decide)); have h4 := h3.trans (number_le (n := n) (a := 1) (b := 16) h3.wf)
       exact h4.trans (expect_le h4.wf (by decide))
     · exact unexp_le h
end
section
variable (ts : List Tok) (n : Int)
def paramsR : Nat → List VD → PS → List VD × PS
 | 0, acc, σ => (acc, σ)
 | k + 1, acc, σ =>
  if hasP ts (declR ts n acc.length 8 σ).2 [44] then paramsR k (acc ++ [(declR ts n acc.length 8 σ).1]) (nextP (declR ts n acc.length 8 σ).2)
  else (acc ++ [(declR ts n acc.length 8 σ).1], (declR ts n acc.length 8 σ).2)
end
section
variable {ts : List Tok} {n : Int}
theorem params_le (k : Nat) : ∀ acc σ, σ.at_ ≤ ts.length → Le ts σ (paramsP ts n k acc σ).2 := by
 induction k with
 | zero => intro acc σ h; rw [paramsP]; exact Le.refl h
 | succ k ih =>
  intro acc σ h; rw [paramsP]
  split
  · rename_i hh
    have h1 := next_le (has_in h hh (by decide)); simp only
    have h2 : Le ts σ (if acc.length = 8 ∧ atDeclP ts (nextP σ) = true then failP (nextP σ) (peekP ts (nextP σ)).pos 5 else nextP σ) := by
     split
     · exact h1.trans (fail_le h1.wf _ _)
     · exact h1
    generalize (if acc.length = 8 ∧ atDeclP ts (nextP σ) = true then failP (nextP σ) (peekP ts (nextP σ)).pos 5 else nextP σ) = τ at *
    have h3 := h2.trans (decl_le (n := n) h2.wf)
    exact h3.trans (ih _ _ h3.wf)
  · exact Le.refl h
end
section
variable (ts : List Tok) (n : Int)
def wholeR (k : Nat) (σ : PS) : Nd × PS := ((bodyR ts n k σ).1, limitP (bodyR ts n k σ).1 (posR ts n σ) (bodyR ts n k σ).2)
end
section
variable {ts : List Tok} {n : Int}
theorem limit_le {x : Nd} {off : Int} {σ : PS} (h : σ.at_ ≤ ts.length) : Le ts σ (limitP x off σ) := by
 unfold limitP
 split
 · exact Le.refl h
 · split
   · exact fail_le h _ _
   · split
     · exact fail_le h _ _
     · exact Le.refl h
end
section
variable (ts : List Tok) (n : Int)
def procR (k : Nat) (σ : PS) : PD × PS :=
 let m := nameP ts n (nextP σ)
 let σ1 := expectP ts n m.2 [40]
 let q := if σ1.err = 0 ∧ hasP ts σ1 [41] = false then paramsR ts n k [] σ1 else ([], σ1)
 let b := wholeR ts n k (expectP ts n q.2 [41])
 (⟨m.1, q.1, b.1⟩, b.2)
def varsR : Nat → List VD → PS → List VD × PS
 | 0, acc, σ => (acc, σ)
 | k + 1, acc, σ => if σ.err = 0 ∧ atDeclP ts σ = true then varsR k (acc ++ [(declR ts n acc.length 32 σ).1]) (declR ts n acc.length 32 σ).2 else (acc, σ)
def procsR : Nat → List PD → PS → List PD × PS
 | 0, acc, σ => (acc, σ)
 | k + 1, acc, σ =>
  if σ.err = 0 ∧ hasP ts σ [112, 114, 111, 99] = true then
   if acc.length = 64 then (acc, failP σ (posR ts n σ) 5)
   else procsR k (acc ++ [(procR ts n k σ).1]) (procR ts n k σ).2
  else (acc, σ)
def programR (k : Nat) (σ : PS) : PG × PS :=
 let v := varsR ts n k [] σ
 let p := procsR ts n k [] v.2
 let b := wholeR ts n k (expectP ts n p.2 [109, 97, 105, 110])
 (⟨v.1, p.1, b.1⟩, b.2)
end
section
variable {ts : List Tok} {n : Int}
theorem bodyP_le {k : Nat} {σ : PS} (h : σ.at_ ≤ ts.length) : Le ts σ (bodyP ts n k σ).2 := by
 unfold bodyP
 have h1 := block_le (n := n) (k := k) h
 exact h1.trans (limit_le h1.wf)
theorem vars_le (k : Nat) : ∀ acc σ, σ.at_ ≤ ts.length → Le ts σ (varsP ts n k acc σ).2 := by
 induction k with
 | zero => intro acc σ h; rw [varsP]; exact Le.refl h
 | succ k ih =>
  intro acc σ h; rw [varsP]
  split
  · have h2 : Le ts σ (if acc.length = 32 then failP σ (peekP ts σ).pos 5 else σ) := by
     split
     · exact fail_le h _ _
     · exact Le.refl h
    have h3 := h2.trans (decl_le (n := n) h2.wf)
    exact h3.trans (ih _ _ h3.wf)
  · exact Le.refl h
end
end Bk
namespace Bk
open Go
section
variable {ts : List Tok} {n : Int}
def procQ (ts : List Tok) (n : Int) (k : Nat) (σ : PS) : List VD × PS :=
 if hasP ts σ [41] then ([], nextP σ) else ((paramsP ts n k [(declP ts n σ).1] (declP ts n σ).2).1, expectP ts n (paramsP ts n k [(declP ts n σ).1] (declP ts n σ).2).2 [41])
def procQR (ts : List Tok) (n : Int) (k : Nat) (σ : PS) : List VD × PS :=
 ((if σ.err = 0 ∧ hasP ts σ [41] = false then paramsR ts n k [] σ else ([], σ)).1, expectP ts n (if σ.err = 0 ∧ hasP ts σ [41] = false then paramsR ts n k [] σ else ([], σ)).2 [41])
theorem procQ_le {k : Nat} {σ : PS} (h : σ.at_ ≤ ts.length) : Le ts σ (procQ ts n k σ).2 := by
 unfold procQ
 split
 · rename_i hh
   exact next_le (has_in h hh (by decide))
 · have h1 := decl_le (n := n) h
   have h2 := h1.trans (params_le (n := n) k [(declP ts n σ).1] _ h1.wf)
   exact h2.trans (expect_le h2.wf (by decide))
theorem procP_at {k : Nat} {σ : PS} : procP ts n k σ = (⟨(nameP ts n (expectP ts n σ [112, 114, 111, 99])).1, (procQ ts n k (expectP ts n (nameP ts n (expectP ts n σ [112, 114, 111, 99])).2 [40])).1, (bodyP ts n k (procQ ts n k (expectP ts n (nameP ts n (expectP ts n σ [112, 114, 111, 99])).2 [40])).2).1⟩, (bodyP ts n k (procQ ts n k (expectP ts n (nameP ts n (expectP ts n σ [112, 114, 111, 99])).2 [40])).2).2) := by
 simp only [procP, procQ]
theorem procP_le {k : Nat} {σ : PS} (h : σ.at_ ≤ ts.length) : Le ts σ (procP ts n k σ).2 := by
 rw [procP_at]; have h1 := expect_le (n := n) (t := [112, 114, 111, 99]) h (by decide); have h2 := h1.trans (name_le (n := n) h1.wf); have h3 := h2.trans (expect_le (n := n) (t := [40]) h2.wf (by decide)); have h4 := h3.trans (procQ_le (n := n) (k := k) h3.wf)
 exact h4.trans (bodyP_le h4.wf)
theorem procs_le (k : Nat) : ∀ acc σ, σ.at_ ≤ ts.length → Le ts σ (procsP ts n k acc σ).2 := by
 induction k with
 | zero => intro acc σ h; rw [procsP]; exact Le.refl h
 | succ k ih =>
  intro acc σ h; rw [procsP]
  split
  · have h2 : Le ts σ (if acc.length = 64 then failP σ (peekP ts σ).pos 5 else σ) := by
     split
     · exact fail_le h _ _
     · exact Le.refl h
    have h3 := h2.trans (procP_le (n := n) (k := k) h2.wf)
    exact h3.trans (ih _ _ h3.wf)
  · exact Le.refl h
end
end Bk
namespace Bk
open Go Go.RowKit Go.Proofs
attribute [local irreducible] Go.Calls
def VdsR (c : PC) (w : World) (r : List VD × PS) : Ending → World → Prop := fun e w' => ∃ a k, e = .returned (.slice a r.1.length k) ∧ VDs (fun b => w.heap.size ≤ b ∧ b < w'.heap.size) w' r.1 a ∧ PP c r.2 w' ∧ Fr (· = c.pb) w w'
theorem VdsR.ret {c : PC} {w : World} {r : List VD × PS} {e : Ending} {w' : World} (h : VdsR c w r e w') : ∃ v, e = .returned v := by
 obtain ⟨_, _, h, -⟩ := h
 exact ⟨_, h⟩
def PdR (c : PC) (w : World) (r : PD × PS) : Ending → World → Prop := fun e w' => ∃ pa pc ba bc, e = .returned (.agg (r.1.cells pa pc ba bc).toArray) ∧ VDs (fun b => w.heap.size ≤ b ∧ b < w'.heap.size) w' r.1.params pa ∧ r.1.body.sits (fun b => w.heap.size ≤ b ∧ b < w'.heap.size) w' ba ∧ PP c r.2 w' ∧ Fr (· = c.pb) w w'
theorem PdR.ret {c : PC} {w : World} {r : PD × PS} {e : Ending} {w' : World} (h : PdR c w r e w') : ∃ v, e = .returned v := by
 obtain ⟨_, _, _, _, h, -⟩ := h
 exact ⟨_, h⟩
end Bk
namespace Bk
open Go Go.RowKit Go.Proofs
attribute [local irreducible] Go.Calls
def PgR (c : PC) (w : World) (r : PG × PS) : Ending → World → Prop := fun e w' => ∃ va vc pa pc ma mc, e = .returned (.agg (r.1.cells va vc pa pc ma mc).toArray) ∧ r.1.sits (w.heap.size ≤ ·) w' va pa ma ∧ PP c r.2 w' ∧ Fr (· = c.pb) w w'
theorem PgR.ret {c : PC} {w : World} {r : PG × PS} {e : Ending} {w' : World} (h : PgR c w r e w') : ∃ v, e = .returned v := by
 obtain ⟨_, _, _, _, _, _, h, -⟩ := h
 exact ⟨_, h⟩
theorem PDs.wide {S S' : Nat → Prop} {w : World} {l : List PD} {a : Option Addr} (h : PDs S w l a) (hs : ∀ b, S b → S' b) : PDs S' w l a :=
 h.mono hs (fun _ _ _ _ _ ⟨pa, pc, ba, bc, h1, h2, h3⟩ => ⟨pa, pc, ba, bc, h1, h2.wide hs, h3.wide hs⟩)
end Bk
namespace Bk
open Go
theorem takeWhile_len {α : Type} (p : α → Bool) (l : List α) : (l.takeWhile p).length ≤ l.length := by
 induction l with
 | nil => simp
 | cons x r ih => simp only [List.takeWhile_cons]; split <;> simp; exact ih
theorem signLen_le (s : List UInt8) : signLen s ≤ s.length := by
 unfold signLen
 split
 · rename_i h
   rw [List.isPrefixOf_iff_prefix] at h
   exact h.length_le
 · split
   · rename_i h
     rcases s with _ | ⟨a, _ | ⟨b, r⟩⟩
     · exact absurd h (by decide)
     · exfalso
       simp [pairs] at h
     · simp
   · split
     · rename_i h
       cases s with
       | nil => simp at h
       | cons a r => simp
     · omega
theorem firstTok_le (s : List UInt8) : (firstTok s).2 ≤ s.length := by
 cases s with
 | nil => simp [firstTok]
 | cons c r =>
  simp only [firstTok, span]
  split
  · exact takeWhile_len _ _
  · split
    · exact takeWhile_len _ _
    · split
      · exact takeWhile_len _ _
      · split
        · exact takeWhile_len _ _
        · exact signLen_le _
theorem take_takeWhile {α : Type} (p : α → Bool) (l : List α) : l.take (l.takeWhile p).length = l.takeWhile p := by
 induction l with
 | nil => simp
 | cons x r ih => simp only [List.takeWhile_cons]; split <;> simp [ih]
theorem mem_takeWhile {α : Type} (p : α → Bool) (l : List α) : ∀ x ∈ l.takeWhile p, p x = true := by
 induction l with
 | nil => simp
 | cons y r ih =>
  simp only [List.takeWhile_cons]
  split
  · rename_i h
    intro x hx
    rcases List.mem_cons.1 hx with rfl | hx
    · exact h
    · exact ih x hx
  · simp
theorem letter_digit (c : UInt8) (h : letter c = true) : digit c = false := by
 simp only [letter, digit, Bool.and_eq_true, decide_eq_true_eq, Bool.and_eq_false_iff, decide_eq_false_iff_not] at h ⊢
 omega
theorem firstTok_num (s : List UInt8) (h : (firstTok s).1 = 2) : s.take (firstTok s).2 ≠ [] ∧ ∀ x ∈ s.take (firstTok s).2, digit x = true := by
 cases s with
 | nil => simp [firstTok] at h
 | cons c r =>
  simp only [firstTok] at h ⊢
  by_cases h1 : letter c = true
  · simp [h1] at h
  · by_cases h2 : digit c = true
    · simp only [h1, h2, if_true, Bool.false_eq_true, if_false, span]
      rw [take_takeWhile]; refine ⟨by simp [List.takeWhile_cons, h2], mem_takeWhile _ _⟩
    · exfalso
      simp only [h1, h2, Bool.false_eq_true, if_false] at h
      by_cases h3 : blank c = true
      · simp [h3] at h
      · by_cases h4 : c = 35
        · subst h4; simp [h3] at h
        · simp [h3, h4] at h
theorem firstTok_kind (s : List UInt8) (hs : s ≠ []) (h0 : (firstTok s).2 ≠ 0) : (firstTok s).1 = 2 ↔ startsDigit (s.take (firstTok s).2) = true := by
 cases s with
 | nil => exact absurd rfl hs
 | cons c r =>
  obtain ⟨m, hm⟩ : ∃ m, (firstTok (c :: r)).2 = m + 1 := ⟨(firstTok (c :: r)).2 - 1, by omega⟩; rw [hm]; simp only [List.take_succ_cons, startsDigit, firstTok]
  by_cases h1 : letter c = true
  · simp [h1, letter_digit c h1]
  · by_cases h2 : digit c = true
    · simp [h1, h2]
    · simp only [h1, h2, Bool.false_eq_true, if_false, iff_false]
      by_cases h3 : blank c = true
      · simp [h3]
      · by_cases h4 : c = 35
        · subst h4; simp [h3]
        · simp [h3, h4]
structure TokOk (n : Nat) (t : Tok) : Prop where
 len : t.text.length ≤ n
 num : t.kind = 2 → t.text ≠ [] ∧ ∀ x ∈ t.text, digit x = true
 dig : t.kind = 2 ↔ startsDigit t.text = true
 pos : 0 ≤ t.pos ∧ t.pos ≤ n
theorem lexGo_ok (s : List UInt8) : ∀ (k p : Nat) (acc : List Tok), (∀ t ∈ acc, TokOk s.length t) → ∀ t ∈ (lexGo k s p acc).1, TokOk s.length t
 | 0, p, acc, h => by rw [lexGo]; exact h
 | k + 1, p, acc, h => by
  rw [lexGo]
  split
  · rename_i hp
    split
    · simp
    · rename_i h0
      refine lexGo_ok s k _ _ ?_; intro t ht
      rcases List.mem_append.1 ht with ht | ht
      · exact h t ht
      · simp only [List.mem_singleton] at ht
        subst ht
        have hne : s.drop p ≠ [] := by
         intro e; have := congrArg List.length e
         simp at this; omega
        refine ⟨?_, ?_, ?_, ?_⟩
        · simp only [List.length_take, List.length_drop]; omega
        · intro hk
          have hk' : (firstTok (s.drop p)).1 = 2 := by simp only at hk; omega
          exact firstTok_num _ hk'
        · have := firstTok_kind (s.drop p) hne h0
          simp only; rw [← this]
          omega
        · simp only; omega
  · exact h
theorem lexT_ok (s : List UInt8) : ∀ t ∈ (lexT s).1, TokOk s.length t := by
 unfold lexT
 split
 · simp
 · have := lexGo_ok s (s.length + 1) 0 [] (by simp)
   split
   · rename_i l h; rw [h] at this; exact this
   · simp
theorem solid_ok (s : List UInt8) : ∀ t ∈ (startP s).1, TokOk s.length t := fun t ht => lexT_ok s t (List.mem_filter.1 ht).1
theorem digitKinds_start (s : List UInt8) : DigitKinds (startP s).1 := fun t ht => (solid_ok s t ht).dig
theorem lexGo_len (s : List UInt8) : ∀ (k p : Nat) (acc : List Tok), acc.length ≤ p → p ≤ s.length → (lexGo k s p acc).1.length ≤ s.length
 | 0, p, acc, h, hp => by rw [lexGo]; simp; omega
 | k + 1, p, acc, h, hp => by
  rw [lexGo]
  split
  · split
    · simp
    · rename_i h0
      have := firstTok_le (s.drop p); rw [List.length_drop] at this
      exact lexGo_len s k _ _ (by simp; omega) (by omega)
  · simp only; omega
theorem lexT_len (s : List UInt8) : (lexT s).1.length ≤ s.length := by
 unfold lexT
 split
 · simp
 · have := lexGo_len s (s.length + 1) 0 [] (by simp) (by omega)
   split
   · rename_i l h; rw [h] at this; exact this
   · simp
theorem start_len (s : List UInt8) : (startP s).1.length ≤ s.length := Nat.le_trans (List.length_filter_le _ _) (lexT_len s)
end Bk
namespace Bk
open Go Go.RowKit Go.Proofs
attribute [local irreducible] Go.Calls
def Toks (S : Nat → Prop) (w : World) (l : List Tok) (a : Option Addr) : Prop := Arr S 3 TokAt w l a
theorem Toks.ext {S : Nat → Prop} {w w' : World} {l : List Tok} {a : Option Addr} (h : Toks S w l a) (x : Ext w w') : Toks S w' l a := h.mono (fun _ h => h) (fun _ _ _ _ _ h => Row.ext h x)
theorem Toks.fr {S T : Nat → Prop} {w w' : World} {l : List Tok} {a : Option Addr} (h : Toks S w l a) (x : Fr T w w') (hs : ∀ b, S b → ¬ T b) : Toks S w' l a := h.mono (fun _ h => h) (fun b _ _ _ hb h => Row.fr h x (hs b hb))
theorem Toks.wide {S S' : Nat → Prop} {w : World} {l : List Tok} {a : Option Addr} (h : Toks S w l a) (hs : ∀ b, S b → S' b) : Toks S' w l a := h.mono hs (fun _ _ _ _ _ h => h)
theorem Toks.lt2 {S : Nat → Prop} {w : World} {l : List Tok} {a : Option Addr} (h : Toks S w l a) : Toks (fun b => S b ∧ b < w.heap.size) w l a := by
 rcases h with h | ⟨b, o, h1, h2, h3⟩
 · exact Or.inl h
 · cases l with
   | nil => exact Or.inl rfl
   | cons v r => exact Or.inr ⟨b, o, h1, ⟨h2, cell_lt (Row.at0 (h3 0 v rfl) rfl)⟩, h3⟩
def tokShape : Shape Tok where
 sz := 3
 rep := fun _ _ v cs => cs = v.cells
 len := fun h => by rw [h]; rfl
 one := fun h => by rw [h]; rfl
 mono := fun h _ _ => h
 lt := fun h => h
theorem OwnL.toks {w : World} {B e : Nat} {a : Option Addr} {len cap : Nat} {xs : List Tok} {S : Nat → Prop} (h : OwnL tokShape w B e (.slice a len cap) xs) (hS : ∀ b, B ≤ b → S b) : Toks S w xs a := by
 by_cases hx : xs = []
 · exact Or.inl hx
 · obtain ⟨g, cap', hv, hg, hall⟩ := h.rows hx
   simp only [Value.slice.injEq] at hv; obtain ⟨rfl, -, -⟩ := hv; refine Or.inr ⟨g, 0, rfl, hS g hg, fun i x hi => ?_⟩; obtain ⟨cs, hr, rfl⟩ := hall i x hi
   simpa [tokShape, TokAt] using hr
theorem first_s (t : List UInt8) (w : World) (ht : t ≠ []) (hl : t.length ≤ 9223372036854775807) : Calls Tryz.prog 74 #[str t] w fun e w' => e = .returned (.tuple #[.int .u8 (firstTok t).1, .int .i64 (firstTok t).2]) ∧ w = w' := by
 cases t with
 | nil => exact absurd rfl ht
 | cons c r => exact first_c c r w hl
def LexR (w : World) (r : List Tok × Int × Int) : Ending → World → Prop := fun e w' => ∃ a k, e = .returned (.tuple #[.slice a r.1.length k, .int .i64 r.2.1, .int .i64 r.2.2]) ∧ Toks (fun b => w.heap.size ≤ b ∧ b < w'.heap.size) w' r.1 a ∧ Ext w w'
theorem LexR.ret {w : World} {r : List Tok × Int × Int} {e : Ending} {w' : World} (h : LexR w r e w') : ∃ v, e = .returned v := by
 obtain ⟨_, _, h, -⟩ := h
 exact ⟨_, h⟩
set_option maxRecDepth 100000 in
set_option maxHeartbeats 2000000 in
theorem Lex_c (s : List UInt8) (w : World) (hs : s.length ≤ 1000000) : Calls Tryz.prog 56 #[str s] w (LexR w (lexT s)) := by
 have X := Ext.refl w
 by_cases h0 : 65536 < s.length
 · rw [show lexT s = ([], 0, 5) from by simp [lexT, h0]]
   refine calls_in Tryz.func56 Tryz.ntmps56 rfl rfl ?_
   focus
    refine cS (cA rfl rfl (cA rfl rfl (cA rfl rfl (cT (cw_seq (cS (cM rfl rfl (lw_pure (pur_len_s tabOk rfl rfl) rfl (lw_pure (pur_gtr rfl rfl) rfl (cT ?_)))))))))); refine cw_yes rfl (by omega) ?_; refine cS (cA rfl rfl (cA rfl rfl (cA rfl rfl (cT (cw_ret (qw_then_ret (qw_ret3 rfl rfl rfl rfl ?_))))))); rotate_left 1
   exact ⟨_, _, rfl, Or.inl rfl, X⟩
 have hun : ∀ r, lexGo (s.length + 1) s 0 [] = r → lexT s = match r with | (l, none) => (l, 0, 0) | (_, some p) => ([], (p : Int), 3) := fun r hr => by
  obtain ⟨l, o⟩ := r
  cases o <;> simp [lexT, h0, hr]
 have HU := Lib.hid hun; clear hun
 refine calls_in Tryz.func56 Tryz.ntmps56 rfl rfl ?_
 focus
  refine cS (cA rfl rfl (cA rfl rfl (cA rfl rfl (cT (cw_seq (cS (cM rfl rfl (lw_pure (pur_len_s tabOk rfl rfl) rfl (lw_pure (pur_gtr rfl rfl) rfl (cT ?_)))))))))); refine cw_no rfl (by omega) ?_; refine cw_skip (qw_then (cS (cA rfl rfl (cT (cw_seq (cS (cA rfl rfl (cT (cw_block ?_))))))))); rotate_left 1
 refine cw_loop (ι := Nat × Nat × List Tok × Option Addr × Nat) (fun x => [(0, str s), (5, .slice x.2.2.2.1 x.2.2.1.length x.2.2.2.2), (6, .int .i64 x.2.1)])
  (fun x w' => OwnL tokShape w' w.heap.size 96 (.slice x.2.2.2.1 x.2.2.1.length x.2.2.2.2) x.2.2.1 ∧ Ext w w' ∧ x.2.1 ≤ s.length ∧ x.2.2.1.length ≤ x.2.1 ∧ s.length + 1 ≤ x.1 + x.2.1 ∧
   lexGo (s.length + 1) s 0 [] = lexGo x.1 s x.2.1 x.2.2.1) (fun x => x.1) (s.length + 1, 0, [], none, 0) (by (refine sub_cons rfl ?_; refine sub_cons rfl ?_; refine sub_cons rfl ?_; exact sub_nil)) ⟨OwnL.nil, X, Nat.zero_le _, Nat.le_refl _, Nat.le_refl _, rfl⟩ ?_
 rintro ⟨j, p, acc, a, cap⟩ w1 ⟨hown, X, hp, hacc, hj, he⟩; simp only at hown hp hacc hj he; refine CW.sub (m := [(0, str s), (5, .slice a acc.length cap), (6, .int .i64 p)]) ?_ (by (refine sub_cons rfl ?_; refine sub_cons rfl ?_; refine sub_cons rfl ?_; exact sub_nil)); obtain ⟨j, rfl⟩ : ∃ i, j = i + 1 := ⟨j - 1, by omega⟩
 by_cases hlt : p < s.length
 · have hne : s.drop p ≠ [] := by
    intro e; have := congrArg List.length e
    simp at this; omega
   have hdl : (s.drop p).length = s.length - p := List.length_drop; have hfl := firstTok_le (s.drop p); rw [hdl] at hfl
   by_cases hz : (firstTok (s.drop p)).2 = 0
   · rw [HU.out ([], some p) (by rw [he, lexGo]; simp [hlt, hz])]
     focus
      refine cw_seq (cS (cM rfl rfl (cM rfl rfl (lw_pure (pur_len_s tabOk rfl rfl) rfl (lw_pure (pur_lss rfl rfl) rfl (cT ?_)))))); refine cw_yes rfl (by omega) ?_; refine cw_skip (qw_then (cw_block (cS (cM rfl rfl (cM rfl rfl ?_))))); refine lw_pure (pur_sfromN tabOk rfl rfl rfl (by omega)) rfl ?_; refine cC (by kernel_rfl) rfl (first_s _ _ hne (by omega)) rfl ?_; rintro _ wb1 ⟨⟨⟩, rfl⟩; refine cM rfl rfl (lw_pure (pur_extract rfl rfl) rfl (lw_pure (pur_extract rfl rfl) rfl (cA rfl rfl (cA rfl rfl (cT (cw_seq (cS (cM rfl rfl (lw_pure (pur_eql rfl rfl) rfl (cT ?_)))))))))); refine cw_yes rfl (by omega) ?_; refine cS (cM rfl rfl (cA rfl rfl (cA rfl rfl (cA rfl rfl (cT (cw_ret (qw_then_ret (qw_block_ret (qw_then_ret (qw_block_ret (qw_then_ret ?_))))))))))); refine qw_ret3 rfl rfl rfl rfl ?_; rotate_left 1
     exact ⟨_, _, rfl, Or.inl rfl, X⟩
   · have he2 : lexGo (s.length + 1) s 0 [] = lexGo j s (p + (firstTok (s.drop p)).2) (acc ++ [⟨((firstTok (s.drop p)).1 : Nat), (s.drop p).take (firstTok (s.drop p)).2, (p : Int)⟩]) := by rw [he, lexGo]; simp [hlt, hz]
     focus
      refine cw_seq (cS (cM rfl rfl (cM rfl rfl (lw_pure (pur_len_s tabOk rfl rfl) rfl (lw_pure (pur_lss rfl rfl) rfl (cT ?_)))))); refine cw_yes rfl (by omega) ?_; refine cw_skip (qw_then (cw_block (cS (cM rfl rfl (cM rfl rfl ?_))))); refine lw_pure (pur_sfromN tabOk rfl rfl rfl (by omega)) rfl ?_; refine cC (by kernel_rfl) rfl (first_s _ _ hne (by omega)) rfl ?_; rintro _ wc1 ⟨⟨⟩, rfl⟩; refine cM rfl rfl (lw_pure (pur_extract rfl rfl) rfl (lw_pure (pur_extract rfl rfl) rfl (cA rfl rfl (cA rfl rfl (cT (cw_seq (cS (cM rfl rfl (lw_pure (pur_eql rfl rfl) rfl (cT ?_)))))))))); refine cw_no rfl (by omega) ?_; refine cw_skip (qw_then (cS (cM rfl rfl (cM rfl rfl (cM rfl rfl (cM rfl rfl (cM rfl rfl (cM rfl rfl ?_)))))))); refine lw_pure (pur_add rfl rfl (IntWalk.i64_in _ (by omega))) rfl ?_; refine lw_pure (pur_spartN tabOk rfl rfl rfl rfl (by omega)) rfl ?_; refine cM rfl rfl (lw_pure (pur_build' [_, _, _] tabOk zOk rfl rfl rfl rfl) rfl ?_); (refine lw_does (does_slice' [_, _, _] tabOk zOk rfl rfl rfl rfl rfl rfl rfl rfl rfl) rfl ?_ (fun _ h => h); rintro _ wc3 ⟨bc2, rfl, nc4, tc5⟩); clear tc5; have hc6 := nc4.blk; have xc7 := nc4.ext; have pc8 := nc4.pos; have zc9 := nc4.size; clear nc4; replace hown := hown.ext xc7; replace X := X.ext xc7; clear xc7; refine lw_appendL (sh := tokShape) (z := ⟨((firstTok (s.drop p)).1 : Nat), (s.drop p).take (firstTok (s.drop p)).2, (p : Int)⟩) tabOk zOk rfl rfl rfl rfl (by kernel_rfl) rfl rfl rfl hown (Blk.row (by assumption)) rfl (by omega) (by have := Ext.size X; omega) rfl ?_
      rintro gc10 cap'c11 wc12 hc13 fc14; have zc15 := fc14.size; clear hc6 hown; replace X := X.fr fc14 (by omega); clear fc14; refine cA rfl rfl (cT (cw_region (cM rfl rfl (cM rfl rfl ?_)))); refine lw_pure (pur_add rfl rfl (IntWalk.i64_in _ (by omega))) rfl ?_; refine cA rfl rfl (lw_nil (qw_block_norm ?_)); rotate_left 1
     refine qw_round (j, p + (firstTok (s.drop p)).2, acc ++ [⟨((firstTok (s.drop p)).1 : Nat), (s.drop p).take (firstTok (s.drop p)).2, (p : Int)⟩], some ⟨_, 0, none⟩, _) (by (refine sub_cons rfl ?_; refine sub_cons rfl ?_; refine sub_cons rfl ?_; exact sub_nil)) ⟨by assumption, X, by simp only; omega, by simp only [List.length_append, List.length_cons, List.length_nil]; omega, by simp only; omega, he2⟩ (by simp)
 · rw [HU.out (acc, none) (by rw [he, lexGo]; simp [hlt])]
   focus
    refine cw_seq (cS (cM rfl rfl (cM rfl rfl (lw_pure (pur_len_s tabOk rfl rfl) rfl (lw_pure (pur_lss rfl rfl) rfl (cT ?_)))))); refine cw_no rfl (by omega) ?_; refine cw_exit (qw_then_exit (qw_then_exit (qw_block_exit (qw_then (cS (cM rfl rfl (cA rfl rfl (cA rfl rfl (cA rfl rfl (cT (cw_ret ?_))))))))))); refine qw_ret3 rfl rfl rfl rfl ?_; rotate_left 1
   exact ⟨_, _, rfl, Toks.lt2 (S := (w.heap.size ≤ ·)) (OwnL.toks hown (fun b h => h)), X⟩
theorem solid_snoc (l : List Tok) (t : Tok) : solidT (l ++ [t]) = solidT l ++ (if t.kind ≠ 4 ∧ t.kind ≠ 5 then [t] else []) := by
 unfold solidT
 rw [List.filter_append]
 congr 1
 by_cases h4 : t.kind = 4 <;> by_cases h5 : t.kind = 5 <;> simp [h4, h5]
def SolidR (w : World) (r : List Tok) : Ending → World → Prop := fun e w' => ∃ a k, e = .returned (.slice a r.length k) ∧ Toks (fun b => w.heap.size ≤ b ∧ b < w'.heap.size) w' r a ∧ Ext w w'
theorem SolidR.ret {w : World} {r : List Tok} {e : Ending} {w' : World} (h : SolidR w r e w') : ∃ v, e = .returned v := by
 obtain ⟨_, _, h, -⟩ := h
 exact ⟨_, h⟩
set_option maxRecDepth 100000 in
set_option maxHeartbeats 2000000 in
theorem Solid_c (ts : List Tok) (S : Nat → Prop) (b0 : Option Addr) (k0 : Nat) (w : World) (hl : ts.length ≤ 1000000) (hT : Toks S w ts b0) (hS : ∀ b, S b → b < w.heap.size) : Calls Tryz.prog 57 #[.slice b0 ts.length k0] w (SolidR w (solidT ts)) := by
 have X := Ext.refl w; refine calls_in Tryz.func57 Tryz.ntmps57 rfl rfl ?_
 focus
  refine cS (cA rfl rfl (cN (cA rfl rfl (cT (cw_seq (cS (cM rfl rfl (lw_pure (pur_len_slice tabOk rfl rfl) rfl (cM rfl rfl (cT (cw_block ?_))))))))))); rotate_left 1
 refine cw_loop (ι := Nat × Option Addr × Nat) (fun x => [(3, .slice x.2.1 (solidT (ts.take x.1)).length x.2.2), (6, .slice b0 ts.length k0), (7, .int .i64 ts.length), (8, .int .i64 x.1)])
  (fun x w' => OwnL tokShape w' w.heap.size 96 (.slice x.2.1 (solidT (ts.take x.1)).length x.2.2) (solidT (ts.take x.1)) ∧ Ext w w' ∧ x.1 ≤ ts.length ∧ Toks S w' ts b0) (fun x => ts.length - x.1) (0, none, 0) (by (refine sub_cons rfl ?_; refine sub_cons rfl ?_; refine sub_cons rfl ?_; refine sub_cons rfl ?_; exact sub_nil)) ⟨OwnL.nil, X, Nat.zero_le _, hT⟩ ?_
 rintro ⟨j, a, cap⟩ w1 ⟨hown, X, hj, hT⟩; simp only at hown hj hT; have hsz := X.size; refine CW.sub (m := [(3, .slice a (solidT (ts.take j)).length cap), (6, .slice b0 ts.length k0), (7, .int .i64 ts.length), (8, .int .i64 j)]) ?_ (by (refine sub_cons rfl ?_; refine sub_cons rfl ?_; refine sub_cons rfl ?_; refine sub_cons rfl ?_; exact sub_nil))
 by_cases hlt : j < ts.length
 · have htk : ts.take (j + 1) = ts.take j ++ [ts[j]] := by rw [List.take_add_one, List.getElem?_eq_getElem hlt]; rfl
   have hsn : solidT (ts.take (j + 1)) = solidT (ts.take j) ++ (if ts[j].kind ≠ 4 ∧ ts[j].kind ≠ 5 then [ts[j]] else []) := by rw [htk, solid_snoc]
   have hbd : (solidT (ts.take j)).length ≤ 1000000 := Nat.le_trans (List.length_filter_le _ _) (by rw [List.length_take]; omega); obtain ⟨tb, tof, rfl, hkS, hrow⟩ := hT.get (by omega); have hr : Row w1 ⟨tb, tof + j * 3, none⟩ ts[j].cells := hrow j _ (List.getElem?_eq_getElem hlt); have htb := hS tb hkS; clear hrow htk
   generalize ts[j] = t at *
   by_cases h4 : t.kind = 4
   · rw [show (if t.kind ≠ 4 ∧ t.kind ≠ 5 then [t] else []) = [] from by simp [h4], List.append_nil] at hsn
     focus
      refine cS (lw_pure (pur_lss rfl rfl) rfl (cT (cw_seq ?_))); refine cw_yes rfl (by omega) ?_; refine cw_skip (qw_then (cw_seq (cw_block (cS ?_)))); refine lw_pure (pur_indexAddr tabOk rfl rfl rfl rfl (by omega) (by omega)) rfl ?_; refine lw_loads_r0 tabOk rfl rfl rfl hr rfl rfl ?_; (refine lw_alloc' [_, _, _] zOk rfl rfl ?_; intro ba1 wa2 na3); (refine lw_init' [_, _, _] tabOk rfl rfl rfl rfl rfl rfl na3 rfl ?_; clear na3; clear wa2; intro wa4 na3); have ha5 := na3.blk; have xa6 := na3.ext; have pa7 := na3.pos; have za8 := na3.size; clear na3; replace hown := hown.ext xa6; replace X := X.ext xa6; replace hT := hT.ext xa6; replace hr := hr.ext xa6; clear xa6; refine cN (lw_pure (pur_fieldAddr0 tabOk rfl rfl rfl) rfl (lw_load_b tabOk rfl rfl rfl ha5 rfl rfl (lw_pure (pur_neq rfl rfl) rfl (cM rfl rfl ?_)))); refine lw_off rfl rfl rfl (gd_tf (by omega)) rfl ?_; refine lw_off rfl rfl rfl (gd_tf (by omega)) rfl ?_; refine lw_off rfl rfl rfl (gd_tf (by omega)) rfl ?_; refine lw_pure (pur_pick_no rfl rfl (by omega)) rfl ?_; refine cT (cw_cond_f rfl (cw_skip (qw_block_norm (qw_then (cw_region ?_))))); refine lw_pure (pur_add rfl rfl (IntWalk.i64_in _ (by omega))) rfl ?_; refine cM rfl rfl (lw_nil ?_); rotate_left 1
     refine qw_round (j + 1, a, cap) ?_ ⟨by rw [hsn]; exact hown, X, by simp only; omega, hT⟩ (by simp only; omega); refine sub_cons' rfl (by rw [hsn]) (sub_cons rfl (sub_cons rfl (sub_cons rfl sub_nil)))
   by_cases h5 : t.kind = 5
   · rw [show (if t.kind ≠ 4 ∧ t.kind ≠ 5 then [t] else []) = [] from by simp [h5], List.append_nil] at hsn
     focus
      refine cS (lw_pure (pur_lss rfl rfl) rfl (cT (cw_seq ?_))); refine cw_yes rfl (by omega) ?_; refine cw_skip (qw_then (cw_seq (cw_block (cS ?_)))); refine lw_pure (pur_indexAddr tabOk rfl rfl rfl rfl (by omega) (by omega)) rfl ?_; refine lw_loads_r0 tabOk rfl rfl rfl hr rfl rfl ?_; (refine lw_alloc' [_, _, _] zOk rfl rfl ?_; intro bb1 wb2 nb3); (refine lw_init' [_, _, _] tabOk rfl rfl rfl rfl rfl rfl nb3 rfl ?_; clear nb3; clear wb2; intro wb4 nb3); have hb5 := nb3.blk; have xb6 := nb3.ext; have pb7 := nb3.pos; have zb8 := nb3.size; clear nb3; replace hown := hown.ext xb6; replace X := X.ext xb6; replace hT := hT.ext xb6; replace hr := hr.ext xb6; clear xb6; refine cN (lw_pure (pur_fieldAddr0 tabOk rfl rfl rfl) rfl (lw_load_b tabOk rfl rfl rfl hb5 rfl rfl (lw_pure (pur_neq rfl rfl) rfl (cM rfl rfl ?_)))); refine lw_on rfl rfl rfl (gd_tt (by assumption)) ?_; refine lw_pure (pur_fieldAddr0 tabOk rfl rfl rfl) rfl ?_; refine lw_on rfl rfl rfl (gd_tt (by assumption)) ?_; refine lw_load_b tabOk rfl rfl rfl hb5 rfl rfl ?_; refine lw_on rfl rfl rfl (gd_tt (by assumption)) ?_; refine lw_pure (pur_neq rfl rfl) rfl ?_; refine lw_pure (pur_pick_yes rfl rfl (by assumption)) rfl ?_; refine cT ?_; refine cw_no rfl (by omega) ?_; refine cw_skip (qw_block_norm (qw_then (cw_region ?_))); refine lw_pure (pur_add rfl rfl (IntWalk.i64_in _ (by omega))) rfl ?_; refine cM rfl rfl (lw_nil ?_); rotate_left 1
     refine qw_round (j + 1, a, cap) ?_ ⟨by rw [hsn]; exact hown, X, by simp only; omega, hT⟩ (by simp only; omega); refine sub_cons' rfl (by rw [hsn]) (sub_cons rfl (sub_cons rfl (sub_cons rfl sub_nil)))
   · rw [show (if t.kind ≠ 4 ∧ t.kind ≠ 5 then [t] else []) = [t] from by simp [h4, h5]] at hsn
     focus
      refine cS (lw_pure (pur_lss rfl rfl) rfl (cT (cw_seq ?_))); refine cw_yes rfl (by omega) ?_; refine cw_skip (qw_then (cw_seq (cw_block (cS ?_)))); refine lw_pure (pur_indexAddr tabOk rfl rfl rfl rfl (by omega) (by omega)) rfl ?_; refine lw_loads_r0 tabOk rfl rfl rfl hr rfl rfl ?_; (refine lw_alloc' [_, _, _] zOk rfl rfl ?_; intro bc1 wc2 nc3); (refine lw_init' [_, _, _] tabOk rfl rfl rfl rfl rfl rfl nc3 rfl ?_; clear nc3; clear wc2; intro wc4 nc3); have hc5 := nc3.blk; have xc6 := nc3.ext; have pc7 := nc3.pos; have zc8 := nc3.size; clear nc3; replace hown := hown.ext xc6; replace X := X.ext xc6; replace hT := hT.ext xc6; replace hr := hr.ext xc6; clear xc6; refine cN (lw_pure (pur_fieldAddr0 tabOk rfl rfl rfl) rfl (lw_load_b tabOk rfl rfl rfl hc5 rfl rfl (lw_pure (pur_neq rfl rfl) rfl (cM rfl rfl ?_)))); refine lw_on rfl rfl rfl (gd_tt (by assumption)) ?_; refine lw_pure (pur_fieldAddr0 tabOk rfl rfl rfl) rfl ?_; refine lw_on rfl rfl rfl (gd_tt (by assumption)) ?_; refine lw_load_b tabOk rfl rfl rfl hc5 rfl rfl ?_; refine lw_on rfl rfl rfl (gd_tt (by assumption)) ?_; refine lw_pure (pur_neq rfl rfl) rfl ?_; refine lw_pure (pur_pick_yes rfl rfl (by assumption)) rfl ?_; refine cT ?_; refine cw_yes rfl (by assumption) ?_; refine cw_region (cM rfl rfl (lw_loads_b' [_, _, _] tabOk rfl rfl rfl hc5 rfl rfl rfl ?_)); (refine lw_does (does_slice' [_, _, _] tabOk zOk rfl rfl rfl rfl rfl rfl rfl rfl rfl) rfl ?_ (fun _ h => h); rintro _ wc10 ⟨bc9, rfl, nc11, tc12⟩); clear tc12; have hc13 := nc11.blk
      have xc14 := nc11.ext; have pc15 := nc11.pos; have zc16 := nc11.size; clear nc11; replace hc5 := hc5.ext xc14; replace hown := hown.ext xc14; replace X := X.ext xc14; replace hT := hT.ext xc14; replace hr := hr.ext xc14; clear xc14; refine lw_appendL (sh := tokShape) (z := t) tabOk zOk rfl rfl rfl rfl (by kernel_rfl) rfl rfl rfl hown (Blk.row (by assumption)) rfl (by omega) (by omega) rfl ?_; rintro gc17 cap'c18 wc19 hc20 fc21; have zc22 := fc21.size; clear hc13 hc5 hown; replace X := X.fr fc21 (by omega); replace hT := Toks.fr hT fc21 (fun k hk e => by have := hS k hk; omega); replace hr := Row.fr hr fc21 (by simp only; omega); clear fc21; refine cA rfl rfl (lw_nil (qw_block_norm (qw_then (cw_region ?_)))); refine lw_pure (pur_add rfl rfl (IntWalk.i64_in _ (by omega))) rfl ?_; refine cM rfl rfl (lw_nil ?_); rotate_left 1
     refine qw_round (j + 1, some ⟨_, 0, none⟩, _) ?_ ⟨by rw [hsn]; assumption, X, by simp only; omega, hT⟩ (by simp only; omega); refine sub_cons' rfl (by rw [hsn]) (sub_cons rfl (sub_cons rfl (sub_cons rfl sub_nil)))
 · have : j = ts.length := by omega
   subst this; rw [List.take_length] at hown
   focus
    refine cS (lw_pure (pur_lss rfl rfl) rfl (cT (cw_seq ?_))); refine cw_no rfl (by omega) ?_; refine cw_exit (qw_then_exit (qw_then_exit (qw_block_exit (qw_then (cS (cM rfl rfl (cA rfl rfl (cT (cw_ret (qw_ret1 rfl rfl ?_)))))))))); rotate_left 1
   rw [List.take_length]
   exact ⟨_, _, rfl, Toks.lt2 (S := (w.heap.size ≤ ·)) (OwnL.toks hown (fun b h => h)), X⟩
end Bk
namespace Bk
open Go Go.RowKit Go.Proofs
attribute [local irreducible] Go.Calls
section
variable {P : Program} {n : Nat} {ops : Array Oper} {Q : Exit → Act → World → Prop} {rest : List Oper} {l : Sl} {w : World} {tab : Tab} {ty : TypeId} {pos : String} {after : Array Edge}
theorem lw_mapput {x y z : Operand} {t kt e sz1 sz2 r : Nat} {k : List UInt8} {v : Value} {kvs : List (List UInt8 × Value)} (T : TabOk P tab) (ht : lookT tab t = some (.map kt e, sz1)) (hkt : lookT tab kt = some (.str, sz2)) (hx : ev l x = some (.map (some r))) (hy : ev l y = some (str k)) (hz : ev l z = some v) (hm : MapIs w r kvs)
 (kk : ∀ w1, MapIs w1 r (setS kvs k v) → Fr (· = r) w w1 → LW P n ops Q rest l w1) : LW P n ops Q (⟨none, .mapUpdate t x y z, ty, pos, after, none⟩ :: rest) l w := by
 refine lw_does0 (K := MapPut w r (setS kvs k v)) ?_ (fun v w1 h => by cases v with | none => exact kk w1 h.1 h.2.1 | some _ => exact h.elim)
 unfold Does
 intro a dst pos after g next Q ha _ hn; obtain ⟨w1, h1, h2, h3, h4⟩ := run_mapUpdate (P := P) (k := k) (v := v) T ht hkt hm
 have e1 : (execOp a.eval ⟨dst, .mapUpdate t x y z, ty, pos, after, g⟩).run P w = .ok .skip w1 := by
  simp only [execOp, ha.ev hx, ha.ev hy, ha.ev hz, Sem.run_bind, h1, Result.andThen, Sem.run_pure]
 unfold Oper.wp
 rw [e1]
 exact hn w1 ⟨h2, h3, h4⟩
theorem lw_makeMap {t d : Nat} (hd : Nat.blt d n = true) (k : ∀ r w1, r = w.heap.size → MapIs w1 r [] → Ext w w1 → w1.heap.size = r + 1 → LW P n ops Q rest ((d, .map (some r)) :: l) w1) : LW P n ops Q (⟨some d, .makeMap t none, ty, pos, after, none⟩ :: rest) l w :=
 lw_does does_makeMap hd (fun v w1 ⟨r, h1, h2, h3, h4, h5⟩ => by subst h1; exact k r w1 h2 h3 h4 h5) (fun _ h => h)
end
def u8Shape : Shape Int where
 sz := 1
 rep := fun _ _ v cs => cs = [.int .u8 v]
 len := fun h => by rw [h]; rfl
 one := fun h => by rw [h]; rfl
 mono := fun h _ _ => h
 lt := fun h => h
def ops8 (j : Nat) : List Int := (List.range j).map fun (i : Nat) => (8 : Int) + (i : Int)
theorem ops8_snoc (j : Nat) : ops8 (j + 1) = ops8 j ++ [8 + (j : Int)] := by simp [ops8, List.range_succ]
theorem ops8_len (j : Nat) : (ops8 j).length = j := by simp [ops8]
def OpsR (w : World) : Ending → World → Prop := fun e w' => ∃ b k, e = .returned (.slice (some ⟨b, 0, none⟩) 16 k) ∧ w.heap.size ≤ b ∧ b < w'.heap.size ∧ Row w' ⟨b, 0, none⟩ ((ops8 16).map (.int .u8 ·)) ∧ Ext w w'
theorem OpsR.ret {w : World} {e : Ending} {w' : World} (h : OpsR w e w') : ∃ v, e = .returned v := by
 obtain ⟨_, _, h, -⟩ := h
 exact ⟨_, h⟩
set_option maxRecDepth 100000 in
set_option maxHeartbeats 2000000 in
theorem Operators_c (w : World) : Calls Tryz.prog 58 #[] w (OpsR w) := by
 have X := Ext.refl w; refine calls_in (args := []) Tryz.func58 Tryz.ntmps58 rfl rfl ?_
 focus
  refine cS (cA rfl rfl (cN (cA rfl rfl (cT (cw_seq (cS (cA rfl rfl (cT (cw_block ?_))))))))); rotate_left 1
 refine cw_loop (ι := Nat × Option Addr × Nat) (fun x => [(1, .slice x.2.1 (ops8 x.1).length x.2.2), (2, .int .u8 (8 + (x.1 : Int)))])
  (fun x w' => OwnL u8Shape w' w.heap.size 5 (.slice x.2.1 (ops8 x.1).length x.2.2) (ops8 x.1) ∧ Ext w w' ∧ x.1 ≤ 16) (fun x => 16 - x.1) (0, none, 0) (by (refine sub_cons rfl ?_; refine sub_cons rfl ?_; exact sub_nil)) ⟨OwnL.nil, X, Nat.zero_le _⟩ ?_
 rintro ⟨j, a, cap⟩ w1 ⟨hown, X, hj⟩; simp only at hown hj; have hsz := X.size; have hl := ops8_len j; refine CW.sub (m := [(1, .slice a (ops8 j).length cap), (2, .int .u8 (8 + (j : Int)))]) ?_ (by (refine sub_cons rfl ?_; refine sub_cons rfl ?_; exact sub_nil))
 by_cases hlt : j < 16
 · have hsn := ops8_snoc j
   focus
    refine cw_seq (cS (cM rfl rfl (lw_pure (pur_leq rfl rfl) rfl (cT ?_)))); refine cw_yes rfl (by omega) ?_; refine cw_skip (qw_then (cw_seq (cw_block (cw_region (cM rfl rfl (cM rfl rfl ?_)))))); (refine lw_does (does_slice' [_] tabOk zOk rfl rfl rfl rfl rfl rfl rfl rfl rfl) rfl ?_ (fun _ h => h); rintro _ wa2 ⟨ba1, rfl, na3, ta4⟩); clear ta4; have ha5 := na3.blk; have xa6 := na3.ext; have pa7 := na3.pos; have za8 := na3.size; clear na3; replace hown := hown.ext xa6; replace X := X.ext xa6; clear xa6; refine lw_appendL (sh := u8Shape) (z := 8 + (j : Int)) tabOk zOk rfl rfl rfl rfl (by kernel_rfl) rfl rfl rfl hown (Blk.row (by assumption)) rfl (by omega) (by omega) rfl ?_; rintro ga9 cap'a10 wa11 ha12 fa13; have za14 := fa13.size; clear ha5 hown; replace X := X.fr fa13 (by omega); clear fa13; refine cA rfl rfl (lw_nil (qw_block_norm (qw_then (cw_region (cM rfl rfl ?_))))); refine lw_pure (pur_add rfl rfl (u8_wrap _ (by omega) (by omega))) rfl ?_; refine cA rfl rfl (lw_nil ?_); rotate_left 1
   refine qw_round (j + 1, some ⟨_, 0, none⟩, _) ?_ ⟨by rw [hsn]; assumption, X, by simp only; omega⟩ (by simp only; omega); refine sub_cons' rfl (by rw [hsn]) (sub_cons' rfl ?_ sub_nil)
   simp only [Value.int.injEq, true_and]; omega
 · have : j = 16 := by omega
   subst this
   focus
    refine cw_seq (cS (cM rfl rfl (lw_pure (pur_leq rfl rfl) rfl (cT ?_)))); refine cw_no rfl (by decide) ?_; refine cw_exit (qw_then_exit (qw_then_exit (qw_block_exit (qw_then (cS (cM rfl rfl (cA rfl rfl (cT (cw_ret (qw_ret1 rfl rfl ?_)))))))))); rotate_left 1
   obtain ⟨g, cap', hv, hg, hall⟩ := hown.rows (by decide); simp only [Value.slice.injEq] at hv; obtain ⟨rfl, -, -⟩ := hv
   have hrow : Row w1 ⟨g, 0, none⟩ ((ops8 16).map (.int .u8 ·)) := fun i v hi => by
    rw [List.getElem?_map, Option.map_eq_some_iff] at hi; obtain ⟨x, hx, rfl⟩ := hi; obtain ⟨cs, hr, rfl⟩ := hall i x hx; have := hr.at0 rfl
    have e : (⟨g, 0, none⟩ : Addr).add i = ⟨g, i * u8Shape.sz, none⟩ := by
     have : u8Shape.sz = 1 := rfl
     unfold Addr.add; by_cases h0 : i = 0 <;> simp [h0, this]
    rw [e]; exact this
   exact ⟨g, cap, by rw [ops8_len], hg, hown.lt rfl, hrow, X⟩
set_option maxRecDepth 100000 in
set_option maxHeartbeats 1000000 in
theorem finish_c (c : PC) (σ : PS) (w : World) (hP : PP c σ w) :
 Calls Tryz.prog 33 #[.pointer (some ⟨c.pb, 0, none⟩)] w fun r w' => r = .returned (.tuple #[]) ∧ PP c (finishP c.ts c.n σ) w' ∧ Fr (· = c.pb) w w' := by
 have X := Fr.refl (· = c.pb) w; have hpb := hP.pbB; have hB := hP.B
 by_cases h : σ.at_ < c.ts.length
 · rw [show finishP c.ts c.n σ = unexpP c.ts c.n σ from by simp [finishP, h]]
   refine calls_in Tryz.func33 Tryz.ntmps33 rfl rfl ?_
   focus
    refine cw_seq ?_; (refine cw_tdraw (fun wz => Ext w wz) 9 (.pure 0 (.pure 1 (.pure 2 (.pure 3 (.pure 4 (.pure 5 (.pure 6 (.pure 7 (.pure 8 .tail))))))))) mixed (by kernel_rfl) (panicOk_then panicOk_body) ?_; intro w1 x2 _); have qs3 : (fun wz => Ext w wz) w1 := x2; simp only at qs3; have d_hP := hP; have z4 := x2.size; replace hP := hP.ext x2; replace X := X.ext x2; clear x2; refine ⟨qs3, ?_⟩; refine tw_pure rfl (pur_move rfl) rfl (tw_pure rfl (pur_nilCheck rfl) rfl (tw_pure rfl (pur_fieldAddr tabOk rfl rfl rfl) rfl (tw_pure rfl (pur_load tabOk rfl rfl rfl (fun wz hz => Blk.cell (Blk.ext (PP.blk d_hP) hz) rfl)) rfl (tw_pure rfl (pur_move rfl) rfl (tw_pure rfl (pur_nilCheck rfl) rfl (tw_pure rfl (pur_fieldAddr0 tabOk rfl rfl rfl) rfl (tw_pure rfl (pur_load tabOk rfl rfl rfl (fun wz hz => Blk.cell (Blk.ext (PP.blk d_hP) hz) rfl)) rfl (tw_pure rfl (pur_len_slice tabOk rfl rfl) rfl ?_)))))))); clear qs3 d_hP; refine tw_tail rfl (lw_pure (pur_lss rfl rfl) rfl (cT ?_)); refine cw_yes rfl (by omega) ?_; refine cw_region (cM rfl rfl ?_); refine cC (by kernel_rfl) rfl (unexpected_c _ _ _ (by assumption)) rfl ?_; rintro _ w7 ⟨⟨⟩, ⟨h5, f6⟩⟩; have z8 := f6.size; clear hP; replace X := X.fr f6 (by omega); clear f6; refine lw_nil (qw_end0 rfl ?_); rotate_left 1
   exact ⟨rfl, by assumption, X⟩
 · rw [show finishP c.ts c.n σ = σ from by simp [finishP, h]]
   refine calls_in Tryz.func33 Tryz.ntmps33 rfl rfl ?_
   focus
    refine cw_seq ?_; (refine cw_tdraw (fun wz => Ext w wz) 9 (.pure 0 (.pure 1 (.pure 2 (.pure 3 (.pure 4 (.pure 5 (.pure 6 (.pure 7 (.pure 8 .tail))))))))) mixed (by kernel_rfl) (panicOk_then panicOk_body) ?_; intro wa1 xa2 _); have qsa3 : (fun wz => Ext w wz) wa1 := xa2; simp only at qsa3; have d_hP := hP; have za4 := xa2.size; replace hP := hP.ext xa2; replace X := X.ext xa2; clear xa2; refine ⟨qsa3, ?_⟩; refine tw_pure rfl (pur_move rfl) rfl (tw_pure rfl (pur_nilCheck rfl) rfl (tw_pure rfl (pur_fieldAddr tabOk rfl rfl rfl) rfl (tw_pure rfl (pur_load tabOk rfl rfl rfl (fun wz hz => Blk.cell (Blk.ext (PP.blk d_hP) hz) rfl)) rfl (tw_pure rfl (pur_move rfl) rfl (tw_pure rfl (pur_nilCheck rfl) rfl (tw_pure rfl (pur_fieldAddr0 tabOk rfl rfl rfl) rfl (tw_pure rfl (pur_load tabOk rfl rfl rfl (fun wz hz => Blk.cell (Blk.ext (PP.blk d_hP) hz) rfl)) rfl (tw_pure rfl (pur_len_slice tabOk rfl rfl) rfl ?_)))))))); clear qsa3 d_hP; refine tw_tail rfl (lw_pure (pur_lss rfl rfl) rfl (cT ?_)); refine cw_no rfl (by omega) ?_; refine cw_skip (qw_end0 rfl ?_); rotate_left 1
   exact ⟨rfl, by assumption, X⟩
def wholeT (t : Nd) (σ : PS) : Nd × Int × Int := if σ.err ≠ 0 then (zeroNd, σ.off, σ.err) else (t, 0, 0)
def WholeR (w : World) (pb : Nat) (S : Nat → Prop) (r : Nd × Int × Int) : Ending → World → Prop := fun e w' => ∃ a k, e = .returned (.tuple #[r.1.val a k, .int .i64 r.2.1, .int .i64 r.2.2]) ∧ r.1.sits S w' a ∧ Fr (· = pb) w w'
theorem WholeR.ret {w : World} {pb : Nat} {S : Nat → Prop} {r : Nd × Int × Int} {e : Ending} {w' : World} (h : WholeR w pb S r e w') : ∃ v, e = .returned v := by
 obtain ⟨_, _, h, -⟩ := h
 exact ⟨_, h⟩
set_option maxRecDepth 100000 in
set_option maxHeartbeats 1000000 in
theorem whole_c (c : PC) (σ : PS) (t : Nd) (S : Nat → Prop) (a : Option Addr) (k : Nat) (w : World) (hP : PP c σ w) (hz : t.size ≤ 1000000000) (hs : t.sits S w a) (hS : ∀ b, S b → b ≠ c.pb ∧ b < w.heap.size) :
 Calls Tryz.prog 34 #[.pointer (some ⟨c.pb, 0, none⟩), t.val a k] w (WholeR w c.pb S (wholeT t (limitP t 0 σ))) := by
 have X := Fr.refl (· = c.pb) w; have hpb := hP.pbB; have hB := hP.B
 by_cases h : (limitP t 0 σ).err = 0
 · rw [show wholeT t (limitP t 0 σ) = (t, 0, 0) from by simp [wholeT, h]]
   refine calls_in Tryz.func34 Tryz.ntmps34 rfl rfl ?_
   focus
    refine cS ?_; (refine lw_box' [_, _, _, _] rfl rfl rfl ?_; intro b1 w2 n3); have h4 := n3.blk; have x5 := n3.ext; have p6 := n3.pos; have z7 := n3.size; clear n3; replace hP := hP.ext x5; replace hs := Nd.sits.ext hs x5; replace X := X.ext x5; clear x5; (refine lw_alloc' [_, _, _, _] zOk rfl rfl ?_; intro b8 w9 n10); have h12 := n10.blk; have x13 := n10.ext; have p14 := n10.pos; have z15 := n10.size; clear n10; replace h4 := h4.ext x13; replace hP := hP.ext x13; replace hs := Nd.sits.ext hs x13; replace X := X.ext x13; clear x13; refine cA rfl rfl (cA rfl rfl (cN (cM rfl rfl (lw_loads_b' [_, _, _, _] tabOk rfl rfl rfl h4 rfl rfl rfl ?_)))); refine cC (by kernel_rfl) rfl (limit_c _ _ _ _ _ _ _ _ (by assumption) (by omega) (by assumption)) rfl ?_; rintro _ w18 ⟨⟨⟩, ⟨h16, f17⟩⟩; have z19 := f17.size; replace h12 := h12.fr f17 (by omega); replace h4 := h4.fr f17 (by omega); clear hP; replace hs := Nd.sits.fr hs f17 (fun k hk e => by have := hS k hk; omega); replace X := X.fr f17 (by omega); clear f17; refine cT (cw_seq (cS (cM rfl rfl (lw_pure (pur_nilCheck rfl) rfl (lw_pure (pur_fieldAddr tabOk rfl rfl rfl) rfl (lw_load_b tabOk rfl rfl rfl (PP.blk h16) rfl rfl (lw_pure (pur_neq rfl rfl) rfl (cT ?_)))))))); refine cw_no rfl (by omega) ?_; refine cw_skip (qw_then (cS (lw_loads_b' [_, _, _, _] tabOk rfl rfl rfl h4 rfl rfl rfl ?_))); (refine lw_store' [_, _, _, _] [_, _, _, _] tabOk rfl rfl rfl rfl rfl rfl h12 rfl rfl ?_; intro w20 n21); have h24 := n21.blk; have f22 := n21.fr; have z23 := n21.size
    clear n21 h12; replace h16 := h16.fr f22 (by omega); replace h4 := h4.fr f22 (by omega); replace hs := Nd.sits.fr hs f22 (fun k hk e => by have := hS k hk; omega); replace X := X.fr f22 (by omega); clear f22; refine cA rfl rfl (cA rfl rfl (cT (cw_ret (qw_retc3 rfl tabOk rfl rfl rfl h24 rfl rfl rfl ?_)))); rotate_left 1
   exact ⟨_, _, rfl, by assumption, X⟩
 · rw [show wholeT t (limitP t 0 σ) = (zeroNd, (limitP t 0 σ).off, (limitP t 0 σ).err) from by simp [wholeT, h]]
   refine calls_in Tryz.func34 Tryz.ntmps34 rfl rfl ?_
   focus
    refine cS ?_; (refine lw_box' [_, _, _, _] rfl rfl rfl ?_; intro ba1 wa2 na3); have ha4 := na3.blk; have xa5 := na3.ext; have pa6 := na3.pos; have za7 := na3.size; clear na3; replace hP := hP.ext xa5; replace hs := Nd.sits.ext hs xa5; replace X := X.ext xa5; clear xa5; (refine lw_alloc' [_, _, _, _] zOk rfl rfl ?_; intro ba8 wa9 na10); have ha12 := na10.blk; have xa13 := na10.ext; have pa14 := na10.pos; have za15 := na10.size; clear na10; replace ha4 := ha4.ext xa13; replace hP := hP.ext xa13; replace hs := Nd.sits.ext hs xa13; replace X := X.ext xa13; clear xa13; refine cA rfl rfl (cA rfl rfl (cN (cM rfl rfl (lw_loads_b' [_, _, _, _] tabOk rfl rfl rfl ha4 rfl rfl rfl ?_)))); refine cC (by kernel_rfl) rfl (limit_c _ _ _ _ _ _ _ _ (by assumption) (by omega) (by assumption)) rfl ?_; rintro _ wa18 ⟨⟨⟩, ⟨ha16, fa17⟩⟩; have za19 := fa17.size; replace ha12 := ha12.fr fa17 (by omega); replace ha4 := ha4.fr fa17 (by omega); clear hP; replace hs := Nd.sits.fr hs fa17 (fun k hk e => by have := hS k hk; omega); replace X := X.fr fa17 (by omega); clear fa17; refine cT (cw_seq (cS (cM rfl rfl (lw_pure (pur_nilCheck rfl) rfl (lw_pure (pur_fieldAddr tabOk rfl rfl rfl) rfl (lw_load_b tabOk rfl rfl rfl (PP.blk ha16) rfl rfl (lw_pure (pur_neq rfl rfl) rfl (cT ?_)))))))); refine cw_yes rfl (by assumption) ?_; refine cw_seq ?_; (refine cw_tdraw (fun wz => Fr (fun x => x = ba8) wa18 wz) 11 (.pure 0 (.pure 1 (.pure 2 (.pure 3 (.pure 4 (.pure 5 (.pure 6 (.pure 7 (.pure 8 (.fork 9 (.pure 10 .tail) .none)))))))))) mixed (by kernel_rfl) (panicOk_then (panicOk_then panicOk_body)) ?_; intro wa20 xa21 _)
    have qsa22 : (fun wz => Fr (fun x => x = ba8) wa18 wz) wa20 := Fr.of_ext xa21; simp only at qsa22; have d_ha16 := ha16; have d_ha12 := ha12; have d_ha4 := ha4; have d_hs := hs; have za23 := xa21.size; replace ha16 := ha16.ext xa21; replace ha12 := ha12.ext xa21; replace ha4 := ha4.ext xa21; replace hs := Nd.sits.ext hs xa21; replace X := X.ext xa21; clear xa21; refine ⟨qsa22, ?_⟩; refine tw_pure rfl (pur_build' [_, _, _, _] tabOk zOk rfl rfl rfl rfl) rfl (tw_pure rfl (pur_move rfl) rfl (tw_pure rfl (pur_nilCheck rfl) rfl (tw_pure rfl (pur_fieldAddr tabOk rfl rfl rfl) rfl ?_))); refine tw_pure rfl (pur_load tabOk rfl rfl rfl (fun wz hz => Blk.cell (Blk.fr (PP.blk d_ha16) hz (by omega)) rfl)) rfl ?_; refine tw_pure rfl (pur_move rfl) rfl (tw_pure rfl (pur_nilCheck rfl) rfl (tw_pure rfl (pur_fieldAddr tabOk rfl rfl rfl) rfl ?_)); refine tw_pure rfl (pur_load tabOk rfl rfl rfl (fun wz hz => Blk.cell (Blk.fr (PP.blk d_ha16) hz (by omega)) rfl)) rfl ?_; (refine tw_store [_, _, _, _] [_, _, _, _] rfl tabOk rfl rfl rfl rfl rfl rfl ha12 rfl rfl ?_ tw_none; intro wa24 na25); have ha28 := na25.blk; have fa26 := na25.fr; have za27 := na25.size; clear na25 ha12; replace qsa22 := qsa22.fr fa26 (by omega); replace ha16 := ha16.fr fa26 (by omega); replace ha4 := ha4.fr fa26 (by omega); replace hs := Nd.sits.fr hs fa26 (fun k hk e => by have := hS k hk; omega); replace X := X.fr fa26 (by omega); clear fa26; refine ⟨qsa22, ?_⟩; refine tw_pure rfl (pur_assign rfl) rfl ?_; clear d_ha16 d_ha12 d_ha4 d_hs qsa22
    refine tw_tail rfl (cA rfl rfl (cT (cw_ret (qw_then_ret (qw_retc3 rfl tabOk rfl rfl rfl ha28 rfl rfl rfl ?_))))); rotate_left 1
   exact ⟨_, _, rfl, sits_nil, X⟩
end Bk
namespace Bk
open Go Go.RowKit Go.Proofs
attribute [local irreducible] Go.Calls
theorem setS_bin (j : Nat) (h : j < 16) : setS (binMap.take j) (symbol (8 + (j : Int))) (.int .u8 (8 + (j : Int))) = binMap.take (j + 1) := by
 have : j = 0 ∨ j = 1 ∨ j = 2 ∨ j = 3 ∨ j = 4 ∨ j = 5 ∨ j = 6 ∨ j = 7 ∨ j = 8 ∨ j = 9 ∨ j = 10 ∨ j = 11 ∨ j = 12 ∨ j = 13 ∨ j = 14 ∨ j = 15 := by omega
 rcases this with rfl | rfl | rfl | rfl | rfl | rfl | rfl | rfl | rfl | rfl | rfl | rfl | rfl | rfl | rfl | rfl <;> rfl
def StartR (s : List UInt8) (w : World) : Ending → World → Prop := fun e w' => ∃ c : PC, e = .returned (.pointer (some ⟨c.pb, 0, none⟩)) ∧ (c.ts = (startP s).1 ∧ c.n = s.length ∧ w.heap.size ≤ c.pb) ∧ PP c (startP s).2 w' ∧ Ext w w' ∧ c.B ≤ w'.heap.size
theorem StartR.ret {s : List UInt8} {w : World} {e : Ending} {w' : World} (h : StartR s w e w') : ∃ v, e = .returned v := by
 obtain ⟨_, h, -⟩ := h
 exact ⟨_, h⟩
theorem Syms.lt {w : World} (h : Syms w) : 0 < w.heap.size := cell_lt (h.sym 0 (by omega))
theorem Errs.lt {w : World} (h : Errs w) : 4 < w.heap.size := by
 obtain ⟨te, pe, h⟩ := h.ex
 exact cell_lt h
set_option maxRecDepth 100000 in
set_option maxHeartbeats 4000000 in
theorem start_c (s : List UInt8) (w : World) (hs : s.length ≤ 1000000) (hS : Syms w) (hE : Errs w) : Calls Tryz.prog 31 #[str s] w (StartR s w) := by
 have X := Ext.refl w; have hg1 := hS.lt; have hg2 := hE.lt; have hl1 := lexT_len s; refine calls_in Tryz.func31 Tryz.ntmps31 rfl rfl ?_
 focus
  refine cS (cA rfl rfl (cN (cM rfl rfl ?_))); refine cR (by kernel_rfl) rfl (Lex_c _ _ (by omega)) (fun _ _ h => h.ret) rfl ?_; rintro _ w5 ⟨a1, ⟨k2, ⟨⟨⟩, ⟨h3, x4⟩⟩⟩⟩; have z6 := x4.size; replace hS := hS.ext x4; replace hE := hE.ext x4; replace X := X.ext x4; clear x4; refine cM rfl rfl (lw_pure (pur_extract rfl rfl) rfl (lw_pure (pur_extract rfl rfl) rfl (lw_pure (pur_extract rfl rfl) rfl (cA rfl rfl (cA rfl rfl (cA rfl rfl (cN (cM rfl rfl ?_)))))))); refine cR (by kernel_rfl) rfl (Solid_c _ _ _ _ _ (by omega) (by assumption) (by intro b h; exact h.2)) (fun _ _ h => h.ret) rfl ?_; rintro _ w11 ⟨a7, ⟨k8, ⟨⟨⟩, ⟨h9, x10⟩⟩⟩⟩; have z12 := x10.size; replace h3 := h3.ext x10; replace hS := hS.ext x10; replace hE := hE.ext x10; replace X := X.ext x10; clear x10; refine cM rfl rfl (lw_pure (pur_len_s tabOk rfl rfl) rfl (lw_makeMap rfl ?_)); rintro r13 w14 rfl h15 x16 h17; have z18 := x16.size; replace h9 := h9.ext x16; replace h3 := h3.ext x16; replace hS := hS.ext x16; replace hE := hE.ext x16; replace X := X.ext x16; clear x16; refine cM rfl rfl (cM rfl rfl (lw_pure (pur_build' [_, _, _, _, _, _] tabOk zOk rfl rfl rfl rfl) rfl ?_)); (refine lw_box' [_, _, _, _, _, _] rfl rfl rfl ?_; intro b19 w20 n21); have h22 := n21.blk; have x23 := n21.ext; have p24 := n21.pos; have z25 := n21.size; clear n21; replace h15 := h15.ext x23; replace h9 := h9.ext x23; replace h3 := h3.ext x23; replace hS := hS.ext x23; replace hE := hE.ext x23; replace X := X.ext x23; clear x23; refine cA rfl rfl (cT (cw_seq (cS ?_)))
  refine cR (by kernel_rfl) rfl (Operators_c _) (fun _ _ h => h.ret) rfl ?_; rintro _ w32 ⟨b26, ⟨k27, ⟨⟨⟩, ⟨h28, ⟨h29, ⟨h30, x31⟩⟩⟩⟩⟩⟩; have z33 := x31.size; replace h22 := h22.ext x31; replace h15 := h15.ext x31; replace h9 := h9.ext x31; replace h3 := h3.ext x31; replace hS := hS.ext x31; replace hE := hE.ext x31; replace X := X.ext x31; clear x31; refine lw_pure (pur_len_slice tabOk rfl rfl) rfl (cM rfl rfl (cT (cw_block ?_))); rotate_left 1
 generalize hr : w11.heap.size = r at *
 refine cw_loop (ι := Nat) (fun j => [(6, .pointer (some ⟨b19, 0, none⟩)), (24, .slice (some ⟨b26, 0, none⟩) 16 k27), (25, .int .i64 16), (26, .int .i64 j)])
  (fun j w' => j ≤ 16 ∧ MapIs w' r (binMap.take j) ∧ Row w' ⟨b26, 0, none⟩ ((ops8 16).map (.int .u8 ·)) ∧ Blk w' b19 [.slice a7 (solidT (lexT s).1).length k8, .int .i64 0, .int .i64 s.length, .map (some r), .int .i64 (lexT s).2.1, .int .i64 (lexT s).2.2] ∧
   Toks (fun b => w5.heap.size ≤ b ∧ b < r) w' (solidT (lexT s).1) a7 ∧ Syms w' ∧ Errs w' ∧ Ext w w' ∧ w32.heap.size ≤ w'.heap.size) (fun j => 16 - j) 0 (by (refine sub_cons rfl ?_; refine sub_cons rfl ?_; refine sub_cons rfl ?_; refine sub_cons rfl ?_; exact sub_nil)) ⟨Nat.zero_le _, h15, h30, h22, h9, hS, hE, X, Nat.le_refl _⟩ ?_
 rintro j w1 ⟨hj, hM, hrow, hb, hT, hS, hE, X, hz⟩; clear h15 h30 h22 h9 h3
 by_cases hlt : j < 16
 · have hr1 : Row w1 ⟨b26, 0 + j * 1, none⟩ [.int .u8 (8 + (j : Int))] := by
    have h1 := hrow.sub j 1
    have e : (((ops8 16).map (.int .u8 ·)).drop j).take 1 = [Value.int .u8 (8 + (j : Int))] := by
     have : j = 0 ∨ j = 1 ∨ j = 2 ∨ j = 3 ∨ j = 4 ∨ j = 5 ∨ j = 6 ∨ j = 7 ∨ j = 8 ∨ j = 9 ∨ j = 10 ∨ j = 11 ∨ j = 12 ∨ j = 13 ∨ j = 14 ∨ j = 15 := by omega
     rcases this with rfl | rfl | rfl | rfl | rfl | rfl | rfl | rfl | rfl | rfl | rfl | rfl | rfl | rfl | rfl | rfl <;> rfl
    rw [e] at h1
    rw [Nat.mul_one]; exact h1
   have hset := setS_bin j hlt
   focus
    refine cS (lw_pure (pur_lss rfl rfl) rfl (cT (cw_seq ?_))); refine cw_yes rfl (by omega) ?_; refine cw_skip (qw_then (cw_seq (cw_block (cS ?_)))); refine lw_pure (pur_indexAddr tabOk rfl rfl rfl rfl (by omega) (by omega)) rfl ?_; refine lw_load_r0 tabOk rfl rfl rfl hr1 rfl rfl (cA rfl rfl (cT ?_)); (refine cw_tdraw (fun wz => Ext w1 wz) 7 (.pure 0 (.pure 1 (.pure 2 (.pure 3 (.pure 4 (.pure 6 (.fork 5 .tail .none))))))) mixed (by kernel_rfl) (panicOk_block (panicOk_then (panicOk_then (panicOk_block (panicOk_then panicOk_body))))) ?_; intro wa1 xa2 _); have qsa3 : (fun wz => Ext w1 wz) wa1 := xa2; simp only at qsa3; have d_hM := hM; have d_hrow := hrow; have d_hb := hb; have d_hT := hT; have d_hS := hS; have d_hE := hE; have d_hr1 := hr1; have za4 := xa2.size; replace hM := hM.ext xa2; replace hrow := hrow.ext xa2; replace hb := hb.ext xa2; replace hT := hT.ext xa2; replace hS := hS.ext xa2; replace hE := hE.ext xa2; replace X := X.ext xa2; replace hr1 := hr1.ext xa2; clear xa2; refine ⟨qsa3, ?_⟩; refine tw_pure rfl (pur_move rfl) rfl (tw_pure rfl (pur_nilCheck rfl) rfl (tw_pure rfl (pur_fieldAddr tabOk rfl rfl rfl) rfl (tw_pure rfl (pur_load tabOk rfl rfl rfl (fun wz hz => Blk.cell (Blk.ext d_hb hz) rfl)) rfl (tw_pure rfl (pur_move rfl) rfl (tw_pure rfl (pur_move rfl) rfl ?_))))); refine tw_does rfl (does_call (by kernel_rfl) rfl (arith_Symbol_s _ _ (by omega) (by omega) (by assumption)) (fun _ _ h => ⟨_, h.1⟩)) rfl ?_ (fun _ h => h) tw_none; rintro _ wa5 ⟨⟨⟩, rfl⟩; refine ⟨qsa3, ?_⟩
    clear qsa3 d_hM d_hrow d_hb d_hT d_hS d_hE d_hr1; refine tw_tail rfl (lw_mapput tabOk rfl rfl rfl rfl rfl hM ?_); rintro wa6 ha7 fa8; have za9 := fa8.size; clear hM; replace hrow := Row.fr hrow fa8 (by simp only; omega); replace hb := hb.fr fa8 (by omega); replace hT := hT.fr fa8 (by omega); replace hS := hS.fr fa8 (by omega); replace hE := hE.fr fa8 (by omega); replace X := X.fr fa8 (by omega); replace hr1 := Row.fr hr1 fa8 (by simp only; omega); clear fa8; refine lw_nil (qw_block_norm (qw_then (cw_region ?_))); refine lw_pure (pur_add rfl rfl (IntWalk.i64_in _ (by omega))) rfl ?_; refine cM rfl rfl (lw_nil ?_); rotate_left 1
   refine qw_round (j + 1) (by (refine sub_cons rfl ?_; refine sub_cons rfl ?_; refine sub_cons rfl ?_; refine sub_cons rfl ?_; exact sub_nil)) ⟨by omega, by rw [← hset]; assumption, hrow, hb, hT, hS, hE, X, by omega⟩ (by omega)
 · have : j = 16 := by omega
   subst this
   focus
    refine cS (lw_pure (pur_lss rfl rfl) rfl (cT (cw_seq ?_))); refine cw_no rfl (by decide) ?_; refine cw_exit (qw_then_exit (qw_then_exit (qw_block_exit (qw_then (cS (cM rfl rfl (cA rfl rfl (cT (cw_ret (qw_ret1 rfl rfl ?_)))))))))); rotate_left 1
   have hsz := X.size; refine ⟨⟨b19, w1.heap.size, solidT (lexT s).1, s.length, a7, k8, r⟩, rfl, ⟨rfl, rfl, by simp only; omega⟩, ?_, X, Nat.le_refl _⟩; refine ⟨hb, hT.wide (fun b h => ⟨by simp only; omega, by simp only; omega⟩), hM, by simp only; omega, by simp only; omega, by simp only; omega, Nat.le_refl _, Nat.zero_le _, ?_, fun t ht => ?_, fun t ht => (solid_ok s t ht).num, hE, by simp only; omega⟩
   · exact Nat.le_trans (start_len s) hs
   · exact Nat.le_trans (solid_ok s t ht).len hs
end Bk
namespace Bk
open Go Go.RowKit Go.Proofs
attribute [local irreducible] Go.Calls
theorem fuel_ok {c : PC} {s : List UInt8} (h : c.ts = (startP s).1) (σ : PS) : 4 * mS c.ts σ + 20 ≤ fuelP s := by
 have h1 := start_len s
 have h2 : mS c.ts σ ≤ c.ts.length := by unfold mS; split <;> omega
 rw [h] at h2
 unfold fuelP
 rw [h]
 omega
def ParseR (w : World) (r : Nd × Int × Int) : Ending → World → Prop := fun e w' => ∃ a k, e = .returned (.tuple #[r.1.val a k, .int .i64 r.2.1, .int .i64 r.2.2]) ∧ r.1.sits (w.heap.size ≤ ·) w' a ∧ Ext w w'
theorem ParseR.ret {w : World} {r : Nd × Int × Int} {e : Ending} {w' : World} (h : ParseR w r e w') : ∃ v, e = .returned v := by
 obtain ⟨_, _, h, -⟩ := h
 exact ⟨_, h⟩
def ParsePR (w : World) (r : PG × Int × Int) : Ending → World → Prop := fun e w' => ∃ va vc pa pc ma mc, e = .returned (.tuple #[.agg (r.1.cells va vc pa pc ma mc).toArray, .int .i64 r.2.1, .int .i64 r.2.2]) ∧ r.1.sits (w.heap.size ≤ ·) w' va pa ma ∧ Ext w w'
theorem ParsePR.ret {w : World} {r : PG × Int × Int} {e : Ending} {w' : World} (h : ParsePR w r e w') : ∃ v, e = .returned v := by
 obtain ⟨_, _, _, _, _, _, h, -⟩ := h
 exact ⟨_, h⟩
theorem PG.sits.wide {S S' : Nat → Prop} {w : World} {g : PG} {va pa ma : Option Addr} (h : g.sits S w va pa ma) (hs : ∀ b, S b → S' b) : g.sits S' w va pa ma := ⟨h.vars.wide hs, h.procs.wide hs, h.main.wide hs⟩
theorem parseExpr_whole (s : List UInt8) (c : PC) (h1 : c.ts = (startP s).1) (h2 : c.n = s.length) : parseExpr s = wholeT (exprP c.ts c.n (fuelP s) 1 (startP s).2).1 (limitP (exprP c.ts c.n (fuelP s) 1 (startP s).2).1 0 (finishP c.ts c.n (exprP c.ts c.n (fuelP s) 1 (startP s).2).2)) := by
 unfold parseExpr wholeT
 rw [h1, h2]
set_option maxRecDepth 100000 in
set_option maxHeartbeats 4000000 in
theorem Expr_p (s : List UInt8) (w : World) (hs : s.length ≤ 1000000) (hS : Syms w) (hE : Errs w) : Calls Tryz.prog 12 #[str s] w (ParseR w (parseExpr s)) := by
 have X := Ext.refl w; refine calls_in Tryz.func12 Tryz.ntmps12 rfl rfl ?_
 focus
  refine cS ?_; (refine lw_alloc' [_, _, _, _] zOk rfl rfl ?_; intro b1 w2 n3); have h5 := n3.blk; have x6 := n3.ext; have p7 := n3.pos; have z8 := n3.size; clear n3; replace hS := hS.ext x6; replace hE := hE.ext x6; replace X := X.ext x6; clear x6; refine cA rfl rfl (cA rfl rfl (cN (cM rfl rfl ?_))); refine cR (by kernel_rfl) rfl (start_c s _ hs (by assumption) (by assumption)) (fun _ _ h => h.ret) rfl ?_; rintro _ w16 ⟨c9, ⟨⟨⟩, ⟨⟨h10, ⟨h11, h12⟩⟩, ⟨h13, ⟨x14, h15⟩⟩⟩⟩⟩; have z17 := x14.size; replace h5 := h5.ext x14; replace hS := hS.ext x14; replace hE := hE.ext x14; replace X := X.ext x14; clear x14; refine cA rfl rfl (cN (cM rfl rfl ?_)); rotate_left 1
 have hf := fuel_ok h10 (startP s).2; have hat := h13.at_; have hlen := h13.len; have hpb := h13.pbB; have hB := h13.B; rw [parseExpr_whole s c9 h10 h11]; have hle := expr_le (n := c9.n) (k := fuelP s) (lv := 1) hat; have hsz := exprs_size (n := c9.n) (k := fuelP s) (lv := 1) hat; have hwf := hle.wf
 have hsz2 : (exprP c9.ts c9.n (fuelP s) 1 (startP s).2).1.size ≤ 1000000000 := by omega
 focus
  refine cR (by kernel_rfl) rfl ((exprs_c c9 (fuelP s)).expr _ _ _ (by assumption) (by omega) (by decide) (by decide)) (fun _ _ h => h.ret) rfl ?_; rintro _ wa6 ⟨aa1, ⟨ka2, ⟨⟨⟩, ⟨ha3, ⟨ha4, fa5⟩⟩⟩⟩⟩; have za7 := fa5.size; clear h13; replace h5 := h5.fr fa5 (by omega); replace hS := hS.fr fa5 (by omega); clear hE; replace X := X.fr fa5 (by omega); clear fa5; (refine lw_alloc' [_, _, _, _] zOk rfl rfl ?_; intro ba8 wa9 na10); (refine lw_init' [_, _, _, _] tabOk rfl rfl rfl rfl rfl rfl na10 rfl ?_; clear na10; clear wa9; intro wa11 na10); have ha12 := na10.blk; have xa13 := na10.ext; have pa14 := na10.pos; have za15 := na10.size; clear na10; replace ha3 := Nd.sits.ext ha3 xa13; replace ha4 := ha4.ext xa13; replace h5 := h5.ext xa13; replace hS := hS.ext xa13; replace X := X.ext xa13; clear xa13; refine cN (cM rfl rfl ?_); refine cC (by kernel_rfl) rfl (finish_c _ _ _ (by assumption)) rfl ?_; rintro _ wa18 ⟨⟨⟩, ⟨ha16, fa17⟩⟩; have za19 := fa17.size; replace ha12 := ha12.fr fa17 (by omega); replace ha3 := Nd.sits.fr ha3 fa17 (by omega); clear ha4; replace h5 := h5.fr fa17 (by omega); replace hS := hS.fr fa17 (by omega); replace X := X.fr fa17 (by omega); clear fa17; refine cN (cM rfl rfl (lw_loads_b' [_, _, _, _] tabOk rfl rfl rfl ha12 rfl rfl rfl ?_)); refine cR (by kernel_rfl) rfl (whole_c _ _ _ _ _ _ _ (by assumption) (by assumption) (by assumption) (by intro b h; exact ⟨by omega, by omega⟩)) (fun _ _ h => h.ret) rfl ?_; rintro _ wa24 ⟨aa20, ⟨ka21, ⟨⟨⟩, ⟨ha22, fa23⟩⟩⟩⟩; have za25 := fa23.size
  clear ha16; replace ha12 := ha12.fr fa23 (by omega); replace ha3 := Nd.sits.fr ha3 fa23 (by omega); replace h5 := h5.fr fa23 (by omega); replace hS := hS.fr fa23 (by omega); replace X := X.fr fa23 (by omega); clear fa23; refine lw_pure (pur_extract rfl rfl) rfl (lw_pure (pur_extract rfl rfl) rfl (lw_pure (pur_extract rfl rfl) rfl ?_)); (refine lw_store' [_, _, _, _] [_, _, _, _] tabOk rfl rfl rfl rfl rfl rfl h5 rfl rfl ?_; intro wa26 na27); have ha30 := na27.blk; have fa28 := na27.fr; have za29 := na27.size; clear na27 h5; replace ha22 := Nd.sits.fr ha22 fa28 (by omega); replace ha12 := ha12.fr fa28 (by omega); replace ha3 := Nd.sits.fr ha3 fa28 (by omega); clear hS; replace X := X.fr fa28 (by omega); clear fa28; refine cA rfl rfl (cA rfl rfl (cT (cw_ret (qw_retc3 rfl tabOk rfl rfl rfl ha30 rfl rfl rfl ?_)))); rotate_left 1
 exact ⟨_, _, rfl, Nd.sits.wide (by assumption) (fun b h => by omega), X⟩
section
variable {ts : List Tok} {n : Int}
end
end Bk
namespace Bk
open Go Go.RowKit Go.Proofs
attribute [local irreducible] Go.Calls
mutual
def Nd.eqb : Nd → Nd → Bool
 | .mk k n s l, .mk k' n' s' l' => decide (k = k') && (decide (n = n') && (decide (s = s') && rowEqb l l'))
def rowEqb : List Nd → List Nd → Bool
 | [], [] => true
 | x :: r, y :: q => x.eqb y && rowEqb r q
 | [], _ :: _ => false
 | _ :: _, [] => false
end
mutual
theorem eqb_iff : ∀ t u : Nd, t.eqb u = true ↔ t = u
 | .mk k n s l, .mk k' n' s' l' => by
  unfold Nd.eqb
  simp only [Bool.and_eq_true, decide_eq_true_eq, rowEqb_iff l l', Nd.mk.injEq]
theorem rowEqb_iff : ∀ l q : List Nd, rowEqb l q = true ↔ l = q
 | [], [] => by simp [rowEqb]
 | x :: r, y :: q => by
  unfold rowEqb
  simp only [Bool.and_eq_true, eqb_iff x y, rowEqb_iff r q, List.cons.injEq]
 | [], _ :: _ => by simp [rowEqb]
 | _ :: _, [] => by simp [rowEqb]
end
theorem rowEqb_len : ∀ {l q : List Nd}, l.length ≠ q.length → rowEqb l q = false
 | [], [], h => absurd rfl h
 | x :: r, y :: q, h => by
  unfold rowEqb
  rw [rowEqb_len (by simpa using h)]; simp
 | [], _ :: _, _ => by simp [rowEqb]
 | _ :: _, [], _ => by simp [rowEqb]
theorem rowEqb_at {l q : List Nd} {j : Nat} (hj : j < l.length) (hq : j < q.length) : rowEqb (l.drop j) (q.drop j) = (l[j].eqb q[j] && rowEqb (l.drop (j + 1)) (q.drop (j + 1))) := by
 rw [List.drop_eq_getElem_cons hj, List.drop_eq_getElem_cons hq, rowEqb]
mutual
theorem rowSits_ltA {S : Nat → Prop} {w : World} : ∀ (l : List Nd) (a : Option Addr), rowSits S w l a → rowSits (· < w.heap.size) w l a
 | [], _, _ => by simp [rowSits]
 | t :: r, a, h => by
  simp only [rowSits] at h ⊢; obtain ⟨b, o, a', c, rfl, hb, h0, h1, h2, h3, hs, hr⟩ := h
  exact ⟨b, o, a', c, rfl, cell_lt h0, h0, h1, h2, h3, sits_ltA t a' hs, rowSits_ltA r _ hr⟩
theorem sits_ltA {S : Nat → Prop} {w : World} : ∀ (t : Nd) (a : Option Addr), t.sits S w a → t.sits (· < w.heap.size) w a
 | .mk _ _ _ l, a, h => by
  simp only [Nd.sits] at h ⊢
  exact rowSits_ltA l a h
end
def EqC (x y : Nd) : Prop := ∀ (S S' : Nat → Prop) (a a' : Option Addr) (c c' : Nat) (w : World), x.sits S w a → y.sits S' w a' → Calls Tryz.prog 13 #[x.val a c, y.val a' c'] w fun e w' => e = .returned (.bool (x.eqb y)) ∧ Ext w w'
set_option maxRecDepth 100000 in
set_option maxHeartbeats 1000000 in
theorem EqualFunc_b (l q : List Nd) (h : ∀ x ∈ l, ∀ y, EqC x y) (S S' : Nat → Prop) (a a' : Option Addr) (c c' : Nat) (w : World) (hl : l.length ≤ 1000000000) (hs : rowSits S w l a) (hs' : rowSits S' w q a') :
 Calls Tryz.prog 35 #[.slice a l.length c, .slice a' q.length c', .func (.func 13) #[] #[]] w fun e w' => e = .returned (.bool (rowEqb l q)) ∧ Ext w w' := by
 have X := Ext.refl w
 have H := Lib.hid h; clear h
 by_cases hne : l.length = q.length
 · refine calls_in Tryz.func35 Tryz.ntmps35 rfl rfl ?_
   focus
    refine cS (cA rfl rfl (cT (cw_seq (cS (cM rfl rfl (lw_pure (pur_len_slice tabOk rfl rfl) rfl (cM rfl rfl (lw_pure (pur_len_slice tabOk rfl rfl) rfl (lw_pure (pur_neq rfl rfl) rfl (cT ?_)))))))))); refine cw_no rfl (by omega) ?_; refine cw_skip (qw_then (cw_seq (cS (cM rfl rfl (lw_pure (pur_len_slice tabOk rfl rfl) rfl (cM rfl rfl (cT (cw_block ?_)))))))); rotate_left 1
   replace hs := rowSits_ltA _ _ hs; replace hs' := rowSits_ltA _ _ hs'; refine cw_loop (ι := Nat) (fun j => [(1, .slice a' q.length c'), (2, .func (.func 13) #[] #[]), (15, .slice a l.length c), (16, .int .i64 l.length), (17, .int .i64 j)])
    (fun j w' => j ≤ l.length ∧ rowSits (· < w.heap.size) w' l a ∧ rowSits (· < w.heap.size) w' q a' ∧ rowEqb l q = rowEqb (l.drop j) (q.drop j) ∧ Ext w w') (fun j => l.length - j) 0 (by (refine sub_cons rfl ?_; refine sub_cons rfl ?_; refine sub_cons rfl ?_; refine sub_cons rfl ?_; refine sub_cons rfl ?_; exact sub_nil)) ⟨Nat.zero_le _, hs, hs', rfl, X⟩ ?_
   clear hs hs' X; rintro j w1 ⟨hj, hs, hs', he, X⟩; have hsz := X.size
   by_cases hlt : j < l.length
   · have hlt2 : j < q.length := by omega
     obtain ⟨kb, ko, rfl, hkS, hkid⟩ := kidRows hs (by intro e; subst e; simp at hlt); obtain ⟨kb', ko', rfl, hkS', hkid'⟩ := kidRows hs' (by intro e; subst e; simp at hlt2); obtain ⟨xa, xc, rx, sx⟩ := hkid j l[j] (List.getElem?_eq_getElem hlt); obtain ⟨ya, yc, ry, sy⟩ := hkid' j q[j] (List.getElem?_eq_getElem hlt2); have HC := H.out l[j] (List.getElem_mem hlt) q[j]; rw [rowEqb_at hlt hlt2] at he
     have H2 := Lib.hid HC; clear HC hkid hkid' H
     generalize l[j] = x at *
     generalize q[j] = y at *
     focus
      refine cS (lw_pure (pur_lss rfl rfl) rfl (cT (cw_seq ?_))); refine cw_yes rfl (by omega) ?_; refine cw_skip (qw_then (cw_seq (cw_block (cS (cM rfl rfl ?_))))); refine lw_pure (pur_indexAddr tabOk rfl rfl rfl rfl (by omega) (by omega)) rfl ?_; refine lw_loads_r0 tabOk rfl rfl rfl rx rfl rfl ?_; (refine lw_alloc' [_, _, _, _] zOk rfl rfl ?_; intro ba1 wa2 na3); have ha5 := na3.blk; have xa6 := na3.ext; have pa7 := na3.pos; have za8 := na3.size; clear na3; replace X := X.ext xa6; replace hs := Bk.rowSits.ext hs xa6; replace hs' := Bk.rowSits.ext hs' xa6; replace rx := rx.ext xa6; replace sx := Nd.sits.ext sx xa6; replace ry := ry.ext xa6; replace sy := Nd.sits.ext sy xa6; clear xa6; refine cA rfl rfl ?_; (refine lw_store' [_, _, _, _] [_, _, _, _] tabOk rfl rfl rfl rfl rfl rfl ha5 rfl rfl ?_; intro wa9 na10); have ha13 := na10.blk; have fa11 := na10.fr; have za12 := na10.size; clear na10 ha5; replace X := X.fr fa11 (by omega); replace hs := Bk.rowSits.fr hs fa11 (by omega); replace hs' := Bk.rowSits.fr hs' fa11 (by omega); replace rx := Row.fr rx fa11 (by simp only; omega); replace sx := Nd.sits.fr sx fa11 (by omega); replace ry := Row.fr ry fa11 (by simp only; omega); replace sy := Nd.sits.fr sy fa11 (by omega); clear fa11; refine cN (cM rfl rfl (cM rfl rfl ?_)); refine lw_pure (pur_indexAddr tabOk rfl rfl rfl rfl (by omega) (by omega)) rfl ?_; refine lw_loads_r0 tabOk rfl rfl rfl ry rfl rfl ?_; (refine lw_alloc' [_, _, _, _] zOk rfl rfl ?_; intro ba14 wa15 na16); (refine lw_init' [_, _, _, _] tabOk rfl rfl rfl rfl rfl rfl na16 rfl ?_; clear na16; clear wa15; intro wa17 na16)
      have ha18 := na16.blk; have xa19 := na16.ext; have pa20 := na16.pos; have za21 := na16.size; clear na16; replace ha13 := ha13.ext xa19; replace X := X.ext xa19; replace hs := Bk.rowSits.ext hs xa19; replace hs' := Bk.rowSits.ext hs' xa19; replace rx := rx.ext xa19; replace sx := Nd.sits.ext sx xa19; replace ry := ry.ext xa19; replace sy := Nd.sits.ext sy xa19; clear xa19; refine cN (cM rfl rfl (lw_loads_b' [_, _, _, _] tabOk rfl rfl rfl ha13 rfl rfl rfl (lw_loads_b' [_, _, _, _] tabOk rfl rfl rfl ha18 rfl rfl rfl ?_))); refine lw_does (does_callv (fi := []) (ca := []) (by kernel_rfl) rfl rfl (H2.out _ _ _ _ _ _ _ (by assumption) (by assumption)) (fun _ _ h => ⟨_, h.1⟩)) rfl ?_ (fun _ h => h); rintro va22 wa23 ⟨⟨⟩, xa24⟩; have za25 := xa24.size; replace ha18 := ha18.ext xa24; replace ha13 := ha13.ext xa24; replace X := X.ext xa24; replace hs := Bk.rowSits.ext hs xa24; replace hs' := Bk.rowSits.ext hs' xa24; replace rx := rx.ext xa24; replace sx := Nd.sits.ext sx xa24; replace ry := ry.ext xa24; replace sy := Nd.sits.ext sy xa24; clear xa24; refine lw_pure (pur_not rfl) rfl (cT ?_); refine cw_ncond rfl (fun ca26 => ?_) (fun ca26 => ?_); refine cS (cA rfl rfl (cT (cw_ret (qw_block_ret (qw_then_ret (qw_then_ret (qw_block_ret (qw_then_ret (qw_ret1 rfl rfl ?_))))))))); rotate_left 1; refine cw_skip (qw_block_norm (qw_then (cw_region ?_))); refine lw_pure (pur_add rfl rfl (IntWalk.i64_in _ (by omega))) rfl ?_; refine cM rfl rfl (lw_nil ?_); rotate_left 1
     · exact ⟨by rw [he, ca26]; rfl, X⟩
     · rw [ca26, Bool.true_and] at he
       exact qw_round (j + 1) (by (refine sub_cons rfl ?_; refine sub_cons rfl ?_; refine sub_cons rfl ?_; refine sub_cons rfl ?_; refine sub_cons rfl ?_; exact sub_nil)) ⟨by omega, hs, hs', he, X⟩ (by omega)
   · obtain rfl : j = l.length := by omega
     rw [List.drop_length, hne, List.drop_length] at he
     focus
      refine cS (lw_pure (pur_lss rfl rfl) rfl (cT (cw_seq ?_))); refine cw_no rfl (by omega) ?_; refine cw_exit (qw_then_exit (qw_then_exit (qw_block_exit (qw_then (cS (cA rfl rfl (cT (cw_ret (qw_ret1 rfl rfl ?_))))))))); rotate_left 1
     exact ⟨by rw [he]; rfl, X⟩
 · rw [rowEqb_len hne]
   refine calls_in Tryz.func35 Tryz.ntmps35 rfl rfl ?_
   focus
    refine cS (cA rfl rfl (cT (cw_seq (cS (cM rfl rfl (lw_pure (pur_len_slice tabOk rfl rfl) rfl (cM rfl rfl (lw_pure (pur_len_slice tabOk rfl rfl) rfl (lw_pure (pur_neq rfl rfl) rfl (cT ?_)))))))))); refine cw_yes rfl (by omega) ?_; refine cS (cA rfl rfl (cT (cw_ret (qw_then_ret (qw_ret1 rfl rfl ?_))))); rotate_left 1
   exact ⟨rfl, X⟩
theorem size_memA : ∀ {l : List Nd} {x : Nd}, x ∈ l → x.size ≤ rowSize l
 | [], x, hx => by cases hx
 | t :: r, x, hx => by
  simp only [rowSize]
  rcases List.mem_cons.1 hx with rfl | hx
  · omega
  · have := size_memA hx; omega
theorem length_rowA (l : List Nd) : l.length ≤ rowSize l := by
 induction l with
 | nil => simp [rowSize]
 | cons x r ih => have : 1 ≤ x.size := by cases x; simp only [Nd.size]; omega
                  simp only [rowSize, List.length_cons]; omega
set_option maxRecDepth 100000 in
set_option maxHeartbeats 1000000 in
theorem Equal_b (N : Nat) : ∀ (t u : Nd) (S S' : Nat → Prop) (a a' : Option Addr) (c c' : Nat) (w : World), t.size < N → t.size ≤ 1000000000 → t.sits S w a → u.sits S' w a' →
 Calls Tryz.prog 13 #[t.val a c, u.val a' c'] w fun e w' => e = .returned (.bool (t.eqb u)) ∧ Ext w w' := by
 induction N with
 | zero => intro t u S S' a a' c c' w h; omega
 | succ N ih =>
  rintro ⟨k, n, s, l⟩ ⟨k', n', s', q⟩ S S' a a' c c' w hN hM hs hs'; simp only [Nd.sits] at hs hs'; simp only [Nd.size] at hN hM; have hll := length_rowA l
  have hC : ∀ x ∈ l, ∀ y, EqC x y := fun x hx y S S' a a' c c' w h1 h2 => by
   have := size_memA hx
   exact ih x y S S' a a' c c' w (by omega) (by omega) h1 h2
  have HF := Lib.hid (fun w => EqualFunc_b l q hC S S' a a' c c' w (by omega)); clear hC ih; simp only [Nd.val, Nd.kind, Nd.num, Nd.name, Nd.kids]
  unfold Nd.eqb
  have X := Ext.refl w
  by_cases hk : k = k'
  · by_cases hn : n = n'
    · by_cases hsn : s = s'
      · rw [decide_eq_true hk, decide_eq_true hn, decide_eq_true hsn, Bool.true_and, Bool.true_and, Bool.true_and]
        subst hk hn hsn; refine calls_in Tryz.func13 Tryz.ntmps13 rfl rfl ?_
        focus
         refine cS ?_; (refine lw_box' [_, _, _, _] rfl rfl rfl ?_; intro b1 w2 n3); have h4 := n3.blk; have x5 := n3.ext; have p6 := n3.pos; have z7 := n3.size; clear n3; replace hs := Bk.rowSits.ext hs x5; replace hs' := Bk.rowSits.ext hs' x5; replace X := X.ext x5; clear x5; (refine lw_box' [_, _, _, _] rfl rfl rfl ?_; intro b8 w9 n10); have h11 := n10.blk; have x12 := n10.ext; have p13 := n10.pos; have z14 := n10.size; clear n10; replace h4 := h4.ext x12; replace hs := Bk.rowSits.ext hs x12; replace hs' := Bk.rowSits.ext hs' x12; replace X := X.ext x12; clear x12; refine cA rfl rfl (cN (lw_pure (pur_fieldAddr0 tabOk rfl rfl rfl) rfl (lw_load_b tabOk rfl rfl rfl h4 rfl rfl (lw_pure (pur_fieldAddr0 tabOk rfl rfl rfl) rfl (lw_load_b tabOk rfl rfl rfl h11 rfl rfl (lw_pure (pur_eql rfl rfl) rfl (cM rfl rfl ?_))))))); refine lw_on rfl rfl rfl (gd_tt (by omega)) ?_; refine lw_pure (pur_fieldAddr tabOk rfl rfl rfl) rfl ?_; refine lw_on rfl rfl rfl (gd_tt (by omega)) ?_; refine lw_load_b tabOk rfl rfl rfl h4 rfl rfl ?_; refine lw_on rfl rfl rfl (gd_tt (by omega)) ?_; refine lw_pure (pur_fieldAddr tabOk rfl rfl rfl) rfl ?_; refine lw_on rfl rfl rfl (gd_tt (by omega)) ?_; refine lw_load_b tabOk rfl rfl rfl h11 rfl rfl ?_; refine lw_on rfl rfl rfl (gd_tt (by omega)) ?_; refine lw_pure (pur_eql rfl rfl) rfl ?_; refine lw_pure (pur_pick_yes rfl rfl (by omega)) rfl ?_; refine cM rfl rfl ?_; refine lw_on rfl rfl rfl (gd_tt (by omega)) ?_; refine lw_pure (pur_fieldAddr tabOk rfl rfl rfl) rfl ?_
         refine lw_on rfl rfl rfl (gd_tt (by omega)) ?_; refine lw_load_b tabOk rfl rfl rfl h4 rfl rfl ?_; refine lw_on rfl rfl rfl (gd_tt (by omega)) ?_; refine lw_pure (pur_fieldAddr tabOk rfl rfl rfl) rfl ?_; refine lw_on rfl rfl rfl (gd_tt (by omega)) ?_; refine lw_load_b tabOk rfl rfl rfl h11 rfl rfl ?_; refine lw_on rfl rfl rfl (gd_tt (by omega)) ?_; refine lw_pure (pur_seql rfl rfl) rfl ?_; refine lw_pure (pur_pick_yes rfl rfl (by omega)) rfl ?_; refine cM rfl rfl (lw_on rfl rfl rfl (gd_tt (rfl)) (lw_pure (pur_fieldAddr tabOk rfl rfl rfl) rfl (lw_on rfl rfl rfl (gd_tt (rfl)) (lw_load_b tabOk rfl rfl rfl h4 rfl rfl (lw_on rfl rfl rfl (gd_tt (rfl)) (lw_pure (pur_fieldAddr tabOk rfl rfl rfl) rfl (lw_on rfl rfl rfl (gd_tt (rfl)) (lw_load_b tabOk rfl rfl rfl h11 rfl rfl (lw_on rfl rfl rfl (gd_tt (rfl)) ?_))))))))); refine cC (by kernel_rfl) rfl (HF.out _ (by assumption) (by assumption)) rfl ?_; rintro _ w16 ⟨⟨⟩, x15⟩; have z17 := x15.size; replace h11 := h11.ext x15; replace h4 := h4.ext x15; replace hs := Bk.rowSits.ext hs x15; replace hs' := Bk.rowSits.ext hs' x15; replace X := X.ext x15; clear x15; refine lw_pure (pur_pick_yes rfl rfl (rfl)) rfl (cA rfl rfl (cT (cw_ret (qw_ret1 rfl rfl ?_)))); rotate_left 1
        exact ⟨rfl, X⟩
      · rw [decide_eq_true hk, decide_eq_true hn, decide_eq_false hsn, Bool.true_and, Bool.true_and, Bool.false_and]
        subst hk hn; refine calls_in Tryz.func13 Tryz.ntmps13 rfl rfl ?_
        focus
         refine cS ?_; (refine lw_box' [_, _, _, _] rfl rfl rfl ?_; intro ba1 wa2 na3); have ha4 := na3.blk; have xa5 := na3.ext; have pa6 := na3.pos; have za7 := na3.size; clear na3; replace hs := Bk.rowSits.ext hs xa5; replace hs' := Bk.rowSits.ext hs' xa5; replace X := X.ext xa5; clear xa5; (refine lw_box' [_, _, _, _] rfl rfl rfl ?_; intro ba8 wa9 na10); have ha11 := na10.blk; have xa12 := na10.ext; have pa13 := na10.pos; have za14 := na10.size; clear na10; replace ha4 := ha4.ext xa12; replace hs := Bk.rowSits.ext hs xa12; replace hs' := Bk.rowSits.ext hs' xa12; replace X := X.ext xa12; clear xa12; refine cA rfl rfl (cN (lw_pure (pur_fieldAddr0 tabOk rfl rfl rfl) rfl (lw_load_b tabOk rfl rfl rfl ha4 rfl rfl (lw_pure (pur_fieldAddr0 tabOk rfl rfl rfl) rfl (lw_load_b tabOk rfl rfl rfl ha11 rfl rfl (lw_pure (pur_eql rfl rfl) rfl (cM rfl rfl ?_))))))); refine lw_on rfl rfl rfl (gd_tt (by omega)) ?_; refine lw_pure (pur_fieldAddr tabOk rfl rfl rfl) rfl ?_; refine lw_on rfl rfl rfl (gd_tt (by omega)) ?_; refine lw_load_b tabOk rfl rfl rfl ha4 rfl rfl ?_; refine lw_on rfl rfl rfl (gd_tt (by omega)) ?_; refine lw_pure (pur_fieldAddr tabOk rfl rfl rfl) rfl ?_; refine lw_on rfl rfl rfl (gd_tt (by omega)) ?_; refine lw_load_b tabOk rfl rfl rfl ha11 rfl rfl ?_; refine lw_on rfl rfl rfl (gd_tt (by omega)) ?_; refine lw_pure (pur_eql rfl rfl) rfl ?_; refine lw_pure (pur_pick_yes rfl rfl (by omega)) rfl ?_; refine cM rfl rfl ?_; refine lw_on rfl rfl rfl (gd_tt (by omega)) ?_; refine lw_pure (pur_fieldAddr tabOk rfl rfl rfl) rfl ?_
         refine lw_on rfl rfl rfl (gd_tt (by omega)) ?_; refine lw_load_b tabOk rfl rfl rfl ha4 rfl rfl ?_; refine lw_on rfl rfl rfl (gd_tt (by omega)) ?_; refine lw_pure (pur_fieldAddr tabOk rfl rfl rfl) rfl ?_; refine lw_on rfl rfl rfl (gd_tt (by omega)) ?_; refine lw_load_b tabOk rfl rfl rfl ha11 rfl rfl ?_; refine lw_on rfl rfl rfl (gd_tt (by omega)) ?_; refine lw_pure (pur_seql rfl rfl) rfl ?_; refine lw_pure (pur_pick_yes rfl rfl (by omega)) rfl ?_; refine cM rfl rfl ?_; refine lw_off rfl rfl rfl (gd_tf (by assumption)) rfl ?_; refine lw_off rfl rfl rfl (gd_tf (by assumption)) rfl ?_; refine lw_off rfl rfl rfl (gd_tf (by assumption)) rfl ?_; refine lw_off rfl rfl rfl (gd_tf (by assumption)) rfl ?_; refine lw_off rfl rfl rfl (gd_tf (by assumption)) rfl ?_; refine lw_pure (pur_pick_no rfl rfl (by assumption)) rfl ?_; refine cA rfl rfl (cT (cw_ret (qw_ret1 rfl rfl ?_))); rotate_left 1
        exact ⟨rfl, X⟩
    · rw [decide_eq_true hk, decide_eq_false hn, Bool.true_and, Bool.false_and]
      subst hk; refine calls_in Tryz.func13 Tryz.ntmps13 rfl rfl ?_
      focus
       refine cS ?_; (refine lw_box' [_, _, _, _] rfl rfl rfl ?_; intro bb1 wb2 nb3); have hb4 := nb3.blk; have xb5 := nb3.ext; have pb6 := nb3.pos; have zb7 := nb3.size; clear nb3; replace hs := Bk.rowSits.ext hs xb5; replace hs' := Bk.rowSits.ext hs' xb5; replace X := X.ext xb5; clear xb5; (refine lw_box' [_, _, _, _] rfl rfl rfl ?_; intro bb8 wb9 nb10); have hb11 := nb10.blk; have xb12 := nb10.ext; have pb13 := nb10.pos; have zb14 := nb10.size; clear nb10; replace hb4 := hb4.ext xb12; replace hs := Bk.rowSits.ext hs xb12; replace hs' := Bk.rowSits.ext hs' xb12; replace X := X.ext xb12; clear xb12; refine cA rfl rfl (cN (lw_pure (pur_fieldAddr0 tabOk rfl rfl rfl) rfl (lw_load_b tabOk rfl rfl rfl hb4 rfl rfl (lw_pure (pur_fieldAddr0 tabOk rfl rfl rfl) rfl (lw_load_b tabOk rfl rfl rfl hb11 rfl rfl (lw_pure (pur_eql rfl rfl) rfl (cM rfl rfl ?_))))))); refine lw_on rfl rfl rfl (gd_tt (by omega)) ?_; refine lw_pure (pur_fieldAddr tabOk rfl rfl rfl) rfl ?_; refine lw_on rfl rfl rfl (gd_tt (by omega)) ?_; refine lw_load_b tabOk rfl rfl rfl hb4 rfl rfl ?_; refine lw_on rfl rfl rfl (gd_tt (by omega)) ?_; refine lw_pure (pur_fieldAddr tabOk rfl rfl rfl) rfl ?_; refine lw_on rfl rfl rfl (gd_tt (by omega)) ?_; refine lw_load_b tabOk rfl rfl rfl hb11 rfl rfl ?_; refine lw_on rfl rfl rfl (gd_tt (by omega)) ?_; refine lw_pure (pur_eql rfl rfl) rfl ?_; refine lw_pure (pur_pick_yes rfl rfl (by omega)) rfl ?_; refine cM rfl rfl ?_; refine lw_off rfl rfl rfl (gd_tf (by assumption)) rfl ?_; refine lw_off rfl rfl rfl (gd_tf (by assumption)) rfl ?_
       refine lw_off rfl rfl rfl (gd_tf (by assumption)) rfl ?_; refine lw_off rfl rfl rfl (gd_tf (by assumption)) rfl ?_; refine lw_off rfl rfl rfl (gd_tf (by assumption)) rfl ?_; refine lw_pure (pur_pick_no rfl rfl (by assumption)) rfl ?_; refine cM rfl rfl (lw_off rfl rfl rfl (rfl) rfl (lw_off rfl rfl rfl (rfl) rfl (lw_off rfl rfl rfl (rfl) rfl (lw_off rfl rfl rfl (rfl) rfl (lw_off rfl rfl rfl (rfl) rfl (lw_pure (pur_pick_f rfl rfl rfl) rfl (cA rfl rfl (cT (cw_ret (qw_ret1 rfl rfl ?_)))))))))); rotate_left 1
      exact ⟨rfl, X⟩
  · rw [decide_eq_false hk, Bool.false_and]
    refine calls_in Tryz.func13 Tryz.ntmps13 rfl rfl ?_
    focus
     refine cS ?_; (refine lw_box' [_, _, _, _] rfl rfl rfl ?_; intro bc1 wc2 nc3); have hc4 := nc3.blk; have xc5 := nc3.ext; have pc6 := nc3.pos; have zc7 := nc3.size; clear nc3; replace hs := Bk.rowSits.ext hs xc5; replace hs' := Bk.rowSits.ext hs' xc5; replace X := X.ext xc5; clear xc5; (refine lw_box' [_, _, _, _] rfl rfl rfl ?_; intro bc8 wc9 nc10); have hc11 := nc10.blk; have xc12 := nc10.ext; have pc13 := nc10.pos; have zc14 := nc10.size; clear nc10; replace hc4 := hc4.ext xc12; replace hs := Bk.rowSits.ext hs xc12; replace hs' := Bk.rowSits.ext hs' xc12; replace X := X.ext xc12; clear xc12; refine cA rfl rfl (cN (lw_pure (pur_fieldAddr0 tabOk rfl rfl rfl) rfl (lw_load_b tabOk rfl rfl rfl hc4 rfl rfl (lw_pure (pur_fieldAddr0 tabOk rfl rfl rfl) rfl (lw_load_b tabOk rfl rfl rfl hc11 rfl rfl (lw_pure (pur_eql rfl rfl) rfl (cM rfl rfl ?_))))))); refine lw_off rfl rfl rfl (gd_tf (by assumption)) rfl ?_; refine lw_off rfl rfl rfl (gd_tf (by assumption)) rfl ?_; refine lw_off rfl rfl rfl (gd_tf (by assumption)) rfl ?_; refine lw_off rfl rfl rfl (gd_tf (by assumption)) rfl ?_; refine lw_off rfl rfl rfl (gd_tf (by assumption)) rfl ?_; refine lw_pure (pur_pick_no rfl rfl (by assumption)) rfl ?_; refine cM rfl rfl (lw_off rfl rfl rfl (rfl) rfl (lw_off rfl rfl rfl (rfl) rfl (lw_off rfl rfl rfl (rfl) rfl (lw_off rfl rfl rfl (rfl) rfl (lw_off rfl rfl rfl (rfl) rfl (lw_pure (pur_pick_f rfl rfl rfl) rfl (cM rfl rfl (lw_off rfl rfl rfl (rfl) rfl (lw_off rfl rfl rfl (rfl) rfl (lw_off rfl rfl rfl (rfl) rfl (lw_off rfl rfl rfl (rfl) rfl ?_)))))))))))
     refine lw_off rfl rfl rfl (rfl) rfl (lw_pure (pur_pick_f rfl rfl rfl) rfl (cA rfl rfl (cT (cw_ret (qw_ret1 rfl rfl ?_))))); rotate_left 1
    exact ⟨rfl, X⟩
end Bk
namespace Bk
open Go
def pre (acc : List Tok) (r : List Tok × Option Nat) : List Tok × Option Nat := match r.2 with
 | none => (acc ++ r.1, none)
 | some p => ([], some p)
theorem pre_pre (a b : List Tok) (r : List Tok × Option Nat) : pre a (pre b r) = pre (a ++ b) r := by
 rcases r with ⟨l, _ | p⟩ <;> simp [pre]
theorem lexGo_acc (s : List UInt8) : ∀ (k p : Nat) (acc : List Tok), lexGo k s p acc = pre acc (lexGo k s p [])
 | 0, p, acc => by simp [lexGo, pre]
 | k + 1, p, acc => by
  rw [lexGo, lexGo]
  split
  · split
    · simp [pre]
    · rw [lexGo_acc s k _ (acc ++ _), lexGo_acc s k _ ([] ++ _), pre_pre]
      simp
  · simp [pre]
theorem lexGo_fuel (s : List UInt8) : ∀ (k k' p : Nat) (acc : List Tok), s.length - p < k → s.length - p < k' → lexGo k s p acc = lexGo k' s p acc
 | 0, _, _, _, h, _ => by omega
 | _, 0, _, _, _, h => by omega
 | k + 1, k' + 1, p, acc, h, h' => by
  rw [lexGo, lexGo]
  split
  · split
    · rfl
    · exact lexGo_fuel s k k' _ _ (by omega) (by omega)
  · rfl
def lexFrom (s : List UInt8) (p : Nat) : List Tok × Option Nat := lexGo (s.length + 1) s p []
def tokAt (s : List UInt8) (p : Nat) : Tok := ⟨((firstTok (s.drop p)).1 : Nat), (s.drop p).take (firstTok (s.drop p)).2, (p : Int)⟩
theorem lexFrom_end {s : List UInt8} {p : Nat} (h : s.length ≤ p) : lexFrom s p = ([], none) := by
 unfold lexFrom; rw [lexGo, if_neg (by omega)]
theorem lexFrom_err {s : List UInt8} {p : Nat} (h : p < s.length) (h0 : (firstTok (s.drop p)).2 = 0) : lexFrom s p = ([], some p) := by
 unfold lexFrom; rw [lexGo, if_pos h, if_pos h0]
theorem lexFrom_step {s : List UInt8} {p : Nat} (h : p < s.length) (h0 : (firstTok (s.drop p)).2 ≠ 0) : lexFrom s p = pre [tokAt s p] (lexFrom s (p + (firstTok (s.drop p)).2)) := by
 unfold lexFrom
 rw [lexGo, if_pos h, if_neg h0, lexGo_acc]; rw [lexGo_fuel s s.length (s.length + 1) _ _ (by omega) (by omega)]
 rfl
def solidR (r : List Tok × Option Nat) : List Tok × Option Nat := match r.2 with
 | none => (solidT r.1, none)
 | some p => ([], some p)
def solidFrom (s : List UInt8) (p : Nat) : List Tok × Option Nat := solidR (lexFrom s p)
theorem solidR_pre (t : Tok) (r : List Tok × Option Nat) : solidR (pre [t] r) = if t.kind ≠ 4 ∧ t.kind ≠ 5 then pre [t] (solidR r) else solidR r := by
 rcases r with ⟨l, _ | p⟩
 · by_cases h : t.kind ≠ 4 ∧ t.kind ≠ 5
   · simp [pre, solidR, solidT, List.filter_cons, h]
   · rw [if_neg h]
     have : (decide (t.kind ≠ 4) && decide (t.kind ≠ 5)) = false := by
      simp only [Bool.and_eq_false_iff, decide_eq_false_iff_not]; omega
     simp only [pre, solidR, solidT, List.singleton_append, List.filter_cons, this]
     simp
 · simp [pre, solidR]
theorem solidFrom_end {s : List UInt8} {p : Nat} (h : s.length ≤ p) : solidFrom s p = ([], none) := by
 unfold solidFrom; rw [lexFrom_end h]; rfl
theorem solidFrom_err {s : List UInt8} {p : Nat} (h : p < s.length) (h0 : (firstTok (s.drop p)).2 = 0) : solidFrom s p = ([], some p) := by
 unfold solidFrom; rw [lexFrom_err h h0]; rfl
theorem solidFrom_tok {s : List UInt8} {p : Nat} (h : p < s.length) (h0 : (firstTok (s.drop p)).2 ≠ 0) (h4 : (firstTok (s.drop p)).1 ≠ 4) (h5 : (firstTok (s.drop p)).1 ≠ 5) :
 solidFrom s p = pre [tokAt s p] (solidFrom s (p + (firstTok (s.drop p)).2)) := by
 unfold solidFrom; rw [lexFrom_step h h0, solidR_pre, if_pos]
 constructor <;> simp only [tokAt] <;> omega
theorem solidFrom_skip {s : List UInt8} {p : Nat} (h : p < s.length) (h0 : (firstTok (s.drop p)).2 ≠ 0) (h4 : (firstTok (s.drop p)).1 = 4 ∨ (firstTok (s.drop p)).1 = 5) :
 solidFrom s p = solidFrom s (p + (firstTok (s.drop p)).2) := by
 unfold solidFrom; rw [lexFrom_step h h0, solidR_pre, if_neg]
 simp only [tokAt]; omega
theorem blank_parts {c : UInt8} (h : blank c = true) : letter c = false ∧ digit c = false ∧ c ≠ 35 := by
 simp only [blank, Bool.or_eq_true, decide_eq_true_eq] at h; refine ⟨?_, ?_, ?_⟩
 · simp only [letter, Bool.and_eq_false_iff, decide_eq_false_iff_not]; omega
 · simp only [digit, Bool.and_eq_false_iff, decide_eq_false_iff_not]; omega
 · rintro rfl; exact absurd h (by decide)
theorem firstTok_blank {c : UInt8} {r : List UInt8} (h : blank c = true) : firstTok (c :: r) = (4, 1 + span blank r) := by
 obtain ⟨h1, h2, -⟩ := blank_parts h
 simp [firstTok, h, h1, h2, span, List.takeWhile_cons]; omega
theorem firstTok_hash {r : List UInt8} : firstTok (35 :: r) = (5, 1 + span notLf r) := by
 have h1 : letter 35 = false := by decide
 have h2 : digit 35 = false := by decide
 have h3 : blank 35 = false := by decide
 have h4 : notLf 35 = true := by decide
 simp [firstTok, h1, h2, h3, h4, span, List.takeWhile_cons]; omega
def signsL : List (List UInt8) := [[60, 61, 62], [58, 61], [43, 61], [45, 61], [94, 61], [61, 61], [33, 61], [60, 61], [62, 61], [38, 38], [124, 124], [43], [45], [42], [47], [37], [38], [124], [94], [33], [61], [60], [62], [40], [41], [123], [125], [91], [93], [59], [44]]
def pickLen (L : List (List UInt8)) (s : List UInt8) : Nat := ((L.find? (·.isPrefixOf s)).map List.length).getD 0
theorem prefix_take {x s : List UInt8} : x.isPrefixOf s = true ↔ x = s.take x.length := by
 rw [List.isPrefixOf_iff_prefix, List.prefix_iff_eq_take]
end Bk
namespace Bk
open Go
def Tok.sh (d : Nat) (t : Tok) : Tok := ⟨t.kind, t.text, t.pos + d⟩
def shR (d : Nat) (r : List Tok × Option Nat) : List Tok × Option Nat := (r.1.map (Tok.sh d), r.2.map (· + d))
def sepC (c : UInt8) : Prop := blank c = true ∨ c = 35
end Bk
namespace Bk
open Go
theorem startOk {s : List UInt8} (h : ¬ 65536 < s.length) (h1 : (solidFrom s 0).2 = none) : startP s = ((solidFrom s 0).1, ⟨0, 0, 0⟩) := by
 unfold solidFrom lexFrom at *
 unfold startP lexT
 rw [if_neg h]
 generalize lexGo (s.length + 1) s 0 [] = r at *
 obtain ⟨l, e⟩ := r
 cases e with
 | none => rfl
 | some q => simp [solidR] at h1
theorem startBad {s : List UInt8} {q : Nat} (h : ¬ 65536 < s.length) (h1 : (solidFrom s 0).2 = some q) : startP s = ([], ⟨0, q, 3⟩) := by
 unfold solidFrom lexFrom at *
 unfold startP lexT
 rw [if_neg h]
 generalize lexGo (s.length + 1) s 0 [] = r at *
 obtain ⟨l, e⟩ := r
 cases e with
 | none => simp [solidR] at h1
 | some q => simp only [solidR, Option.some.injEq] at h1; subst h1; rfl
theorem solidFrom_step {s : List UInt8} {p : Nat} {l : List Tok} (hp : p < s.length) (h : solidFrom s p = (l, none)) :
 (firstTok (s.drop p)).2 ≠ 0 ∧ (((firstTok (s.drop p)).1 = 4 ∨ (firstTok (s.drop p)).1 = 5) ∧ solidFrom s (p + (firstTok (s.drop p)).2) = (l, none) ∨
  ((firstTok (s.drop p)).1 ≠ 4 ∧ (firstTok (s.drop p)).1 ≠ 5) ∧ ∃ l', l = tokAt s p :: l' ∧ solidFrom s (p + (firstTok (s.drop p)).2) = (l', none)) := by
 by_cases h0 : (firstTok (s.drop p)).2 = 0
 · rw [solidFrom_err hp h0] at h; cases h
 · refine ⟨h0, ?_⟩
   by_cases h4 : (firstTok (s.drop p)).1 = 4 ∨ (firstTok (s.drop p)).1 = 5
   · left
     rw [solidFrom_skip hp h0 h4] at h
     exact ⟨h4, h⟩
   · right
     have h4' : (firstTok (s.drop p)).1 ≠ 4 ∧ (firstTok (s.drop p)).1 ≠ 5 := ⟨fun e => h4 (Or.inl e), fun e => h4 (Or.inr e)⟩; rw [solidFrom_tok hp h0 h4'.1 h4'.2] at h; refine ⟨h4', ?_⟩
     generalize solidFrom s (p + (firstTok (s.drop p)).2) = r at *
     obtain ⟨l', e⟩ := r
     cases e with
     | none => simp only [pre, List.singleton_append, Prod.mk.injEq, and_true] at h; exact ⟨l', h.symm, rfl⟩
     | some q => simp [pre] at h
structure CutAt (s : List UInt8) (p : Nat) (l : List Tok) (i : Nat) (q : Nat) : Prop where
 pos : (l.getD i Tok.zero).pos = (q : Int)
 le : p ≤ q
 ne : (l.getD i Tok.zero).text ≠ []
 text : (l.getD i Tok.zero).text = (s.drop q).take (l.getD i Tok.zero).text.length
 first : firstTok (s.drop q) = ((l.getD i Tok.zero).kind.toNat, (l.getD i Tok.zero).text.length)
 kind : (l.getD i Tok.zero).kind = (((firstTok (s.drop q)).1 : Nat) : Int)
 solid : (firstTok (s.drop q)).1 ≠ 4 ∧ (firstTok (s.drop q)).1 ≠ 5
 len : q + (l.getD i Tok.zero).text.length ≤ s.length
 before : solidFrom (s.take q) p = (l.take i, none)
 behind : solidFrom (s.take (q + (l.getD i Tok.zero).text.length)) p = (l.take (i + 1), none)
end Bk
