/- The statement ParserExpr holds: texts that its proof needs. No condition beyond the row's own. (Part 3 of 6.) -/
import Derived.Test.YtihgojmblldifaaGreatDoorPParserExpr2
set_option linter.unusedSimpArgs false
set_option linter.unusedVariables false
namespace Bk
open Go Go.RowKit Go.Proofs
attribute [local irreducible] Go.Calls
structure StmtsC (c : PC) (k : Nat) : Prop where
 stmt : ∀ (σ : PS) (w : World), PP c σ w → 4 * mS c.ts σ + 6 ≤ k → Calls Tryz.prog 44 #[.pointer (some ⟨c.pb, 0, none⟩)] w (TreeR c w (stmtP c.ts c.n k σ))
 branches : ∀ (kind : Int) (mid last : List UInt8) (σ : PS) (w : World), PP c σ w → In c.ts σ → mid ≠ [] → last ≠ [] → 4 * mS c.ts σ + 5 ≤ k → Calls Tryz.prog 90 #[.pointer (some ⟨c.pb, 0, none⟩), .int .u8 kind, str mid, str last] w (TreeR c w (branchesP c.ts c.n k kind mid last σ))
 local_ : ∀ (σ : PS) (w : World), PP c σ w → In c.ts σ → 4 * mS c.ts σ + 5 ≤ k → Calls Tryz.prog 91 #[.pointer (some ⟨c.pb, 0, none⟩)] w (TreeR c w (localP c.ts c.n k σ))
 block : ∀ (σ : PS) (w : World), PP c σ w → 4 * mS c.ts σ + 8 ≤ k → Calls Tryz.prog 108 #[.pointer (some ⟨c.pb, 0, none⟩)] w (TreeR c w (blockP c.ts c.n k σ))
set_option maxRecDepth 100000 in
set_option maxHeartbeats 2000000 in
theorem branches_w (c : PC) (k : Nat) (IH : ∀ j, j ≤ k → StmtsC c j) (kind : Int) (mid last : List UInt8) (σ : PS) (w : World) (hP : PP c σ w) (hi : In c.ts σ) (hmid : mid ≠ []) (hlast : last ≠ []) (hk : 4 * mS c.ts σ + 5 ≤ k + 1) :
 Calls Tryz.prog 90 #[.pointer (some ⟨c.pb, 0, none⟩), .int .u8 kind, str mid, str last] w (TreeR c w (branchesP c.ts c.n (k + 1) kind mid last σ)) := by
 have X := Fr.refl (· = c.pb) w
 have hpb := hP.pbB
 have hB := hP.B
 have hlen := hP.len
 have h2 := hi.2
 have hm := mS_next hi
 rw [branchesP]
 (try dsimp only)
 have l1 := next_le hi
 have l2 := expr_le (n := c.n) (k := k) (lv := 1) l1.wf
 have l3 := (stmt_inv (ts := c.ts) (n := c.n) k).2.2.2.1 _ l2.wf
 have l4 := expect_le (n := c.n) l3.wf hmid
 have l5 := (stmt_inv (ts := c.ts) (n := c.n) k).2.2.2.1 _ l4.wf
 have l6 := expect_le (n := c.n) l5.wf hlast
 have m2 := mS_le l2
 have m3 := mS_le l3
 have m4 := mS_le l4
 have m5 := mS_le l5
 have m6 := mS_le l6
 clear l1 l2 l3 l4 l5 l6
 refine calls_in Tryz.func90 Tryz.ntmps90 rfl rfl ?_
 focus
  refine cS ?_
  (refine lw_alloc' [_, _, _, _] zOk rfl rfl ?_; intro b1 w2 n3)
  have h5 := New.blk n3
  have x6 := New.ext n3
  have p7 := New.pos n3
  have z8 := New.size n3
  clear n3
  replace hP := PP.ext hP x6
  replace X := Fr.ext X x6
  clear x6
  refine cN (cM rfl rfl (lw_pure (pur_nilCheck rfl) rfl (lw_pure (pur_fieldAddr tabOk rfl rfl rfl) rfl (lw_load_b tabOk rfl rfl rfl (PP.blk hP) rfl rfl ?_))))
  refine lw_pure (pur_add rfl rfl (IntWalk.i64_in _ (by omega))) rfl ?_
  refine lw_pure (pur_nilCheck rfl) rfl (lw_pure (pur_fieldAddr tabOk rfl rfl rfl) rfl ?_)
  refine lw_pp_at tabOk rfl rfl rfl rfl (by assumption) h2 ?_
  rintro w9 h10 f11
  have z12 := Fr.size f11
  replace h5 := Blk.fr h5 f11 (by omega)
  clear hP
  replace X := Fr.fr X f11 (by omega)
  clear f11
  refine cN (cM rfl rfl ?_)
  refine lw_does (does_call (by kernel_rfl) rfl ((exprs_c c k).expr _ _ _ (by assumption) (by omega) (by decide) (by decide)) (fun _ _ h => h.ret)) rfl ?_ (fun _ h => h)
  rintro _ w18 ⟨a13, ⟨k14, ⟨⟨⟩, ⟨h15, ⟨h16, f17⟩⟩⟩⟩⟩
  have z19 := Fr.size f17
  clear h10
  replace h5 := Blk.fr h5 f17 (by omega)
  replace X := Fr.fr X f17 (by omega)
  clear f17
  (refine lw_alloc' [_, _, _, _] zOk rfl rfl ?_; intro b20 w21 n22)
  (refine lw_init' [_, _, _, _] tabOk rfl rfl rfl rfl rfl rfl n22 rfl ?_; clear n22; clear w21; intro w23 n22)
  have h24 := New.blk n22
  have x25 := New.ext n22
  have p26 := New.pos n22
  have z27 := New.size n22
  clear n22
  replace h15 := Nd.sits.ext h15 x25
  replace h16 := PP.ext h16 x25
  replace h5 := Blk.ext h5 x25
  replace X := Fr.ext X x25
  clear x25
  refine cN (cM rfl rfl ?_)
  refine lw_does (does_call (by kernel_rfl) rfl ((IH k (Nat.le_refl _)).block _ _ (by assumption) (by omega)) (fun _ _ h => h.ret)) rfl ?_ (fun _ h => h)
  rintro _ w33 ⟨a28, ⟨k29, ⟨⟨⟩, ⟨h30, ⟨h31, f32⟩⟩⟩⟩⟩
  have z34 := Fr.size f32
  replace h24 := Blk.fr h24 f32 (by omega)
  replace h15 := Nd.sits.fr h15 f32 (by omega)
  clear h16
  replace h5 := Blk.fr h5 f32 (by omega)
  replace X := Fr.fr X f32 (by omega)
  clear f32
  (refine lw_alloc' [_, _, _, _] zOk rfl rfl ?_; intro b35 w36 n37)
  (refine lw_init' [_, _, _, _] tabOk rfl rfl rfl rfl rfl rfl n37 rfl ?_; clear n37; clear w36; intro w38 n37)
  have h39 := New.blk n37
  have x40 := New.ext n37
  have p41 := New.pos n37
  have z42 := New.size n37
  clear n37
  replace h30 := Nd.sits.ext h30 x40
  replace h31 := PP.ext h31 x40
  replace h24 := Blk.ext h24 x40
  replace h15 := Nd.sits.ext h15 x40
  replace h5 := Blk.ext h5 x40
  replace X := Fr.ext X x40
  clear x40
  refine cN (cM rfl rfl (cM rfl rfl ?_))
  refine lw_does (does_call (by kernel_rfl) rfl (expect_c _ _ _ _ (by assumption) (by assumption)) (fun _ _ h => ⟨_, h.1⟩)) rfl ?_ (fun _ h => h)
  rintro _ w45 ⟨⟨⟩, ⟨h43, f44⟩⟩
  have z46 := Fr.size f44
  replace h39 := Blk.fr h39 f44 (by omega)
  replace h30 := Nd.sits.fr h30 f44 (by omega)
  clear h31
  replace h24 := Blk.fr h24 f44 (by omega)
  replace h15 := Nd.sits.fr h15 f44 (by omega)
  replace h5 := Blk.fr h5 f44 (by omega)
  replace X := Fr.fr X f44 (by omega)
  clear f44
  refine cN (cM rfl rfl ?_)
  refine lw_does (does_call (by kernel_rfl) rfl ((IH k (Nat.le_refl _)).block _ _ (by assumption) (by omega)) (fun _ _ h => h.ret)) rfl ?_ (fun _ h => h)
  rintro _ w52 ⟨a47, ⟨k48, ⟨⟨⟩, ⟨h49, ⟨h50, f51⟩⟩⟩⟩⟩
  have z53 := Fr.size f51
  clear h43
  replace h39 := Blk.fr h39 f51 (by omega)
  replace h30 := Nd.sits.fr h30 f51 (by omega)
  replace h24 := Blk.fr h24 f51 (by omega)
  replace h15 := Nd.sits.fr h15 f51 (by omega)
  replace h5 := Blk.fr h5 f51 (by omega)
  replace X := Fr.fr X f51 (by omega)
  clear f51
  (refine lw_alloc' [_, _, _, _] zOk rfl rfl ?_; intro b54 w55 n56)
  (refine lw_init' [_, _, _, _] tabOk rfl rfl rfl rfl rfl rfl n56 rfl ?_; clear n56; clear w55; intro w57 n56)
  have h58 := New.blk n56
  have x59 := New.ext n56
  have p60 := New.pos n56
  have z61 := New.size n56
  clear n56
  replace h49 := Nd.sits.ext h49 x59
  replace h50 := PP.ext h50 x59
  replace h39 := Blk.ext h39 x59
  replace h30 := Nd.sits.ext h30 x59
  replace h24 := Blk.ext h24 x59
  replace h15 := Nd.sits.ext h15 x59
  replace h5 := Blk.ext h5 x59
  replace X := Fr.ext X x59
  clear x59
  refine cN (cM rfl rfl (cM rfl rfl ?_))
  refine lw_does (does_call (by kernel_rfl) rfl (expect_c _ _ _ _ (by assumption) (by assumption)) (fun _ _ h => ⟨_, h.1⟩)) rfl ?_ (fun _ h => h)
  rintro _ w64 ⟨⟨⟩, ⟨h62, f63⟩⟩
  have z65 := Fr.size f63
  replace h58 := Blk.fr h58 f63 (by omega)
  replace h49 := Nd.sits.fr h49 f63 (by omega)
  clear h50
  replace h39 := Blk.fr h39 f63 (by omega)
  replace h30 := Nd.sits.fr h30 f63 (by omega)
  replace h24 := Blk.fr h24 f63 (by omega)
  replace h15 := Nd.sits.fr h15 f63 (by omega)
  replace h5 := Blk.fr h5 f63 (by omega)
  replace X := Fr.fr X f63 (by omega)
  clear f63
  refine cN (cM rfl rfl ?_)
  refine lw_does (does_call (by kernel_rfl) rfl ((exprs_c c k).expr _ _ _ (by assumption) (by omega) (by decide) (by decide)) (fun _ _ h => h.ret)) rfl ?_ (fun _ h => h)
  rintro _ w71 ⟨a66, ⟨k67, ⟨⟨⟩, ⟨h68, ⟨h69, f70⟩⟩⟩⟩⟩
  have z72 := Fr.size f70
  clear h62
  replace h58 := Blk.fr h58 f70 (by omega)
  replace h49 := Nd.sits.fr h49 f70 (by omega)
  replace h39 := Blk.fr h39 f70 (by omega)
  replace h30 := Nd.sits.fr h30 f70 (by omega)
  replace h24 := Blk.fr h24 f70 (by omega)
  replace h15 := Nd.sits.fr h15 f70 (by omega)
  replace h5 := Blk.fr h5 f70 (by omega)
  replace X := Fr.fr X f70 (by omega)
  clear f70
  (refine lw_alloc' [_, _, _, _] zOk rfl rfl ?_; intro b73 w74 n75)
  (refine lw_init' [_, _, _, _] tabOk rfl rfl rfl rfl rfl rfl n75 rfl ?_; clear n75; clear w74; intro w76 n75)
  have h77 := New.blk n75
  have x78 := New.ext n75
  have p79 := New.pos n75
  have z80 := New.size n75
  clear n75
  replace h68 := Nd.sits.ext h68 x78
  replace h69 := PP.ext h69 x78
  replace h58 := Blk.ext h58 x78
  replace h49 := Nd.sits.ext h49 x78
  replace h39 := Blk.ext h39 x78
  replace h30 := Nd.sits.ext h30 x78
  replace h24 := Blk.ext h24 x78
  replace h15 := Nd.sits.ext h15 x78
  replace h5 := Blk.ext h5 x78
  replace X := Fr.ext X x78
  clear x78
  refine cN (cM rfl rfl (lw_loads_b' [_, _, _, _] tabOk rfl rfl rfl h24 rfl rfl rfl (lw_loads_b' [_, _, _, _] tabOk rfl rfl rfl h39 rfl rfl rfl (lw_loads_b' [_, _, _, _] tabOk rfl rfl rfl h58 rfl rfl rfl (lw_loads_b' [_, _, _, _] tabOk rfl rfl rfl h77 rfl rfl rfl ?_)))))
  (refine lw_does (does_slice' [_, _, _, _, _, _, _, _, _, _, _, _, _, _, _, _] tabOk zOk rfl rfl rfl rfl rfl rfl rfl rfl rfl) rfl ?_ (fun _ h => h); rintro _ w82 ⟨b81, rfl, n83, t84⟩)
  clear t84
  have h85 := New.blk n83
  have x86 := New.ext n83
  have p87 := New.pos n83
  have z88 := New.size n83
  clear n83
  replace h77 := Blk.ext h77 x86
  replace h68 := Nd.sits.ext h68 x86
  replace h69 := PP.ext h69 x86
  replace h58 := Blk.ext h58 x86
  replace h49 := Nd.sits.ext h49 x86
  replace h39 := Blk.ext h39 x86
  replace h30 := Nd.sits.ext h30 x86
  replace h24 := Blk.ext h24 x86
  replace h15 := Nd.sits.ext h15 x86
  replace h5 := Blk.ext h5 x86
  replace X := Fr.ext X x86
  clear x86
  refine lw_pure (pur_build' [_, _, _, _] tabOk zOk rfl rfl rfl rfl) rfl ?_
  (refine lw_store' [_, _, _, _] [_, _, _, _] tabOk rfl rfl rfl rfl rfl rfl h5 rfl rfl ?_; intro w89 n90)
  have h93 := Put.blk n90
  have f91 := Put.fr n90
  have z92 := Put.size n90
  clear n90 h5
  replace h85 := Blk.fr h85 f91 (by omega)
  replace h77 := Blk.fr h77 f91 (by omega)
  replace h68 := Nd.sits.fr h68 f91 (by omega)
  replace h69 := PP.fr h69 f91 (by omega)
  replace h58 := Blk.fr h58 f91 (by omega)
  replace h49 := Nd.sits.fr h49 f91 (by omega)
  replace h39 := Blk.fr h39 f91 (by omega)
  replace h30 := Nd.sits.fr h30 f91 (by omega)
  replace h24 := Blk.fr h24 f91 (by omega)
  replace h15 := Nd.sits.fr h15 f91 (by omega)
  replace X := Fr.fr X f91 (by omega)
  clear f91
  refine cT (cw_ret (qw_retc rfl tabOk rfl rfl rfl h93 rfl ?_))
  rotate_left 1
 exact tree_ret (sits_4 (by assumption) (by omega) (by assumption) (fun b h => by omega) (by assumption) (fun b h => by omega) (by assumption) (fun b h => by omega) (by assumption) (fun b h => by omega)) (by assumption) X
set_option maxRecDepth 100000 in
set_option maxHeartbeats 2000000 in
theorem local_w (c : PC) (k : Nat) (IH : ∀ j, j ≤ k → StmtsC c j) (σ : PS) (w : World) (hP : PP c σ w) (hi : In c.ts σ) (hk : 4 * mS c.ts σ + 5 ≤ k + 1) :
 Calls Tryz.prog 91 #[.pointer (some ⟨c.pb, 0, none⟩)] w (TreeR c w (localP c.ts c.n (k + 1) σ)) := by
 have X := Fr.refl (· = c.pb) w
 have hpb := hP.pbB
 have hB := hP.B
 have hlen := hP.len
 have h2 := hi.2
 have hm := mS_next hi
 have l1 := next_le hi
 rw [localP]
 (try dsimp only)
 cases hs : hasP c.ts (nextP σ) [115, 116, 97, 99, 107]
 case true =>
  simp only [if_true]
  have l2 := next_le (has_in l1.wf hs (by decide))
  have l3 := name_le (n := c.n) l2.wf
  have m2 := mS_le l2
  have m3 := mS_le l3
  clear l1 l2 l3
  refine calls_in Tryz.func91 Tryz.ntmps91 rfl rfl ?_
  focus
   refine cS ?_
   (refine lw_alloc' [_, _, _, _] zOk rfl rfl ?_; intro b1 w2 n3)
   have h5 := New.blk n3
   have x6 := New.ext n3
   have p7 := New.pos n3
   have z8 := New.size n3
   clear n3
   replace hP := PP.ext hP x6
   replace X := Fr.ext X x6
   clear x6
   refine cN (cM rfl rfl (lw_pure (pur_nilCheck rfl) rfl (lw_pure (pur_fieldAddr tabOk rfl rfl rfl) rfl (lw_load_b tabOk rfl rfl rfl (PP.blk hP) rfl rfl ?_))))
   refine lw_pure (pur_add rfl rfl (IntWalk.i64_in _ (by omega))) rfl ?_
   refine lw_pure (pur_nilCheck rfl) rfl (lw_pure (pur_fieldAddr tabOk rfl rfl rfl) rfl ?_)
   refine lw_pp_at tabOk rfl rfl rfl rfl (by assumption) h2 ?_
   rintro w9 h10 f11
   have z12 := Fr.size f11
   replace h5 := Blk.fr h5 f11 (by omega)
   clear hP
   replace X := Fr.fr X f11 (by omega)
   clear f11
   refine cT (cw_seq (cS (cM rfl rfl ?_)))
   refine lw_does (does_call (by kernel_rfl) rfl (accept_t _ _ _ _ (by assumption) (by decide) (by assumption)) (fun _ _ h => ⟨_, h.1⟩)) rfl ?_ (fun _ h => h)
   rintro _ w15 ⟨⟨⟩, ⟨h13, f14⟩⟩
   have z16 := Fr.size f14
   clear h10
   replace h5 := Blk.fr h5 f14 (by omega)
   replace X := Fr.fr X f14 (by omega)
   clear f14
   refine cT (cw_cond_t rfl (cS (cM rfl rfl ?_)))
   refine lw_does (does_call (by kernel_rfl) rfl (name_c _ _ _ (by assumption)) (fun _ _ h => ⟨_, h.1⟩)) rfl ?_ (fun _ h => h)
   rintro _ w19 ⟨⟨⟩, ⟨h17, f18⟩⟩
   have z20 := Fr.size f18
   clear h13
   replace h5 := Blk.fr h5 f18 (by omega)
   replace X := Fr.fr X f18 (by omega)
   clear f18
   refine cA rfl rfl (cN (cM rfl rfl (cM rfl rfl ?_)))
   refine lw_does (does_call (by kernel_rfl) rfl ((IH k (Nat.le_refl _)).block _ _ (by assumption) (by omega)) (fun _ _ h => h.ret)) rfl ?_ (fun _ h => h)
   rintro _ w26 ⟨a21, ⟨k22, ⟨⟨⟩, ⟨h23, ⟨h24, f25⟩⟩⟩⟩⟩
   have z27 := Fr.size f25
   clear h17
   replace h5 := Blk.fr h5 f25 (by omega)
   replace X := Fr.fr X f25 (by omega)
   clear f25
   (refine lw_does (does_slice' [_, _, _, _] tabOk zOk rfl rfl rfl rfl rfl rfl rfl rfl rfl) rfl ?_ (fun _ h => h); rintro _ w29 ⟨b28, rfl, n30, t31⟩)
   clear t31
   have h32 := New.blk n30
   have x33 := New.ext n30
   have p34 := New.pos n30
   have z35 := New.size n30
   clear n30
   replace h23 := Nd.sits.ext h23 x33
   replace h24 := PP.ext h24 x33
   replace h5 := Blk.ext h5 x33
   replace X := Fr.ext X x33
   clear x33
   refine lw_pure (pur_build' [_, _, _, _] tabOk zOk rfl rfl rfl rfl) rfl ?_
   (refine lw_store' [_, _, _, _] [_, _, _, _] tabOk rfl rfl rfl rfl rfl rfl h5 rfl rfl ?_; intro w36 n37)
   have h40 := Put.blk n37
   have f38 := Put.fr n37
   have z39 := Put.size n37
   clear n37 h5
   replace h32 := Blk.fr h32 f38 (by omega)
   replace h23 := Nd.sits.fr h23 f38 (by omega)
   replace h24 := PP.fr h24 f38 (by omega)
   replace X := Fr.fr X f38 (by omega)
   clear f38
   refine cT (cw_ret (qw_then_ret (qw_retc rfl tabOk rfl rfl rfl h40 rfl ?_)))
   rotate_left 1
  exact tree_ret (sits_1 (by assumption) (by omega) (by assumption) (fun b h => by omega)) (by assumption) X
 simp only [Bool.false_eq_true, if_false]
 have l2 := name_le (n := c.n) l1.wf
 have l3 := expect_le (n := c.n) (t := [61]) l2.wf (by decide)
 have l4 := expr_le (n := c.n) (k := k) (lv := 1) l3.wf
 have l5 := (stmt_inv (ts := c.ts) (n := c.n) k).2.2.2.1 _ l4.wf
 have l6 := expect_le (n := c.n) (t := [100, 101, 108, 111, 99, 97, 108]) l5.wf (by decide)
 have m2 := mS_le l2
 have m3 := mS_le l3
 have m4 := mS_le l4
 have m5 := mS_le l5
 have m6 := mS_le l6
 clear l1 l2 l3 l4 l5 l6
 refine calls_in Tryz.func91 Tryz.ntmps91 rfl rfl ?_
 focus
  refine cS ?_
  (refine lw_alloc' [_, _, _, _] zOk rfl rfl ?_; intro ba1 wa2 na3)
  have ha5 := New.blk na3
  have xa6 := New.ext na3
  have pa7 := New.pos na3
  have za8 := New.size na3
  clear na3
  replace hP := PP.ext hP xa6
  replace X := Fr.ext X xa6
  clear xa6
  refine cN (cM rfl rfl (lw_pure (pur_nilCheck rfl) rfl (lw_pure (pur_fieldAddr tabOk rfl rfl rfl) rfl (lw_load_b tabOk rfl rfl rfl (PP.blk hP) rfl rfl ?_))))
  refine lw_pure (pur_add rfl rfl (IntWalk.i64_in _ (by omega))) rfl ?_
  refine lw_pure (pur_nilCheck rfl) rfl (lw_pure (pur_fieldAddr tabOk rfl rfl rfl) rfl ?_)
  refine lw_pp_at tabOk rfl rfl rfl rfl (by assumption) h2 ?_
  rintro wa9 ha10 fa11
  have za12 := Fr.size fa11
  replace ha5 := Blk.fr ha5 fa11 (by omega)
  clear hP
  replace X := Fr.fr X fa11 (by omega)
  clear fa11
  refine cT (cw_seq (cS (cM rfl rfl ?_)))
  refine lw_does (does_call (by kernel_rfl) rfl (accept_f _ _ _ _ (by assumption) (by decide) (by assumption)) (fun _ _ h => ⟨_, h.1⟩)) rfl ?_ (fun _ h => h)
  rintro _ wa15 ⟨⟨⟩, ⟨ha13, fa14⟩⟩
  have za16 := Fr.size fa14
  clear ha10
  replace ha5 := Blk.fr ha5 fa14 (by omega)
  replace X := Fr.fr X fa14 (by omega)
  clear fa14
  refine cT (cw_cond_f rfl (cw_skip (qw_then (cS (cM rfl rfl ?_)))))
  refine lw_does (does_call (by kernel_rfl) rfl (name_c _ _ _ (by assumption)) (fun _ _ h => ⟨_, h.1⟩)) rfl ?_ (fun _ h => h)
  rintro _ wa19 ⟨⟨⟩, ⟨ha17, fa18⟩⟩
  have za20 := Fr.size fa18
  clear ha13
  replace ha5 := Blk.fr ha5 fa18 (by omega)
  replace X := Fr.fr X fa18 (by omega)
  clear fa18
  refine cA rfl rfl (cN (cM rfl rfl ?_))
  refine lw_does (does_call (by kernel_rfl) rfl (expect_c _ _ _ _ (by assumption) (by decide)) (fun _ _ h => ⟨_, h.1⟩)) rfl ?_ (fun _ h => h)
  rintro _ wa23 ⟨⟨⟩, ⟨ha21, fa22⟩⟩
  have za24 := Fr.size fa22
  clear ha17
  replace ha5 := Blk.fr ha5 fa22 (by omega)
  replace X := Fr.fr X fa22 (by omega)
  clear fa22
  refine cN (cM rfl rfl ?_)
  refine lw_does (does_call (by kernel_rfl) rfl ((exprs_c c k).expr _ _ _ (by assumption) (by omega) (by decide) (by decide)) (fun _ _ h => h.ret)) rfl ?_ (fun _ h => h)
  rintro _ wa30 ⟨aa25, ⟨ka26, ⟨⟨⟩, ⟨ha27, ⟨ha28, fa29⟩⟩⟩⟩⟩
  have za31 := Fr.size fa29
  clear ha21
  replace ha5 := Blk.fr ha5 fa29 (by omega)
  replace X := Fr.fr X fa29 (by omega)
  clear fa29
  (refine lw_alloc' [_, _, _, _] zOk rfl rfl ?_; intro ba32 wa33 na34)
  (refine lw_init' [_, _, _, _] tabOk rfl rfl rfl rfl rfl rfl na34 rfl ?_; clear na34; clear wa33; intro wa35 na34)
  have ha36 := New.blk na34
  have xa37 := New.ext na34
  have pa38 := New.pos na34
  have za39 := New.size na34
  clear na34
  replace ha27 := Nd.sits.ext ha27 xa37
  replace ha28 := PP.ext ha28 xa37
  replace ha5 := Blk.ext ha5 xa37
  replace X := Fr.ext X xa37
  clear xa37
  refine cN (cM rfl rfl ?_)
  refine lw_does (does_call (by kernel_rfl) rfl ((IH k (Nat.le_refl _)).block _ _ (by assumption) (by omega)) (fun _ _ h => h.ret)) rfl ?_ (fun _ h => h)
  rintro _ wa45 ⟨aa40, ⟨ka41, ⟨⟨⟩, ⟨ha42, ⟨ha43, fa44⟩⟩⟩⟩⟩
  have za46 := Fr.size fa44
  replace ha36 := Blk.fr ha36 fa44 (by omega)
  replace ha27 := Nd.sits.fr ha27 fa44 (by omega)
  clear ha28
  replace ha5 := Blk.fr ha5 fa44 (by omega)
  replace X := Fr.fr X fa44 (by omega)
  clear fa44
  (refine lw_alloc' [_, _, _, _] zOk rfl rfl ?_; intro ba47 wa48 na49)
  (refine lw_init' [_, _, _, _] tabOk rfl rfl rfl rfl rfl rfl na49 rfl ?_; clear na49; clear wa48; intro wa50 na49)
  have ha51 := New.blk na49
  have xa52 := New.ext na49
  have pa53 := New.pos na49
  have za54 := New.size na49
  clear na49
  replace ha42 := Nd.sits.ext ha42 xa52
  replace ha43 := PP.ext ha43 xa52
  replace ha36 := Blk.ext ha36 xa52
  replace ha27 := Nd.sits.ext ha27 xa52
  replace ha5 := Blk.ext ha5 xa52
  replace X := Fr.ext X xa52
  clear xa52
  refine cN (cM rfl rfl ?_)
  refine lw_does (does_call (by kernel_rfl) rfl (expect_c _ _ _ _ (by assumption) (by decide)) (fun _ _ h => ⟨_, h.1⟩)) rfl ?_ (fun _ h => h)
  rintro _ wa57 ⟨⟨⟩, ⟨ha55, fa56⟩⟩
  have za58 := Fr.size fa56
  replace ha51 := Blk.fr ha51 fa56 (by omega)
  replace ha42 := Nd.sits.fr ha42 fa56 (by omega)
  clear ha43
  replace ha36 := Blk.fr ha36 fa56 (by omega)
  replace ha27 := Nd.sits.fr ha27 fa56 (by omega)
  replace ha5 := Blk.fr ha5 fa56 (by omega)
  replace X := Fr.fr X fa56 (by omega)
  clear fa56
  refine cN (cM rfl rfl ?_)
  refine lw_does (does_call (by kernel_rfl) rfl ((exprs_c c k).expr _ _ _ (by assumption) (by omega) (by decide) (by decide)) (fun _ _ h => h.ret)) rfl ?_ (fun _ h => h)
  rintro _ wa64 ⟨aa59, ⟨ka60, ⟨⟨⟩, ⟨ha61, ⟨ha62, fa63⟩⟩⟩⟩⟩
  have za65 := Fr.size fa63
  clear ha55
  replace ha51 := Blk.fr ha51 fa63 (by omega)
  replace ha42 := Nd.sits.fr ha42 fa63 (by omega)
  replace ha36 := Blk.fr ha36 fa63 (by omega)
  replace ha27 := Nd.sits.fr ha27 fa63 (by omega)
  replace ha5 := Blk.fr ha5 fa63 (by omega)
  replace X := Fr.fr X fa63 (by omega)
  clear fa63
  (refine lw_alloc' [_, _, _, _] zOk rfl rfl ?_; intro ba66 wa67 na68)
  (refine lw_init' [_, _, _, _] tabOk rfl rfl rfl rfl rfl rfl na68 rfl ?_; clear na68; clear wa67; intro wa69 na68)
  have ha70 := New.blk na68
  have xa71 := New.ext na68
  have pa72 := New.pos na68
  have za73 := New.size na68
  clear na68
  replace ha61 := Nd.sits.ext ha61 xa71
  replace ha62 := PP.ext ha62 xa71
  replace ha51 := Blk.ext ha51 xa71
  replace ha42 := Nd.sits.ext ha42 xa71
  replace ha36 := Blk.ext ha36 xa71
  replace ha27 := Nd.sits.ext ha27 xa71
  replace ha5 := Blk.ext ha5 xa71
  replace X := Fr.ext X xa71
  clear xa71
  refine cN (cM rfl rfl (lw_loads_b' [_, _, _, _] tabOk rfl rfl rfl ha36 rfl rfl rfl (lw_loads_b' [_, _, _, _] tabOk rfl rfl rfl ha51 rfl rfl rfl (lw_loads_b' [_, _, _, _] tabOk rfl rfl rfl ha70 rfl rfl rfl ?_))))
  (refine lw_does (does_slice' [_, _, _, _, _, _, _, _, _, _, _, _] tabOk zOk rfl rfl rfl rfl rfl rfl rfl rfl rfl) rfl ?_ (fun _ h => h); rintro _ wa75 ⟨ba74, rfl, na76, ta77⟩)
  clear ta77
  have ha78 := New.blk na76
  have xa79 := New.ext na76
  have pa80 := New.pos na76
  have za81 := New.size na76
  clear na76
  replace ha70 := Blk.ext ha70 xa79
  replace ha61 := Nd.sits.ext ha61 xa79
  replace ha62 := PP.ext ha62 xa79
  replace ha51 := Blk.ext ha51 xa79
  replace ha42 := Nd.sits.ext ha42 xa79
  replace ha36 := Blk.ext ha36 xa79
  replace ha27 := Nd.sits.ext ha27 xa79
  replace ha5 := Blk.ext ha5 xa79
  replace X := Fr.ext X xa79
  clear xa79
  refine lw_pure (pur_build' [_, _, _, _] tabOk zOk rfl rfl rfl rfl) rfl ?_
  (refine lw_store' [_, _, _, _] [_, _, _, _] tabOk rfl rfl rfl rfl rfl rfl ha5 rfl rfl ?_; intro wa82 na83)
  have ha86 := Put.blk na83
  have fa84 := Put.fr na83
  have za85 := Put.size na83
  clear na83 ha5
  replace ha78 := Blk.fr ha78 fa84 (by omega)
  replace ha70 := Blk.fr ha70 fa84 (by omega)
  replace ha61 := Nd.sits.fr ha61 fa84 (by omega)
  replace ha62 := PP.fr ha62 fa84 (by omega)
  replace ha51 := Blk.fr ha51 fa84 (by omega)
  replace ha42 := Nd.sits.fr ha42 fa84 (by omega)
  replace ha36 := Blk.fr ha36 fa84 (by omega)
  replace ha27 := Nd.sits.fr ha27 fa84 (by omega)
  replace X := Fr.fr X fa84 (by omega)
  clear fa84
  refine cT (cw_ret (qw_retc rfl tabOk rfl rfl rfl ha86 rfl ?_))
  rotate_left 1
 exact tree_ret (sits_3 (by assumption) (by omega) (by assumption) (fun b h => by omega) (by assumption) (fun b h => by omega) (by assumption) (fun b h => by omega)) (by assumption) X
set_option maxRecDepth 100000 in
set_option maxHeartbeats 2000000 in
theorem stmt_w (c : PC) (k : Nat) (IH : ∀ j, j ≤ k → StmtsC c j) (σ : PS) (w : World) (hP : PP c σ w) (hk : 4 * mS c.ts σ + 6 ≤ k + 1) :
 Calls Tryz.prog 44 #[.pointer (some ⟨c.pb, 0, none⟩)] w (TreeR c w (stmtP c.ts c.n (k + 1) σ)) := by
 have X := Fr.refl (· = c.pb) w
 have hpb := hP.pbB
 have hB := hP.B
 have hin : ∀ t : List UInt8, (peekP c.ts σ).text = t → t ≠ [] → In c.ts σ := fun t h ht => peek_in hP.at_ (Or.inl (by rw [h]; exact ht))
 have HIN := Lib.hid hin; clear hin
 rw [stmtP]
 by_cases e0 : (peekP c.ts σ).text = [112, 117, 115, 104]
 · rw [if_pos e0]
   have hin := HIN.out _ e0 (by decide)
   refine calls_in Tryz.func44 Tryz.ntmps44 rfl rfl ?_
   focus
    refine cS ?_
    (refine lw_alloc' [_, _, _, _] zOk rfl rfl ?_; intro b1 w2 n3)
    have h5 := New.blk n3
    have x6 := New.ext n3
    have p7 := New.pos n3
    have z8 := New.size n3
    clear n3
    replace hP := PP.ext hP x6
    replace X := Fr.ext X x6
    clear x6
    refine cT (cw_seq (cS (cM rfl rfl ?_)))
    refine lw_does (does_call (by kernel_rfl) rfl (peek_c _ _ _ (by assumption)) (fun _ _ h => ⟨_, h.1⟩)) rfl ?_ (fun _ h => h)
    rintro _ w10 ⟨⟨⟩, x9⟩
    have z11 := Ext.size x9
    replace h5 := Blk.ext h5 x9
    replace hP := PP.ext hP x9
    replace X := Fr.ext X x9
    clear x9
    refine lw_pure (pur_field tabOk rfl rfl rfl rfl rfl rfl) rfl (cT (cw_block (cS (lw_pure (pur_seql rfl rfl) rfl (cA rfl rfl (cT ?_))))))
    refine cw_yes rfl (by assumption) ?_
    refine cS (cM rfl rfl ?_)
    refine lw_does (does_call (by kernel_rfl) rfl (stackStmt_c c k 44 _ _ (by assumption) hin (by omega)) (fun _ _ h => h.ret)) rfl ?_ (fun _ h => h)
    rintro _ w17 ⟨a12, ⟨k13, ⟨⟨⟩, ⟨h14, ⟨h15, f16⟩⟩⟩⟩⟩
    have z18 := Fr.size f16
    replace h5 := Blk.fr h5 f16 (by omega)
    clear hP
    replace X := Fr.fr X f16 (by omega)
    clear f16
    (refine lw_store' [_, _, _, _] [_, _, _, _] tabOk rfl rfl rfl rfl rfl rfl h5 rfl rfl ?_; intro w19 n20)
    have h23 := Put.blk n20
    have f21 := Put.fr n20
    have z22 := Put.size n20
    clear n20 h5
    replace h14 := Nd.sits.fr h14 f21 (by omega)
    replace h15 := PP.fr h15 f21 (by omega)
    replace X := Fr.fr X f21 (by omega)
    clear f21
    refine cT (cw_ret (qw_block_ret (qw_then_ret (qw_retc rfl tabOk rfl rfl rfl h23 rfl ?_))))
    rotate_left 1
   exact tree_ret (Nd.sits.wide (by assumption) (fun b h => by omega)) (by assumption) X
 rw [if_neg e0]
 by_cases e1 : (peekP c.ts σ).text = [112, 111, 112]
 · rw [if_pos e1]
   have hin := HIN.out _ e1 (by decide)
   refine calls_in Tryz.func44 Tryz.ntmps44 rfl rfl ?_
   focus
    refine cS ?_
    (refine lw_alloc' [_, _, _, _] zOk rfl rfl ?_; intro ba1 wa2 na3)
    have ha5 := New.blk na3
    have xa6 := New.ext na3
    have pa7 := New.pos na3
    have za8 := New.size na3
    clear na3
    replace hP := PP.ext hP xa6
    replace X := Fr.ext X xa6
    clear xa6
    refine cT (cw_seq (cS (cM rfl rfl ?_)))
    refine lw_does (does_call (by kernel_rfl) rfl (peek_c _ _ _ (by assumption)) (fun _ _ h => ⟨_, h.1⟩)) rfl ?_ (fun _ h => h)
    rintro _ wa10 ⟨⟨⟩, xa9⟩
    have za11 := Ext.size xa9
    replace ha5 := Blk.ext ha5 xa9
    replace hP := PP.ext hP xa9
    replace X := Fr.ext X xa9
    clear xa9
    refine lw_pure (pur_field tabOk rfl rfl rfl rfl rfl rfl) rfl (cT (cw_block (cS (lw_pure (pur_seql rfl rfl) rfl (cA rfl rfl (cT ?_))))))
    refine cw_no rfl (by assumption) ?_
    refine cS (lw_pure (pur_seql rfl rfl) rfl (cA rfl rfl (cT ?_)))
    refine cw_yes rfl (by assumption) ?_
    refine cS (cM rfl rfl ?_)
    refine lw_does (does_call (by kernel_rfl) rfl (stackStmt_c c k 45 _ _ (by assumption) hin (by omega)) (fun _ _ h => h.ret)) rfl ?_ (fun _ h => h)
    rintro _ wa17 ⟨aa12, ⟨ka13, ⟨⟨⟩, ⟨ha14, ⟨ha15, fa16⟩⟩⟩⟩⟩
    have za18 := Fr.size fa16
    replace ha5 := Blk.fr ha5 fa16 (by omega)
    clear hP
    replace X := Fr.fr X fa16 (by omega)
    clear fa16
    (refine lw_store' [_, _, _, _] [_, _, _, _] tabOk rfl rfl rfl rfl rfl rfl ha5 rfl rfl ?_; intro wa19 na20)
    have ha23 := Put.blk na20
    have fa21 := Put.fr na20
    have za22 := Put.size na20
    clear na20 ha5
    replace ha14 := Nd.sits.fr ha14 fa21 (by omega)
    replace ha15 := PP.fr ha15 fa21 (by omega)
    replace X := Fr.fr X fa21 (by omega)
    clear fa21
    refine cT (cw_ret (qw_block_ret (qw_then_ret (qw_retc rfl tabOk rfl rfl rfl ha23 rfl ?_))))
    rotate_left 1
   exact tree_ret (Nd.sits.wide (by assumption) (fun b h => by omega)) (by assumption) X
 rw [if_neg e1]
 by_cases e2 : (peekP c.ts σ).text = [114, 101, 97, 100]
 · rw [if_pos e2]
   have hin := HIN.out _ e2 (by decide)
   refine calls_in Tryz.func44 Tryz.ntmps44 rfl rfl ?_
   focus
    refine cS ?_
    (refine lw_alloc' [_, _, _, _] zOk rfl rfl ?_; intro bb1 wb2 nb3)
    have hb5 := New.blk nb3
    have xb6 := New.ext nb3
    have pb7 := New.pos nb3
    have zb8 := New.size nb3
    clear nb3
    replace hP := PP.ext hP xb6
    replace X := Fr.ext X xb6
    clear xb6
    refine cT (cw_seq (cS (cM rfl rfl ?_)))
    refine lw_does (does_call (by kernel_rfl) rfl (peek_c _ _ _ (by assumption)) (fun _ _ h => ⟨_, h.1⟩)) rfl ?_ (fun _ h => h)
    rintro _ wb10 ⟨⟨⟩, xb9⟩
    have zb11 := Ext.size xb9
    replace hb5 := Blk.ext hb5 xb9
    replace hP := PP.ext hP xb9
    replace X := Fr.ext X xb9
    clear xb9
    refine lw_pure (pur_field tabOk rfl rfl rfl rfl rfl rfl) rfl (cT (cw_block (cS (lw_pure (pur_seql rfl rfl) rfl (cA rfl rfl (cT ?_))))))
    refine cw_no rfl (by assumption) ?_
    refine cS (lw_pure (pur_seql rfl rfl) rfl (cA rfl rfl (cT ?_)))
    refine cw_no rfl (by assumption) ?_
    refine cS (lw_pure (pur_seql rfl rfl) rfl (cA rfl rfl (cT ?_)))
    refine cw_yes rfl (by assumption) ?_
    refine cS (cM rfl rfl ?_)
    refine lw_does (does_call (by kernel_rfl) rfl (tapeStmt_c c k 46 _ _ (by assumption) hin (by omega)) (fun _ _ h => h.ret)) rfl ?_ (fun _ h => h)
    rintro _ wb17 ⟨ab12, ⟨kb13, ⟨⟨⟩, ⟨hb14, ⟨hb15, fb16⟩⟩⟩⟩⟩
    have zb18 := Fr.size fb16
    replace hb5 := Blk.fr hb5 fb16 (by omega)
    clear hP
    replace X := Fr.fr X fb16 (by omega)
    clear fb16
    (refine lw_store' [_, _, _, _] [_, _, _, _] tabOk rfl rfl rfl rfl rfl rfl hb5 rfl rfl ?_; intro wb19 nb20)
    have hb23 := Put.blk nb20
    have fb21 := Put.fr nb20
    have zb22 := Put.size nb20
    clear nb20 hb5
    replace hb14 := Nd.sits.fr hb14 fb21 (by omega)
    replace hb15 := PP.fr hb15 fb21 (by omega)
    replace X := Fr.fr X fb21 (by omega)
    clear fb21
    refine cT (cw_ret (qw_block_ret (qw_then_ret (qw_retc rfl tabOk rfl rfl rfl hb23 rfl ?_))))
    rotate_left 1
   exact tree_ret (Nd.sits.wide (by assumption) (fun b h => by omega)) (by assumption) X
 rw [if_neg e2]
 by_cases e3 : (peekP c.ts σ).text = [117, 110, 114, 101, 97, 100]
 · rw [if_pos e3]
   have hin := HIN.out _ e3 (by decide)
   refine calls_in Tryz.func44 Tryz.ntmps44 rfl rfl ?_
   focus
    refine cS ?_
    (refine lw_alloc' [_, _, _, _] zOk rfl rfl ?_; intro bc1 wc2 nc3)
    have hc5 := New.blk nc3
    have xc6 := New.ext nc3
    have pc7 := New.pos nc3
    have zc8 := New.size nc3
    clear nc3
    replace hP := PP.ext hP xc6
    replace X := Fr.ext X xc6
    clear xc6
    refine cT (cw_seq (cS (cM rfl rfl ?_)))
    refine lw_does (does_call (by kernel_rfl) rfl (peek_c _ _ _ (by assumption)) (fun _ _ h => ⟨_, h.1⟩)) rfl ?_ (fun _ h => h)
    rintro _ wc10 ⟨⟨⟩, xc9⟩
    have zc11 := Ext.size xc9
    replace hc5 := Blk.ext hc5 xc9
    replace hP := PP.ext hP xc9
    replace X := Fr.ext X xc9
    clear xc9
    refine lw_pure (pur_field tabOk rfl rfl rfl rfl rfl rfl) rfl (cT (cw_block (cS (lw_pure (pur_seql rfl rfl) rfl (cA rfl rfl (cT ?_))))))
    refine cw_no rfl (by assumption) ?_
    refine cS (lw_pure (pur_seql rfl rfl) rfl (cA rfl rfl (cT ?_)))
    refine cw_no rfl (by assumption) ?_
    refine cS (lw_pure (pur_seql rfl rfl) rfl (cA rfl rfl (cT ?_)))
    refine cw_no rfl (by assumption) ?_
    refine cS (lw_pure (pur_seql rfl rfl) rfl (cA rfl rfl (cT ?_)))
    refine cw_yes rfl (by assumption) ?_
    refine cS (cM rfl rfl ?_)
    refine lw_does (does_call (by kernel_rfl) rfl (tapeStmt_c c k 47 _ _ (by assumption) hin (by omega)) (fun _ _ h => h.ret)) rfl ?_ (fun _ h => h)
    rintro _ wc17 ⟨ac12, ⟨kc13, ⟨⟨⟩, ⟨hc14, ⟨hc15, fc16⟩⟩⟩⟩⟩
    have zc18 := Fr.size fc16
    replace hc5 := Blk.fr hc5 fc16 (by omega)
    clear hP
    replace X := Fr.fr X fc16 (by omega)
    clear fc16
    (refine lw_store' [_, _, _, _] [_, _, _, _] tabOk rfl rfl rfl rfl rfl rfl hc5 rfl rfl ?_; intro wc19 nc20)
    have hc23 := Put.blk nc20
    have fc21 := Put.fr nc20
    have zc22 := Put.size nc20
    clear nc20 hc5
    replace hc14 := Nd.sits.fr hc14 fc21 (by omega)
    replace hc15 := PP.fr hc15 fc21 (by omega)
    replace X := Fr.fr X fc21 (by omega)
    clear fc21
    refine cT (cw_ret (qw_block_ret (qw_then_ret (qw_retc rfl tabOk rfl rfl rfl hc23 rfl ?_))))
    rotate_left 1
   exact tree_ret (Nd.sits.wide (by assumption) (fun b h => by omega)) (by assumption) X
 rw [if_neg e3]
 by_cases e4 : (peekP c.ts σ).text = [119, 114, 105, 116, 101]
 · rw [if_pos e4]
   have hin := HIN.out _ e4 (by decide)
   refine calls_in Tryz.func44 Tryz.ntmps44 rfl rfl ?_
   focus
    refine cS ?_
    (refine lw_alloc' [_, _, _, _] zOk rfl rfl ?_; intro bd1 wd2 nd3)
    have hd5 := New.blk nd3
    have xd6 := New.ext nd3
    have pd7 := New.pos nd3
    have zd8 := New.size nd3
    clear nd3
    replace hP := PP.ext hP xd6
    replace X := Fr.ext X xd6
    clear xd6
    refine cT (cw_seq (cS (cM rfl rfl ?_)))
    refine lw_does (does_call (by kernel_rfl) rfl (peek_c _ _ _ (by assumption)) (fun _ _ h => ⟨_, h.1⟩)) rfl ?_ (fun _ h => h)
    rintro _ wd10 ⟨⟨⟩, xd9⟩
    have zd11 := Ext.size xd9
    replace hd5 := Blk.ext hd5 xd9
    replace hP := PP.ext hP xd9
    replace X := Fr.ext X xd9
    clear xd9
    refine lw_pure (pur_field tabOk rfl rfl rfl rfl rfl rfl) rfl (cT (cw_block (cS (lw_pure (pur_seql rfl rfl) rfl (cA rfl rfl (cT ?_))))))
    refine cw_no rfl (by assumption) ?_
    refine cS (lw_pure (pur_seql rfl rfl) rfl (cA rfl rfl (cT ?_)))
    refine cw_no rfl (by assumption) ?_
    refine cS (lw_pure (pur_seql rfl rfl) rfl (cA rfl rfl (cT ?_)))
    refine cw_no rfl (by assumption) ?_
    refine cS (lw_pure (pur_seql rfl rfl) rfl (cA rfl rfl (cT ?_)))
    refine cw_no rfl (by assumption) ?_
    refine cS (lw_pure (pur_seql rfl rfl) rfl (cA rfl rfl (cT ?_)))
    refine cw_yes rfl (by assumption) ?_
    refine cS (cM rfl rfl ?_)
    refine lw_does (does_call (by kernel_rfl) rfl (tapeStmt_c c k 48 _ _ (by assumption) hin (by omega)) (fun _ _ h => h.ret)) rfl ?_ (fun _ h => h)
    rintro _ wd17 ⟨ad12, ⟨kd13, ⟨⟨⟩, ⟨hd14, ⟨hd15, fd16⟩⟩⟩⟩⟩
    have zd18 := Fr.size fd16
    replace hd5 := Blk.fr hd5 fd16 (by omega)
    clear hP
    replace X := Fr.fr X fd16 (by omega)
    clear fd16
    (refine lw_store' [_, _, _, _] [_, _, _, _] tabOk rfl rfl rfl rfl rfl rfl hd5 rfl rfl ?_; intro wd19 nd20)
    have hd23 := Put.blk nd20
    have fd21 := Put.fr nd20
    have zd22 := Put.size nd20
    clear nd20 hd5
    replace hd14 := Nd.sits.fr hd14 fd21 (by omega)
    replace hd15 := PP.fr hd15 fd21 (by omega)
    replace X := Fr.fr X fd21 (by omega)
    clear fd21
    refine cT (cw_ret (qw_block_ret (qw_then_ret (qw_retc rfl tabOk rfl rfl rfl hd23 rfl ?_))))
    rotate_left 1
   exact tree_ret (Nd.sits.wide (by assumption) (fun b h => by omega)) (by assumption) X
 rw [if_neg e4]
 by_cases e5 : (peekP c.ts σ).text = [117, 110, 119, 114, 105, 116, 101]
 · rw [if_pos e5]
   have hin := HIN.out _ e5 (by decide)
   refine calls_in Tryz.func44 Tryz.ntmps44 rfl rfl ?_
   focus
    refine cS ?_
    (refine lw_alloc' [_, _, _, _] zOk rfl rfl ?_; intro be1 we2 ne3)
    have he5 := New.blk ne3
    have xe6 := New.ext ne3
    have pe7 := New.pos ne3
    have ze8 := New.size ne3
    clear ne3
    replace hP := PP.ext hP xe6
    replace X := Fr.ext X xe6
    clear xe6
    refine cT (cw_seq (cS (cM rfl rfl ?_)))
    refine lw_does (does_call (by kernel_rfl) rfl (peek_c _ _ _ (by assumption)) (fun _ _ h => ⟨_, h.1⟩)) rfl ?_ (fun _ h => h)
    rintro _ we10 ⟨⟨⟩, xe9⟩
    have ze11 := Ext.size xe9
    replace he5 := Blk.ext he5 xe9
    replace hP := PP.ext hP xe9
    replace X := Fr.ext X xe9
    clear xe9
    refine lw_pure (pur_field tabOk rfl rfl rfl rfl rfl rfl) rfl (cT (cw_block (cS (lw_pure (pur_seql rfl rfl) rfl (cA rfl rfl (cT ?_))))))
    refine cw_no rfl (by assumption) ?_
    refine cS (lw_pure (pur_seql rfl rfl) rfl (cA rfl rfl (cT ?_)))
    refine cw_no rfl (by assumption) ?_
    refine cS (lw_pure (pur_seql rfl rfl) rfl (cA rfl rfl (cT ?_)))
    refine cw_no rfl (by assumption) ?_
    refine cS (lw_pure (pur_seql rfl rfl) rfl (cA rfl rfl (cT ?_)))
    refine cw_no rfl (by assumption) ?_
    refine cS (lw_pure (pur_seql rfl rfl) rfl (cA rfl rfl (cT ?_)))
    refine cw_no rfl (by assumption) ?_
    refine cS (lw_pure (pur_seql rfl rfl) rfl (cA rfl rfl (cT ?_)))
    refine cw_yes rfl (by assumption) ?_
    refine cS (cM rfl rfl ?_)
    refine lw_does (does_call (by kernel_rfl) rfl (tapeStmt_c c k 49 _ _ (by assumption) hin (by omega)) (fun _ _ h => h.ret)) rfl ?_ (fun _ h => h)
    rintro _ we17 ⟨ae12, ⟨ke13, ⟨⟨⟩, ⟨he14, ⟨he15, fe16⟩⟩⟩⟩⟩
    have ze18 := Fr.size fe16
    replace he5 := Blk.fr he5 fe16 (by omega)
    clear hP
    replace X := Fr.fr X fe16 (by omega)
    clear fe16
    (refine lw_store' [_, _, _, _] [_, _, _, _] tabOk rfl rfl rfl rfl rfl rfl he5 rfl rfl ?_; intro we19 ne20)
    have he23 := Put.blk ne20
    have fe21 := Put.fr ne20
    have ze22 := Put.size ne20
    clear ne20 he5
    replace he14 := Nd.sits.fr he14 fe21 (by omega)
    replace he15 := PP.fr he15 fe21 (by omega)
    replace X := Fr.fr X fe21 (by omega)
    clear fe21
    refine cT (cw_ret (qw_block_ret (qw_then_ret (qw_retc rfl tabOk rfl rfl rfl he23 rfl ?_))))
    rotate_left 1
   exact tree_ret (Nd.sits.wide (by assumption) (fun b h => by omega)) (by assumption) X
 rw [if_neg e5]
 by_cases e6 : (peekP c.ts σ).text = [99, 97, 108, 108]
 · rw [if_pos e6]
   have hin := HIN.out _ e6 (by decide)
   refine calls_in Tryz.func44 Tryz.ntmps44 rfl rfl ?_
   focus
    refine cS ?_
    (refine lw_alloc' [_, _, _, _] zOk rfl rfl ?_; intro bf1 wf2 nf3)
    have hf5 := New.blk nf3
    have xf6 := New.ext nf3
    have pf7 := New.pos nf3
    have zf8 := New.size nf3
    clear nf3
    replace hP := PP.ext hP xf6
    replace X := Fr.ext X xf6
    clear xf6
    refine cT (cw_seq (cS (cM rfl rfl ?_)))
    refine lw_does (does_call (by kernel_rfl) rfl (peek_c _ _ _ (by assumption)) (fun _ _ h => ⟨_, h.1⟩)) rfl ?_ (fun _ h => h)
    rintro _ wf10 ⟨⟨⟩, xf9⟩
    have zf11 := Ext.size xf9
    replace hf5 := Blk.ext hf5 xf9
    replace hP := PP.ext hP xf9
    replace X := Fr.ext X xf9
    clear xf9
    refine lw_pure (pur_field tabOk rfl rfl rfl rfl rfl rfl) rfl (cT (cw_block (cS (lw_pure (pur_seql rfl rfl) rfl (cA rfl rfl (cT ?_))))))
    refine cw_no rfl (by assumption) ?_
    refine cS (lw_pure (pur_seql rfl rfl) rfl (cA rfl rfl (cT ?_)))
    refine cw_no rfl (by assumption) ?_
    refine cS (lw_pure (pur_seql rfl rfl) rfl (cA rfl rfl (cT ?_)))
    refine cw_no rfl (by assumption) ?_
    refine cS (lw_pure (pur_seql rfl rfl) rfl (cA rfl rfl (cT ?_)))
    refine cw_no rfl (by assumption) ?_
    refine cS (lw_pure (pur_seql rfl rfl) rfl (cA rfl rfl (cT ?_)))
    refine cw_no rfl (by assumption) ?_
    refine cS (lw_pure (pur_seql rfl rfl) rfl (cA rfl rfl (cT ?_)))
    refine cw_no rfl (by assumption) ?_
    refine cS (lw_pure (pur_seql rfl rfl) rfl (cA rfl rfl (cT ?_)))
    refine cw_yes rfl (by assumption) ?_
    refine cS (cM rfl rfl ?_)
    refine lw_does (does_call (by kernel_rfl) rfl (callStmt_c c k 50 _ _ (by assumption) hin (by omega)) (fun _ _ h => h.ret)) rfl ?_ (fun _ h => h)
    rintro _ wf17 ⟨af12, ⟨kf13, ⟨⟨⟩, ⟨hf14, ⟨hf15, ff16⟩⟩⟩⟩⟩
    have zf18 := Fr.size ff16
    replace hf5 := Blk.fr hf5 ff16 (by omega)
    clear hP
    replace X := Fr.fr X ff16 (by omega)
    clear ff16
    (refine lw_store' [_, _, _, _] [_, _, _, _] tabOk rfl rfl rfl rfl rfl rfl hf5 rfl rfl ?_; intro wf19 nf20)
    have hf23 := Put.blk nf20
    have ff21 := Put.fr nf20
    have zf22 := Put.size nf20
    clear nf20 hf5
    replace hf14 := Nd.sits.fr hf14 ff21 (by omega)
    replace hf15 := PP.fr hf15 ff21 (by omega)
    replace X := Fr.fr X ff21 (by omega)
    clear ff21
    refine cT (cw_ret (qw_block_ret (qw_then_ret (qw_retc rfl tabOk rfl rfl rfl hf23 rfl ?_))))
    rotate_left 1
   exact tree_ret (Nd.sits.wide (by assumption) (fun b h => by omega)) (by assumption) X
 rw [if_neg e6]
 by_cases e7 : (peekP c.ts σ).text = [117, 110, 99, 97, 108, 108]
 · rw [if_pos e7]
   have hin := HIN.out _ e7 (by decide)
   refine calls_in Tryz.func44 Tryz.ntmps44 rfl rfl ?_
   focus
    refine cS ?_
    (refine lw_alloc' [_, _, _, _] zOk rfl rfl ?_; intro bg1 wg2 ng3)
    have hg5 := New.blk ng3
    have xg6 := New.ext ng3
    have pg7 := New.pos ng3
    have zg8 := New.size ng3
    clear ng3
    replace hP := PP.ext hP xg6
    replace X := Fr.ext X xg6
    clear xg6
    refine cT (cw_seq (cS (cM rfl rfl ?_)))
    refine lw_does (does_call (by kernel_rfl) rfl (peek_c _ _ _ (by assumption)) (fun _ _ h => ⟨_, h.1⟩)) rfl ?_ (fun _ h => h)
    rintro _ wg10 ⟨⟨⟩, xg9⟩
    have zg11 := Ext.size xg9
    replace hg5 := Blk.ext hg5 xg9
    replace hP := PP.ext hP xg9
    replace X := Fr.ext X xg9
    clear xg9
    refine lw_pure (pur_field tabOk rfl rfl rfl rfl rfl rfl) rfl (cT (cw_block (cS (lw_pure (pur_seql rfl rfl) rfl (cA rfl rfl (cT ?_))))))
    refine cw_no rfl (by assumption) ?_
    refine cS (lw_pure (pur_seql rfl rfl) rfl (cA rfl rfl (cT ?_)))
    refine cw_no rfl (by assumption) ?_
    refine cS (lw_pure (pur_seql rfl rfl) rfl (cA rfl rfl (cT ?_)))
    refine cw_no rfl (by assumption) ?_
    refine cS (lw_pure (pur_seql rfl rfl) rfl (cA rfl rfl (cT ?_)))
    refine cw_no rfl (by assumption) ?_
    refine cS (lw_pure (pur_seql rfl rfl) rfl (cA rfl rfl (cT ?_)))
    refine cw_no rfl (by assumption) ?_
    refine cS (lw_pure (pur_seql rfl rfl) rfl (cA rfl rfl (cT ?_)))
    refine cw_no rfl (by assumption) ?_
    refine cS (lw_pure (pur_seql rfl rfl) rfl (cA rfl rfl (cT ?_)))
    refine cw_no rfl (by assumption) ?_
    refine cS (lw_pure (pur_seql rfl rfl) rfl (cA rfl rfl (cT ?_)))
    refine cw_yes rfl (by assumption) ?_
    refine cS (cM rfl rfl ?_)
    refine lw_does (does_call (by kernel_rfl) rfl (callStmt_c c k 51 _ _ (by assumption) hin (by omega)) (fun _ _ h => h.ret)) rfl ?_ (fun _ h => h)
    rintro _ wg17 ⟨ag12, ⟨kg13, ⟨⟨⟩, ⟨hg14, ⟨hg15, fg16⟩⟩⟩⟩⟩
    have zg18 := Fr.size fg16
    replace hg5 := Blk.fr hg5 fg16 (by omega)
    clear hP
    replace X := Fr.fr X fg16 (by omega)
    clear fg16
    (refine lw_store' [_, _, _, _] [_, _, _, _] tabOk rfl rfl rfl rfl rfl rfl hg5 rfl rfl ?_; intro wg19 ng20)
    have hg23 := Put.blk ng20
    have fg21 := Put.fr ng20
    have zg22 := Put.size ng20
    clear ng20 hg5
    replace hg14 := Nd.sits.fr hg14 fg21 (by omega)
    replace hg15 := PP.fr hg15 fg21 (by omega)
    replace X := Fr.fr X fg21 (by omega)
    clear fg21
    refine cT (cw_ret (qw_block_ret (qw_then_ret (qw_retc rfl tabOk rfl rfl rfl hg23 rfl ?_))))
    rotate_left 1
   exact tree_ret (Nd.sits.wide (by assumption) (fun b h => by omega)) (by assumption) X
 rw [if_neg e7]
 by_cases e8 : (peekP c.ts σ).text = [105, 102]
 · rw [if_pos e8]
   have hin := HIN.out _ e8 (by decide)
   refine calls_in Tryz.func44 Tryz.ntmps44 rfl rfl ?_
   focus
    refine cS ?_
    (refine lw_alloc' [_, _, _, _] zOk rfl rfl ?_; intro bh1 wh2 nh3)
    have hh5 := New.blk nh3
    have xh6 := New.ext nh3
    have ph7 := New.pos nh3
    have zh8 := New.size nh3
    clear nh3
    replace hP := PP.ext hP xh6
    replace X := Fr.ext X xh6
    clear xh6
    refine cT (cw_seq (cS (cM rfl rfl ?_)))
    refine lw_does (does_call (by kernel_rfl) rfl (peek_c _ _ _ (by assumption)) (fun _ _ h => ⟨_, h.1⟩)) rfl ?_ (fun _ h => h)
    rintro _ wh10 ⟨⟨⟩, xh9⟩
    have zh11 := Ext.size xh9
    replace hh5 := Blk.ext hh5 xh9
    replace hP := PP.ext hP xh9
    replace X := Fr.ext X xh9
    clear xh9
    refine lw_pure (pur_field tabOk rfl rfl rfl rfl rfl rfl) rfl (cT (cw_block (cS (lw_pure (pur_seql rfl rfl) rfl (cA rfl rfl (cT ?_))))))
    refine cw_no rfl (by assumption) ?_
    refine cS (lw_pure (pur_seql rfl rfl) rfl (cA rfl rfl (cT ?_)))
    refine cw_no rfl (by assumption) ?_
    refine cS (lw_pure (pur_seql rfl rfl) rfl (cA rfl rfl (cT ?_)))
    refine cw_no rfl (by assumption) ?_
    refine cS (lw_pure (pur_seql rfl rfl) rfl (cA rfl rfl (cT ?_)))
    refine cw_no rfl (by assumption) ?_
    refine cS (lw_pure (pur_seql rfl rfl) rfl (cA rfl rfl (cT ?_)))
    refine cw_no rfl (by assumption) ?_
    refine cS (lw_pure (pur_seql rfl rfl) rfl (cA rfl rfl (cT ?_)))
    refine cw_no rfl (by assumption) ?_
    refine cS (lw_pure (pur_seql rfl rfl) rfl (cA rfl rfl (cT ?_)))
    refine cw_no rfl (by assumption) ?_
    refine cS (lw_pure (pur_seql rfl rfl) rfl (cA rfl rfl (cT ?_)))
    refine cw_no rfl (by assumption) ?_
    refine cS (lw_pure (pur_seql rfl rfl) rfl (cA rfl rfl (cT ?_)))
    refine cw_yes rfl (by assumption) ?_
    refine cS (cM rfl rfl ?_)
    refine lw_does (does_call (by kernel_rfl) rfl ((IH k (Nat.le_refl _)).branches 52 _ _ _ _ (by assumption) hin (by decide) (by decide) (by omega)) (fun _ _ h => h.ret)) rfl ?_ (fun _ h => h)
    rintro _ wh17 ⟨ah12, ⟨kh13, ⟨⟨⟩, ⟨hh14, ⟨hh15, fh16⟩⟩⟩⟩⟩
    have zh18 := Fr.size fh16
    replace hh5 := Blk.fr hh5 fh16 (by omega)
    clear hP
    replace X := Fr.fr X fh16 (by omega)
    clear fh16
    (refine lw_store' [_, _, _, _] [_, _, _, _] tabOk rfl rfl rfl rfl rfl rfl hh5 rfl rfl ?_; intro wh19 nh20)
    have hh23 := Put.blk nh20
    have fh21 := Put.fr nh20
    have zh22 := Put.size nh20
    clear nh20 hh5
    replace hh14 := Nd.sits.fr hh14 fh21 (by omega)
    replace hh15 := PP.fr hh15 fh21 (by omega)
    replace X := Fr.fr X fh21 (by omega)
    clear fh21
    refine cT (cw_ret (qw_block_ret (qw_then_ret (qw_retc rfl tabOk rfl rfl rfl hh23 rfl ?_))))
    rotate_left 1
   exact tree_ret (Nd.sits.wide (by assumption) (fun b h => by omega)) (by assumption) X
 rw [if_neg e8]
 by_cases e9 : (peekP c.ts σ).text = [102, 114, 111, 109]
 · rw [if_pos e9]
   have hin := HIN.out _ e9 (by decide)
   refine calls_in Tryz.func44 Tryz.ntmps44 rfl rfl ?_
   focus
    refine cS ?_
    (refine lw_alloc' [_, _, _, _] zOk rfl rfl ?_; intro bi1 wi2 ni3)
    have hi5 := New.blk ni3
    have xi6 := New.ext ni3
    have pi7 := New.pos ni3
    have zi8 := New.size ni3
    clear ni3
    replace hP := PP.ext hP xi6
    replace X := Fr.ext X xi6
    clear xi6
    refine cT (cw_seq (cS (cM rfl rfl ?_)))
    refine lw_does (does_call (by kernel_rfl) rfl (peek_c _ _ _ (by assumption)) (fun _ _ h => ⟨_, h.1⟩)) rfl ?_ (fun _ h => h)
    rintro _ wi10 ⟨⟨⟩, xi9⟩
    have zi11 := Ext.size xi9
    replace hi5 := Blk.ext hi5 xi9
    replace hP := PP.ext hP xi9
    replace X := Fr.ext X xi9
    clear xi9
    refine lw_pure (pur_field tabOk rfl rfl rfl rfl rfl rfl) rfl (cT (cw_block (cS (lw_pure (pur_seql rfl rfl) rfl (cA rfl rfl (cT ?_))))))
    refine cw_no rfl (by assumption) ?_
    refine cS (lw_pure (pur_seql rfl rfl) rfl (cA rfl rfl (cT ?_)))
    refine cw_no rfl (by assumption) ?_
    refine cS (lw_pure (pur_seql rfl rfl) rfl (cA rfl rfl (cT ?_)))
    refine cw_no rfl (by assumption) ?_
    refine cS (lw_pure (pur_seql rfl rfl) rfl (cA rfl rfl (cT ?_)))
    refine cw_no rfl (by assumption) ?_
    refine cS (lw_pure (pur_seql rfl rfl) rfl (cA rfl rfl (cT ?_)))
    refine cw_no rfl (by assumption) ?_
    refine cS (lw_pure (pur_seql rfl rfl) rfl (cA rfl rfl (cT ?_)))
    refine cw_no rfl (by assumption) ?_
    refine cS (lw_pure (pur_seql rfl rfl) rfl (cA rfl rfl (cT ?_)))
    refine cw_no rfl (by assumption) ?_
    refine cS (lw_pure (pur_seql rfl rfl) rfl (cA rfl rfl (cT ?_)))
    refine cw_no rfl (by assumption) ?_
    refine cS (lw_pure (pur_seql rfl rfl) rfl (cA rfl rfl (cT ?_)))
    refine cw_no rfl (by assumption) ?_
    refine cS (lw_pure (pur_seql rfl rfl) rfl (cA rfl rfl (cT ?_)))
    refine cw_yes rfl (by assumption) ?_
    refine cS (cM rfl rfl ?_)
    refine lw_does (does_call (by kernel_rfl) rfl ((IH k (Nat.le_refl _)).branches 53 _ _ _ _ (by assumption) hin (by decide) (by decide) (by omega)) (fun _ _ h => h.ret)) rfl ?_ (fun _ h => h)
    rintro _ wi17 ⟨ai12, ⟨ki13, ⟨⟨⟩, ⟨hi14, ⟨hi15, fi16⟩⟩⟩⟩⟩
    have zi18 := Fr.size fi16
    replace hi5 := Blk.fr hi5 fi16 (by omega)
    clear hP
    replace X := Fr.fr X fi16 (by omega)
    clear fi16
    (refine lw_store' [_, _, _, _] [_, _, _, _] tabOk rfl rfl rfl rfl rfl rfl hi5 rfl rfl ?_; intro wi19 ni20)
    have hi23 := Put.blk ni20
    have fi21 := Put.fr ni20
    have zi22 := Put.size ni20
    clear ni20 hi5
    replace hi14 := Nd.sits.fr hi14 fi21 (by omega)
    replace hi15 := PP.fr hi15 fi21 (by omega)
    replace X := Fr.fr X fi21 (by omega)
    clear fi21
    refine cT (cw_ret (qw_block_ret (qw_then_ret (qw_retc rfl tabOk rfl rfl rfl hi23 rfl ?_))))
    rotate_left 1
   exact tree_ret (Nd.sits.wide (by assumption) (fun b h => by omega)) (by assumption) X
 rw [if_neg e9]
 by_cases e10 : (peekP c.ts σ).text = [108, 111, 99, 97, 108]
 · rw [if_pos e10]
   have hin := HIN.out _ e10 (by decide)
   refine calls_in Tryz.func44 Tryz.ntmps44 rfl rfl ?_
   focus
    refine cS ?_
    (refine lw_alloc' [_, _, _, _] zOk rfl rfl ?_; intro bj1 wj2 nj3)
    have hj5 := New.blk nj3
    have xj6 := New.ext nj3
    have pj7 := New.pos nj3
    have zj8 := New.size nj3
    clear nj3
    replace hP := PP.ext hP xj6
    replace X := Fr.ext X xj6
    clear xj6
    refine cT (cw_seq (cS (cM rfl rfl ?_)))
    refine lw_does (does_call (by kernel_rfl) rfl (peek_c _ _ _ (by assumption)) (fun _ _ h => ⟨_, h.1⟩)) rfl ?_ (fun _ h => h)
    rintro _ wj10 ⟨⟨⟩, xj9⟩
    have zj11 := Ext.size xj9
    replace hj5 := Blk.ext hj5 xj9
    replace hP := PP.ext hP xj9
    replace X := Fr.ext X xj9
    clear xj9
    refine lw_pure (pur_field tabOk rfl rfl rfl rfl rfl rfl) rfl (cT (cw_block (cS (lw_pure (pur_seql rfl rfl) rfl (cA rfl rfl (cT ?_))))))
    refine cw_no rfl (by assumption) ?_
    refine cS (lw_pure (pur_seql rfl rfl) rfl (cA rfl rfl (cT ?_)))
    refine cw_no rfl (by assumption) ?_
    refine cS (lw_pure (pur_seql rfl rfl) rfl (cA rfl rfl (cT ?_)))
    refine cw_no rfl (by assumption) ?_
    refine cS (lw_pure (pur_seql rfl rfl) rfl (cA rfl rfl (cT ?_)))
    refine cw_no rfl (by assumption) ?_
    refine cS (lw_pure (pur_seql rfl rfl) rfl (cA rfl rfl (cT ?_)))
    refine cw_no rfl (by assumption) ?_
    refine cS (lw_pure (pur_seql rfl rfl) rfl (cA rfl rfl (cT ?_)))
    refine cw_no rfl (by assumption) ?_
    refine cS (lw_pure (pur_seql rfl rfl) rfl (cA rfl rfl (cT ?_)))
    refine cw_no rfl (by assumption) ?_
    refine cS (lw_pure (pur_seql rfl rfl) rfl (cA rfl rfl (cT ?_)))
    refine cw_no rfl (by assumption) ?_
    refine cS (lw_pure (pur_seql rfl rfl) rfl (cA rfl rfl (cT ?_)))
    refine cw_no rfl (by assumption) ?_
    refine cS (lw_pure (pur_seql rfl rfl) rfl (cA rfl rfl (cT ?_)))
    refine cw_no rfl (by assumption) ?_
    refine cS (lw_pure (pur_seql rfl rfl) rfl (cA rfl rfl (cT ?_)))
    refine cw_yes rfl (by assumption) ?_
    refine cS (cM rfl rfl ?_)
    refine lw_does (does_call (by kernel_rfl) rfl ((IH k (Nat.le_refl _)).local_ _ _ (by assumption) hin (by omega)) (fun _ _ h => h.ret)) rfl ?_ (fun _ h => h)
    rintro _ wj17 ⟨aj12, ⟨kj13, ⟨⟨⟩, ⟨hj14, ⟨hj15, fj16⟩⟩⟩⟩⟩
    have zj18 := Fr.size fj16
    replace hj5 := Blk.fr hj5 fj16 (by omega)
    clear hP
    replace X := Fr.fr X fj16 (by omega)
    clear fj16
    (refine lw_store' [_, _, _, _] [_, _, _, _] tabOk rfl rfl rfl rfl rfl rfl hj5 rfl rfl ?_; intro wj19 nj20)
    have hj23 := Put.blk nj20
    have fj21 := Put.fr nj20
    have zj22 := Put.size nj20
    clear nj20 hj5
    replace hj14 := Nd.sits.fr hj14 fj21 (by omega)
    replace hj15 := PP.fr hj15 fj21 (by omega)
    replace X := Fr.fr X fj21 (by omega)
    clear fj21
    refine cT (cw_ret (qw_block_ret (qw_then_ret (qw_retc rfl tabOk rfl rfl rfl hj23 rfl ?_))))
    rotate_left 1
   exact tree_ret (Nd.sits.wide (by assumption) (fun b h => by omega)) (by assumption) X
 rw [if_neg e10]
 refine calls_in Tryz.func44 Tryz.ntmps44 rfl rfl ?_
 focus
  refine cS ?_
  (refine lw_alloc' [_, _, _, _] zOk rfl rfl ?_; intro bk1 wk2 nk3)
  have hk5 := New.blk nk3
  have xk6 := New.ext nk3
  have pk7 := New.pos nk3
  have zk8 := New.size nk3
  clear nk3
  replace hP := PP.ext hP xk6
  replace X := Fr.ext X xk6
  clear xk6
  refine cT (cw_seq (cS (cM rfl rfl ?_)))
  refine lw_does (does_call (by kernel_rfl) rfl (peek_c _ _ _ (by assumption)) (fun _ _ h => ⟨_, h.1⟩)) rfl ?_ (fun _ h => h)
  rintro _ wk10 ⟨⟨⟩, xk9⟩
  have zk11 := Ext.size xk9
  replace hk5 := Blk.ext hk5 xk9
  replace hP := PP.ext hP xk9
  replace X := Fr.ext X xk9
  clear xk9
  refine lw_pure (pur_field tabOk rfl rfl rfl rfl rfl rfl) rfl (cT (cw_block (cS (lw_pure (pur_seql rfl rfl) rfl (cA rfl rfl (cT ?_))))))
  refine cw_no rfl (by assumption) ?_
  refine cS (lw_pure (pur_seql rfl rfl) rfl (cA rfl rfl (cT ?_)))
  refine cw_no rfl (by assumption) ?_
  refine cS (lw_pure (pur_seql rfl rfl) rfl (cA rfl rfl (cT ?_)))
  refine cw_no rfl (by assumption) ?_
  refine cS (lw_pure (pur_seql rfl rfl) rfl (cA rfl rfl (cT ?_)))
  refine cw_no rfl (by assumption) ?_
  refine cS (lw_pure (pur_seql rfl rfl) rfl (cA rfl rfl (cT ?_)))
  refine cw_no rfl (by assumption) ?_
  refine cS (lw_pure (pur_seql rfl rfl) rfl (cA rfl rfl (cT ?_)))
  refine cw_no rfl (by assumption) ?_
  refine cS (lw_pure (pur_seql rfl rfl) rfl (cA rfl rfl (cT ?_)))
  refine cw_no rfl (by assumption) ?_
  refine cS (lw_pure (pur_seql rfl rfl) rfl (cA rfl rfl (cT ?_)))
  refine cw_no rfl (by assumption) ?_
  refine cS (lw_pure (pur_seql rfl rfl) rfl (cA rfl rfl (cT ?_)))
  refine cw_no rfl (by assumption) ?_
  refine cS (lw_pure (pur_seql rfl rfl) rfl (cA rfl rfl (cT ?_)))
  refine cw_no rfl (by assumption) ?_
  refine cS (lw_pure (pur_seql rfl rfl) rfl (cA rfl rfl (cT ?_)))
  refine cw_no rfl (by assumption) ?_
  refine cw_skip (qw_block_norm (qw_then (cS (cM rfl rfl ?_))))
  refine lw_does (does_call (by kernel_rfl) rfl (update_c c k _ _ (by assumption) (by omega)) (fun _ _ h => h.ret)) rfl ?_ (fun _ h => h)
  rintro _ wk17 ⟨ak12, ⟨kk13, ⟨⟨⟩, ⟨hk14, ⟨hk15, fk16⟩⟩⟩⟩⟩
  have zk18 := Fr.size fk16
  replace hk5 := Blk.fr hk5 fk16 (by omega)
  clear hP
  replace X := Fr.fr X fk16 (by omega)
  clear fk16
  (refine lw_store' [_, _, _, _] [_, _, _, _] tabOk rfl rfl rfl rfl rfl rfl hk5 rfl rfl ?_; intro wk19 nk20)
  have hk23 := Put.blk nk20
  have fk21 := Put.fr nk20
  have zk22 := Put.size nk20
  clear nk20 hk5
  replace hk14 := Nd.sits.fr hk14 fk21 (by omega)
  replace hk15 := PP.fr hk15 fk21 (by omega)
  replace X := Fr.fr X fk21 (by omega)
  clear fk21
  refine cT (cw_ret (qw_retc rfl tabOk rfl rfl rfl hk23 rfl ?_))
  rotate_left 1
 exact tree_ret (Nd.sits.wide (by assumption) (fun b h => by omega)) (by assumption) X
end Bk
namespace Bk
open Go Go.RowKit Go.Proofs
attribute [local irreducible] Go.Calls
theorem mS_drop {ts : List Tok} {σ σ' : PS} (h : Le ts σ σ') (k : Lt σ σ') (e : σ'.err = 0) : mS ts σ' + 1 ≤ mS ts σ := by
 have h1 := h.ok e
 have h2 := k e
 have h3 := h.wf
 unfold mS
 rw [if_pos e, if_pos h1]
 omega
set_option maxRecDepth 100000 in
set_option maxHeartbeats 2000000 in
theorem block_w (c : PC) (k : Nat) (IH : ∀ j, j ≤ k → StmtsC c j) (σ : PS) (w : World) (hP : PP c σ w) (hk : 4 * mS c.ts σ + 8 ≤ k + 1) :
 Calls Tryz.prog 108 #[.pointer (some ⟨c.pb, 0, none⟩)] w (TreeR c w (blockP c.ts c.n (k + 1) σ)) := by
 have X := Fr.refl (· = c.pb) w
 have hpb := hP.pbB
 have hB := hP.B
 have hlen := hP.len
 rw [blockP]
 (try dsimp only)
 have l1 := expect_le (n := c.n) (t := [123]) hP.at_ (by decide)
 have m1 := mS_le l1
 have hmt : mS c.ts σ ≤ c.ts.length := by unfold mS; split <;> omega
 clear l1
 refine calls_in Tryz.func108 Tryz.ntmps108 rfl rfl ?_
 focus
  refine cS ?_
  (refine lw_alloc' [_, _, _, _] zOk rfl rfl ?_; intro b1 w2 n3)
  have h5 := New.blk n3
  have x6 := New.ext n3
  have p7 := New.pos n3
  have z8 := New.size n3
  clear n3
  replace hP := PP.ext hP x6
  replace X := Fr.ext X x6
  clear x6
  refine cN (lw_pure (pur_build' [_, _, _, _] tabOk zOk rfl rfl rfl rfl) rfl ?_)
  (refine lw_alloc' [_, _, _, _] zOk rfl rfl ?_; intro b9 w10 n11)
  (refine lw_init' [_, _, _, _] tabOk rfl rfl rfl rfl rfl rfl n11 rfl ?_; clear n11; clear w10; intro w12 n11)
  have h13 := New.blk n11
  have x14 := New.ext n11
  have p15 := New.pos n11
  have z16 := New.size n11
  clear n11
  replace h5 := Blk.ext h5 x14
  replace hP := PP.ext hP x14
  replace X := Fr.ext X x14
  clear x14
  refine cN (cM rfl rfl ?_)
  refine lw_does (does_call (by kernel_rfl) rfl (expect_c _ _ _ _ (by assumption) (by decide)) (fun _ _ h => ⟨_, h.1⟩)) rfl ?_ (fun _ h => h)
  rintro _ w19 ⟨⟨⟩, ⟨h17, f18⟩⟩
  have z20 := Fr.size f18
  replace h13 := Blk.fr h13 f18 (by omega)
  replace h5 := Blk.fr h5 f18 (by omega)
  clear hP
  replace X := Fr.fr X f18 (by omega)
  clear f18
  refine cT (cw_seq (cw_block ?_))
  rotate_left 1
 generalize expectP c.ts c.n σ [123] = ρ at *
 refine cw_loop (ι := Nat × List Nd × Option Addr × Nat × PS) (fun _ => [(0, .pointer (some ⟨c.pb, 0, none⟩)), (2, .pointer (some ⟨b1, 0, none⟩)), (3, .pointer (some ⟨b9, 0, none⟩))])
  (fun x w' => PP c x.2.2.2.2 w' ∧ Blk w' b9 [.int .u8 57, .int .i64 0, str [], .slice x.2.2.1 x.2.1.length x.2.2.2.1] ∧ OwnL ndShape w' (b9 + 1) 27 (.slice x.2.2.1 x.2.1.length x.2.2.2.1) x.2.1 ∧
   Blk w' b1 [.int .u8 0, .int .i64 0, .string ⟨#[]⟩, .slice none 0 0] ∧ Fr (· = c.pb) w w' ∧ w19.heap.size ≤ w'.heap.size ∧
   stmtsP c.ts c.n k [] ρ = stmtsP c.ts c.n x.1 x.2.1 x.2.2.2.2 ∧ (x.2.2.2.2.err = 0 → 4 * mS c.ts x.2.2.2.2 + 7 ≤ x.1) ∧ 1 ≤ x.1 ∧ x.1 ≤ k ∧ (x.2.2.2.2.err = 0 → x.2.1.length + mS c.ts x.2.2.2.2 ≤ 1000001)) (fun x => x.1) (k, [], none, 0, ρ) (by (refine sub_cons rfl ?_; refine sub_cons rfl ?_; refine sub_cons rfl ?_; exact sub_nil))
  ⟨h17, h13, OwnL.nil, h5, X, Nat.le_refl _, rfl, fun _ => by simp only; omega, by simp only; omega, Nat.le_refl _, fun _ => by simp only [List.length_nil]; omega⟩ ?_
 rintro ⟨j, acc, a, cap, σ'⟩ w1 ⟨hP, hbn, hown, hbr, X, hz, he, hfj, hj1, hjk, hacc⟩
 simp only at hP hbn hown he hfj hj1 hjk hacc
 clear h13 h5 h17
 rw [he]
 obtain ⟨j, rfl⟩ : ∃ i, j = i + 1 := ⟨j - 1, by omega⟩
 have hob : ∀ g, (Value.slice a acc.length cap).ownBlock = some g → g < w1.heap.size := fun g h => hown.lt h
 by_cases h0 : σ'.err = 0
 case neg =>
  rw [show stmtsP c.ts c.n (j + 1) acc σ' = (acc, σ') from by rw [stmtsP]; simp [h0]]
  focus
   refine cw_seq (cS (cM rfl rfl (lw_pure (pur_nilCheck rfl) rfl (lw_pure (pur_fieldAddr tabOk rfl rfl rfl) rfl (lw_load_b tabOk rfl rfl rfl (PP.blk hP) rfl rfl (lw_pure (pur_eql rfl rfl) rfl (cM rfl rfl ?_)))))))
   refine lw_off rfl rfl rfl (gd_tf (by assumption)) rfl ?_
   refine lw_off rfl rfl rfl (gd_tf (by assumption)) rfl ?_
   refine lw_off rfl rfl rfl (gd_tf (by assumption)) rfl ?_
   refine lw_pure (pur_pick_no rfl rfl (by assumption)) rfl ?_
   refine cT (cw_cond_f rfl (cw_exit (qw_then_exit (qw_then_exit (qw_block_exit (qw_then (cS (lw_loads_b' [_, _, _, _] tabOk rfl rfl rfl hbn rfl rfl rfl ?_))))))))
   (refine lw_store' [_, _, _, _] [_, _, _, _] tabOk rfl rfl rfl rfl rfl rfl hbr rfl rfl ?_; intro wa1 na2)
   have ha5 := Put.blk na2
   have fa3 := Put.fr na2
   have za4 := Put.size na2
   clear na2 hbr
   replace hP := PP.fr hP fa3 (by omega)
   replace hbn := Blk.fr hbn fa3 (by omega)
   replace hown := OwnL.fr hown fa3 (by omega)
   replace X := Fr.fr X fa3 (by omega)
   clear fa3
   refine cT (cw_ret (qw_retc rfl tabOk rfl rfl rfl ha5 rfl ?_))
   rotate_left 1
  exact tree_ret (sits_mk (hown.sits (fun b h => by omega))) (by assumption) X
 cases hc : hasP c.ts σ' [125]
 case true =>
  rw [show stmtsP c.ts c.n (j + 1) acc σ' = (acc, nextP σ') from by rw [stmtsP]; simp [h0, hc]]
  focus
   refine cw_seq (cS (cM rfl rfl (lw_pure (pur_nilCheck rfl) rfl (lw_pure (pur_fieldAddr tabOk rfl rfl rfl) rfl (lw_load_b tabOk rfl rfl rfl (PP.blk hP) rfl rfl (lw_pure (pur_eql rfl rfl) rfl (cM rfl rfl ?_)))))))
   refine lw_on rfl rfl rfl (gd_tt (by assumption)) ?_
   refine cM rfl rfl ?_
   refine lw_on rfl rfl rfl (gd_tt (by assumption)) ?_
   refine lw_does (does_call (by kernel_rfl) rfl (accept_t _ _ _ _ (by assumption) (by decide) (by assumption)) (fun _ _ h => ⟨_, h.1⟩)) rfl ?_ (fun _ h => h)
   rintro _ wb3 ⟨⟨⟩, ⟨hb1, fb2⟩⟩
   have zb4 := Fr.size fb2
   clear hP
   replace hbn := Blk.fr hbn fb2 (by omega)
   replace hown := OwnL.fr hown fb2 (by omega)
   replace hbr := Blk.fr hbr fb2 (by omega)
   replace X := Fr.fr X fb2 (by omega)
   clear fb2
   refine lw_on rfl rfl rfl (gd_tt (by assumption)) ?_
   refine lw_pure (pur_not rfl) rfl ?_
   refine lw_pure (pur_pick_yes rfl rfl (by assumption)) rfl ?_
   refine cT (cw_cond_f rfl (cw_exit (qw_then_exit (qw_then_exit (qw_block_exit (qw_then (cS (lw_loads_b' [_, _, _, _] tabOk rfl rfl rfl hbn rfl rfl rfl ?_))))))))
   (refine lw_store' [_, _, _, _] [_, _, _, _] tabOk rfl rfl rfl rfl rfl rfl hbr rfl rfl ?_; intro wb5 nb6)
   have hb9 := Put.blk nb6
   have fb7 := Put.fr nb6
   have zb8 := Put.size nb6
   clear nb6 hbr
   replace hb1 := PP.fr hb1 fb7 (by omega)
   replace hbn := Blk.fr hbn fb7 (by omega)
   replace hown := OwnL.fr hown fb7 (by omega)
   replace X := Fr.fr X fb7 (by omega)
   clear fb7
   refine cT (cw_ret (qw_retc rfl tabOk rfl rfl rfl hb9 rfl ?_))
   rotate_left 1
  exact tree_ret (sits_mk (hown.sits (fun b h => by omega))) (by assumption) X
 rw [show stmtsP c.ts c.n (j + 1) acc σ' = stmtsP c.ts c.n j (acc ++ [(stmtP c.ts c.n j σ').1]) (expectP c.ts c.n (stmtP c.ts c.n j σ').2 [59]) from by rw [stmtsP]; simp [h0, hc]]
 have l1 := (stmt_inv (ts := c.ts) (n := c.n) j).1 σ' hP.at_
 have l2 := expect_le (n := c.n) (t := [59]) l1.wf (by decide)
 have hlt : Lt σ' (expectP c.ts c.n (stmtP c.ts c.n j σ').2 [59]) := Lt.of_le l1 expect_lt
 have hdrop := mS_drop (l1.trans l2) hlt
 have hmv := mS_lt (l1.trans l2) hlt
 have hacc0 := hacc h0
 have hfj0 := hfj h0
 clear l1 l2
 focus
  refine cw_seq (cS (cM rfl rfl (lw_pure (pur_nilCheck rfl) rfl (lw_pure (pur_fieldAddr tabOk rfl rfl rfl) rfl (lw_load_b tabOk rfl rfl rfl (PP.blk hP) rfl rfl (lw_pure (pur_eql rfl rfl) rfl (cM rfl rfl ?_)))))))
  refine lw_on rfl rfl rfl (gd_tt (by assumption)) ?_
  refine cM rfl rfl ?_
  refine lw_on rfl rfl rfl (gd_tt (by assumption)) ?_
  refine lw_does (does_call (by kernel_rfl) rfl (accept_f _ _ _ _ (by assumption) (by decide) (by assumption)) (fun _ _ h => ⟨_, h.1⟩)) rfl ?_ (fun _ h => h)
  rintro _ wc3 ⟨⟨⟩, ⟨hc1, fc2⟩⟩
  have zc4 := Fr.size fc2
  clear hP
  replace hbn := Blk.fr hbn fc2 (by omega)
  replace hown := OwnL.fr hown fc2 (by omega)
  replace hbr := Blk.fr hbr fc2 (by omega)
  replace X := Fr.fr X fc2 (by omega)
  clear fc2
  refine lw_on rfl rfl rfl (gd_tt (by assumption)) ?_
  refine lw_pure (pur_not rfl) rfl ?_
  refine lw_pure (pur_pick_yes rfl rfl (by assumption)) rfl ?_
  refine cT (cw_cond_t rfl (cw_skip (qw_then (cw_block (cw_seq ?_)))))
  (refine cw_tdraw (fun wz => Fr (· = c.pb) wc3 wz) 5 (.pure 0 (.pure 1 (.pure 2 (.fork 3 (.fork 4 .tail .none) .none)))) mixed (by kernel_rfl) (panicOk_then (panicOk_block (panicOk_then (panicOk_block (panicOk_then panicOk_body))))) ?_; intro wc5 xc6 _)
  have qsc7 : (fun wz => Fr (· = c.pb) wc3 wz) wc5 := Fr.of_ext xc6
  simp only at qsc7
  have d_hc1 := hc1
  have d_hbn := hbn
  have d_hown := hown
  have d_hbr := hbr
  have zc8 := Ext.size xc6
  replace hc1 := PP.ext hc1 xc6
  replace hbn := Blk.ext hbn xc6
  replace hown := OwnL.ext hown xc6
  replace hbr := Blk.ext hbr xc6
  replace X := Fr.ext X xc6
  clear xc6
  refine ⟨qsc7, ?_⟩
  refine tw_pure rfl (pur_fieldAddr tabOk rfl rfl rfl) rfl ?_
  refine tw_pure rfl (pur_load tabOk rfl rfl rfl (fun wz hz => Blk.cell (Blk.fr d_hbn hz (by omega)) rfl)) rfl ?_
  refine tw_pure rfl (pur_move rfl) rfl ?_
  refine tw_does rfl (does_call (by kernel_rfl) rfl ((IH j (by omega)).stmt _ _ (by assumption) (by omega)) (fun _ _ h => h.ret)) rfl ?_ (fun _ h => h) tw_none
  rintro _ wc14 ⟨ac9, ⟨kc10, ⟨⟨⟩, ⟨hc11, ⟨hc12, fc13⟩⟩⟩⟩⟩
  have zc15 := Fr.size fc13
  replace qsc7 := Fr.fr qsc7 fc13 (by omega)
  clear hc1
  replace hbn := Blk.fr hbn fc13 (by omega)
  replace hown := OwnL.fr hown fc13 (by omega)
  replace hbr := Blk.fr hbr fc13 (by omega)
  replace X := Fr.fr X fc13 (by omega)
  clear fc13
  refine ⟨qsc7, ?_⟩
  (refine tw_does rfl (does_slice' [_, _, _, _] tabOk zOk rfl rfl rfl rfl rfl rfl rfl rfl rfl) rfl ?_ (fun _ h => h) tw_none; rintro _ wc17 ⟨bc16, rfl, nc18, tc19⟩)
  clear tc19
  have hc20 := New.blk nc18
  have xc21 := New.ext nc18
  have pc22 := New.pos nc18
  have zc23 := New.size nc18
  clear nc18
  replace hc11 := Nd.sits.ext hc11 xc21
  replace hc12 := PP.ext hc12 xc21
  replace qsc7 := Fr.ext qsc7 xc21
  replace hbn := Blk.ext hbn xc21
  replace hown := OwnL.ext hown xc21
  replace hbr := Blk.ext hbr xc21
  replace X := Fr.ext X xc21
  clear xc21
  refine ⟨qsc7, ?_⟩
  clear d_hc1 d_hbn d_hown d_hbr qsc7
  refine tw_tail rfl ?_
  refine lw_appendL (sh := ndShape) tabOk zOk rfl rfl rfl rfl (by kernel_rfl) rfl rfl rfl hown (Blk.row (by assumption)) ⟨_, _, rfl, Nd.sits.wide (by assumption) (fun b h => ⟨by omega, fun e => by have := hob _ e; omega⟩)⟩ (by omega) (by omega) rfl ?_
  rintro gc24 cap'c25 wc26 hc27 fc28
  have zc29 := Fr.size fc28
  clear hc20 hc11
  replace hc12 := PP.fr hc12 fc28 (by omega)
  replace hbn := Blk.fr hbn fc28 (by omega)
  clear hown
  replace hbr := Blk.fr hbr fc28 (by omega)
  replace X := Fr.fr X fc28 (by omega)
  clear fc28
  refine lw_pure (pur_fieldAddr tabOk rfl rfl rfl) rfl ?_
  (refine lw_store' [_] [_, _, _, _] tabOk rfl rfl rfl rfl rfl rfl hbn rfl rfl ?_; intro wc30 nc31)
  have hc34 := Put.blk nc31
  have fc32 := Put.fr nc31
  have zc33 := Put.size nc31
  clear nc31 hbn
  replace hc27 := OwnL.fr hc27 fc32 (by omega)
  replace hc12 := PP.fr hc12 fc32 (by omega)
  replace hbr := Blk.fr hbr fc32 (by omega)
  replace X := Fr.fr X fc32 (by omega)
  clear fc32
  refine cT (cw_region (cM rfl rfl ?_))
  refine lw_does (does_call (by kernel_rfl) rfl (expect_c _ _ _ _ (by assumption) (by decide)) (fun _ _ h => ⟨_, h.1⟩)) rfl ?_ (fun _ h => h)
  rintro _ wc37 ⟨⟨⟩, ⟨hc35, fc36⟩⟩
  have zc38 := Fr.size fc36
  replace hc34 := Blk.fr hc34 fc36 (by omega)
  replace hc27 := OwnL.fr hc27 fc36 (by omega)
  clear hc12
  replace hbr := Blk.fr hbr fc36 (by omega)
  replace X := Fr.fr X fc36 (by omega)
  clear fc36
  refine lw_nil (qw_block_norm ?_)
  rotate_left 1
 refine qw_round (j, acc ++ [(stmtP c.ts c.n j σ').1], some ⟨_, 0, none⟩, _, expectP c.ts c.n (stmtP c.ts c.n j σ').2 [59]) (by (refine sub_cons rfl ?_; refine sub_cons rfl ?_; refine sub_cons rfl ?_; exact sub_nil)) ⟨by assumption, by assumption, by assumption, by assumption, X, by omega, rfl, fun e => by have := hdrop e; simp only; omega, by simp only; omega, by simp only; omega, fun e => ?_⟩ (by simp)
 have := hdrop e
 simp only [List.length_append, List.length_cons, List.length_nil]
 omega
theorem stmts_c (c : PC) (k : Nat) : StmtsC c k := by
 induction k using Nat.strongRecOn with
 | _ k ih =>
  cases k with
  | zero => exact ⟨fun _ _ _ h => by omega, fun _ _ _ _ _ _ _ _ _ h => by omega, fun _ _ _ _ h => by omega, fun _ _ _ h => by omega⟩
  | succ k =>
   have IH : ∀ j, j ≤ k → StmtsC c j := fun j hj => ih j (by omega)
   exact ⟨stmt_w c k IH, branches_w c k IH, local_w c k IH, block_w c k IH⟩
end Bk
namespace Bk
open Go Go.RowKit Go.Proofs
attribute [local irreducible] Go.Calls
theorem rowDepth_snoc (l : List Nd) (x : Nd) : rowDepth (l ++ [x]) = max (rowDepth l) x.depth := by
 induction l with
 | nil => simp only [List.nil_append, rowDepth]; omega
 | cons y r ih => simp only [List.cons_append, rowDepth, ih]; omega
mutual
theorem depth_le : ∀ t : Nd, 1 ≤ t.depth ∧ t.depth ≤ t.size
 | .mk _ _ _ l => by
  have := rowDepth_le l
  simp only [Nd.depth, Nd.size]; omega
theorem rowDepth_le : ∀ l : List Nd, 0 ≤ rowDepth l ∧ rowDepth l ≤ rowSize l
 | [] => by simp [rowDepth, rowSize]
 | t :: r => by
  have h1 := depth_le t
  have h2 := rowDepth_le r
  simp only [rowDepth, rowSize]; omega
end
theorem rowSize_snoc (l : List Nd) (x : Nd) : rowSize (l ++ [x]) = rowSize l + x.size := by
 induction l with
 | nil => simp [rowSize]
 | cons y r ih => simp only [List.cons_append, rowSize, ih]; omega
theorem rowSize_take (l : List Nd) (j : Nat) : rowSize (l.take j) ≤ rowSize l := by
 induction l generalizing j with
 | nil => simp
 | cons x r ih =>
  cases j with
  | zero => simp [rowSize]
  | succ j => simp only [List.take_succ_cons, rowSize]; have := ih j; omega
theorem length_rowSize (l : List Nd) : l.length ≤ rowSize l := by
 induction l with
 | nil => simp [rowSize]
 | cons x r ih => have := Nd.size_pos x; simp only [rowSize, List.length_cons]; omega
set_option maxRecDepth 100000 in
set_option maxHeartbeats 1000000 in
theorem Depth_c (N : Nat) : ∀ (t : Nd) (S : Nat → Prop) (a : Option Addr) (c : Nat) (w : World), t.size < N → t.size ≤ 1000000000 → t.sits S w a →
 Calls Tryz.prog 114 #[t.val a c] w fun e w' => e = .returned (.int .i64 t.depth) ∧ Ext w w' := by
 induction N with
 | zero => intro t S a c w h; omega
 | succ N ih =>
  rintro ⟨k, n, s, l⟩ S a c w hN hM hs
  have IH := Lib.hid ih; clear ih
  simp only [Nd.sits] at hs
  simp only [Nd.size] at hN hM
  have X := Ext.refl w
  have hl := length_rowSize l
  rw [show (Nd.mk k n s l).depth = rowDepth l + 1 from by simp only [Nd.depth]]
  refine calls_in Tryz.func114 Tryz.ntmps114 rfl rfl ?_
  focus
   refine cS ?_
   (refine lw_box' [_, _, _, _] rfl rfl rfl ?_; intro b1 w2 n3)
   have h4 := New.blk n3
   have x5 := New.ext n3
   have p6 := New.pos n3
   have z7 := New.size n3
   clear n3
   replace hs := Bk.rowSits.ext hs x5
   replace X := Ext.ext X x5
   clear x5
   refine cA rfl rfl (cN (cA rfl rfl (cT (cw_seq (cS (lw_pure (pur_fieldAddr tabOk rfl rfl rfl) rfl (lw_load_b tabOk rfl rfl rfl h4 rfl rfl (lw_pure (pur_len_slice tabOk rfl rfl) rfl (cM rfl rfl (cT (cw_block ?_)))))))))))
   rotate_left 1
  refine cw_loop (ι := Nat) (fun j => [(9, .int .i64 j), (8, .int .i64 l.length), (7, .slice a l.length c), (3, .int .i64 (rowDepth (l.take j)))]) (fun j w' => rowSits S w' l a ∧ Ext w w' ∧ j ≤ l.length) (fun j => l.length - j) 0 (by (refine sub_cons rfl ?_; refine sub_cons rfl ?_; refine sub_cons rfl ?_; refine sub_cons rfl ?_; exact sub_nil)) ⟨hs, X, Nat.zero_le _⟩ ?_
  rintro j w1 ⟨hs, X, hj⟩
  clear h4
  by_cases hlt : j < l.length
  · obtain ⟨kb, ko, rfl, hkS, hkid⟩ := kidRows hs (by intro e; subst e; simp at hlt)
    obtain ⟨xa, xc, rx, sx⟩ := hkid j l[j] (List.getElem?_eq_getElem hlt)
    have hsz := size_mem (List.getElem_mem hlt)
    have ht : l.take (j + 1) = l.take j ++ [l[j]] := by rw [List.take_add_one, List.getElem?_eq_getElem hlt]; rfl
    have hb0 := rowDepth_le (l.take j)
    have hb1 := rowSize_take l j
    have hb2 := rowSize_take l (j + 1)
    have hb3 := depth_le l[j]
    rw [ht, rowSize_snoc] at hb2
    clear hkid
    generalize l[j] = x at *
    focus
     refine cS (lw_pure (pur_lss rfl rfl) rfl (cT (cw_seq ?_)))
     refine cw_yes rfl (by omega) ?_
     refine cw_skip (qw_then (cw_seq (cw_block (cS ?_))))
     refine lw_pure (pur_indexAddr tabOk rfl rfl rfl rfl (by omega) (by omega)) rfl ?_
     refine lw_loads_r0 tabOk rfl rfl rfl rx rfl rfl ?_
     (refine lw_alloc' [_, _, _, _] zOk rfl rfl ?_; intro ba1 wa2 na3)
     (refine lw_init' [_, _, _, _] tabOk rfl rfl rfl rfl rfl rfl na3 rfl ?_; clear na3; clear wa2; intro wa4 na3)
     have ha5 := New.blk na3
     have xa6 := New.ext na3
     have pa7 := New.pos na3
     have za8 := New.size na3
     clear na3
     replace X := Ext.ext X xa6
     replace hs := Bk.rowSits.ext hs xa6
     replace rx := Row.ext rx xa6
     replace sx := Nd.sits.ext sx xa6
     clear xa6
     refine cT (cw_region (cM rfl rfl (lw_loads_b' [_, _, _, _] tabOk rfl rfl rfl ha5 rfl rfl rfl ?_)))
     refine lw_does (does_call (by kernel_rfl) rfl (IH.out _ S _ _ _ (by omega) (by omega) (by assumption)) (fun _ _ h => ⟨_, h.1⟩)) rfl ?_ (fun _ h => h)
     rintro _ wa10 ⟨⟨⟩, xa9⟩
     have za11 := Ext.size xa9
     replace ha5 := Blk.ext ha5 xa9
     replace X := Ext.ext X xa9
     replace hs := Bk.rowSits.ext hs xa9
     replace rx := Row.ext rx xa9
     replace sx := Nd.sits.ext sx xa9
     clear xa9
     refine lw_pure (pur_max rfl rfl rfl) rfl (cA rfl rfl (lw_nil (qw_block_norm (qw_then (cw_region ?_)))))
     refine lw_pure (pur_add rfl rfl (IntWalk.i64_in _ (by omega))) rfl ?_
     refine cM rfl rfl (lw_nil ?_)
     rotate_left 1
    refine qw_round (j + 1) ?_ ⟨hs, X, by omega⟩ (by omega)
    refine sub_cons rfl (sub_cons rfl (sub_cons rfl (sub_cons' rfl ?_ sub_nil)))
    rw [ht, rowDepth_snoc]
  · have : j = l.length := by omega
    subst this
    have hb0 := rowDepth_le l
    rw [List.take_length]
    focus
     refine cS (lw_pure (pur_lss rfl rfl) rfl (cT (cw_seq ?_)))
     refine cw_no rfl (by omega) ?_
     refine cw_exit (qw_then_exit (qw_then_exit (qw_block_exit (qw_then (cS (cM rfl rfl ?_))))))
     refine lw_pure (pur_add rfl rfl (IntWalk.i64_in _ (by omega))) rfl ?_
     refine cA rfl rfl (cT (cw_ret (qw_ret1 rfl rfl ?_)))
     rotate_left 1
    exact ⟨rfl, X⟩
set_option maxRecDepth 100000 in
set_option maxHeartbeats 1000000 in
theorem Size_c (N : Nat) : ∀ (t : Nd) (S : Nat → Prop) (a : Option Addr) (c : Nat) (w : World), t.size < N → t.size ≤ 1000000000 → t.sits S w a →
 Calls Tryz.prog 115 #[t.val a c] w fun e w' => e = .returned (.int .i64 t.size) ∧ Ext w w' := by
 induction N with
 | zero => intro t S a c w h; omega
 | succ N ih =>
  rintro ⟨k, n, s, l⟩ S a c w hN hM hs
  have IH := Lib.hid ih; clear ih
  simp only [Nd.sits] at hs
  simp only [Nd.size] at hN hM
  have X := Ext.refl w
  have hl := length_rowSize l
  rw [show ((Nd.mk k n s l).size : Int) = ((rowSize l : Nat) : Int) + 1 from by simp only [Nd.size]; omega]
  refine calls_in Tryz.func115 Tryz.ntmps115 rfl rfl ?_
  focus
   refine cS ?_
   (refine lw_box' [_, _, _, _] rfl rfl rfl ?_; intro b1 w2 n3)
   have h4 := New.blk n3
   have x5 := New.ext n3
   have p6 := New.pos n3
   have z7 := New.size n3
   clear n3
   replace hs := Bk.rowSits.ext hs x5
   replace X := Ext.ext X x5
   clear x5
   refine cA rfl rfl (cN (cA rfl rfl (cT (cw_seq (cS (lw_pure (pur_fieldAddr tabOk rfl rfl rfl) rfl (lw_load_b tabOk rfl rfl rfl h4 rfl rfl (lw_pure (pur_len_slice tabOk rfl rfl) rfl (cM rfl rfl (cT (cw_block ?_)))))))))))
   rotate_left 1
  refine cw_loop (ι := Nat) (fun j => [(9, .int .i64 j), (8, .int .i64 l.length), (7, .slice a l.length c), (3, .int .i64 (((rowSize (l.take j) : Nat) : Int) + 1))]) (fun j w' => rowSits S w' l a ∧ Ext w w' ∧ j ≤ l.length) (fun j => l.length - j) 0 (by (refine sub_cons rfl ?_; refine sub_cons rfl ?_; refine sub_cons rfl ?_; refine sub_cons rfl ?_; exact sub_nil)) ⟨hs, X, Nat.zero_le _⟩ ?_
  rintro j w1 ⟨hs, X, hj⟩
  clear h4
  by_cases hlt : j < l.length
  · obtain ⟨kb, ko, rfl, hkS, hkid⟩ := kidRows hs (by intro e; subst e; simp at hlt)
    obtain ⟨xa, xc, rx, sx⟩ := hkid j l[j] (List.getElem?_eq_getElem hlt)
    have hsz := size_mem (List.getElem_mem hlt)
    have ht : l.take (j + 1) = l.take j ++ [l[j]] := by rw [List.take_add_one, List.getElem?_eq_getElem hlt]; rfl
    have hb0 := rowDepth_le (l.take j)
    have hb1 := rowSize_take l j
    have hb2 := rowSize_take l (j + 1)
    have hb3 := depth_le l[j]
    rw [ht, rowSize_snoc] at hb2
    clear hkid
    generalize l[j] = x at *
    focus
     refine cS (lw_pure (pur_lss rfl rfl) rfl (cT (cw_seq ?_)))
     refine cw_yes rfl (by omega) ?_
     refine cw_skip (qw_then (cw_seq (cw_block (cS ?_))))
     refine lw_pure (pur_indexAddr tabOk rfl rfl rfl rfl (by omega) (by omega)) rfl ?_
     refine lw_loads_r0 tabOk rfl rfl rfl rx rfl rfl ?_
     (refine lw_alloc' [_, _, _, _] zOk rfl rfl ?_; intro ba1 wa2 na3)
     (refine lw_init' [_, _, _, _] tabOk rfl rfl rfl rfl rfl rfl na3 rfl ?_; clear na3; clear wa2; intro wa4 na3)
     have ha5 := New.blk na3
     have xa6 := New.ext na3
     have pa7 := New.pos na3
     have za8 := New.size na3
     clear na3
     replace X := Ext.ext X xa6
     replace hs := Bk.rowSits.ext hs xa6
     replace rx := Row.ext rx xa6
     replace sx := Nd.sits.ext sx xa6
     clear xa6
     refine cT (cw_region (cM rfl rfl (lw_loads_b' [_, _, _, _] tabOk rfl rfl rfl ha5 rfl rfl rfl ?_)))
     refine lw_does (does_call (by kernel_rfl) rfl (IH.out _ S _ _ _ (by omega) (by omega) (by assumption)) (fun _ _ h => ⟨_, h.1⟩)) rfl ?_ (fun _ h => h)
     rintro _ wa10 ⟨⟨⟩, xa9⟩
     have za11 := Ext.size xa9
     replace ha5 := Blk.ext ha5 xa9
     replace X := Ext.ext X xa9
     replace hs := Bk.rowSits.ext hs xa9
     replace rx := Row.ext rx xa9
     replace sx := Nd.sits.ext sx xa9
     clear xa9
     refine lw_pure (pur_add rfl rfl (IntWalk.i64_in _ (by omega))) rfl ?_
     refine cA rfl rfl (lw_nil (qw_block_norm (qw_then (cw_region ?_))))
     refine lw_pure (pur_add rfl rfl (IntWalk.i64_in _ (by omega))) rfl ?_
     refine cM rfl rfl (lw_nil ?_)
     rotate_left 1
    refine qw_round (j + 1) ?_ ⟨hs, X, by omega⟩ (by omega)
    refine sub_cons rfl (sub_cons rfl (sub_cons rfl (sub_cons' rfl ?_ sub_nil)))
    rw [ht, rowSize_snoc]
    congr 1; omega
  · have : j = l.length := by omega
    subst this
    have hb0 := rowDepth_le l
    rw [List.take_length]
    focus
     refine cS (lw_pure (pur_lss rfl rfl) rfl (cT (cw_seq ?_)))
     refine cw_no rfl (by omega) ?_
     refine cw_exit (qw_then_exit (qw_then_exit (qw_block_exit (qw_then (cS (cM rfl rfl (cA rfl rfl (cT (cw_ret (qw_ret1 rfl rfl ?_))))))))))
     rotate_left 1
    exact ⟨rfl, X⟩
end Bk
namespace Bk
open Go Go.RowKit
abbrev VD.cells (v : VD) : List Value := [str v.name, .int .u8 v.kind, .int .i64 v.len]
abbrev VD.val (v : VD) : Value := .agg #[str v.name, .int .u8 v.kind, .int .i64 v.len]
def VDAt (w : World) (b o : Nat) (v : VD) : Prop := Row w ⟨b, o, none⟩ v.cells
def VDs (S : Nat → Prop) (w : World) (l : List VD) (a : Option Addr) : Prop := Arr S 3 VDAt w l a
abbrev PD.cells (p : PD) (pa : Option Addr) (pc : Nat) (ba : Option Addr) (bc : Nat) : List Value := [str p.name, .slice pa p.params.length pc, .int .u8 p.body.kind, .int .i64 p.body.num, str p.body.name, .slice ba p.body.kids.length bc]
def PDAt (S : Nat → Prop) (w : World) (b o : Nat) (p : PD) : Prop := ∃ pa pc ba bc, Row w ⟨b, o, none⟩ (p.cells pa pc ba bc) ∧ VDs S w p.params pa ∧ p.body.sits S w ba
def PDs (S : Nat → Prop) (w : World) (l : List PD) (a : Option Addr) : Prop := Arr S 6 (PDAt S) w l a
theorem VDs.ext {S : Nat → Prop} {w w' : World} {l : List VD} {a : Option Addr} (h : VDs S w l a) (x : Ext w w') : VDs S w' l a := h.mono (fun _ h => h) (fun _ _ _ _ _ h => Row.ext h x)
theorem PDs.ext {S : Nat → Prop} {w w' : World} {l : List PD} {a : Option Addr} (h : PDs S w l a) (x : Ext w w') : PDs S w' l a :=
 h.mono (fun _ h => h) (fun _ _ _ _ _ ⟨pa, pc, ba, bc, h1, h2, h3⟩ => ⟨pa, pc, ba, bc, h1.ext x, h2.ext x, h3.ext x⟩)
abbrev PG.cells (g : PG) (va : Option Addr) (vc : Nat) (pa : Option Addr) (pc : Nat) (ma : Option Addr) (mc : Nat) : List Value :=
 [.slice va g.vars.length vc, .slice pa g.procs.length pc, .int .u8 g.main.kind, .int .i64 g.main.num, str g.main.name, .slice ma g.main.kids.length mc]
structure PG.sits (S : Nat → Prop) (w : World) (g : PG) (va pa ma : Option Addr) : Prop where
 vars : VDs S w g.vars va
 procs : PDs S w g.procs pa
 main : g.main.sits S w ma
theorem PG.sits.ext {S : Nat → Prop} {w w' : World} {g : PG} {va pa ma : Option Addr} (h : g.sits S w va pa ma) (x : Ext w w') : g.sits S w' va pa ma := ⟨h.vars.ext x, h.procs.ext x, h.main.ext x⟩
theorem VDs.fr {S T : Nat → Prop} {w w' : World} {l : List VD} {a : Option Addr} (h : VDs S w l a) (x : Fr T w w') (hs : ∀ b, S b → ¬ T b) : VDs S w' l a := h.mono (fun _ h => h) (fun b _ _ _ hb h => Row.fr h x (hs b hb))
theorem PDs.fr {S T : Nat → Prop} {w w' : World} {l : List PD} {a : Option Addr} (h : PDs S w l a) (x : Fr T w w') (hs : ∀ b, S b → ¬ T b) : PDs S w' l a :=
 h.mono (fun _ h => h) (fun b _ _ _ hb ⟨pa, pc, ba, bc, h1, h2, h3⟩ => ⟨pa, pc, ba, bc, h1.fr x (hs b hb), h2.fr x hs, h3.fr x hs⟩)
theorem PG.sits.fr {S T : Nat → Prop} {w w' : World} {g : PG} {va pa ma : Option Addr} (h : g.sits S w va pa ma) (x : Fr T w w') (hs : ∀ b, S b → ¬ T b) : g.sits S w' va pa ma := ⟨h.vars.fr x hs, h.procs.fr x hs, h.main.fr x hs⟩
theorem VDs.wide {S S' : Nat → Prop} {w : World} {l : List VD} {a : Option Addr} (h : VDs S w l a) (hs : ∀ b, S b → S' b) : VDs S' w l a := h.mono hs (fun _ _ _ _ _ h => h)
theorem row_move {w w' : World} {b o : Nat} {vs : List Value} (h : Row w ⟨b, o, none⟩ vs) (hc : ∀ o v, w.cell? ⟨b, o, none⟩ = some v → w'.cell? ⟨b, o, none⟩ = some v) : Row w' ⟨b, o, none⟩ vs := fun i v hi => by
 have := h.at hi
 have e : (⟨b, o, none⟩ : Addr).add i = ⟨b, o + i, none⟩ := by unfold Addr.add; by_cases h0 : i = 0 <;> simp [h0]
 rw [e]; exact hc _ _ this
theorem VDs.move {S S' : Nat → Prop} {w w' : World} {l : List VD} {a : Option Addr} (h : VDs S w l a) (hS : ∀ b, S b → S' b) (hc : ∀ b o v, S b → w.cell? ⟨b, o, none⟩ = some v → w'.cell? ⟨b, o, none⟩ = some v) : VDs S' w' l a :=
 h.mono hS (fun b o x _ hb h => row_move h (fun o v => hc b o v hb))
theorem VDs.lt2 {S : Nat → Prop} {w : World} {l : List VD} {a : Option Addr} (h : VDs S w l a) : VDs (fun b => S b ∧ b < w.heap.size) w l a := by
 rcases h with h | ⟨b, o, h1, h2, h3⟩
 · exact Or.inl h
 · cases l with
   | nil => exact Or.inl rfl
   | cons v r => exact Or.inr ⟨b, o, h1, ⟨h2, cell_lt (Row.at0 (h3 0 v rfl) rfl)⟩, h3⟩
def vdShape : Shape VD where
 sz := 3
 rep := fun _ _ v cs => cs = v.cells
 len := fun h => by rw [h]; rfl
 one := fun h => by rw [h]; rfl
 mono := fun h _ _ => h
 lt := fun h => h
def pdShape : Shape PD where
 sz := 6
 rep := fun w S p cs => ∃ pa pc ba bc, cs = p.cells pa pc ba bc ∧ VDs S w p.params pa ∧ p.body.sits S w ba
 len := fun ⟨_, _, _, _, h, _⟩ => by rw [h]; rfl
 one := fun ⟨_, _, _, _, h, _⟩ => by rw [h]; rfl
 mono := fun ⟨pa, pc, ba, bc, h, h1, h2⟩ hS hc => ⟨pa, pc, ba, bc, h, h1.move hS hc, Nd.sits_mono hS hc _ ba h2⟩
 lt := fun ⟨pa, pc, ba, bc, h, h1, h2⟩ => ⟨pa, pc, ba, bc, h, h1.lt2, sits_lt2 _ ba h2⟩
theorem OwnL.vds {w : World} {B e : Nat} {a : Option Addr} {len cap : Nat} {xs : List VD} {S : Nat → Prop} (h : OwnL vdShape w B e (.slice a len cap) xs) (hS : ∀ b, B ≤ b → S b) : VDs S w xs a := by
 by_cases hx : xs = []
 · exact Or.inl hx
 · obtain ⟨g, cap', hv, hg, hall⟩ := h.rows hx
   simp only [Value.slice.injEq] at hv
   obtain ⟨rfl, -, -⟩ := hv
   refine Or.inr ⟨g, 0, rfl, hS g hg, fun i x hi => ?_⟩
   obtain ⟨cs, hr, rfl⟩ := hall i x hi
   simpa [vdShape, VDAt] using hr
theorem OwnL.pds {w : World} {B e : Nat} {a : Option Addr} {len cap : Nat} {xs : List PD} {S : Nat → Prop} (h : OwnL pdShape w B e (.slice a len cap) xs) (hS : ∀ b, B ≤ b → S b) : PDs S w xs a := by
 by_cases hx : xs = []
 · exact Or.inl hx
 · obtain ⟨g, cap', hv, hg, hall⟩ := h.rows hx
   simp only [Value.slice.injEq] at hv
   obtain ⟨rfl, -, -⟩ := hv
   refine Or.inr ⟨g, 0, rfl, hS g hg, fun i x hi => ?_⟩
   obtain ⟨cs, hr, pa, pc, ba, bc, rfl, h1, h2⟩ := hall i x hi
   exact ⟨pa, pc, ba, bc, by simpa [pdShape] using hr, h1.wide (fun b hb => hS b hb.1), h2.wide (fun b hb => hS b hb.1)⟩
theorem maxLen_one : 1 ≤ maxLen := by unfold maxLen; omega
theorem OwnL.lit {α : Type} {sh : Shape α} {w : World} {B b e : Nat} {x : α} {cs : List Value} (h : TB w b cs e) (hB : B ≤ b) (hr : sh.rep w (fun k => B ≤ k ∧ k ≠ b) x cs) : OwnL sh w B e (.slice (some ⟨b, 0, none⟩) 1 1) [x] := by
 have hl := sh.len hr
 refine ⟨[cs], ⟨by simp [hl], Or.inr ⟨b, 1, cs.toArray, rfl, hB, h, Nat.le_refl _, maxLen_one, by simp [hl], by simp [← hl]⟩⟩, rfl, fun i y ds hy hd => ?_⟩
 match i, hy, hd with
 | 0, hy, hd =>
  simp at hy hd
  subst hy hd
  exact sh.mono hr (fun k hk => ⟨hk.1, fun e => hk.2 (by simpa [Value.ownBlock] using e.symm)⟩) (fun _ _ _ _ h => h)
end Bk
namespace Bk
section
variable {ts : List Tok} {n : Int}
theorem next_at (σ : PS) : (nextP σ).at_ = σ.at_ + 1 := rfl
theorem expr_size (k : Nat) : (∀ lv σ, σ.at_ ≤ ts.length → (exprP ts n k lv σ).1.size + 8 * σ.at_ ≤ 8 * (exprP ts n k lv σ).2.at_ + 1) ∧ (∀ lv x σ, σ.at_ ≤ ts.length → (climbP ts n k lv x σ).1.size + 8 * σ.at_ ≤ 8 * (climbP ts n k lv x σ).2.at_ + x.size) ∧
 (∀ σ, σ.at_ ≤ ts.length → (unaryP ts n k σ).1.size + 8 * σ.at_ ≤ 8 * (unaryP ts n k σ).2.at_ + 1) ∧ (∀ σ, σ.at_ ≤ ts.length → (primaryP ts n k σ).1.size + 8 * σ.at_ ≤ 8 * (primaryP ts n k σ).2.at_ + 1) ∧
 (∀ σ, σ.at_ ≤ ts.length → (placeP ts n k σ).1.size + 8 * σ.at_ ≤ 8 * (placeP ts n k σ).2.at_ + 1) := by
 induction k with
 | zero =>
  refine ⟨fun lv σ h => ?_, fun lv x σ h => ?_, fun σ h => ?_, fun σ h => ?_, fun σ h => ?_⟩
  · rw [exprP]; simp [Nd.size, rowSize]; omega
  · rw [climbP]; simp; omega
  · rw [unaryP]; simp [Nd.size, rowSize]; omega
  · rw [primaryP]; simp [Nd.size, rowSize]; omega
  · rw [placeP]; simp [Nd.size, rowSize]; omega
 | succ k ih =>
  obtain ⟨iE, iC, iU, iP, iL⟩ := ih
  obtain ⟨lE, lC, lU, lP, lL⟩ := expr_inv (ts := ts) (n := n) k
  refine ⟨fun lv σ h => ?_, fun lv x σ h => ?_, fun σ h => ?_, fun σ h => ?_, fun σ h => ?_⟩
  · rw [exprP]
    have h1 := iU σ h
    have h2 := iC lv (unaryP ts n k σ).1 (unaryP ts n k σ).2 (lU σ h).1.wf
    omega
  · rw [climbP]
    split
    · simp; omega
    · rename_i op hop
      obtain ⟨hne, -⟩ := binOf_ne hop
      have hn := next_le (peek_in h (Or.inl hne))
      split
      · simp; omega
      · have h1 := iE (level op + 1) (nextP σ) hn.wf
        have h2 := iC lv (.mk op 0 [] [x, (exprP ts n k (level op + 1) (nextP σ)).1]) (exprP ts n k (level op + 1) (nextP σ)).2 (lE (level op + 1) (nextP σ) hn.wf).1.wf
        have h3 := (lE (level op + 1) (nextP σ) hn.wf).1.le
        rw [next_at] at h1 h3
        simp only [Nd.size, rowSize] at h2
        omega
  · rw [unaryP]
    split
    · rename_i hh
      have hn := next_le (has_in h hh (by decide))
      have h1 := iU (nextP σ) hn.wf
      rw [next_at] at h1
      simp only [Nd.size, rowSize]; omega
    · split
      · rename_i hh
        have hn := next_le (has_in h hh (by decide))
        have h1 := iU (nextP σ) hn.wf
        rw [next_at] at h1
        simp only [Nd.size, rowSize]; omega
      · exact iP σ h
  · rw [primaryP]
    split
    · have := (number_le (n := n) (a := 0) (b := 9223372036854775807) h).le
      simp only [Nd.size, rowSize]; omega
    · split
      · rename_i hh
        have h1 := next_le (has_in h hh (by decide))
        have h2 := h1.trans (expect_le (n := n) (t := [40]) h1.wf (by decide))
        have h3 := h2.trans (name_le (n := n) h2.wf)
        have h4 := (h3.trans (expect_le (n := n) (t := [41]) h3.wf (by decide))).le
        simp only [Nd.size, rowSize]; omega
      · split
        · rename_i hh
          have h1 := next_le (has_in h hh (by decide))
          have h2 := h1.trans (expect_le (n := n) (t := [40]) h1.wf (by decide))
          have h3 := h2.trans (name_le (n := n) h2.wf)
          have h4 := (h3.trans (expect_le (n := n) (t := [41]) h3.wf (by decide))).le
          simp only [Nd.size, rowSize]; omega
        · split
          · rename_i hh
            have hn := next_le (has_in h hh (by decide))
            have h1 := iE 1 (nextP σ) hn.wf
            have h2 := (expect_le (n := n) (t := [41]) (lE 1 (nextP σ) hn.wf).1.wf (by decide)).le
            rw [next_at] at h1
            simp only; omega
          · exact iL σ h
  · rw [placeP]
    have h0 := name_le (n := n) h
    have h0' := h0.le
    split
    · rename_i hh
      have hn := next_le (has_in h0.wf hh (by decide))
      have h1 := iE 1 (nextP (nameP ts n σ).2) hn.wf
      have h2 := (expect_le (n := n) (t := [93]) (lE 1 _ hn.wf).1.wf (by decide)).le
      rw [next_at] at h1
      simp only [Nd.size, rowSize]; omega
    · simp only [Nd.size, rowSize]; omega
theorem rowSize_append (l m : List Nd) : rowSize (l ++ m) = rowSize l + rowSize m := by
 induction l with
 | nil => simp [rowSize]
 | cons x r ih => simp only [List.cons_append, rowSize, ih]; omega
theorem arg_size (σ : PS) : (argP ts n σ).1.size = 1 := rfl
theorem args_size : ∀ (k : Nat) (acc : List Nd) (σ : PS), σ.at_ ≤ ts.length → rowSize (argsP ts n k acc σ).1 + 8 * σ.at_ ≤ 8 * (argsP ts n k acc σ).2.at_ + rowSize acc
 | 0, acc, σ, h => by rw [argsP]; simp; omega
 | k + 1, acc, σ, h => by
  rw [argsP]
  split
  · rename_i hh
    have h1 := next_le (has_in h hh (by decide))
    generalize hS : (if acc.length = 8 ∧ isName (peekP ts (nextP σ)).text = true then failP (nextP σ) (peekP ts (nextP σ)).pos 5 else nextP σ) = ρ
    have h2 : Le ts (nextP σ) ρ := by
     rw [← hS]
     split
     · exact fail_le h1.wf _ _
     · exact Le.refl h1.wf
    have h3 := name_le (n := n) h2.wf
    have h4 := args_size k (acc ++ [(argP ts n ρ).1]) (argP ts n ρ).2 h3.wf
    rw [rowSize_append] at h4
    have h5 : (argP ts n ρ).2.at_ ≥ σ.at_ + 1 := by
     have e1 := h2.le; have e2 := h3.le
     rw [next_at] at e1
     show (nameP ts n ρ).2.at_ ≥ σ.at_ + 1
     omega
    simp only [rowSize, arg_size] at h4
    omega
  · simp; omega
theorem call_size {k : Nat} {kind : Int} {σ : PS} (hn : In ts σ) : (callP ts n k kind σ).1.size + 8 * σ.at_ ≤ 8 * (callP ts n k kind σ).2.at_ + 1 := by
 unfold callP
 dsimp only
 have h1 := next_le hn
 have h2 := h1.trans (name_le (n := n) h1.wf)
 have h3 := h2.trans (expect_le (n := n) (t := [40]) h2.wf (by decide))
 have e1 := (name_le (n := n) h1.wf).le
 have e2 := (expect_le (n := n) (t := [40]) h2.wf (by decide)).le
 rw [next_at] at e1
 split
 · have := next_at (expectP ts n (nameP ts n (nextP σ)).2 [40])
   simp only [Nd.size, rowSize]; omega
 · have h4 := name_le (n := n) h3.wf
   have e3 := h4.le
   have h5 := args_size (ts := ts) (n := n) k [(argP ts n (expectP ts n (nameP ts n (nextP σ)).2 [40])).1] (argP ts n (expectP ts n (nameP ts n (nextP σ)).2 [40])).2 h4.wf
   have h6 := args_le (n := n) k [(argP ts n (expectP ts n (nameP ts n (nextP σ)).2 [40])).1] (argP ts n (expectP ts n (nameP ts n (nextP σ)).2 [40])).2 h4.wf
   have e4 := (expect_le (n := n) (t := [41]) h6.wf (by decide)).le
   have e5 : (argP ts n (expectP ts n (nameP ts n (nextP σ)).2 [40])).2.at_ ≥ (expectP ts n (nameP ts n (nextP σ)).2 [40]).at_ := e3
   simp only [rowSize, arg_size] at h5
   simp only [Nd.size]; omega
theorem place_size {k : Nat} {σ : PS} (h : σ.at_ ≤ ts.length) : (placeP ts n k σ).1.size + 8 * σ.at_ ≤ 8 * (placeP ts n k σ).2.at_ + 1 := (expr_size k).2.2.2.2 σ h
theorem exprs_size {k : Nat} {lv : Int} {σ : PS} (h : σ.at_ ≤ ts.length) : (exprP ts n k lv σ).1.size + 8 * σ.at_ ≤ 8 * (exprP ts n k lv σ).2.at_ + 1 := (expr_size k).1 lv σ h
theorem update_size {k : Nat} {σ : PS} (h : σ.at_ ≤ ts.length) : (updateP ts n k σ).1.size + 8 * σ.at_ ≤ 8 * (updateP ts n k σ).2.at_ + 1 := by
 unfold updateP
 dsimp only
 have h1 := place_size (n := n) (k := k) h
 have l1 := place_le (n := n) (k := k) h
 split
 · rename_i hh
   have l2 := next_le (has_in l1.wf hh (by decide))
   have h2 := place_size (n := n) (k := k) l2.wf
   rw [next_at] at h2
   simp only [Nd.size, rowSize]; omega
 · split
   · have := (unexp_le (n := n) l1.wf).le
     have := l1.le
     simp only [Nd.size, rowSize]; omega
   · rename_i hh
     have l2 := next_le (peek_in l1.wf (Or.inl (upd_ne hh)))
     have h2 := exprs_size (n := n) (k := k) (lv := 1) l2.wf
     rw [next_at] at h2
     simp only [Nd.size, rowSize]; omega
theorem stack_size {k : Nat} {kind : Int} {σ : PS} (hn : In ts σ) : (stackP ts n k kind σ).1.size + 8 * σ.at_ ≤ 8 * (stackP ts n k kind σ).2.at_ + 1 := by
 unfold stackP
 dsimp only
 have h1 := next_le hn
 have h2 := place_size (n := n) (k := k) h1.wf
 have l2 := place_le (n := n) (k := k) h1.wf
 have l3 := expect_le (n := n) (t := [44]) l2.wf (by decide)
 have l4 := (name_le (n := n) l3.wf).le
 have l3' := l3.le
 rw [next_at] at h2
 simp only [Nd.size, rowSize]; omega
theorem tape_size {k : Nat} {kind : Int} {σ : PS} (hn : In ts σ) : (tapeP ts n k kind σ).1.size + 8 * σ.at_ ≤ 8 * (tapeP ts n k kind σ).2.at_ + 1 := by
 unfold tapeP
 have h1 := next_le hn
 have h2 := place_size (n := n) (k := k) h1.wf
 rw [next_at] at h2
 simp only [Nd.size, rowSize]; omega
theorem stmt_size (k : Nat) : (∀ σ, σ.at_ ≤ ts.length → (stmtP ts n k σ).1.size + 8 * σ.at_ ≤ 8 * (stmtP ts n k σ).2.at_ + 1) ∧ (∀ kind mid last σ, In ts σ → mid ≠ [] → last ≠ [] → (branchesP ts n k kind mid last σ).1.size + 8 * σ.at_ ≤ 8 * (branchesP ts n k kind mid last σ).2.at_ + 1) ∧ (∀ σ, In ts σ → (localP ts n k σ).1.size + 8 * σ.at_ ≤ 8 * (localP ts n k σ).2.at_ + 1) ∧
 (∀ σ, σ.at_ ≤ ts.length → (blockP ts n k σ).1.size + 8 * σ.at_ ≤ 8 * (blockP ts n k σ).2.at_ + 2) ∧ (∀ acc σ, σ.at_ ≤ ts.length → rowSize (stmtsP ts n k acc σ).1 + 8 * σ.at_ ≤ 8 * (stmtsP ts n k acc σ).2.at_ + rowSize acc + (if σ.err = 0 then 1 else 0)) := by
 induction k with
 | zero =>
  refine ⟨fun σ h => ?_, fun kind mid last σ h _ _ => ?_, fun σ h => ?_, fun σ h => ?_, fun acc σ h => ?_⟩
  · rw [stmtP]; simp [Nd.size, rowSize]; omega
  · rw [branchesP]; simp [Nd.size, rowSize]; omega
  · rw [localP]; simp [Nd.size, rowSize]; omega
  · rw [blockP]; simp [Nd.size, rowSize]; omega
  · rw [stmtsP]; simp only; split <;> omega
 | succ k ih =>
  obtain ⟨iS, iB, iL, iK, iT⟩ := ih
  obtain ⟨lS, lB, lL, lK, lT⟩ := stmt_inv (ts := ts) (n := n) k
  refine ⟨fun σ h => ?_, fun kind mid last σ hn hmid hlast => ?_, fun σ hn => ?_, fun σ h => ?_, fun acc σ h => ?_⟩
  · have hin : ∀ t : List UInt8, (peekP ts σ).text = t → t ≠ [] → In ts σ := fun t e ht => peek_in h (Or.inl (by rw [e]; exact ht))
    rw [stmtP]
    by_cases e : (peekP ts σ).text = [112, 117, 115, 104]
    · rw [if_pos e]; exact stack_size (hin _ e (by decide))
    rw [if_neg e]; clear e
    by_cases e : (peekP ts σ).text = [112, 111, 112]
    · rw [if_pos e]; exact stack_size (hin _ e (by decide))
    rw [if_neg e]; clear e
    by_cases e : (peekP ts σ).text = [114, 101, 97, 100]
    · rw [if_pos e]; exact tape_size (hin _ e (by decide))
    rw [if_neg e]; clear e
    by_cases e : (peekP ts σ).text = [117, 110, 114, 101, 97, 100]
    · rw [if_pos e]; exact tape_size (hin _ e (by decide))
    rw [if_neg e]; clear e
    by_cases e : (peekP ts σ).text = [119, 114, 105, 116, 101]
    · rw [if_pos e]; exact tape_size (hin _ e (by decide))
    rw [if_neg e]; clear e
    by_cases e : (peekP ts σ).text = [117, 110, 119, 114, 105, 116, 101]
    · rw [if_pos e]; exact tape_size (hin _ e (by decide))
    rw [if_neg e]; clear e
    by_cases e : (peekP ts σ).text = [99, 97, 108, 108]
    · rw [if_pos e]; exact call_size (hin _ e (by decide))
    rw [if_neg e]; clear e
    by_cases e : (peekP ts σ).text = [117, 110, 99, 97, 108, 108]
    · rw [if_pos e]; exact call_size (hin _ e (by decide))
    rw [if_neg e]; clear e
    by_cases e : (peekP ts σ).text = [105, 102]
    · rw [if_pos e]; exact iB _ _ _ σ (hin _ e (by decide)) (by decide) (by decide)
    rw [if_neg e]; clear e
    by_cases e : (peekP ts σ).text = [102, 114, 111, 109]
    · rw [if_pos e]; exact iB _ _ _ σ (hin _ e (by decide)) (by decide) (by decide)
    rw [if_neg e]; clear e
    by_cases e : (peekP ts σ).text = [108, 111, 99, 97, 108]
    · rw [if_pos e]; exact iL σ (hin _ e (by decide))
    rw [if_neg e]; clear e
    exact update_size h
  · rw [branchesP]
    (try dsimp only)
    have l1 := next_le hn
    have s2 := exprs_size (n := n) (k := k) (lv := 1) l1.wf
    have l2 := expr_le (n := n) (k := k) (lv := 1) l1.wf
    have s3 := iK _ l2.wf
    have l3 := lK _ l2.wf
    have l4 := expect_le (n := n) l3.wf hmid
    have s5 := iK _ l4.wf
    have l5 := lK _ l4.wf
    have l6 := expect_le (n := n) l5.wf hlast
    have s7 := exprs_size (n := n) (k := k) (lv := 1) l6.wf
    have e4 := l4.le
    have e6 := l6.le
    rw [next_at] at s2
    simp only [Nd.size, rowSize]; omega
  · rw [localP]
    (try dsimp only)
    have l1 := next_le hn
    split
    · rename_i hh
      have l2 := next_le (has_in l1.wf hh (by decide))
      have l3 := name_le (n := n) l2.wf
      have s4 := iK _ l3.wf
      have e3 := l3.le
      rw [next_at, next_at] at e3
      simp only [Nd.size, rowSize]; omega
    · have l2 := name_le (n := n) l1.wf
      have l3 := expect_le (n := n) (t := [61]) l2.wf (by decide)
      have s4 := exprs_size (n := n) (k := k) (lv := 1) l3.wf
      have l4 := expr_le (n := n) (k := k) (lv := 1) l3.wf
      have s5 := iK _ l4.wf
      have l5 := lK _ l4.wf
      have l6 := expect_le (n := n) (t := [100, 101, 108, 111, 99, 97, 108]) l5.wf (by decide)
      have s7 := exprs_size (n := n) (k := k) (lv := 1) l6.wf
      have e2 := l2.le
      have e3 := l3.le
      have e6 := l6.le
      rw [next_at] at e2
      simp only [Nd.size, rowSize]; omega
  · rw [blockP]
    (try dsimp only)
    have l1 := expect_le (n := n) (t := [123]) h (by decide)
    have s2 := iT [] _ l1.wf
    have e1 := l1.le
    simp only [rowSize] at s2
    simp only [Nd.size]
    split at s2 <;> omega
  · rw [stmtsP]
    split
    · simp only; (try split) <;> omega
    · rename_i he
      have h0 : σ.err = 0 := Decidable.byContradiction he
      split
      · rename_i hh
        have := next_at σ
        simp only; (try split) <;> omega
      · have s1 := iS σ h
        have l1 := lS σ h
        have l2 := expect_le (n := n) (t := [59]) l1.wf (by decide)
        have s3 := iT (acc ++ [(stmtP ts n k σ).1]) _ l2.wf
        rw [rowSize_append] at s3
        simp only [rowSize] at s3
        have e2 := l2.le
        have e3 : (expectP ts n (stmtP ts n k σ).2 [59]).err = 0 → (stmtP ts n k σ).2.at_ + 1 ≤ (expectP ts n (stmtP ts n k σ).2 [59]).at_ := fun e => expect_lt (n := n) e
        (try rw [if_pos h0])
        split at s3
        · rename_i e; have := e3 e; omega
        · omega
theorem block_size {k : Nat} {σ : PS} (h : σ.at_ ≤ ts.length) : (blockP ts n k σ).1.size ≤ 8 * ts.length + 2 := by
 have h1 := (stmt_size (ts := ts) (n := n) k).2.2.2.1 σ h
 have h2 := ((stmt_inv (ts := ts) (n := n) k).2.2.2.1 σ h).wf
 omega
end
end Bk
namespace Bk
open Go Go.RowKit Go.Proofs
attribute [local irreducible] Go.Calls
set_option maxRecDepth 100000 in
set_option maxHeartbeats 1000000 in
theorem limit_c (c : PC) (σ : PS) (t : Nd) (S : Nat → Prop) (a : Option Addr) (k : Nat) (off : Int) (w : World) (hP : PP c σ w) (hz : t.size ≤ 1000000000) (hs : t.sits S w a) :
 Calls Tryz.prog 81 #[.pointer (some ⟨c.pb, 0, none⟩), t.val a k, .int .i64 off] w fun r w' => r = .returned (.tuple #[]) ∧ PP c (limitP t off σ) w' ∧ Fr (· = c.pb) w w' := by
 have X := Fr.refl (· = c.pb) w
 have hpb := hP.pbB
 have hB := hP.B
 by_cases h0 : σ.err = 0
 · by_cases hd : 80 < t.depth
   · rw [show limitP t off σ = failP σ off 19 from by simp [limitP, h0, hd]]
     refine calls_in Tryz.func81 Tryz.ntmps81 rfl rfl ?_
     focus
      refine cS ?_
      (refine lw_box' [_, _, _, _] rfl rfl rfl ?_; intro b1 w2 n3)
      have h4 := New.blk n3
      have x5 := New.ext n3
      have p6 := New.pos n3
      have z7 := New.size n3
      clear n3
      replace hP := PP.ext hP x5
      replace hs := Nd.sits.ext hs x5
      replace X := Fr.ext X x5
      clear x5
      refine cT (cw_block (cS (cM rfl rfl (lw_pure (pur_nilCheck rfl) rfl (lw_pure (pur_fieldAddr tabOk rfl rfl rfl) rfl (lw_load_b tabOk rfl rfl rfl (PP.blk hP) rfl rfl (lw_pure (pur_neq rfl rfl) rfl (cA rfl rfl (cT ?_)))))))))
      refine cw_no rfl (by omega) ?_
      refine cS (lw_loads_b' [_, _, _, _] tabOk rfl rfl rfl h4 rfl rfl rfl ?_)
      refine lw_does (does_call (by kernel_rfl) rfl (Depth_c _ _ _ _ _ _ (Nat.lt_succ_self _) (by omega) (by assumption)) (fun _ _ h => ⟨_, h.1⟩)) rfl ?_ (fun _ h => h)
      rintro _ w9 ⟨⟨⟩, x8⟩
      have z10 := Ext.size x8
      replace h4 := Blk.ext h4 x8
      replace hP := PP.ext hP x8
      replace hs := Nd.sits.ext hs x8
      replace X := Fr.ext X x8
      clear x8
      refine lw_pure (pur_gtr rfl rfl) rfl (cA rfl rfl (cT ?_))
      refine cw_yes rfl (by assumption) ?_
      refine cw_region (cM rfl rfl (cM rfl rfl ?_))
      refine lw_does (does_call (by kernel_rfl) rfl (fail_c _ _ _ _ _ (by assumption)) (fun _ _ h => ⟨_, h.1⟩)) rfl ?_ (fun _ h => h)
      rintro _ w13 ⟨⟨⟩, ⟨h11, f12⟩⟩
      have z14 := Fr.size f12
      replace h4 := Blk.fr h4 f12 (by omega)
      clear hP hs
      replace X := Fr.fr X f12 (by omega)
      clear f12
      refine lw_nil (qw_block_norm (qw_end0 rfl ?_))
      rotate_left 1
     exact ⟨rfl, by assumption, X⟩
   · by_cases h2 : 2000 < t.size
     · rw [show limitP t off σ = failP σ off 5 from by simp [limitP, h0, hd, h2]]
       refine calls_in Tryz.func81 Tryz.ntmps81 rfl rfl ?_
       focus
        refine cS ?_
        (refine lw_box' [_, _, _, _] rfl rfl rfl ?_; intro ba1 wa2 na3)
        have ha4 := New.blk na3
        have xa5 := New.ext na3
        have pa6 := New.pos na3
        have za7 := New.size na3
        clear na3
        replace hP := PP.ext hP xa5
        replace hs := Nd.sits.ext hs xa5
        replace X := Fr.ext X xa5
        clear xa5
        refine cT (cw_block (cS (cM rfl rfl (lw_pure (pur_nilCheck rfl) rfl (lw_pure (pur_fieldAddr tabOk rfl rfl rfl) rfl (lw_load_b tabOk rfl rfl rfl (PP.blk hP) rfl rfl (lw_pure (pur_neq rfl rfl) rfl (cA rfl rfl (cT ?_)))))))))
        refine cw_no rfl (by omega) ?_
        refine cS (lw_loads_b' [_, _, _, _] tabOk rfl rfl rfl ha4 rfl rfl rfl ?_)
        refine lw_does (does_call (by kernel_rfl) rfl (Depth_c _ _ _ _ _ _ (Nat.lt_succ_self _) (by omega) (by assumption)) (fun _ _ h => ⟨_, h.1⟩)) rfl ?_ (fun _ h => h)
        rintro _ wa9 ⟨⟨⟩, xa8⟩
        have za10 := Ext.size xa8
        replace ha4 := Blk.ext ha4 xa8
        replace hP := PP.ext hP xa8
        replace hs := Nd.sits.ext hs xa8
        replace X := Fr.ext X xa8
        clear xa8
        refine lw_pure (pur_gtr rfl rfl) rfl (cA rfl rfl (cT ?_))
        refine cw_no rfl (by assumption) ?_
        refine cS (lw_loads_b' [_, _, _, _] tabOk rfl rfl rfl ha4 rfl rfl rfl ?_)
        refine lw_does (does_call (by kernel_rfl) rfl (Size_c _ _ _ _ _ _ (Nat.lt_succ_self _) (by omega) (by assumption)) (fun _ _ h => ⟨_, h.1⟩)) rfl ?_ (fun _ h => h)
        rintro _ wa12 ⟨⟨⟩, xa11⟩
        have za13 := Ext.size xa11
        replace ha4 := Blk.ext ha4 xa11
        replace hP := PP.ext hP xa11
        replace hs := Nd.sits.ext hs xa11
        replace X := Fr.ext X xa11
        clear xa11
        refine lw_pure (pur_gtr rfl rfl) rfl (cA rfl rfl (cT ?_))
        refine cw_yes rfl (by omega) ?_
        refine cw_region (cM rfl rfl (cM rfl rfl ?_))
        refine lw_does (does_call (by kernel_rfl) rfl (fail_c _ _ _ _ _ (by assumption)) (fun _ _ h => ⟨_, h.1⟩)) rfl ?_ (fun _ h => h)
        rintro _ wa16 ⟨⟨⟩, ⟨ha14, fa15⟩⟩
        have za17 := Fr.size fa15
        replace ha4 := Blk.fr ha4 fa15 (by omega)
        clear hP hs
        replace X := Fr.fr X fa15 (by omega)
        clear fa15
        refine lw_nil (qw_block_norm (qw_end0 rfl ?_))
        rotate_left 1
       exact ⟨rfl, by assumption, X⟩
     · rw [show limitP t off σ = σ from by simp [limitP, h0, hd, h2]]
       refine calls_in Tryz.func81 Tryz.ntmps81 rfl rfl ?_
       focus
        refine cS ?_
        (refine lw_box' [_, _, _, _] rfl rfl rfl ?_; intro bb1 wb2 nb3)
        have hb4 := New.blk nb3
        have xb5 := New.ext nb3
        have pb6 := New.pos nb3
        have zb7 := New.size nb3
        clear nb3
        replace hP := PP.ext hP xb5
        replace hs := Nd.sits.ext hs xb5
        replace X := Fr.ext X xb5
        clear xb5
        refine cT (cw_block (cS (cM rfl rfl (lw_pure (pur_nilCheck rfl) rfl (lw_pure (pur_fieldAddr tabOk rfl rfl rfl) rfl (lw_load_b tabOk rfl rfl rfl (PP.blk hP) rfl rfl (lw_pure (pur_neq rfl rfl) rfl (cA rfl rfl (cT ?_)))))))))
        refine cw_no rfl (by omega) ?_
        refine cS (lw_loads_b' [_, _, _, _] tabOk rfl rfl rfl hb4 rfl rfl rfl ?_)
        refine lw_does (does_call (by kernel_rfl) rfl (Depth_c _ _ _ _ _ _ (Nat.lt_succ_self _) (by omega) (by assumption)) (fun _ _ h => ⟨_, h.1⟩)) rfl ?_ (fun _ h => h)
        rintro _ wb9 ⟨⟨⟩, xb8⟩
        have zb10 := Ext.size xb8
        replace hb4 := Blk.ext hb4 xb8
        replace hP := PP.ext hP xb8
        replace hs := Nd.sits.ext hs xb8
        replace X := Fr.ext X xb8
        clear xb8
        refine lw_pure (pur_gtr rfl rfl) rfl (cA rfl rfl (cT ?_))
        refine cw_no rfl (by assumption) ?_
        refine cS (lw_loads_b' [_, _, _, _] tabOk rfl rfl rfl hb4 rfl rfl rfl ?_)
        refine lw_does (does_call (by kernel_rfl) rfl (Size_c _ _ _ _ _ _ (Nat.lt_succ_self _) (by omega) (by assumption)) (fun _ _ h => ⟨_, h.1⟩)) rfl ?_ (fun _ h => h)
        rintro _ wb12 ⟨⟨⟩, xb11⟩
        have zb13 := Ext.size xb11
        replace hb4 := Blk.ext hb4 xb11
        replace hP := PP.ext hP xb11
        replace hs := Nd.sits.ext hs xb11
        replace X := Fr.ext X xb11
        clear xb11
        refine lw_pure (pur_gtr rfl rfl) rfl (cA rfl rfl (cT ?_))
        refine cw_no rfl (by omega) ?_
        refine cw_skip (qw_block_norm (qw_end0 rfl ?_))
        rotate_left 1
       exact ⟨rfl, by assumption, X⟩
 · rw [show limitP t off σ = σ from by simp [limitP, h0]]
   refine calls_in Tryz.func81 Tryz.ntmps81 rfl rfl ?_
   focus
    refine cS ?_
    (refine lw_box' [_, _, _, _] rfl rfl rfl ?_; intro bc1 wc2 nc3)
    have hc4 := New.blk nc3
    have xc5 := New.ext nc3
    have pc6 := New.pos nc3
    have zc7 := New.size nc3
    clear nc3
    replace hP := PP.ext hP xc5
    replace hs := Nd.sits.ext hs xc5
    replace X := Fr.ext X xc5
    clear xc5
    refine cT (cw_block (cS (cM rfl rfl (lw_pure (pur_nilCheck rfl) rfl (lw_pure (pur_fieldAddr tabOk rfl rfl rfl) rfl (lw_load_b tabOk rfl rfl rfl (PP.blk hP) rfl rfl (lw_pure (pur_neq rfl rfl) rfl (cA rfl rfl (cT ?_)))))))))
    refine cw_yes rfl (by assumption) ?_
    refine cw_skip (qw_block_norm (qw_end0 rfl ?_))
    rotate_left 1
   exact ⟨rfl, by assumption, X⟩
set_option maxRecDepth 100000 in
set_option maxHeartbeats 1000000 in
theorem body_c (c : PC) (k : Nat) (σ : PS) (w : World) (hP : PP c σ w) (hk : 4 * mS c.ts σ + 8 ≤ k) :
 Calls Tryz.prog 72 #[.pointer (some ⟨c.pb, 0, none⟩)] w (TreeR c w (bodyP c.ts c.n k σ)) := by
 have X := Fr.refl (· = c.pb) w
 have hpb := hP.pbB
 have hB := hP.B
 have hlen := hP.len
 have hbs := block_size (n := c.n) (k := k) hP.at_
 unfold bodyP
 refine calls_in Tryz.func72 Tryz.ntmps72 rfl rfl ?_
 focus
  refine cS ?_
  (refine lw_alloc' [_, _, _, _] zOk rfl rfl ?_; intro b1 w2 n3)
  have h5 := New.blk n3
  have x6 := New.ext n3
  have p7 := New.pos n3
  have z8 := New.size n3
  clear n3
  replace hP := PP.ext hP x6
  replace X := Fr.ext X x6
  clear x6
  refine cN (cM rfl rfl ?_)
  refine lw_does (does_call (by kernel_rfl) rfl (peek_c _ _ _ (by assumption)) (fun _ _ h => ⟨_, h.1⟩)) rfl ?_ (fun _ h => h)
  rintro _ w10 ⟨⟨⟩, x9⟩
  have z11 := Ext.size x9
  replace h5 := Blk.ext h5 x9
  replace hP := PP.ext hP x9
  replace X := Fr.ext X x9
  clear x9
  refine lw_pure (pur_field tabOk rfl rfl rfl rfl rfl rfl) rfl (cA rfl rfl (cN (cM rfl rfl ?_)))
  refine lw_does (does_call (by kernel_rfl) rfl ((stmts_c c k).block _ _ (by assumption) hk) (fun _ _ h => h.ret)) rfl ?_ (fun _ h => h)
  rintro _ w17 ⟨a12, ⟨k13, ⟨⟨⟩, ⟨h14, ⟨h15, f16⟩⟩⟩⟩⟩
  have z18 := Fr.size f16
  replace h5 := Blk.fr h5 f16 (by omega)
  clear hP
  replace X := Fr.fr X f16 (by omega)
  clear f16
  (refine lw_alloc' [_, _, _, _] zOk rfl rfl ?_; intro b19 w20 n21)
  (refine lw_init' [_, _, _, _] tabOk rfl rfl rfl rfl rfl rfl n21 rfl ?_; clear n21; clear w20; intro w22 n21)
  have h23 := New.blk n21
  have x24 := New.ext n21
  have p25 := New.pos n21
  have z26 := New.size n21
  clear n21
  replace h14 := Nd.sits.ext h14 x24
  replace h15 := PP.ext h15 x24
  replace h5 := Blk.ext h5 x24
  replace X := Fr.ext X x24
  clear x24
  refine cN (cM rfl rfl (lw_loads_b' [_, _, _, _] tabOk rfl rfl rfl h23 rfl rfl rfl (cM rfl rfl ?_)))
  refine lw_does (does_call (by kernel_rfl) rfl (limit_c _ _ _ _ _ _ _ _ (by assumption) (by omega) (by assumption)) (fun _ _ h => ⟨_, h.1⟩)) rfl ?_ (fun _ h => h)
  rintro _ w29 ⟨⟨⟩, ⟨h27, f28⟩⟩
  have z30 := Fr.size f28
  replace h23 := Blk.fr h23 f28 (by omega)
  replace h14 := Nd.sits.fr h14 f28 (by omega)
  clear h15
  replace h5 := Blk.fr h5 f28 (by omega)
  replace X := Fr.fr X f28 (by omega)
  clear f28
  refine cN (lw_loads_b' [_, _, _, _] tabOk rfl rfl rfl h23 rfl rfl rfl ?_)
  (refine lw_store' [_, _, _, _] [_, _, _, _] tabOk rfl rfl rfl rfl rfl rfl h5 rfl rfl ?_; intro w31 n32)
  have h35 := Put.blk n32
  have f33 := Put.fr n32
  have z34 := Put.size n32
  clear n32 h5
  replace h27 := PP.fr h27 f33 (by omega)
  replace h23 := Blk.fr h23 f33 (by omega)
  replace h14 := Nd.sits.fr h14 f33 (by omega)
  replace X := Fr.fr X f33 (by omega)
  clear f33
  refine cT (cw_ret (qw_retc rfl tabOk rfl rfl rfl h35 rfl ?_))
  rotate_left 1
 exact tree_ret (Nd.sits.wide (by assumption) (fun b h => by omega)) (by assumption) X
set_option maxRecDepth 100000 in
set_option maxHeartbeats 1000000 in
theorem atDecl_c (c : PC) (σ : PS) (w : World) (hP : PP c σ w) :
 Calls Tryz.prog 67 #[.pointer (some ⟨c.pb, 0, none⟩)] w fun r w' => r = .returned (.bool (atDeclP c.ts σ)) ∧ Ext w w' := by
 have X := Ext.refl w
 by_cases h1 : (peekP c.ts σ).text = [105, 110, 116]
 · rw [show atDeclP c.ts σ = true from by simp [atDeclP, hasP, h1]]
   refine calls_in Tryz.func67 Tryz.ntmps67 rfl rfl ?_
   focus
    refine cS (cA rfl rfl (cT (cw_seq (cS (cM rfl rfl ?_)))))
    refine lw_does (does_call (by kernel_rfl) rfl (peek_c _ _ _ (by assumption)) (fun _ _ h => ⟨_, h.1⟩)) rfl ?_ (fun _ h => h)
    rintro _ w2 ⟨⟨⟩, x1⟩
    have z3 := Ext.size x1
    replace hP := PP.ext hP x1
    replace X := Ext.ext X x1
    clear x1
    refine lw_pure (pur_field tabOk rfl rfl rfl rfl rfl rfl) rfl (cT (cw_block (cw_seq (cS (lw_pure (pur_seql rfl rfl) rfl (cA rfl rfl (cT ?_)))))))
    refine cw_yes rfl (by assumption) ?_
    refine cw_skip (qw_then ?_)
    refine cw_yes rfl (by assumption) ?_
    refine cS (cA rfl rfl (cT (cw_ret (qw_block_ret (qw_then_ret (qw_ret1 rfl rfl ?_))))))
    rotate_left 1
   exact ⟨rfl, X⟩
 by_cases h2 : (peekP c.ts σ).text = [97, 114, 114, 97, 121]
 · rw [show atDeclP c.ts σ = true from by simp [atDeclP, hasP, h2]]
   refine calls_in Tryz.func67 Tryz.ntmps67 rfl rfl ?_
   focus
    refine cS (cA rfl rfl (cT (cw_seq (cS (cM rfl rfl ?_)))))
    refine lw_does (does_call (by kernel_rfl) rfl (peek_c _ _ _ (by assumption)) (fun _ _ h => ⟨_, h.1⟩)) rfl ?_ (fun _ h => h)
    rintro _ wa2 ⟨⟨⟩, xa1⟩
    have za3 := Ext.size xa1
    replace hP := PP.ext hP xa1
    replace X := Ext.ext X xa1
    clear xa1
    refine lw_pure (pur_field tabOk rfl rfl rfl rfl rfl rfl) rfl (cT (cw_block (cw_seq (cS (lw_pure (pur_seql rfl rfl) rfl (cA rfl rfl (cT ?_)))))))
    refine cw_no rfl (by assumption) ?_
    refine cS (lw_pure (pur_seql rfl rfl) rfl (cA rfl rfl (cT ?_)))
    refine cw_yes rfl (by assumption) ?_
    refine cw_skip (qw_then ?_)
    refine cw_yes rfl (by assumption) ?_
    refine cS (cA rfl rfl (cT (cw_ret (qw_block_ret (qw_then_ret (qw_ret1 rfl rfl ?_))))))
    rotate_left 1
   exact ⟨rfl, X⟩
 by_cases h3 : (peekP c.ts σ).text = [115, 116, 97, 99, 107]
 · rw [show atDeclP c.ts σ = true from by simp [atDeclP, hasP, h3]]
   refine calls_in Tryz.func67 Tryz.ntmps67 rfl rfl ?_
   focus
    refine cS (cA rfl rfl (cT (cw_seq (cS (cM rfl rfl ?_)))))
    refine lw_does (does_call (by kernel_rfl) rfl (peek_c _ _ _ (by assumption)) (fun _ _ h => ⟨_, h.1⟩)) rfl ?_ (fun _ h => h)
    rintro _ wb2 ⟨⟨⟩, xb1⟩
    have zb3 := Ext.size xb1
    replace hP := PP.ext hP xb1
    replace X := Ext.ext X xb1
    clear xb1
    refine lw_pure (pur_field tabOk rfl rfl rfl rfl rfl rfl) rfl (cT (cw_block (cw_seq (cS (lw_pure (pur_seql rfl rfl) rfl (cA rfl rfl (cT ?_)))))))
    refine cw_no rfl (by assumption) ?_
    refine cS (lw_pure (pur_seql rfl rfl) rfl (cA rfl rfl (cT ?_)))
    refine cw_no rfl (by assumption) ?_
    refine cw_region (lw_pure (pur_seql rfl rfl) rfl (cA rfl rfl (cT ?_)))
    refine cw_yes rfl (by assumption) ?_
    refine cS (cA rfl rfl (cT (cw_ret (qw_block_ret (qw_then_ret (qw_ret1 rfl rfl ?_))))))
    rotate_left 1
   exact ⟨rfl, X⟩
 · rw [show atDeclP c.ts σ = false from by simp [atDeclP, hasP, h1, h2, h3]]
   refine calls_in Tryz.func67 Tryz.ntmps67 rfl rfl ?_
   focus
    refine cS (cA rfl rfl (cT (cw_seq (cS (cM rfl rfl ?_)))))
    refine lw_does (does_call (by kernel_rfl) rfl (peek_c _ _ _ (by assumption)) (fun _ _ h => ⟨_, h.1⟩)) rfl ?_ (fun _ h => h)
    rintro _ wc2 ⟨⟨⟩, xc1⟩
    have zc3 := Ext.size xc1
    replace hP := PP.ext hP xc1
    replace X := Ext.ext X xc1
    clear xc1
    refine lw_pure (pur_field tabOk rfl rfl rfl rfl rfl rfl) rfl (cT (cw_block (cw_seq (cS (lw_pure (pur_seql rfl rfl) rfl (cA rfl rfl (cT ?_)))))))
    refine cw_no rfl (by assumption) ?_
    refine cS (lw_pure (pur_seql rfl rfl) rfl (cA rfl rfl (cT ?_)))
    refine cw_no rfl (by assumption) ?_
    refine cw_region (lw_pure (pur_seql rfl rfl) rfl (cA rfl rfl (cT ?_)))
    refine cw_no rfl (by assumption) ?_
    refine cw_skip (qw_block_norm (qw_then (cS (cA rfl rfl (cT (cw_ret (qw_ret1 rfl rfl ?_)))))))
    rotate_left 1
   exact ⟨rfl, X⟩
set_option maxRecDepth 100000 in
set_option maxHeartbeats 1000000 in
theorem decl_p (c : PC) (σ : PS) (w : World) (hP : PP c σ w) :
 Calls Tryz.prog 70 #[.pointer (some ⟨c.pb, 0, none⟩)] w fun r w' => r = .returned (declP c.ts c.n σ).1.val ∧ PP c (declP c.ts c.n σ).2 w' ∧ Fr (· = c.pb) w w' := by
 have X := Fr.refl (· = c.pb) w
 have hpb := hP.pbB
 have hB := hP.B
 unfold declP
 cases h1 : hasP c.ts σ [105, 110, 116]
 case true =>
  simp only [if_true]
  refine calls_in Tryz.func70 Tryz.ntmps70 rfl rfl ?_
  focus
   refine cS ?_
   (refine lw_alloc' [_, _, _] zOk rfl rfl ?_; intro b1 w2 n3)
   have h5 := New.blk n3
   have x6 := New.ext n3
   have p7 := New.pos n3
   have z8 := New.size n3
   clear n3
   replace hP := PP.ext hP x6
   replace X := Fr.ext X x6
   clear x6
   refine cT (cw_seq (cw_block (cS (cM rfl rfl ?_))))
   refine lw_does (does_call (by kernel_rfl) rfl (accept_t _ _ _ _ (by assumption) (by decide) (by assumption)) (fun _ _ h => ⟨_, h.1⟩)) rfl ?_ (fun _ h => h)
   rintro _ w11 ⟨⟨⟩, ⟨h9, f10⟩⟩
   have z12 := Fr.size f10
   replace h5 := Blk.fr h5 f10 (by omega)
   clear hP
   replace X := Fr.fr X f10 (by omega)
   clear f10
   refine cA rfl rfl (cT (cw_cond_t rfl (cS (cM rfl rfl ?_))))
   refine lw_does (does_call (by kernel_rfl) rfl (name_c _ _ _ (by assumption)) (fun _ _ h => ⟨_, h.1⟩)) rfl ?_ (fun _ h => h)
   rintro _ w15 ⟨⟨⟩, ⟨h13, f14⟩⟩
   have z16 := Fr.size f14
   clear h9
   replace h5 := Blk.fr h5 f14 (by omega)
   replace X := Fr.fr X f14 (by omega)
   clear f14
   refine lw_pure (pur_build' [_, _, _] tabOk zOk rfl rfl rfl rfl) rfl ?_
   (refine lw_store' [_, _, _] [_, _, _] tabOk rfl rfl rfl rfl rfl rfl h5 rfl rfl ?_; intro w17 n18)
   have h21 := Put.blk n18
   have f19 := Put.fr n18
   have z20 := Put.size n18
   clear n18 h5
   replace h13 := PP.fr h13 f19 (by omega)
   replace X := Fr.fr X f19 (by omega)
   clear f19
   refine cT (cw_ret (qw_block_ret (qw_then_ret (qw_retc rfl tabOk rfl rfl rfl h21 rfl ?_))))
   rotate_left 1
  exact ⟨rfl, by assumption, X⟩
 simp only [Bool.false_eq_true, if_false]
 cases h2 : hasP c.ts σ [115, 116, 97, 99, 107]
 case true =>
  simp only [if_true]
  refine calls_in Tryz.func70 Tryz.ntmps70 rfl rfl ?_
  focus
   refine cS ?_
   (refine lw_alloc' [_, _, _] zOk rfl rfl ?_; intro ba1 wa2 na3)
   have ha5 := New.blk na3
   have xa6 := New.ext na3
   have pa7 := New.pos na3
   have za8 := New.size na3
   clear na3
   replace hP := PP.ext hP xa6
   replace X := Fr.ext X xa6
   clear xa6
   refine cT (cw_seq (cw_block (cS (cM rfl rfl ?_))))
   refine lw_does (does_call (by kernel_rfl) rfl (accept_f _ _ _ _ (by assumption) (by decide) (by assumption)) (fun _ _ h => ⟨_, h.1⟩)) rfl ?_ (fun _ h => h)
   rintro _ wa11 ⟨⟨⟩, ⟨ha9, fa10⟩⟩
   have za12 := Fr.size fa10
   replace ha5 := Blk.fr ha5 fa10 (by omega)
   clear hP
   replace X := Fr.fr X fa10 (by omega)
   clear fa10
   refine cA rfl rfl (cT (cw_cond_f rfl (cS (cM rfl rfl ?_))))
   refine lw_does (does_call (by kernel_rfl) rfl (accept_t _ _ _ _ (by assumption) (by decide) (by assumption)) (fun _ _ h => ⟨_, h.1⟩)) rfl ?_ (fun _ h => h)
   rintro _ wa15 ⟨⟨⟩, ⟨ha13, fa14⟩⟩
   have za16 := Fr.size fa14
   clear ha9
   replace ha5 := Blk.fr ha5 fa14 (by omega)
   replace X := Fr.fr X fa14 (by omega)
   clear fa14
   refine cA rfl rfl (cT (cw_cond_t rfl (cS (cM rfl rfl ?_))))
   refine lw_does (does_call (by kernel_rfl) rfl (name_c _ _ _ (by assumption)) (fun _ _ h => ⟨_, h.1⟩)) rfl ?_ (fun _ h => h)
   rintro _ wa19 ⟨⟨⟩, ⟨ha17, fa18⟩⟩
   have za20 := Fr.size fa18
   clear ha13
   replace ha5 := Blk.fr ha5 fa18 (by omega)
   replace X := Fr.fr X fa18 (by omega)
   clear fa18
   refine lw_pure (pur_build' [_, _, _] tabOk zOk rfl rfl rfl rfl) rfl ?_
   (refine lw_store' [_, _, _] [_, _, _] tabOk rfl rfl rfl rfl rfl rfl ha5 rfl rfl ?_; intro wa21 na22)
   have ha25 := Put.blk na22
   have fa23 := Put.fr na22
   have za24 := Put.size na22
   clear na22 ha5
   replace ha17 := PP.fr ha17 fa23 (by omega)
   replace X := Fr.fr X fa23 (by omega)
   clear fa23
   refine cT (cw_ret (qw_block_ret (qw_then_ret (qw_retc rfl tabOk rfl rfl rfl ha25 rfl ?_))))
   rotate_left 1
  exact ⟨rfl, by assumption, X⟩
 simp only [Bool.false_eq_true, if_false]
 cases h3 : hasP c.ts σ [97, 114, 114, 97, 121]
 case true =>
  simp only [if_true]
  refine calls_in Tryz.func70 Tryz.ntmps70 rfl rfl ?_
  focus
   refine cS ?_
   (refine lw_alloc' [_, _, _] zOk rfl rfl ?_; intro bb1 wb2 nb3)
   have hb5 := New.blk nb3
   have xb6 := New.ext nb3
   have pb7 := New.pos nb3
   have zb8 := New.size nb3
   clear nb3
   replace hP := PP.ext hP xb6
   replace X := Fr.ext X xb6
   clear xb6
   refine cT (cw_seq (cw_block (cS (cM rfl rfl ?_))))
   refine lw_does (does_call (by kernel_rfl) rfl (accept_f _ _ _ _ (by assumption) (by decide) (by assumption)) (fun _ _ h => ⟨_, h.1⟩)) rfl ?_ (fun _ h => h)
   rintro _ wb11 ⟨⟨⟩, ⟨hb9, fb10⟩⟩
   have zb12 := Fr.size fb10
   replace hb5 := Blk.fr hb5 fb10 (by omega)
   clear hP
   replace X := Fr.fr X fb10 (by omega)
   clear fb10
   refine cA rfl rfl (cT (cw_cond_f rfl (cS (cM rfl rfl ?_))))
   refine lw_does (does_call (by kernel_rfl) rfl (accept_f _ _ _ _ (by assumption) (by decide) (by assumption)) (fun _ _ h => ⟨_, h.1⟩)) rfl ?_ (fun _ h => h)
   rintro _ wb15 ⟨⟨⟩, ⟨hb13, fb14⟩⟩
   have zb16 := Fr.size fb14
   clear hb9
   replace hb5 := Blk.fr hb5 fb14 (by omega)
   replace X := Fr.fr X fb14 (by omega)
   clear fb14
   refine cA rfl rfl (cT (cw_cond_f rfl (cS (cM rfl rfl ?_))))
   refine lw_does (does_call (by kernel_rfl) rfl (accept_t _ _ _ _ (by assumption) (by decide) (by assumption)) (fun _ _ h => ⟨_, h.1⟩)) rfl ?_ (fun _ h => h)
   rintro _ wb19 ⟨⟨⟩, ⟨hb17, fb18⟩⟩
   have zb20 := Fr.size fb18
   clear hb13
   replace hb5 := Blk.fr hb5 fb18 (by omega)
   replace X := Fr.fr X fb18 (by omega)
   clear fb18
   refine cA rfl rfl (cT (cw_cond_t rfl (cS (cM rfl rfl ?_))))
   refine lw_does (does_call (by kernel_rfl) rfl (name_c _ _ _ (by assumption)) (fun _ _ h => ⟨_, h.1⟩)) rfl ?_ (fun _ h => h)
   rintro _ wb23 ⟨⟨⟩, ⟨hb21, fb22⟩⟩
   have zb24 := Fr.size fb22
   clear hb17
   replace hb5 := Blk.fr hb5 fb22 (by omega)
   replace X := Fr.fr X fb22 (by omega)
   clear fb22
   refine lw_pure (pur_build' [_, _, _] tabOk zOk rfl rfl rfl rfl) rfl ?_
   (refine lw_alloc' [_, _, _] zOk rfl rfl ?_; intro bb25 wb26 nb27)
   (refine lw_init' [_, _, _] tabOk rfl rfl rfl rfl rfl rfl nb27 rfl ?_; clear nb27; clear wb26; intro wb28 nb27)
   have hb29 := New.blk nb27
   have xb30 := New.ext nb27
   have pb31 := New.pos nb27
   have zb32 := New.size nb27
   clear nb27
   replace hb21 := PP.ext hb21 xb30
   replace hb5 := Blk.ext hb5 xb30
   replace X := Fr.ext X xb30
   clear xb30
   refine cN (cM rfl rfl ?_)
   refine lw_does (does_call (by kernel_rfl) rfl (expect_c _ _ _ _ (by assumption) (by decide)) (fun _ _ h => ⟨_, h.1⟩)) rfl ?_ (fun _ h => h)
   rintro _ wb35 ⟨⟨⟩, ⟨hb33, fb34⟩⟩
   have zb36 := Fr.size fb34
   replace hb29 := Blk.fr hb29 fb34 (by omega)
   clear hb21
   replace hb5 := Blk.fr hb5 fb34 (by omega)
   replace X := Fr.fr X fb34 (by omega)
   clear fb34
   refine cN (cM rfl rfl ?_)
   refine lw_does (does_call (by kernel_rfl) rfl (number_c _ _ _ _ _ (by assumption) (by decide)) (fun _ _ h => ⟨_, h.1⟩)) rfl ?_ (fun _ h => h)
   rintro _ wb39 ⟨⟨⟩, ⟨hb37, fb38⟩⟩
   have zb40 := Fr.size fb38
   clear hb33
   replace hb29 := Blk.fr hb29 fb38 (by omega)
   replace hb5 := Blk.fr hb5 fb38 (by omega)
   replace X := Fr.fr X fb38 (by omega)
   clear fb38
   refine lw_pure (pur_fieldAddr tabOk rfl rfl rfl) rfl ?_
   (refine lw_store' [_] [_, _, _] tabOk rfl rfl rfl rfl rfl rfl hb29 rfl rfl ?_; intro wb41 nb42)
   have hb45 := Put.blk nb42
   have fb43 := Put.fr nb42
   have zb44 := Put.size nb42
   clear nb42 hb29
   replace hb37 := PP.fr hb37 fb43 (by omega)
   replace hb5 := Blk.fr hb5 fb43 (by omega)
   replace X := Fr.fr X fb43 (by omega)
   clear fb43
   refine cN (cM rfl rfl ?_)
   refine lw_does (does_call (by kernel_rfl) rfl (expect_c _ _ _ _ (by assumption) (by decide)) (fun _ _ h => ⟨_, h.1⟩)) rfl ?_ (fun _ h => h)
   rintro _ wb48 ⟨⟨⟩, ⟨hb46, fb47⟩⟩
   have zb49 := Fr.size fb47
   replace hb45 := Blk.fr hb45 fb47 (by omega)
   clear hb37
   replace hb5 := Blk.fr hb5 fb47 (by omega)
   replace X := Fr.fr X fb47 (by omega)
   clear fb47
   refine cN (lw_loads_b' [_, _, _] tabOk rfl rfl rfl hb45 rfl rfl rfl ?_)
   (refine lw_store' [_, _, _] [_, _, _] tabOk rfl rfl rfl rfl rfl rfl hb5 rfl rfl ?_; intro wb50 nb51)
   have hb54 := Put.blk nb51
   have fb52 := Put.fr nb51
   have zb53 := Put.size nb51
   clear nb51 hb5
   replace hb46 := PP.fr hb46 fb52 (by omega)
   replace hb45 := Blk.fr hb45 fb52 (by omega)
   replace X := Fr.fr X fb52 (by omega)
   clear fb52
   refine cT (cw_ret (qw_block_ret (qw_then_ret (qw_retc rfl tabOk rfl rfl rfl hb54 rfl ?_))))
   rotate_left 1
  exact ⟨rfl, by assumption, X⟩
 simp only [Bool.false_eq_true, if_false]
 refine calls_in Tryz.func70 Tryz.ntmps70 rfl rfl ?_
 focus
  refine cS ?_
  (refine lw_alloc' [_, _, _] zOk rfl rfl ?_; intro bc1 wc2 nc3)
  have hc5 := New.blk nc3
  have xc6 := New.ext nc3
  have pc7 := New.pos nc3
  have zc8 := New.size nc3
  clear nc3
  replace hP := PP.ext hP xc6
  replace X := Fr.ext X xc6
  clear xc6
  refine cT (cw_seq (cw_block (cS (cM rfl rfl ?_))))
  refine lw_does (does_call (by kernel_rfl) rfl (accept_f _ _ _ _ (by assumption) (by decide) (by assumption)) (fun _ _ h => ⟨_, h.1⟩)) rfl ?_ (fun _ h => h)
  rintro _ wc11 ⟨⟨⟩, ⟨hc9, fc10⟩⟩
  have zc12 := Fr.size fc10
  replace hc5 := Blk.fr hc5 fc10 (by omega)
  clear hP
  replace X := Fr.fr X fc10 (by omega)
  clear fc10
  refine cA rfl rfl (cT (cw_cond_f rfl (cS (cM rfl rfl ?_))))
  refine lw_does (does_call (by kernel_rfl) rfl (accept_f _ _ _ _ (by assumption) (by decide) (by assumption)) (fun _ _ h => ⟨_, h.1⟩)) rfl ?_ (fun _ h => h)
  rintro _ wc15 ⟨⟨⟩, ⟨hc13, fc14⟩⟩
  have zc16 := Fr.size fc14
  clear hc9
  replace hc5 := Blk.fr hc5 fc14 (by omega)
  replace X := Fr.fr X fc14 (by omega)
  clear fc14
  refine cA rfl rfl (cT (cw_cond_f rfl (cS (cM rfl rfl ?_))))
  refine lw_does (does_call (by kernel_rfl) rfl (accept_f _ _ _ _ (by assumption) (by decide) (by assumption)) (fun _ _ h => ⟨_, h.1⟩)) rfl ?_ (fun _ h => h)
  rintro _ wc19 ⟨⟨⟩, ⟨hc17, fc18⟩⟩
  have zc20 := Fr.size fc18
  clear hc13
  replace hc5 := Blk.fr hc5 fc18 (by omega)
  replace X := Fr.fr X fc18 (by omega)
  clear fc18
  refine cA rfl rfl (cT (cw_cond_f rfl (cw_skip (qw_block_norm (qw_then (cS (cM rfl rfl ?_)))))))
  refine lw_does (does_call (by kernel_rfl) rfl (unexpected_c _ _ _ (by assumption)) (fun _ _ h => ⟨_, h.1⟩)) rfl ?_ (fun _ h => h)
  rintro _ wc23 ⟨⟨⟩, ⟨hc21, fc22⟩⟩
  have zc24 := Fr.size fc22
  clear hc17
  replace hc5 := Blk.fr hc5 fc22 (by omega)
  replace X := Fr.fr X fc22 (by omega)
  clear fc22
  refine cN (lw_pure (pur_build' [_, _, _] tabOk zOk rfl rfl rfl rfl) rfl ?_)
  (refine lw_store' [_, _, _] [_, _, _] tabOk rfl rfl rfl rfl rfl rfl hc5 rfl rfl ?_; intro wc25 nc26)
  have hc29 := Put.blk nc26
  have fc27 := Put.fr nc26
  have zc28 := Put.size nc26
  clear nc26 hc5
  replace hc21 := PP.fr hc21 fc27 (by omega)
  replace X := Fr.fr X fc27 (by omega)
  clear fc27
  refine cT (cw_ret (qw_retc rfl tabOk rfl rfl rfl hc29 rfl ?_))
  rotate_left 1
 exact ⟨rfl, by assumption, X⟩
end Bk
namespace Bk
open Go
section
variable {ts : List Tok} {n : Int}
theorem block_le {k : Nat} {σ : PS} (h : σ.at_ ≤ ts.length) : Le ts σ (blockP ts n k σ).2 := (stmt_inv k).2.2.2.1 σ h
end
end Bk
namespace Bk
open Go
section
variable {ts : List Tok} {n : Int}
end
end Bk
namespace Bk
open Go
section
variable (ts : List Tok) (n : Int)
def posR (σ : PS) : Int := if ts.length ≤ σ.at_ then n else (ts.getD σ.at_ Tok.zero).pos
def declKind (t : List UInt8) : Int := if t = [105, 110, 116] then 1 else if t = [97, 114, 114, 97, 121] then 2 else 3
def declR (many most : Nat) (σ : PS) : VD × PS :=
 if atDeclP ts σ = false then (⟨[], 0, 0⟩, unexpP ts n σ)
 else if many = most then (⟨[], 0, 0⟩, failP σ (posR ts n σ) 5)
 else
  let m := nameP ts n (nextP σ)
  if declKind (peekP ts σ).text = 2 then
   let σ1 := expectP ts n m.2 [91]
   let r := numberR ts n σ1
   let σ2 := if r.2.err = 0 ∧ (r.1 < 1 ∨ 16 < r.1) then failP r.2 (posR ts n σ1) 2 else r.2
   (⟨m.1, 2, r.1⟩, expectP ts n σ2 [93])
  else (⟨m.1, declKind (peekP ts σ).text, 0⟩, m.2)
end
section
variable {ts : List Tok} {n : Int}
theorem decl_le {σ : PS} (h : σ.at_ ≤ ts.length) : Le ts σ (declP ts n σ).2 := by
 unfold declP
 split
 · rename_i hh
   have h1 := next_le (has_in h hh (by decide))
   exact h1.trans (name_le h1.wf)
 · split
   · rename_i hh
     have h1 := next_le (has_in h hh (by decide))
     exact h1.trans (name_le h1.wf)
   · split
     · rename_i hh
       have h1 := next_le (has_in h hh (by decide))
       have h2 := h1.trans (name_le (n := n) h1.wf)
       have h3 := h2.trans (expect_le (n := n) (t := [91]) h2.wf (by decide))
       have h4 := h3.trans (number_le (n := n) (a := 1) (b := 16) h3.wf)
       exact h4.trans (expect_le h4.wf (by decide))
     · exact unexp_le h
end
section
variable (ts : List Tok) (n : Int)
def paramsR : Nat → List VD → PS → List VD × PS
 | 0, acc, σ => (acc, σ)
 | k + 1, acc, σ =>
  if hasP ts (declR ts n acc.length 8 σ).2 [44] then paramsR k (acc ++ [(declR ts n acc.length 8 σ).1]) (nextP (declR ts n acc.length 8 σ).2)
  else (acc ++ [(declR ts n acc.length 8 σ).1], (declR ts n acc.length 8 σ).2)
end
section
variable {ts : List Tok} {n : Int}
theorem params_le (k : Nat) : ∀ acc σ, σ.at_ ≤ ts.length → Le ts σ (paramsP ts n k acc σ).2 := by
 induction k with
 | zero => intro acc σ h; rw [paramsP]; exact Le.refl h
 | succ k ih =>
  intro acc σ h
  rw [paramsP]
  split
  · rename_i hh
    have h1 := next_le (has_in h hh (by decide))
    simp only
    have h2 : Le ts σ (if acc.length = 8 ∧ atDeclP ts (nextP σ) = true then failP (nextP σ) (peekP ts (nextP σ)).pos 5 else nextP σ) := by
     split
     · exact h1.trans (fail_le h1.wf _ _)
     · exact h1
    generalize (if acc.length = 8 ∧ atDeclP ts (nextP σ) = true then failP (nextP σ) (peekP ts (nextP σ)).pos 5 else nextP σ) = τ at *
    have h3 := h2.trans (decl_le (n := n) h2.wf)
    exact h3.trans (ih _ _ h3.wf)
  · exact Le.refl h
end
section
variable (ts : List Tok) (n : Int)
def wholeR (k : Nat) (σ : PS) : Nd × PS := ((bodyR ts n k σ).1, limitP (bodyR ts n k σ).1 (posR ts n σ) (bodyR ts n k σ).2)
end
section
variable {ts : List Tok} {n : Int}
theorem limit_le {x : Nd} {off : Int} {σ : PS} (h : σ.at_ ≤ ts.length) : Le ts σ (limitP x off σ) := by
 unfold limitP
 split
 · exact Le.refl h
 · split
   · exact fail_le h _ _
   · split
     · exact fail_le h _ _
     · exact Le.refl h
end
section
variable (ts : List Tok) (n : Int)
def procR (k : Nat) (σ : PS) : PD × PS :=
 let m := nameP ts n (nextP σ)
 let σ1 := expectP ts n m.2 [40]
 let q := if σ1.err = 0 ∧ hasP ts σ1 [41] = false then paramsR ts n k [] σ1 else ([], σ1)
 let b := wholeR ts n k (expectP ts n q.2 [41])
 (⟨m.1, q.1, b.1⟩, b.2)
def varsR : Nat → List VD → PS → List VD × PS
 | 0, acc, σ => (acc, σ)
 | k + 1, acc, σ => if σ.err = 0 ∧ atDeclP ts σ = true then varsR k (acc ++ [(declR ts n acc.length 32 σ).1]) (declR ts n acc.length 32 σ).2 else (acc, σ)
def procsR : Nat → List PD → PS → List PD × PS
 | 0, acc, σ => (acc, σ)
 | k + 1, acc, σ =>
  if σ.err = 0 ∧ hasP ts σ [112, 114, 111, 99] = true then
   if acc.length = 64 then (acc, failP σ (posR ts n σ) 5)
   else procsR k (acc ++ [(procR ts n k σ).1]) (procR ts n k σ).2
  else (acc, σ)
def programR (k : Nat) (σ : PS) : PG × PS :=
 let v := varsR ts n k [] σ
 let p := procsR ts n k [] v.2
 let b := wholeR ts n k (expectP ts n p.2 [109, 97, 105, 110])
 (⟨v.1, p.1, b.1⟩, b.2)
end
section
variable {ts : List Tok} {n : Int}
theorem bodyP_le {k : Nat} {σ : PS} (h : σ.at_ ≤ ts.length) : Le ts σ (bodyP ts n k σ).2 := by
 unfold bodyP
 have h1 := block_le (n := n) (k := k) h
 exact h1.trans (limit_le h1.wf)
theorem decl_lt {σ : PS} (h : σ.at_ ≤ ts.length) : Lt σ (declP ts n σ).2 := by
 unfold declP
 split
 · rename_i hh
   have h1 := next_le (has_in h hh (by decide))
   exact Lt.of_le (ts := ts) h1 name_lt
 · split
   · rename_i hh
     have h1 := next_le (has_in h hh (by decide))
     exact Lt.of_le (ts := ts) h1 name_lt
   · split
     · rename_i hh
       have h1 := next_le (has_in h hh (by decide))
       have h2 := h1.trans (name_le (n := n) h1.wf)
       have h3 := h2.trans (expect_le (n := n) (t := [91]) h2.wf (by decide))
       have h4 := h3.trans (number_le (n := n) (a := 1) (b := 16) h3.wf)
       exact Lt.of_le (ts := ts) h4 expect_lt
     · exact unexp_lt
end
end Bk
namespace Bk
open Go
section
variable {ts : List Tok} {n : Int}
def procQ (ts : List Tok) (n : Int) (k : Nat) (σ : PS) : List VD × PS :=
 if hasP ts σ [41] then ([], nextP σ) else ((paramsP ts n k [(declP ts n σ).1] (declP ts n σ).2).1, expectP ts n (paramsP ts n k [(declP ts n σ).1] (declP ts n σ).2).2 [41])
def procQR (ts : List Tok) (n : Int) (k : Nat) (σ : PS) : List VD × PS :=
 ((if σ.err = 0 ∧ hasP ts σ [41] = false then paramsR ts n k [] σ else ([], σ)).1, expectP ts n (if σ.err = 0 ∧ hasP ts σ [41] = false then paramsR ts n k [] σ else ([], σ)).2 [41])
theorem procQ_le {k : Nat} {σ : PS} (h : σ.at_ ≤ ts.length) : Le ts σ (procQ ts n k σ).2 := by
 unfold procQ
 split
 · rename_i hh
   exact next_le (has_in h hh (by decide))
 · have h1 := decl_le (n := n) h
   have h2 := h1.trans (params_le (n := n) k [(declP ts n σ).1] _ h1.wf)
   exact h2.trans (expect_le h2.wf (by decide))
theorem procP_at {k : Nat} {σ : PS} : procP ts n k σ = (⟨(nameP ts n (expectP ts n σ [112, 114, 111, 99])).1, (procQ ts n k (expectP ts n (nameP ts n (expectP ts n σ [112, 114, 111, 99])).2 [40])).1, (bodyP ts n k (procQ ts n k (expectP ts n (nameP ts n (expectP ts n σ [112, 114, 111, 99])).2 [40])).2).1⟩, (bodyP ts n k (procQ ts n k (expectP ts n (nameP ts n (expectP ts n σ [112, 114, 111, 99])).2 [40])).2).2) := by
 simp only [procP, procQ]
theorem procP_le {k : Nat} {σ : PS} (h : σ.at_ ≤ ts.length) : Le ts σ (procP ts n k σ).2 := by
 rw [procP_at]
 have h1 := expect_le (n := n) (t := [112, 114, 111, 99]) h (by decide)
 have h2 := h1.trans (name_le (n := n) h1.wf)
 have h3 := h2.trans (expect_le (n := n) (t := [40]) h2.wf (by decide))
 have h4 := h3.trans (procQ_le (n := n) (k := k) h3.wf)
 exact h4.trans (bodyP_le h4.wf)
theorem procP_lt {k : Nat} {σ : PS} (h : σ.at_ ≤ ts.length) : Lt σ (procP ts n k σ).2 := by
 rw [procP_at]
 have h1 := expect_le (n := n) (t := [112, 114, 111, 99]) h (by decide)
 have h2 := name_le (n := n) h1.wf
 have h3 := h2.trans (expect_le (n := n) (t := [40]) h2.wf (by decide))
 have h4 := h3.trans (procQ_le (n := n) (k := k) h3.wf)
 exact Lt.of_lt (expect_lt (ts := ts) (n := n)) (h4.trans (bodyP_le h4.wf))
end
end Bk
namespace Bk
open Go Go.RowKit Go.Proofs
attribute [local irreducible] Go.Calls
def VdsR (c : PC) (w : World) (r : List VD × PS) : Ending → World → Prop := fun e w' => ∃ a k, e = .returned (.slice a r.1.length k) ∧ VDs (fun b => w.heap.size ≤ b ∧ b < w'.heap.size) w' r.1 a ∧ PP c r.2 w' ∧ Fr (· = c.pb) w w'
theorem VdsR.ret {c : PC} {w : World} {r : List VD × PS} {e : Ending} {w' : World} (h : VdsR c w r e w') : ∃ v, e = .returned v := by
 obtain ⟨_, _, h, -⟩ := h
 exact ⟨_, h⟩
set_option maxRecDepth 100000 in
set_option maxHeartbeats 2000000 in
theorem params_c (c : PC) (k : Nat) (σ : PS) (w : World) (hP : PP c σ w) (hk : mS c.ts σ + 1 ≤ k) :
 Calls Tryz.prog 107 #[.pointer (some ⟨c.pb, 0, none⟩)] w (VdsR c w (paramsP c.ts c.n k [(declP c.ts c.n σ).1] (declP c.ts c.n σ).2)) := by
 have X := Fr.refl (· = c.pb) w
 have hpb := hP.pbB
 have hB := hP.B
 have hlen := hP.len
 have hd := mS_le (decl_le (n := c.n) hP.at_)
 have hmt : mS c.ts σ ≤ c.ts.length := by unfold mS; split <;> omega
 refine calls_in Tryz.func107 Tryz.ntmps107 rfl rfl ?_
 focus
  refine cS (cA rfl rfl (cN (cM rfl rfl ?_)))
  refine lw_does (does_call (by kernel_rfl) rfl (decl_p _ _ _ (by assumption)) (fun _ _ h => ⟨_, h.1⟩)) rfl ?_ (fun _ h => h)
  rintro _ w3 ⟨⟨⟩, ⟨h1, f2⟩⟩
  have z4 := Fr.size f2
  clear hP
  replace X := Fr.fr X f2 (by omega)
  clear f2
  (refine lw_does (does_slice' [_, _, _] tabOk zOk rfl rfl rfl rfl rfl rfl rfl rfl rfl) rfl ?_ (fun _ h => h); rintro _ w6 ⟨b5, rfl, n7, t8⟩)
  have t9 : TB _ _ _ _ := t8
  clear t8
  have x10 := New.ext n7
  have p11 := New.pos n7
  have z12 := New.size n7
  clear n7
  replace h1 := PP.ext h1 x10
  replace X := Fr.ext X x10
  clear x10
  refine cA rfl rfl (cT (cw_seq (cw_block ?_)))
  rotate_left 1
 have hown := OwnL.lit (sh := vdShape) (B := w.heap.size) (x := (declP c.ts c.n σ).1) (by assumption) (by omega) rfl
 generalize declP c.ts c.n σ = D at *
 refine cw_loop (ι := Nat × List VD × Nat × Nat × PS) (fun x => [(0, .pointer (some ⟨c.pb, 0, none⟩)), (3, .slice (some ⟨x.2.2.1, 0, none⟩) x.2.1.length x.2.2.2.1)])
  (fun x w' => PP c x.2.2.2.2 w' ∧ OwnL vdShape w' w.heap.size 59 (.slice (some ⟨x.2.2.1, 0, none⟩) x.2.1.length x.2.2.2.1) x.2.1 ∧ Fr (· = c.pb) w w' ∧ w6.heap.size ≤ w'.heap.size ∧
   paramsP c.ts c.n k [D.1] D.2 = paramsP c.ts c.n x.1 x.2.1 x.2.2.2.2 ∧ mS c.ts x.2.2.2.2 + 1 ≤ x.1 ∧ x.2.1.length + mS c.ts x.2.2.2.2 ≤ 1000001) (fun x => x.1) (k, [D.1], b5, 1, D.2) (by (refine sub_cons rfl ?_; refine sub_cons rfl ?_; exact sub_nil))
  ⟨h1, hown, X, Nat.le_refl _, rfl, by simp only; omega, by simp only [List.length_cons, List.length_nil]; omega⟩ ?_
 rintro ⟨j, acc, g, cap, σ'⟩ w1 ⟨hP, hown, X, hz, he, hfj, hacc⟩
 simp only at hP hown he hfj hacc
 clear t9 h1
 rw [he]
 refine CW.sub (m := [(0, .pointer (some ⟨c.pb, 0, none⟩)), (3, .slice (some ⟨g, 0, none⟩) acc.length cap)]) ?_ (by (refine sub_cons rfl ?_; refine sub_cons rfl ?_; exact sub_nil))
 obtain ⟨j, rfl⟩ : ∃ i, j = i + 1 := ⟨j - 1, by omega⟩
 cases hc : hasP c.ts σ' [44]
 case false =>
  rw [show paramsP c.ts c.n (j + 1) acc σ' = (acc, σ') from by rw [paramsP]; simp [hc]]
  focus
   refine cw_seq (cS (cM rfl rfl ?_))
   refine lw_does (does_call (by kernel_rfl) rfl (accept_f _ _ _ _ (by assumption) (by decide) (by assumption)) (fun _ _ h => ⟨_, h.1⟩)) rfl ?_ (fun _ h => h)
   rintro _ wa3 ⟨⟨⟩, ⟨ha1, fa2⟩⟩
   have za4 := Fr.size fa2
   clear hP
   replace hown := OwnL.fr hown fa2 (by omega)
   replace X := Fr.fr X fa2 (by omega)
   clear fa2
   refine cT (cw_cond_f rfl (cw_exit (qw_then_exit (qw_then_exit (qw_block_exit (qw_then (cS (cM rfl rfl (cA rfl rfl (cT (cw_ret ?_)))))))))))
   refine qw_ret1 rfl rfl ?_
   rotate_left 1
  exact ⟨_, _, rfl, VDs.lt2 (S := (w.heap.size ≤ ·)) (OwnL.vds (by assumption) (fun b h => h)), by assumption, X⟩
 have hin := has_in hP.at_ hc (by decide)
 have hmn := mS_next hin
 by_cases h8 : acc.length = 8
 · cases hnm : atDeclP c.ts (nextP σ')
   · have hml := mS_le (decl_le (n := c.n) (show (nextP σ').at_ ≤ c.ts.length from hin.2))
     rw [show paramsP c.ts c.n (j + 1) acc σ' = paramsP c.ts c.n j (acc ++ [(declP c.ts c.n (nextP σ')).1]) (declP c.ts c.n (nextP σ')).2 from by rw [paramsP]; simp [hc, h8, hnm]]
     focus
      refine cw_seq (cS (cM rfl rfl ?_))
      refine lw_does (does_call (by kernel_rfl) rfl (accept_t _ _ _ _ (by assumption) (by decide) (by assumption)) (fun _ _ h => ⟨_, h.1⟩)) rfl ?_ (fun _ h => h)
      rintro _ wb3 ⟨⟨⟩, ⟨hb1, fb2⟩⟩
      have zb4 := Fr.size fb2
      clear hP
      replace hown := OwnL.fr hown fb2 (by omega)
      replace X := Fr.fr X fb2 (by omega)
      clear fb2
      refine cT (cw_cond_t rfl (cw_skip (qw_then (cw_block (cw_seq (cS (cM rfl rfl (lw_pure (pur_len_slice tabOk rfl rfl) rfl (lw_pure (pur_eql rfl rfl) rfl (cM rfl rfl ?_))))))))))
      refine lw_on rfl rfl rfl (gd_tt (by omega)) ?_
      refine cM rfl rfl ?_
      refine lw_on rfl rfl rfl (gd_tt (by omega)) ?_
      refine lw_does (does_call (by kernel_rfl) rfl (atDecl_c _ _ _ (by assumption)) (fun _ _ h => ⟨_, h.1⟩)) rfl ?_ (fun _ h => h)
      rintro _ wb6 ⟨⟨⟩, xb5⟩
      have zb7 := Ext.size xb5
      replace hb1 := PP.ext hb1 xb5
      replace hown := OwnL.ext hown xb5
      replace X := Fr.ext X xb5
      clear xb5
      refine lw_pure (pur_pick_yes rfl rfl (by omega)) rfl ?_
      refine cT ?_
      refine cw_bf rfl (by assumption) ?_
      refine cw_skip (qw_then (cw_region (cM rfl rfl (cM rfl rfl ?_))))
      refine lw_does (does_call (by kernel_rfl) rfl (decl_p _ _ _ (by assumption)) (fun _ _ h => ⟨_, h.1⟩)) rfl ?_ (fun _ h => h)
      rintro _ wb10 ⟨⟨⟩, ⟨hb8, fb9⟩⟩
      have zb11 := Fr.size fb9
      clear hb1
      replace hown := OwnL.fr hown fb9 (by omega)
      replace X := Fr.fr X fb9 (by omega)
      clear fb9
      (refine lw_does (does_slice' [_, _, _] tabOk zOk rfl rfl rfl rfl rfl rfl rfl rfl rfl) rfl ?_ (fun _ h => h); rintro _ wb13 ⟨bb12, rfl, nb14, tb15⟩)
      clear tb15
      have hb16 := New.blk nb14
      have xb17 := New.ext nb14
      have pb18 := New.pos nb14
      have zb19 := New.size nb14
      clear nb14
      replace hb8 := PP.ext hb8 xb17
      replace hown := OwnL.ext hown xb17
      replace X := Fr.ext X xb17
      clear xb17
      refine lw_appendL (sh := vdShape) tabOk zOk rfl rfl rfl rfl (by kernel_rfl) rfl rfl rfl hown (Blk.row (by assumption)) rfl (by omega) (by omega) rfl ?_
      rintro gb20 cap'b21 wb22 hb23 fb24
      have zb25 := Fr.size fb24
      clear hb16
      replace hb8 := PP.fr hb8 fb24 (by omega)
      clear hown
      replace X := Fr.fr X fb24 (by omega)
      clear fb24
      refine cA rfl rfl (lw_nil (qw_block_norm ?_))
      rotate_left 1
     refine qw_round (j, acc ++ [(declP c.ts c.n (nextP σ')).1], _, _, (declP c.ts c.n (nextP σ')).2) (by (refine sub_cons rfl ?_; refine sub_cons rfl ?_; exact sub_nil)) ⟨by assumption, by assumption, X, by omega, rfl, by simp only; omega, by simp only [List.length_append, List.length_cons, List.length_nil]; omega⟩ (by simp)
   · have hfl := fail_le (show (nextP σ').at_ ≤ c.ts.length from hin.2) (peekP c.ts (nextP σ')).pos 5
     have hml := mS_le (hfl.trans (decl_le (n := c.n) hfl.wf))
     rw [show paramsP c.ts c.n (j + 1) acc σ' = paramsP c.ts c.n j (acc ++ [(declP c.ts c.n (failP (nextP σ') (peekP c.ts (nextP σ')).pos 5)).1]) (declP c.ts c.n (failP (nextP σ') (peekP c.ts (nextP σ')).pos 5)).2 from by rw [paramsP]; simp [hc, h8, hnm]]
     focus
      refine cw_seq (cS (cM rfl rfl ?_))
      refine lw_does (does_call (by kernel_rfl) rfl (accept_t _ _ _ _ (by assumption) (by decide) (by assumption)) (fun _ _ h => ⟨_, h.1⟩)) rfl ?_ (fun _ h => h)
      rintro _ wc3 ⟨⟨⟩, ⟨hc1, fc2⟩⟩
      have zc4 := Fr.size fc2
      clear hP
      replace hown := OwnL.fr hown fc2 (by omega)
      replace X := Fr.fr X fc2 (by omega)
      clear fc2
      refine cT (cw_cond_t rfl (cw_skip (qw_then (cw_block (cw_seq (cS (cM rfl rfl (lw_pure (pur_len_slice tabOk rfl rfl) rfl (lw_pure (pur_eql rfl rfl) rfl (cM rfl rfl ?_))))))))))
      refine lw_on rfl rfl rfl (gd_tt (by omega)) ?_
      refine cM rfl rfl ?_
      refine lw_on rfl rfl rfl (gd_tt (by omega)) ?_
      refine lw_does (does_call (by kernel_rfl) rfl (atDecl_c _ _ _ (by assumption)) (fun _ _ h => ⟨_, h.1⟩)) rfl ?_ (fun _ h => h)
      rintro _ wc6 ⟨⟨⟩, xc5⟩
      have zc7 := Ext.size xc5
      replace hc1 := PP.ext hc1 xc5
      replace hown := OwnL.ext hown xc5
      replace X := Fr.ext X xc5
      clear xc5
      refine lw_pure (pur_pick_yes rfl rfl (by omega)) rfl ?_
      refine cT ?_
      refine cw_bt rfl (by assumption) ?_
      refine cw_region (cM rfl rfl (cM rfl rfl ?_))
      refine lw_does (does_call (by kernel_rfl) rfl (peek_c _ _ _ (by assumption)) (fun _ _ h => ⟨_, h.1⟩)) rfl ?_ (fun _ h => h)
      rintro _ wc9 ⟨⟨⟩, xc8⟩
      have zc10 := Ext.size xc8
      replace hc1 := PP.ext hc1 xc8
      replace hown := OwnL.ext hown xc8
      replace X := Fr.ext X xc8
      clear xc8
      refine lw_pure (pur_field tabOk rfl rfl rfl rfl rfl rfl) rfl ?_
      refine lw_does (does_call (by kernel_rfl) rfl (fail_c _ _ _ _ _ (by assumption)) (fun _ _ h => ⟨_, h.1⟩)) rfl ?_ (fun _ h => h)
      rintro _ wc13 ⟨⟨⟩, ⟨hc11, fc12⟩⟩
      have zc14 := Fr.size fc12
      clear hc1
      replace hown := OwnL.fr hown fc12 (by omega)
      replace X := Fr.fr X fc12 (by omega)
      clear fc12
      refine cT (cw_region (cM rfl rfl (cM rfl rfl ?_)))
      refine lw_does (does_call (by kernel_rfl) rfl (decl_p _ _ _ (by assumption)) (fun _ _ h => ⟨_, h.1⟩)) rfl ?_ (fun _ h => h)
      rintro _ wc17 ⟨⟨⟩, ⟨hc15, fc16⟩⟩
      have zc18 := Fr.size fc16
      clear hc11
      replace hown := OwnL.fr hown fc16 (by omega)
      replace X := Fr.fr X fc16 (by omega)
      clear fc16
      (refine lw_does (does_slice' [_, _, _] tabOk zOk rfl rfl rfl rfl rfl rfl rfl rfl rfl) rfl ?_ (fun _ h => h); rintro _ wc20 ⟨bc19, rfl, nc21, tc22⟩)
      clear tc22
      have hc23 := New.blk nc21
      have xc24 := New.ext nc21
      have pc25 := New.pos nc21
      have zc26 := New.size nc21
      clear nc21
      replace hc15 := PP.ext hc15 xc24
      replace hown := OwnL.ext hown xc24
      replace X := Fr.ext X xc24
      clear xc24
      refine lw_appendL (sh := vdShape) tabOk zOk rfl rfl rfl rfl (by kernel_rfl) rfl rfl rfl hown (Blk.row (by assumption)) rfl (by omega) (by omega) rfl ?_
      rintro gc27 cap'c28 wc29 hc30 fc31
      have zc32 := Fr.size fc31
      clear hc23
      replace hc15 := PP.fr hc15 fc31 (by omega)
      clear hown
      replace X := Fr.fr X fc31 (by omega)
      clear fc31
      refine cA rfl rfl (lw_nil (qw_block_norm ?_))
      rotate_left 1
     refine qw_round (j, acc ++ [(declP c.ts c.n (failP (nextP σ') (peekP c.ts (nextP σ')).pos 5)).1], _, _, (declP c.ts c.n (failP (nextP σ') (peekP c.ts (nextP σ')).pos 5)).2) (by (refine sub_cons rfl ?_; refine sub_cons rfl ?_; exact sub_nil)) ⟨by assumption, by assumption, X, by omega, rfl, by simp only; omega, by simp only [List.length_append, List.length_cons, List.length_nil]; omega⟩ (by simp)
 · have hml := mS_le (decl_le (n := c.n) (show (nextP σ').at_ ≤ c.ts.length from hin.2))
   rw [show paramsP c.ts c.n (j + 1) acc σ' = paramsP c.ts c.n j (acc ++ [(declP c.ts c.n (nextP σ')).1]) (declP c.ts c.n (nextP σ')).2 from by rw [paramsP]; simp [hc, h8]]
   focus
    refine cw_seq (cS (cM rfl rfl ?_))
    refine lw_does (does_call (by kernel_rfl) rfl (accept_t _ _ _ _ (by assumption) (by decide) (by assumption)) (fun _ _ h => ⟨_, h.1⟩)) rfl ?_ (fun _ h => h)
    rintro _ wd3 ⟨⟨⟩, ⟨hd1, fd2⟩⟩
    have zd4 := Fr.size fd2
    clear hP
    replace hown := OwnL.fr hown fd2 (by omega)
    replace X := Fr.fr X fd2 (by omega)
    clear fd2
    refine cT (cw_cond_t rfl (cw_skip (qw_then (cw_block (cw_seq (cS (cM rfl rfl (lw_pure (pur_len_slice tabOk rfl rfl) rfl (lw_pure (pur_eql rfl rfl) rfl (cM rfl rfl ?_))))))))))
    refine lw_off rfl rfl rfl (gd_tf (by omega)) rfl ?_
    refine lw_off rfl rfl rfl (gd_tf (by omega)) rfl ?_
    refine lw_pure (pur_pick_no rfl rfl (by omega)) rfl ?_
    refine cT (cw_cond_f rfl (cw_skip (qw_then (cw_region (cM rfl rfl (cM rfl rfl ?_))))))
    refine lw_does (does_call (by kernel_rfl) rfl (decl_p _ _ _ (by assumption)) (fun _ _ h => ⟨_, h.1⟩)) rfl ?_ (fun _ h => h)
    rintro _ wd7 ⟨⟨⟩, ⟨hd5, fd6⟩⟩
    have zd8 := Fr.size fd6
    clear hd1
    replace hown := OwnL.fr hown fd6 (by omega)
    replace X := Fr.fr X fd6 (by omega)
    clear fd6
    (refine lw_does (does_slice' [_, _, _] tabOk zOk rfl rfl rfl rfl rfl rfl rfl rfl rfl) rfl ?_ (fun _ h => h); rintro _ wd10 ⟨bd9, rfl, nd11, td12⟩)
    clear td12
    have hd13 := New.blk nd11
    have xd14 := New.ext nd11
    have pd15 := New.pos nd11
    have zd16 := New.size nd11
    clear nd11
    replace hd5 := PP.ext hd5 xd14
    replace hown := OwnL.ext hown xd14
    replace X := Fr.ext X xd14
    clear xd14
    refine lw_appendL (sh := vdShape) tabOk zOk rfl rfl rfl rfl (by kernel_rfl) rfl rfl rfl hown (Blk.row (by assumption)) rfl (by omega) (by omega) rfl ?_
    rintro gd17 cap'd18 wd19 hd20 fd21
    have zd22 := Fr.size fd21
    clear hd13
    replace hd5 := PP.fr hd5 fd21 (by omega)
    clear hown
    replace X := Fr.fr X fd21 (by omega)
    clear fd21
    refine cA rfl rfl (lw_nil (qw_block_norm ?_))
    rotate_left 1
   refine qw_round (j, acc ++ [(declP c.ts c.n (nextP σ')).1], _, _, (declP c.ts c.n (nextP σ')).2) (by (refine sub_cons rfl ?_; refine sub_cons rfl ?_; exact sub_nil)) ⟨by assumption, by assumption, X, by omega, rfl, by simp only; omega, by simp only [List.length_append, List.length_cons, List.length_nil]; omega⟩ (by simp)
def PdR (c : PC) (w : World) (r : PD × PS) : Ending → World → Prop := fun e w' => ∃ pa pc ba bc, e = .returned (.agg (r.1.cells pa pc ba bc).toArray) ∧ VDs (fun b => w.heap.size ≤ b ∧ b < w'.heap.size) w' r.1.params pa ∧ r.1.body.sits (fun b => w.heap.size ≤ b ∧ b < w'.heap.size) w' ba ∧ PP c r.2 w' ∧ Fr (· = c.pb) w w'
theorem PdR.ret {c : PC} {w : World} {r : PD × PS} {e : Ending} {w' : World} (h : PdR c w r e w') : ∃ v, e = .returned v := by
 obtain ⟨_, _, _, _, h, -⟩ := h
 exact ⟨_, h⟩
set_option maxRecDepth 100000 in
set_option maxHeartbeats 2000000 in
theorem proc_c (c : PC) (k : Nat) (σ : PS) (w : World) (hP : PP c σ w) (hk : 4 * mS c.ts σ + 8 ≤ k) :
 Calls Tryz.prog 71 #[.pointer (some ⟨c.pb, 0, none⟩)] w (PdR c w (procP c.ts c.n k σ)) := by
 have X := Fr.refl (· = c.pb) w
 have hpb := hP.pbB
 have hB := hP.B
 have hlen := hP.len
 have l1 := expect_le (n := c.n) (t := [112, 114, 111, 99]) hP.at_ (by decide)
 have l2 := l1.trans (name_le (n := c.n) l1.wf)
 have l3 := l2.trans (expect_le (n := c.n) (t := [40]) l2.wf (by decide))
 have l4 := l3.trans (procQ_le (n := c.n) (k := k) l3.wf)
 have m3 := mS_le l3
 have m4 := mS_le l4
 rw [procP_at]
 generalize hM : nameP c.ts c.n (expectP c.ts c.n σ [112, 114, 111, 99]) = M at *
 have hname : ∀ {w' : World}, PP c (expectP c.ts c.n σ [112, 114, 111, 99]) w' → Calls Tryz.prog 105 #[.pointer (some ⟨c.pb, 0, none⟩)] w' fun r w'' => r = .returned (str M.1) ∧ PP c M.2 w'' ∧ Fr (· = c.pb) w' w'' := fun h => hM ▸ name_c c _ _ h
 clear l1 l2 l3 l4 hM
 cases hh : hasP c.ts (expectP c.ts c.n M.2 [40]) [41]
 case true =>
  rw [show procQ c.ts c.n k (expectP c.ts c.n M.2 [40]) = ([], nextP (expectP c.ts c.n M.2 [40])) from by simp [procQ, hh]] at m4 ⊢
  simp only at m4 ⊢
  refine calls_in Tryz.func71 Tryz.ntmps71 rfl rfl ?_
  focus
   refine cS ?_
   (refine lw_alloc' [_, _, _, _, _, _] zOk rfl rfl ?_; intro b1 w2 n3)
   have h5 := New.blk n3
   have x6 := New.ext n3
   have p7 := New.pos n3
   have z8 := New.size n3
   clear n3
   replace hP := PP.ext hP x6
   replace X := Fr.ext X x6
   clear x6
   refine cN (cM rfl rfl ?_)
   refine lw_does (does_call (by kernel_rfl) rfl (expect_c _ _ _ _ (by assumption) (by decide)) (fun _ _ h => ⟨_, h.1⟩)) rfl ?_ (fun _ h => h)
   rintro _ w11 ⟨⟨⟩, ⟨h9, f10⟩⟩
   have z12 := Fr.size f10
   replace h5 := Blk.fr h5 f10 (by omega)
   clear hP
   replace X := Fr.fr X f10 (by omega)
   clear f10
   refine cN (cM rfl rfl ?_)
   refine lw_does (does_call (by kernel_rfl) rfl (hname (by assumption)) (fun _ _ h => ⟨_, h.1⟩)) rfl ?_ (fun _ h => h)
   rintro _ w15 ⟨⟨⟩, ⟨h13, f14⟩⟩
   have z16 := Fr.size f14
   clear h9
   replace h5 := Blk.fr h5 f14 (by omega)
   replace X := Fr.fr X f14 (by omega)
   clear f14
   refine lw_pure (pur_build' [_, _, _, _, _, _] tabOk zOk rfl rfl rfl rfl) rfl ?_
   (refine lw_alloc' [_, _, _, _, _, _] zOk rfl rfl ?_; intro b17 w18 n19)
   (refine lw_init' [_, _, _, _, _, _] tabOk rfl rfl rfl rfl rfl rfl n19 rfl ?_; clear n19; clear w18; intro w20 n19)
   have h21 := New.blk n19
   have x22 := New.ext n19
   have p23 := New.pos n19
   have z24 := New.size n19
   clear n19
   replace h13 := PP.ext h13 x22
   replace h5 := Blk.ext h5 x22
   replace X := Fr.ext X x22
   clear x22
   refine cN (cM rfl rfl ?_)
   refine lw_does (does_call (by kernel_rfl) rfl (expect_c _ _ _ _ (by assumption) (by decide)) (fun _ _ h => ⟨_, h.1⟩)) rfl ?_ (fun _ h => h)
   rintro _ w27 ⟨⟨⟩, ⟨h25, f26⟩⟩
   have z28 := Fr.size f26
   replace h21 := Blk.fr h21 f26 (by omega)
   clear h13
   replace h5 := Blk.fr h5 f26 (by omega)
   replace X := Fr.fr X f26 (by omega)
   clear f26
   refine cT (cw_seq (cS (cM rfl rfl ?_)))
   refine lw_does (does_call (by kernel_rfl) rfl (accept_t _ _ _ _ (by assumption) (by decide) (by assumption)) (fun _ _ h => ⟨_, h.1⟩)) rfl ?_ (fun _ h => h)
   rintro _ w31 ⟨⟨⟩, ⟨h29, f30⟩⟩
   have z32 := Fr.size f30
   clear h25
   replace h21 := Blk.fr h21 f30 (by omega)
   replace h5 := Blk.fr h5 f30 (by omega)
   replace X := Fr.fr X f30 (by omega)
   clear f30
   refine lw_pure (pur_not rfl) rfl (cT (cw_cond_f rfl (cw_skip (qw_then (cS (cM rfl rfl ?_))))))
   refine lw_does (does_call (by kernel_rfl) rfl (body_c c k _ _ (by assumption) (by omega)) (fun _ _ h => h.ret)) rfl ?_ (fun _ h => h)
   rintro _ w38 ⟨a33, ⟨k34, ⟨⟨⟩, ⟨h35, ⟨h36, f37⟩⟩⟩⟩⟩
   have z39 := Fr.size f37
   clear h29
   replace h21 := Blk.fr h21 f37 (by omega)
   replace h5 := Blk.fr h5 f37 (by omega)
   replace X := Fr.fr X f37 (by omega)
   clear f37
   refine lw_pure (pur_fieldAddr tabOk rfl rfl rfl) rfl ?_
   (refine lw_store' [_, _, _, _] [_, _, _, _, _, _] tabOk rfl rfl rfl rfl rfl rfl h21 rfl rfl ?_; intro w40 n41)
   have h44 := Put.blk n41
   have f42 := Put.fr n41
   have z43 := Put.size n41
   clear n41 h21
   replace h35 := Nd.sits.fr h35 f42 (by omega)
   replace h36 := PP.fr h36 f42 (by omega)
   replace h5 := Blk.fr h5 f42 (by omega)
   replace X := Fr.fr X f42 (by omega)
   clear f42
   refine cN (lw_loads_b' [_, _, _, _, _, _] tabOk rfl rfl rfl h44 rfl rfl rfl ?_)
   (refine lw_store' [_, _, _, _, _, _] [_, _, _, _, _, _] tabOk rfl rfl rfl rfl rfl rfl h5 rfl rfl ?_; intro w45 n46)
   have h49 := Put.blk n46
   have f47 := Put.fr n46
   have z48 := Put.size n46
   clear n46 h5
   replace h44 := Blk.fr h44 f47 (by omega)
   replace h35 := Nd.sits.fr h35 f47 (by omega)
   replace h36 := PP.fr h36 f47 (by omega)
   replace X := Fr.fr X f47 (by omega)
   clear f47
   refine cT (cw_ret (qw_retc rfl tabOk rfl rfl rfl h49 rfl ?_))
   rotate_left 1
  exact ⟨_, _, _, _, rfl, Or.inl rfl, Nd.sits.wide (by assumption) (fun b h => by omega), by assumption, X⟩
 rw [show procQ c.ts c.n k (expectP c.ts c.n M.2 [40]) = ((paramsP c.ts c.n k [(declP c.ts c.n (expectP c.ts c.n M.2 [40])).1] (declP c.ts c.n (expectP c.ts c.n M.2 [40])).2).1, expectP c.ts c.n (paramsP c.ts c.n k [(declP c.ts c.n (expectP c.ts c.n M.2 [40])).1] (declP c.ts c.n (expectP c.ts c.n M.2 [40])).2).2 [41]) from by simp [procQ, hh]] at m4 ⊢
 simp only at m4 ⊢
 refine calls_in Tryz.func71 Tryz.ntmps71 rfl rfl ?_
 focus
  refine cS ?_
  (refine lw_alloc' [_, _, _, _, _, _] zOk rfl rfl ?_; intro ba1 wa2 na3)
  have ha5 := New.blk na3
  have xa6 := New.ext na3
  have pa7 := New.pos na3
  have za8 := New.size na3
  clear na3
  replace hP := PP.ext hP xa6
  replace X := Fr.ext X xa6
  clear xa6
  refine cN (cM rfl rfl ?_)
  refine lw_does (does_call (by kernel_rfl) rfl (expect_c _ _ _ _ (by assumption) (by decide)) (fun _ _ h => ⟨_, h.1⟩)) rfl ?_ (fun _ h => h)
  rintro _ wa11 ⟨⟨⟩, ⟨ha9, fa10⟩⟩
  have za12 := Fr.size fa10
  replace ha5 := Blk.fr ha5 fa10 (by omega)
  clear hP
  replace X := Fr.fr X fa10 (by omega)
  clear fa10
  refine cN (cM rfl rfl ?_)
  refine lw_does (does_call (by kernel_rfl) rfl (hname (by assumption)) (fun _ _ h => ⟨_, h.1⟩)) rfl ?_ (fun _ h => h)
  rintro _ wa15 ⟨⟨⟩, ⟨ha13, fa14⟩⟩
  have za16 := Fr.size fa14
  clear ha9
  replace ha5 := Blk.fr ha5 fa14 (by omega)
  replace X := Fr.fr X fa14 (by omega)
  clear fa14
  refine lw_pure (pur_build' [_, _, _, _, _, _] tabOk zOk rfl rfl rfl rfl) rfl ?_
  (refine lw_alloc' [_, _, _, _, _, _] zOk rfl rfl ?_; intro ba17 wa18 na19)
  (refine lw_init' [_, _, _, _, _, _] tabOk rfl rfl rfl rfl rfl rfl na19 rfl ?_; clear na19; clear wa18; intro wa20 na19)
  have ha21 := New.blk na19
  have xa22 := New.ext na19
  have pa23 := New.pos na19
  have za24 := New.size na19
  clear na19
  replace ha13 := PP.ext ha13 xa22
  replace ha5 := Blk.ext ha5 xa22
  replace X := Fr.ext X xa22
  clear xa22
  refine cN (cM rfl rfl ?_)
  refine lw_does (does_call (by kernel_rfl) rfl (expect_c _ _ _ _ (by assumption) (by decide)) (fun _ _ h => ⟨_, h.1⟩)) rfl ?_ (fun _ h => h)
  rintro _ wa27 ⟨⟨⟩, ⟨ha25, fa26⟩⟩
  have za28 := Fr.size fa26
  replace ha21 := Blk.fr ha21 fa26 (by omega)
  clear ha13
  replace ha5 := Blk.fr ha5 fa26 (by omega)
  replace X := Fr.fr X fa26 (by omega)
  clear fa26
  refine cT (cw_seq (cS (cM rfl rfl ?_)))
  refine lw_does (does_call (by kernel_rfl) rfl (accept_f _ _ _ _ (by assumption) (by decide) (by assumption)) (fun _ _ h => ⟨_, h.1⟩)) rfl ?_ (fun _ h => h)
  rintro _ wa31 ⟨⟨⟩, ⟨ha29, fa30⟩⟩
  have za32 := Fr.size fa30
  clear ha25
  replace ha21 := Blk.fr ha21 fa30 (by omega)
  replace ha5 := Blk.fr ha5 fa30 (by omega)
  replace X := Fr.fr X fa30 (by omega)
  clear fa30
  refine lw_pure (pur_not rfl) rfl (cT (cw_cond_t rfl (cS (cM rfl rfl ?_))))
  refine lw_does (does_call (by kernel_rfl) rfl (params_c c k _ _ (by assumption) (by omega)) (fun _ _ h => h.ret)) rfl ?_ (fun _ h => h)
  rintro _ wa38 ⟨aa33, ⟨ka34, ⟨⟨⟩, ⟨ha35, ⟨ha36, fa37⟩⟩⟩⟩⟩
  have za39 := Fr.size fa37
  clear ha29
  replace ha21 := Blk.fr ha21 fa37 (by omega)
  replace ha5 := Blk.fr ha5 fa37 (by omega)
  replace X := Fr.fr X fa37 (by omega)
  clear fa37
  refine lw_pure (pur_fieldAddr tabOk rfl rfl rfl) rfl ?_
  (refine lw_store' [_] [_, _, _, _, _, _] tabOk rfl rfl rfl rfl rfl rfl ha21 rfl rfl ?_; intro wa40 na41)
  have ha44 := Put.blk na41
  have fa42 := Put.fr na41
  have za43 := Put.size na41
  clear na41 ha21
  replace ha35 := VDs.fr ha35 fa42 (by omega)
  replace ha36 := PP.fr ha36 fa42 (by omega)
  replace ha5 := Blk.fr ha5 fa42 (by omega)
  replace X := Fr.fr X fa42 (by omega)
  clear fa42
  refine cT (cw_region (cM rfl rfl ?_))
  refine lw_does (does_call (by kernel_rfl) rfl (expect_c _ _ _ _ (by assumption) (by decide)) (fun _ _ h => ⟨_, h.1⟩)) rfl ?_ (fun _ h => h)
  rintro _ wa47 ⟨⟨⟩, ⟨ha45, fa46⟩⟩
  have za48 := Fr.size fa46
  replace ha44 := Blk.fr ha44 fa46 (by omega)
  replace ha35 := VDs.fr ha35 fa46 (by omega)
  clear ha36
  replace ha5 := Blk.fr ha5 fa46 (by omega)
  replace X := Fr.fr X fa46 (by omega)
  clear fa46
  refine cN (cM rfl rfl ?_)
  refine lw_does (does_call (by kernel_rfl) rfl (body_c c k _ _ (by assumption) (by omega)) (fun _ _ h => h.ret)) rfl ?_ (fun _ h => h)
  rintro _ wa54 ⟨aa49, ⟨ka50, ⟨⟨⟩, ⟨ha51, ⟨ha52, fa53⟩⟩⟩⟩⟩
  have za55 := Fr.size fa53
  clear ha45
  replace ha44 := Blk.fr ha44 fa53 (by omega)
  replace ha35 := VDs.fr ha35 fa53 (by omega)
  replace ha5 := Blk.fr ha5 fa53 (by omega)
  replace X := Fr.fr X fa53 (by omega)
  clear fa53
  refine lw_pure (pur_fieldAddr tabOk rfl rfl rfl) rfl ?_
  (refine lw_store' [_, _, _, _] [_, _, _, _, _, _] tabOk rfl rfl rfl rfl rfl rfl ha44 rfl rfl ?_; intro wa56 na57)
  have ha60 := Put.blk na57
  have fa58 := Put.fr na57
  have za59 := Put.size na57
  clear na57 ha44
  replace ha51 := Nd.sits.fr ha51 fa58 (by omega)
  replace ha52 := PP.fr ha52 fa58 (by omega)
  replace ha35 := VDs.fr ha35 fa58 (by omega)
  replace ha5 := Blk.fr ha5 fa58 (by omega)
  replace X := Fr.fr X fa58 (by omega)
  clear fa58
  refine cN (lw_loads_b' [_, _, _, _, _, _] tabOk rfl rfl rfl ha60 rfl rfl rfl ?_)
  (refine lw_store' [_, _, _, _, _, _] [_, _, _, _, _, _] tabOk rfl rfl rfl rfl rfl rfl ha5 rfl rfl ?_; intro wa61 na62)
  have ha65 := Put.blk na62
  have fa63 := Put.fr na62
  have za64 := Put.size na62
  clear na62 ha5
  replace ha60 := Blk.fr ha60 fa63 (by omega)
  replace ha51 := Nd.sits.fr ha51 fa63 (by omega)
  replace ha52 := PP.fr ha52 fa63 (by omega)
  replace ha35 := VDs.fr ha35 fa63 (by omega)
  replace X := Fr.fr X fa63 (by omega)
  clear fa63
  refine cT (cw_ret (qw_retc rfl tabOk rfl rfl rfl ha65 rfl ?_))
  rotate_left 1
 exact ⟨_, _, _, _, rfl, VDs.wide (by assumption) (fun b h => by omega), Nd.sits.wide (by assumption) (fun b h => by omega), by assumption, X⟩
end Bk
namespace Bk
open Go Go.RowKit Go.Proofs
attribute [local irreducible] Go.Calls
def PgR (c : PC) (w : World) (r : PG × PS) : Ending → World → Prop := fun e w' => ∃ va vc pa pc ma mc, e = .returned (.agg (r.1.cells va vc pa pc ma mc).toArray) ∧ r.1.sits (w.heap.size ≤ ·) w' va pa ma ∧ PP c r.2 w' ∧ Fr (· = c.pb) w w'
theorem PgR.ret {c : PC} {w : World} {r : PG × PS} {e : Ending} {w' : World} (h : PgR c w r e w') : ∃ v, e = .returned v := by
 obtain ⟨_, _, _, _, _, _, h, -⟩ := h
 exact ⟨_, h⟩
theorem PDs.wide {S S' : Nat → Prop} {w : World} {l : List PD} {a : Option Addr} (h : PDs S w l a) (hs : ∀ b, S b → S' b) : PDs S' w l a :=
 h.mono hs (fun _ _ _ _ _ ⟨pa, pc, ba, bc, h1, h2, h3⟩ => ⟨pa, pc, ba, bc, h1, h2.wide hs, h3.wide hs⟩)
set_option maxRecDepth 100000 in
set_option maxHeartbeats 4000000 in
theorem program_c (c : PC) (k : Nat) (σ : PS) (w : World) (hP : PP c σ w) (hk : 4 * mS c.ts σ + 9 ≤ k) :
 Calls Tryz.prog 25 #[.pointer (some ⟨c.pb, 0, none⟩)] w (PgR c w (programP c.ts c.n k σ)) := by
 have X := Fr.refl (· = c.pb) w
 have hpb := hP.pbB
 have hB := hP.B
 have hlen := hP.len
 have hat := hP.at_
 have hmt : mS c.ts σ ≤ c.ts.length := by unfold mS; split <;> omega
 unfold programP
 (try dsimp only)
 refine calls_in Tryz.func25 Tryz.ntmps25 rfl rfl ?_
 focus
  refine cS ?_
  (refine lw_alloc' [_, _, _, _, _, _] zOk rfl rfl ?_; intro b1 w2 n3)
  have h5 := New.blk n3
  have x6 := New.ext n3
  have p7 := New.pos n3
  have z8 := New.size n3
  clear n3
  replace hP := PP.ext hP x6
  replace X := Fr.ext X x6
  clear x6
  refine cN ?_
  (refine lw_alloc' [_, _, _, _, _, _] zOk rfl rfl ?_; intro b9 w10 n11)
  have h13 := New.blk n11
  have x14 := New.ext n11
  have p15 := New.pos n11
  have z16 := New.size n11
  clear n11
  replace h5 := Blk.ext h5 x14
  replace hP := PP.ext hP x14
  replace X := Fr.ext X x14
  clear x14
  refine cT (cw_seq (cw_block ?_))
  rotate_left 1
 refine cw_loop (ι := Nat × List VD × Option Addr × Nat × PS) (fun _ => [(0, .pointer (some ⟨c.pb, 0, none⟩)), (2, .pointer (some ⟨b1, 0, none⟩)), (3, .pointer (some ⟨b9, 0, none⟩))])
  (fun x w' => PP c x.2.2.2.2 w' ∧ Blk w' b9 [.slice x.2.2.1 x.2.1.length x.2.2.2.1, .slice none 0 0, .int .u8 0, .int .i64 0, .string ⟨#[]⟩, .slice none 0 0] ∧ OwnL vdShape w' (b9 + 1) 59 (.slice x.2.2.1 x.2.1.length x.2.2.2.1) x.2.1 ∧
   Blk w' b1 [.slice none 0 0, .slice none 0 0, .int .u8 0, .int .i64 0, .string ⟨#[]⟩, .slice none 0 0] ∧ Fr (· = c.pb) w w' ∧ w10.heap.size ≤ w'.heap.size ∧ Le c.ts σ x.2.2.2.2 ∧
   varsP c.ts c.n k [] σ = varsP c.ts c.n x.1 x.2.1 x.2.2.2.2 ∧ (x.2.2.2.2.err = 0 → mS c.ts x.2.2.2.2 + 1 ≤ x.1) ∧ 1 ≤ x.1 ∧ (x.2.2.2.2.err = 0 → x.2.1.length + mS c.ts x.2.2.2.2 ≤ 1000001)) (fun x => x.1) (k, [], none, 0, σ) (by (refine sub_cons rfl ?_; refine sub_cons rfl ?_; refine sub_cons rfl ?_; exact sub_nil))
  ⟨hP, h13, OwnL.nil, h5, X, Nat.le_refl _, Le.refl hat, rfl, fun _ => by simp only; omega, by simp only; omega, fun _ => by simp only [List.length_nil]; omega⟩ ?_
 rintro ⟨j, acc, a, cap, σ'⟩ w1 ⟨hP, hbn, hown, hbr, X, hz, hle, he, hfj, hj1, hacc⟩
 simp only at hP hbn hown hle he hfj hj1 hacc
 clear h13 h5
 rw [he]
 obtain ⟨j, rfl⟩ : ∃ i, j = i + 1 := ⟨j - 1, by omega⟩
 cases hc : atDeclP c.ts σ'
 case true =>
  have hin : In c.ts σ' := by
   simp only [atDeclP, Bool.or_eq_true] at hc
   rcases hc with (h | h) | h <;> exact has_in hP.at_ h (by decide)
  have h0 := hin.1
  have hf0 := hfj h0
  have ha0 := hacc h0
  have hm1 := mS_pos hin
  by_cases h8 : acc.length = 32
  · rw [show varsP c.ts c.n (j + 1) acc σ' = varsP c.ts c.n j (acc ++ [(declP c.ts c.n (failP σ' (peekP c.ts σ').pos 5)).1]) (declP c.ts c.n (failP σ' (peekP c.ts σ').pos 5)).2 from by rw [varsP]; simp [hc, h8]]
    have hfl := fail_le (show σ'.at_ ≤ c.ts.length from hP.at_) (peekP c.ts σ').pos 5
    have hdl := hfl.trans (decl_le (n := c.n) hfl.wf)
    have hdt : Lt σ' (declP c.ts c.n (failP σ' (peekP c.ts σ').pos 5)).2 := Lt.of_le hfl (decl_lt hfl.wf)
    have hdr := mS_drop hdl hdt
    have hle2 := hle.trans hdl
    focus
     refine cw_seq (cS (cM rfl rfl ?_))
     refine lw_does (does_call (by kernel_rfl) rfl (atDecl_c _ _ _ (by assumption)) (fun _ _ h => ⟨_, h.1⟩)) rfl ?_ (fun _ h => h)
     rintro _ wa2 ⟨⟨⟩, xa1⟩
     have za3 := Ext.size xa1
     replace hP := PP.ext hP xa1
     replace hbn := Blk.ext hbn xa1
     replace hown := OwnL.ext hown xa1
     replace hbr := Blk.ext hbr xa1
     replace X := Fr.ext X xa1
     clear xa1
     refine cT ?_
     refine cw_bt rfl (by assumption) ?_
     refine cw_skip (qw_then (cw_block (cw_seq (cS (lw_pure (pur_fieldAddr0 tabOk rfl rfl rfl) rfl (lw_load_b tabOk rfl rfl rfl hbn rfl rfl (lw_pure (pur_len_slice tabOk rfl rfl) rfl (lw_pure (pur_eql rfl rfl) rfl (cT ?_)))))))))
     refine cw_yes rfl (by omega) ?_
     refine cw_region (cM rfl rfl (cM rfl rfl ?_))
     refine lw_does (does_call (by kernel_rfl) rfl (peek_c _ _ _ (by assumption)) (fun _ _ h => ⟨_, h.1⟩)) rfl ?_ (fun _ h => h)
     rintro _ wa5 ⟨⟨⟩, xa4⟩
     have za6 := Ext.size xa4
     replace hP := PP.ext hP xa4
     replace hbn := Blk.ext hbn xa4
     replace hown := OwnL.ext hown xa4
     replace hbr := Blk.ext hbr xa4
     replace X := Fr.ext X xa4
     clear xa4
     refine lw_pure (pur_field tabOk rfl rfl rfl rfl rfl rfl) rfl ?_
     refine lw_does (does_call (by kernel_rfl) rfl (fail_c _ _ _ _ _ (by assumption)) (fun _ _ h => ⟨_, h.1⟩)) rfl ?_ (fun _ h => h)
     rintro _ wa9 ⟨⟨⟩, ⟨ha7, fa8⟩⟩
     have za10 := Fr.size fa8
     clear hP
     replace hbn := Blk.fr hbn fa8 (by omega)
     replace hown := OwnL.fr hown fa8 (by omega)
     replace hbr := Blk.fr hbr fa8 (by omega)
     replace X := Fr.fr X fa8 (by omega)
     clear fa8
     refine cT ?_
     (refine cw_tdraw (fun wz => Fr (· = c.pb) wa9 wz) 5 (.pure 0 (.pure 1 (.pure 2 (.fork 3 (.fork 4 .tail .none) .none)))) mixed (by kernel_rfl) (panicOk_block (panicOk_then (panicOk_block (panicOk_then panicOk_body)))) ?_; intro wa11 xa12 _)
     have qsa13 : (fun wz => Fr (· = c.pb) wa9 wz) wa11 := Fr.of_ext xa12
     simp only at qsa13
     have d_ha7 := ha7
     have d_hbn := hbn
     have d_hown := hown
     have d_hbr := hbr
     have za14 := Ext.size xa12
     replace ha7 := PP.ext ha7 xa12
     replace hbn := Blk.ext hbn xa12
     replace hown := OwnL.ext hown xa12
     replace hbr := Blk.ext hbr xa12
     replace X := Fr.ext X xa12
     clear xa12
     refine ⟨qsa13, ?_⟩
     refine tw_pure rfl (pur_fieldAddr0 tabOk rfl rfl rfl) rfl ?_
     refine tw_pure rfl (pur_load tabOk rfl rfl rfl (fun wz hz => Blk.cell (Blk.fr d_hbn hz (by omega)) rfl)) rfl ?_
     refine tw_pure rfl (pur_move rfl) rfl ?_
     refine tw_does rfl (does_call (by kernel_rfl) rfl (decl_p _ _ _ (by assumption)) (fun _ _ h => ⟨_, h.1⟩)) rfl ?_ (fun _ h => h) tw_none
     rintro _ wa17 ⟨⟨⟩, ⟨ha15, fa16⟩⟩
     have za18 := Fr.size fa16
     replace qsa13 := Fr.fr qsa13 fa16 (by omega)
     clear ha7
     replace hbn := Blk.fr hbn fa16 (by omega)
     replace hown := OwnL.fr hown fa16 (by omega)
     replace hbr := Blk.fr hbr fa16 (by omega)
     replace X := Fr.fr X fa16 (by omega)
     clear fa16
     refine ⟨qsa13, ?_⟩
     (refine tw_does rfl (does_slice' [_, _, _] tabOk zOk rfl rfl rfl rfl rfl rfl rfl rfl rfl) rfl ?_ (fun _ h => h) tw_none; rintro _ wa20 ⟨ba19, rfl, na21, ta22⟩)
     clear ta22
     have ha23 := New.blk na21
     have xa24 := New.ext na21
     have pa25 := New.pos na21
     have za26 := New.size na21
     clear na21
     replace ha15 := PP.ext ha15 xa24
     replace qsa13 := Fr.ext qsa13 xa24
     replace hbn := Blk.ext hbn xa24
     replace hown := OwnL.ext hown xa24
     replace hbr := Blk.ext hbr xa24
     replace X := Fr.ext X xa24
     clear xa24
     refine ⟨qsa13, ?_⟩
     clear d_ha7 d_hbn d_hown d_hbr qsa13
     refine tw_tail rfl ?_
     refine lw_appendL (sh := vdShape) tabOk zOk rfl rfl rfl rfl (by kernel_rfl) rfl rfl rfl hown (Blk.row (by assumption)) rfl (by omega) (by omega) rfl ?_
     rintro ga27 cap'a28 wa29 ha30 fa31
     have za32 := Fr.size fa31
     clear ha23
     replace ha15 := PP.fr ha15 fa31 (by omega)
     replace hbn := Blk.fr hbn fa31 (by omega)
     clear hown
     replace hbr := Blk.fr hbr fa31 (by omega)
     replace X := Fr.fr X fa31 (by omega)
     clear fa31
     refine lw_pure (pur_fieldAddr0 tabOk rfl rfl rfl) rfl ?_
     (refine lw_store' [_] [_, _, _, _, _, _] tabOk rfl rfl rfl rfl rfl rfl hbn rfl rfl ?_; intro wa33 na34)
     have ha37 := Put.blk na34
     have fa35 := Put.fr na34
     have za36 := Put.size na34
     clear na34 hbn
     replace ha30 := OwnL.fr ha30 fa35 (by omega)
     replace ha15 := PP.fr ha15 fa35 (by omega)
     replace hbr := Blk.fr hbr fa35 (by omega)
     replace X := Fr.fr X fa35 (by omega)
     clear fa35
     refine lw_nil (qw_block_norm ?_)
     rotate_left 1
    refine qw_round (j, acc ++ [(declP c.ts c.n (failP σ' (peekP c.ts σ').pos 5)).1], some ⟨_, 0, none⟩, _, (declP c.ts c.n (failP σ' (peekP c.ts σ').pos 5)).2) (by (refine sub_cons rfl ?_; refine sub_cons rfl ?_; refine sub_cons rfl ?_; exact sub_nil)) ⟨by assumption, by assumption, by assumption, by assumption, X, by omega, hle2, rfl, fun e => by have := hdr e; simp only; omega, by simp only; omega, fun e => by have := hdr e; simp only [List.length_append, List.length_cons, List.length_nil]; omega⟩ (by simp)
  · rw [show varsP c.ts c.n (j + 1) acc σ' = varsP c.ts c.n j (acc ++ [(declP c.ts c.n σ').1]) (declP c.ts c.n σ').2 from by rw [varsP]; simp [hc, h8]]
    have hdl := decl_le (n := c.n) hP.at_
    have hdr := mS_drop hdl (decl_lt hP.at_)
    have hle2 := hle.trans hdl
    focus
     refine cw_seq (cS (cM rfl rfl ?_))
     refine lw_does (does_call (by kernel_rfl) rfl (atDecl_c _ _ _ (by assumption)) (fun _ _ h => ⟨_, h.1⟩)) rfl ?_ (fun _ h => h)
     rintro _ wb2 ⟨⟨⟩, xb1⟩
     have zb3 := Ext.size xb1
     replace hP := PP.ext hP xb1
     replace hbn := Blk.ext hbn xb1
     replace hown := OwnL.ext hown xb1
     replace hbr := Blk.ext hbr xb1
     replace X := Fr.ext X xb1
     clear xb1
     refine cT ?_
     refine cw_bt rfl (by assumption) ?_
     refine cw_skip (qw_then (cw_block (cw_seq (cS (lw_pure (pur_fieldAddr0 tabOk rfl rfl rfl) rfl (lw_load_b tabOk rfl rfl rfl hbn rfl rfl (lw_pure (pur_len_slice tabOk rfl rfl) rfl (lw_pure (pur_eql rfl rfl) rfl (cT ?_)))))))))
     refine cw_no rfl (by omega) ?_
     refine cw_skip (qw_then ?_)
     (refine cw_tdraw (fun wz => Fr (· = c.pb) wb2 wz) 5 (.pure 0 (.pure 1 (.pure 2 (.fork 3 (.fork 4 .tail .none) .none)))) mixed (by kernel_rfl) (panicOk_block (panicOk_then (panicOk_block (panicOk_then panicOk_body)))) ?_; intro wb4 xb5 _)
     have qsb6 : (fun wz => Fr (· = c.pb) wb2 wz) wb4 := Fr.of_ext xb5
     simp only at qsb6
     have d_hP := hP
     have d_hbn := hbn
     have d_hown := hown
     have d_hbr := hbr
     have zb7 := Ext.size xb5
     replace hP := PP.ext hP xb5
     replace hbn := Blk.ext hbn xb5
     replace hown := OwnL.ext hown xb5
     replace hbr := Blk.ext hbr xb5
     replace X := Fr.ext X xb5
     clear xb5
     refine ⟨qsb6, ?_⟩
     refine tw_pure rfl (pur_fieldAddr0 tabOk rfl rfl rfl) rfl ?_
     refine tw_pure rfl (pur_load tabOk rfl rfl rfl (fun wz hz => Blk.cell (Blk.fr d_hbn hz (by omega)) rfl)) rfl ?_
     refine tw_pure rfl (pur_move rfl) rfl ?_
     refine tw_does rfl (does_call (by kernel_rfl) rfl (decl_p _ _ _ (by assumption)) (fun _ _ h => ⟨_, h.1⟩)) rfl ?_ (fun _ h => h) tw_none
     rintro _ wb10 ⟨⟨⟩, ⟨hb8, fb9⟩⟩
     have zb11 := Fr.size fb9
     replace qsb6 := Fr.fr qsb6 fb9 (by omega)
     clear hP
     replace hbn := Blk.fr hbn fb9 (by omega)
     replace hown := OwnL.fr hown fb9 (by omega)
     replace hbr := Blk.fr hbr fb9 (by omega)
     replace X := Fr.fr X fb9 (by omega)
     clear fb9
     refine ⟨qsb6, ?_⟩
     (refine tw_does rfl (does_slice' [_, _, _] tabOk zOk rfl rfl rfl rfl rfl rfl rfl rfl rfl) rfl ?_ (fun _ h => h) tw_none; rintro _ wb13 ⟨bb12, rfl, nb14, tb15⟩)
     clear tb15
     have hb16 := New.blk nb14
     have xb17 := New.ext nb14
     have pb18 := New.pos nb14
     have zb19 := New.size nb14
     clear nb14
     replace hb8 := PP.ext hb8 xb17
     replace qsb6 := Fr.ext qsb6 xb17
     replace hbn := Blk.ext hbn xb17
     replace hown := OwnL.ext hown xb17
     replace hbr := Blk.ext hbr xb17
     replace X := Fr.ext X xb17
     clear xb17
     refine ⟨qsb6, ?_⟩
     clear d_hP d_hbn d_hown d_hbr qsb6
     refine tw_tail rfl ?_
     refine lw_appendL (sh := vdShape) tabOk zOk rfl rfl rfl rfl (by kernel_rfl) rfl rfl rfl hown (Blk.row (by assumption)) rfl (by omega) (by omega) rfl ?_
     rintro gb20 cap'b21 wb22 hb23 fb24
     have zb25 := Fr.size fb24
     clear hb16
     replace hb8 := PP.fr hb8 fb24 (by omega)
     replace hbn := Blk.fr hbn fb24 (by omega)
     clear hown
     replace hbr := Blk.fr hbr fb24 (by omega)
     replace X := Fr.fr X fb24 (by omega)
     clear fb24
     refine lw_pure (pur_fieldAddr0 tabOk rfl rfl rfl) rfl ?_
     (refine lw_store' [_] [_, _, _, _, _, _] tabOk rfl rfl rfl rfl rfl rfl hbn rfl rfl ?_; intro wb26 nb27)
     have hb30 := Put.blk nb27
     have fb28 := Put.fr nb27
     have zb29 := Put.size nb27
     clear nb27 hbn
     replace hb23 := OwnL.fr hb23 fb28 (by omega)
     replace hb8 := PP.fr hb8 fb28 (by omega)
     replace hbr := Blk.fr hbr fb28 (by omega)
     replace X := Fr.fr X fb28 (by omega)
     clear fb28
     refine lw_nil (qw_block_norm ?_)
     rotate_left 1
    refine qw_round (j, acc ++ [(declP c.ts c.n σ').1], some ⟨_, 0, none⟩, _, (declP c.ts c.n σ').2) (by (refine sub_cons rfl ?_; refine sub_cons rfl ?_; refine sub_cons rfl ?_; exact sub_nil)) ⟨by assumption, by assumption, by assumption, by assumption, X, by omega, hle2, rfl, fun e => by have := hdr e; simp only; omega, by simp only; omega, fun e => by have := hdr e; simp only [List.length_append, List.length_cons, List.length_nil]; omega⟩ (by simp)
 rw [show varsP c.ts c.n (j + 1) acc σ' = (acc, σ') from by rw [varsP]; simp [hc]]
 simp only
 have hm' := mS_le hle
 have hat' := hP.at_
 focus
  refine cw_seq (cS (cM rfl rfl ?_))
  refine lw_does (does_call (by kernel_rfl) rfl (atDecl_c _ _ _ (by assumption)) (fun _ _ h => ⟨_, h.1⟩)) rfl ?_ (fun _ h => h)
  rintro _ wc2 ⟨⟨⟩, xc1⟩
  have zc3 := Ext.size xc1
  replace hP := PP.ext hP xc1
  replace hbn := Blk.ext hbn xc1
  replace hown := OwnL.ext hown xc1
  replace hbr := Blk.ext hbr xc1
  replace X := Fr.ext X xc1
  clear xc1
  refine cT ?_
  refine cw_bf rfl (by assumption) ?_
  refine cw_exit (qw_then_exit (qw_then_exit (qw_block_exit (qw_then (cw_seq (cw_block ?_))))))
  rotate_left 1
 have hvs : VDs (fun b => b9 < b ∧ b < wc2.heap.size) wc2 acc a := (OwnL.vds (S := (b9 < ·)) hown (fun b h => h)).lt2
 clear hown
 refine cw_loop (ι := Nat × List PD × Option Addr × Nat × PS) (fun _ => [(0, .pointer (some ⟨c.pb, 0, none⟩)), (2, .pointer (some ⟨b1, 0, none⟩)), (3, .pointer (some ⟨b9, 0, none⟩))])
  (fun x w' => PP c x.2.2.2.2 w' ∧ Blk w' b9 [.slice a acc.length cap, .slice x.2.2.1 x.2.1.length x.2.2.2.1, .int .u8 0, .int .i64 0, .string ⟨#[]⟩, .slice none 0 0] ∧ OwnL pdShape w' wc2.heap.size 65 (.slice x.2.2.1 x.2.1.length x.2.2.2.1) x.2.1 ∧ VDs (fun b => b9 < b ∧ b < wc2.heap.size) w' acc a ∧
   Blk w' b1 [.slice none 0 0, .slice none 0 0, .int .u8 0, .int .i64 0, .string ⟨#[]⟩, .slice none 0 0] ∧ Fr (· = c.pb) w w' ∧ wc2.heap.size ≤ w'.heap.size ∧ Le c.ts σ' x.2.2.2.2 ∧
   procsP c.ts c.n k [] σ' = procsP c.ts c.n x.1 x.2.1 x.2.2.2.2 ∧ (x.2.2.2.2.err = 0 → 4 * mS c.ts x.2.2.2.2 + 9 ≤ x.1) ∧ 1 ≤ x.1 ∧ x.1 ≤ k ∧ (x.2.2.2.2.err = 0 → x.2.1.length + mS c.ts x.2.2.2.2 ≤ 1000001)) (fun x => x.1) (k, [], none, 0, σ') (by (refine sub_cons rfl ?_; refine sub_cons rfl ?_; refine sub_cons rfl ?_; exact sub_nil))
  ⟨hP, hbn, OwnL.nil, hvs, hbr, X, Nat.le_refl _, Le.refl hat', rfl, fun _ => by simp only; omega, by simp only; omega, Nat.le_refl _, fun _ => by simp only [List.length_nil]; omega⟩ ?_
 rintro ⟨i, pacc, pa, pcap, ρ'⟩ w5 ⟨hP, hbn, hown2, hvs, hbr, X, hz5, hle5, he5, hfi, hi1, hik, hpacc⟩
 simp only at hP hbn hown2 hle5 he5 hfi hi1 hik hpacc
 rw [he5]
 clear he hfj hacc he5
 obtain ⟨i, rfl⟩ : ∃ m, i = m + 1 := ⟨i - 1, by omega⟩
 have hob : ∀ g, (Value.slice pa pacc.length pcap).ownBlock = some g → g < w5.heap.size := fun g h => hown2.lt h
 by_cases hp : (peekP c.ts ρ').text = [112, 114, 111, 99]
 · have hc2 : hasP c.ts ρ' [112, 114, 111, 99] = true := by simp [hasP, hp]
   have hin := has_in hP.at_ hc2 (by decide)
   have h0 := hin.1
   have hf0 := hfi h0
   have ha0 := hpacc h0
   have hm1 := mS_pos hin
   by_cases h8 : pacc.length = 64
   · rw [show procsP c.ts c.n (i + 1) pacc ρ' = procsP c.ts c.n i (pacc ++ [(procP c.ts c.n i (failP ρ' (peekP c.ts ρ').pos 5)).1]) (procP c.ts c.n i (failP ρ' (peekP c.ts ρ').pos 5)).2 from by rw [procsP]; simp [hc2, h8]]
     have hfl := fail_le (show ρ'.at_ ≤ c.ts.length from hP.at_) (peekP c.ts ρ').pos 5
     have hfm := mS_le hfl
     have hdl := hfl.trans (procP_le (n := c.n) (k := i) hfl.wf)
     have hdr := mS_drop hdl (Lt.of_le hfl (procP_lt (n := c.n) (k := i) hfl.wf))
     have hle2 := hle5.trans hdl
     focus
      refine cw_seq (cS (cM rfl rfl ?_))
      refine lw_does (does_call (by kernel_rfl) rfl (peek_c _ _ _ (by assumption)) (fun _ _ h => ⟨_, h.1⟩)) rfl ?_ (fun _ h => h)
      rintro _ wd2 ⟨⟨⟩, xd1⟩
      have zd3 := Ext.size xd1
      replace hP := PP.ext hP xd1
      replace hbn := Blk.ext hbn xd1
      replace hown2 := OwnL.ext hown2 xd1
      replace hvs := VDs.ext hvs xd1
      replace hbr := Blk.ext hbr xd1
      replace X := Fr.ext X xd1
      clear xd1
      refine lw_pure (pur_field tabOk rfl rfl rfl rfl rfl rfl) rfl (lw_pure (pur_seql rfl rfl) rfl (cT ?_))
      refine cw_yes rfl (by assumption) ?_
      refine cw_skip (qw_then (cw_block (cw_seq (cS (lw_pure (pur_fieldAddr tabOk rfl rfl rfl) rfl (lw_load_b tabOk rfl rfl rfl hbn rfl rfl (lw_pure (pur_len_slice tabOk rfl rfl) rfl (lw_pure (pur_eql rfl rfl) rfl (cT ?_)))))))))
      refine cw_yes rfl (by omega) ?_
      refine cw_region (cM rfl rfl (cM rfl rfl ?_))
      refine lw_does (does_call (by kernel_rfl) rfl (peek_c _ _ _ (by assumption)) (fun _ _ h => ⟨_, h.1⟩)) rfl ?_ (fun _ h => h)
      rintro _ wd5 ⟨⟨⟩, xd4⟩
      have zd6 := Ext.size xd4
      replace hP := PP.ext hP xd4
      replace hbn := Blk.ext hbn xd4
      replace hown2 := OwnL.ext hown2 xd4
      replace hvs := VDs.ext hvs xd4
      replace hbr := Blk.ext hbr xd4
      replace X := Fr.ext X xd4
      clear xd4
      refine lw_pure (pur_field tabOk rfl rfl rfl rfl rfl rfl) rfl ?_
      refine lw_does (does_call (by kernel_rfl) rfl (fail_c _ _ _ _ _ (by assumption)) (fun _ _ h => ⟨_, h.1⟩)) rfl ?_ (fun _ h => h)
      rintro _ wd9 ⟨⟨⟩, ⟨hd7, fd8⟩⟩
      have zd10 := Fr.size fd8
      clear hP
      replace hbn := Blk.fr hbn fd8 (by omega)
      replace hown2 := OwnL.fr hown2 fd8 (by omega)
      replace hvs := VDs.fr hvs fd8 (by omega)
      replace hbr := Blk.fr hbr fd8 (by omega)
      replace X := Fr.fr X fd8 (by omega)
      clear fd8
      refine cT ?_
      (refine cw_tdraw (fun wz => Fr (· = c.pb) wd9 wz) 5 (.pure 0 (.pure 1 (.pure 2 (.fork 3 (.fork 4 .tail .none) .none)))) mixed (by kernel_rfl) (panicOk_block (panicOk_then (panicOk_block (panicOk_then panicOk_body)))) ?_; intro wd11 xd12 _)
      have qsd13 : (fun wz => Fr (· = c.pb) wd9 wz) wd11 := Fr.of_ext xd12
      simp only at qsd13
      have d_hd7 := hd7
      have d_hbn := hbn
      have d_hown2 := hown2
      have d_hvs := hvs
      have d_hbr := hbr
      have zd14 := Ext.size xd12
      replace hd7 := PP.ext hd7 xd12
      replace hbn := Blk.ext hbn xd12
      replace hown2 := OwnL.ext hown2 xd12
      replace hvs := VDs.ext hvs xd12
      replace hbr := Blk.ext hbr xd12
      replace X := Fr.ext X xd12
      clear xd12
      refine ⟨qsd13, ?_⟩
      refine tw_pure rfl (pur_fieldAddr tabOk rfl rfl rfl) rfl ?_
      refine tw_pure rfl (pur_load tabOk rfl rfl rfl (fun wz hz => Blk.cell (Blk.fr d_hbn hz (by omega)) rfl)) rfl ?_
      refine tw_pure rfl (pur_move rfl) rfl ?_
      refine tw_does rfl (does_call (by kernel_rfl) rfl (proc_c c i _ _ (by assumption) (by omega)) (fun _ _ h => h.ret)) rfl ?_ (fun _ h => h) tw_none
      rintro _ wd23 ⟨pad15, ⟨pcd16, ⟨bad17, ⟨bcd18, ⟨⟨⟩, ⟨hd19, ⟨hd20, ⟨hd21, fd22⟩⟩⟩⟩⟩⟩⟩⟩
      have zd24 := Fr.size fd22
      replace qsd13 := Fr.fr qsd13 fd22 (by omega)
      clear hd7
      replace hbn := Blk.fr hbn fd22 (by omega)
      replace hown2 := OwnL.fr hown2 fd22 (by omega)
      replace hvs := VDs.fr hvs fd22 (by omega)
      replace hbr := Blk.fr hbr fd22 (by omega)
      replace X := Fr.fr X fd22 (by omega)
      clear fd22
      refine ⟨qsd13, ?_⟩
      (refine tw_does rfl (does_slice' [_, _, _, _, _, _] tabOk zOk rfl rfl rfl rfl rfl rfl rfl rfl rfl) rfl ?_ (fun _ h => h) tw_none; rintro _ wd26 ⟨bd25, rfl, nd27, td28⟩)
      clear td28
      have hd29 := New.blk nd27
      have xd30 := New.ext nd27
      have pd31 := New.pos nd27
      have zd32 := New.size nd27
      clear nd27
      replace hd19 := VDs.ext hd19 xd30
      replace hd20 := Nd.sits.ext hd20 xd30
      replace hd21 := PP.ext hd21 xd30
      replace qsd13 := Fr.ext qsd13 xd30
      replace hbn := Blk.ext hbn xd30
      replace hown2 := OwnL.ext hown2 xd30
      replace hvs := VDs.ext hvs xd30
      replace hbr := Blk.ext hbr xd30
      replace X := Fr.ext X xd30
      clear xd30
      refine ⟨qsd13, ?_⟩
      clear d_hd7 d_hbn d_hown2 d_hvs d_hbr qsd13
      refine tw_tail rfl ?_
      refine lw_appendL (sh := pdShape) tabOk zOk rfl rfl rfl rfl (by kernel_rfl) rfl rfl rfl hown2 (Blk.row (by assumption)) ⟨_, _, _, _, rfl, VDs.wide (by assumption) (fun b h => ⟨by omega, fun e => by have := hob _ e; omega⟩), Nd.sits.wide (by assumption) (fun b h => ⟨by omega, fun e => by have := hob _ e; omega⟩)⟩ (by omega) (by omega) rfl ?_
      rintro gd33 cap'd34 wd35 hd36 fd37
      have zd38 := Fr.size fd37
      clear hd29 hd19 hd20
      replace hd21 := PP.fr hd21 fd37 (by omega)
      replace hbn := Blk.fr hbn fd37 (by omega)
      clear hown2
      replace hvs := VDs.fr hvs fd37 (by omega)
      replace hbr := Blk.fr hbr fd37 (by omega)
      replace X := Fr.fr X fd37 (by omega)
      clear fd37
      refine lw_pure (pur_fieldAddr tabOk rfl rfl rfl) rfl ?_
      (refine lw_store' [_] [_, _, _, _, _, _] tabOk rfl rfl rfl rfl rfl rfl hbn rfl rfl ?_; intro wd39 nd40)
      have hd43 := Put.blk nd40
      have fd41 := Put.fr nd40
      have zd42 := Put.size nd40
      clear nd40 hbn
      replace hd36 := OwnL.fr hd36 fd41 (by omega)
      replace hd21 := PP.fr hd21 fd41 (by omega)
      replace hvs := VDs.fr hvs fd41 (by omega)
      replace hbr := Blk.fr hbr fd41 (by omega)
      replace X := Fr.fr X fd41 (by omega)
      clear fd41
      refine lw_nil (qw_block_norm ?_)
      rotate_left 1
     refine qw_round (i, pacc ++ [(procP c.ts c.n i (failP ρ' (peekP c.ts ρ').pos 5)).1], some ⟨_, 0, none⟩, _, (procP c.ts c.n i (failP ρ' (peekP c.ts ρ').pos 5)).2) (by (refine sub_cons rfl ?_; refine sub_cons rfl ?_; refine sub_cons rfl ?_; exact sub_nil)) ⟨by assumption, by assumption, by assumption, by assumption, by assumption, X, by omega, hle2, rfl, fun e => by have := hdr e; simp only; omega, by simp only; omega, by simp only; omega, fun e => by have := hdr e; simp only [List.length_append, List.length_cons, List.length_nil]; omega⟩ (by simp)
   · rw [show procsP c.ts c.n (i + 1) pacc ρ' = procsP c.ts c.n i (pacc ++ [(procP c.ts c.n i ρ').1]) (procP c.ts c.n i ρ').2 from by rw [procsP]; simp [hc2, h8]]
     have hdl := procP_le (n := c.n) (k := i) hP.at_
     have hdr := mS_drop hdl (procP_lt (n := c.n) (k := i) hP.at_)
     have hle2 := hle5.trans hdl
     focus
      refine cw_seq (cS (cM rfl rfl ?_))
      refine lw_does (does_call (by kernel_rfl) rfl (peek_c _ _ _ (by assumption)) (fun _ _ h => ⟨_, h.1⟩)) rfl ?_ (fun _ h => h)
      rintro _ we2 ⟨⟨⟩, xe1⟩
      have ze3 := Ext.size xe1
      replace hP := PP.ext hP xe1
      replace hbn := Blk.ext hbn xe1
      replace hown2 := OwnL.ext hown2 xe1
      replace hvs := VDs.ext hvs xe1
      replace hbr := Blk.ext hbr xe1
      replace X := Fr.ext X xe1
      clear xe1
      refine lw_pure (pur_field tabOk rfl rfl rfl rfl rfl rfl) rfl (lw_pure (pur_seql rfl rfl) rfl (cT ?_))
      refine cw_yes rfl (by assumption) ?_
      refine cw_skip (qw_then (cw_block (cw_seq (cS (lw_pure (pur_fieldAddr tabOk rfl rfl rfl) rfl (lw_load_b tabOk rfl rfl rfl hbn rfl rfl (lw_pure (pur_len_slice tabOk rfl rfl) rfl (lw_pure (pur_eql rfl rfl) rfl (cT ?_)))))))))
      refine cw_no rfl (by omega) ?_
      refine cw_skip (qw_then ?_)
      (refine cw_tdraw (fun wz => Fr (· = c.pb) we2 wz) 5 (.pure 0 (.pure 1 (.pure 2 (.fork 3 (.fork 4 .tail .none) .none)))) mixed (by kernel_rfl) (panicOk_block (panicOk_then (panicOk_block (panicOk_then panicOk_body)))) ?_; intro we4 xe5 _)
      have qse6 : (fun wz => Fr (· = c.pb) we2 wz) we4 := Fr.of_ext xe5
      simp only at qse6
      have d_hP := hP
      have d_hbn := hbn
      have d_hown2 := hown2
      have d_hvs := hvs
      have d_hbr := hbr
      have ze7 := Ext.size xe5
      replace hP := PP.ext hP xe5
      replace hbn := Blk.ext hbn xe5
      replace hown2 := OwnL.ext hown2 xe5
      replace hvs := VDs.ext hvs xe5
      replace hbr := Blk.ext hbr xe5
      replace X := Fr.ext X xe5
      clear xe5
      refine ⟨qse6, ?_⟩
      refine tw_pure rfl (pur_fieldAddr tabOk rfl rfl rfl) rfl ?_
      refine tw_pure rfl (pur_load tabOk rfl rfl rfl (fun wz hz => Blk.cell (Blk.fr d_hbn hz (by omega)) rfl)) rfl ?_
      refine tw_pure rfl (pur_move rfl) rfl ?_
      refine tw_does rfl (does_call (by kernel_rfl) rfl (proc_c c i _ _ (by assumption) (by omega)) (fun _ _ h => h.ret)) rfl ?_ (fun _ h => h) tw_none
      rintro _ we16 ⟨pae8, ⟨pce9, ⟨bae10, ⟨bce11, ⟨⟨⟩, ⟨he12, ⟨he13, ⟨he14, fe15⟩⟩⟩⟩⟩⟩⟩⟩
      have ze17 := Fr.size fe15
      replace qse6 := Fr.fr qse6 fe15 (by omega)
      clear hP
      replace hbn := Blk.fr hbn fe15 (by omega)
      replace hown2 := OwnL.fr hown2 fe15 (by omega)
      replace hvs := VDs.fr hvs fe15 (by omega)
      replace hbr := Blk.fr hbr fe15 (by omega)
      replace X := Fr.fr X fe15 (by omega)
      clear fe15
      refine ⟨qse6, ?_⟩
      (refine tw_does rfl (does_slice' [_, _, _, _, _, _] tabOk zOk rfl rfl rfl rfl rfl rfl rfl rfl rfl) rfl ?_ (fun _ h => h) tw_none; rintro _ we19 ⟨be18, rfl, ne20, te21⟩)
      clear te21
      have he22 := New.blk ne20
      have xe23 := New.ext ne20
      have pe24 := New.pos ne20
      have ze25 := New.size ne20
      clear ne20
      replace he12 := VDs.ext he12 xe23
      replace he13 := Nd.sits.ext he13 xe23
      replace he14 := PP.ext he14 xe23
      replace qse6 := Fr.ext qse6 xe23
      replace hbn := Blk.ext hbn xe23
      replace hown2 := OwnL.ext hown2 xe23
      replace hvs := VDs.ext hvs xe23
      replace hbr := Blk.ext hbr xe23
      replace X := Fr.ext X xe23
      clear xe23
      refine ⟨qse6, ?_⟩
      clear d_hP d_hbn d_hown2 d_hvs d_hbr qse6
      refine tw_tail rfl ?_
      refine lw_appendL (sh := pdShape) tabOk zOk rfl rfl rfl rfl (by kernel_rfl) rfl rfl rfl hown2 (Blk.row (by assumption)) ⟨_, _, _, _, rfl, VDs.wide (by assumption) (fun b h => ⟨by omega, fun e => by have := hob _ e; omega⟩), Nd.sits.wide (by assumption) (fun b h => ⟨by omega, fun e => by have := hob _ e; omega⟩)⟩ (by omega) (by omega) rfl ?_
      rintro ge26 cap'e27 we28 he29 fe30
      have ze31 := Fr.size fe30
      clear he22 he12 he13
      replace he14 := PP.fr he14 fe30 (by omega)
      replace hbn := Blk.fr hbn fe30 (by omega)
      clear hown2
      replace hvs := VDs.fr hvs fe30 (by omega)
      replace hbr := Blk.fr hbr fe30 (by omega)
      replace X := Fr.fr X fe30 (by omega)
      clear fe30
      refine lw_pure (pur_fieldAddr tabOk rfl rfl rfl) rfl ?_
      (refine lw_store' [_] [_, _, _, _, _, _] tabOk rfl rfl rfl rfl rfl rfl hbn rfl rfl ?_; intro we32 ne33)
      have he36 := Put.blk ne33
      have fe34 := Put.fr ne33
      have ze35 := Put.size ne33
      clear ne33 hbn
      replace he29 := OwnL.fr he29 fe34 (by omega)
      replace he14 := PP.fr he14 fe34 (by omega)
      replace hvs := VDs.fr hvs fe34 (by omega)
      replace hbr := Blk.fr hbr fe34 (by omega)
      replace X := Fr.fr X fe34 (by omega)
      clear fe34
      refine lw_nil (qw_block_norm ?_)
      rotate_left 1
     refine qw_round (i, pacc ++ [(procP c.ts c.n i ρ').1], some ⟨_, 0, none⟩, _, (procP c.ts c.n i ρ').2) (by (refine sub_cons rfl ?_; refine sub_cons rfl ?_; refine sub_cons rfl ?_; exact sub_nil)) ⟨by assumption, by assumption, by assumption, by assumption, by assumption, X, by omega, hle2, rfl, fun e => by have := hdr e; simp only; omega, by simp only; omega, by simp only; omega, fun e => by have := hdr e; simp only [List.length_append, List.length_cons, List.length_nil]; omega⟩ (by simp)
 · have hc2 : hasP c.ts ρ' [112, 114, 111, 99] = false := by simp [hasP, hp]
   rw [show procsP c.ts c.n (i + 1) pacc ρ' = (pacc, ρ') from by rw [procsP]; simp [hc2]]
   simp only
   have hle6 := expect_le (n := c.n) (t := [109, 97, 105, 110]) hle5.wf (by decide)
   have hm6 := mS_le hle6
   have hm5 := mS_le hle5
   focus
    refine cw_seq (cS (cM rfl rfl ?_))
    refine lw_does (does_call (by kernel_rfl) rfl (peek_c _ _ _ (by assumption)) (fun _ _ h => ⟨_, h.1⟩)) rfl ?_ (fun _ h => h)
    rintro _ wf2 ⟨⟨⟩, xf1⟩
    have zf3 := Ext.size xf1
    replace hP := PP.ext hP xf1
    replace hbn := Blk.ext hbn xf1
    replace hown2 := OwnL.ext hown2 xf1
    replace hvs := VDs.ext hvs xf1
    replace hbr := Blk.ext hbr xf1
    replace X := Fr.ext X xf1
    clear xf1
    refine lw_pure (pur_field tabOk rfl rfl rfl rfl rfl rfl) rfl (lw_pure (pur_seql rfl rfl) rfl (cT ?_))
    refine cw_no rfl (by assumption) ?_
    refine cw_exit (qw_then_exit (qw_then_exit (qw_block_exit (qw_then (cS (cM rfl rfl ?_))))))
    refine lw_does (does_call (by kernel_rfl) rfl (expect_c _ _ _ _ (by assumption) (by decide)) (fun _ _ h => ⟨_, h.1⟩)) rfl ?_ (fun _ h => h)
    rintro _ wf6 ⟨⟨⟩, ⟨hf4, ff5⟩⟩
    have zf7 := Fr.size ff5
    clear hP
    replace hbn := Blk.fr hbn ff5 (by omega)
    replace hown2 := OwnL.fr hown2 ff5 (by omega)
    replace hvs := VDs.fr hvs ff5 (by omega)
    replace hbr := Blk.fr hbr ff5 (by omega)
    replace X := Fr.fr X ff5 (by omega)
    clear ff5
    refine cN (cM rfl rfl ?_)
    refine lw_does (does_call (by kernel_rfl) rfl (body_c c k _ _ (by assumption) (by omega)) (fun _ _ h => h.ret)) rfl ?_ (fun _ h => h)
    rintro _ wf13 ⟨af8, ⟨kf9, ⟨⟨⟩, ⟨hf10, ⟨hf11, ff12⟩⟩⟩⟩⟩
    have zf14 := Fr.size ff12
    clear hf4
    replace hbn := Blk.fr hbn ff12 (by omega)
    replace hown2 := OwnL.fr hown2 ff12 (by omega)
    replace hvs := VDs.fr hvs ff12 (by omega)
    replace hbr := Blk.fr hbr ff12 (by omega)
    replace X := Fr.fr X ff12 (by omega)
    clear ff12
    refine lw_pure (pur_fieldAddr tabOk rfl rfl rfl) rfl ?_
    (refine lw_store' [_, _, _, _] [_, _, _, _, _, _] tabOk rfl rfl rfl rfl rfl rfl hbn rfl rfl ?_; intro wf15 nf16)
    have hf19 := Put.blk nf16
    have ff17 := Put.fr nf16
    have zf18 := Put.size nf16
    clear nf16 hbn
    replace hf10 := Nd.sits.fr hf10 ff17 (by omega)
    replace hf11 := PP.fr hf11 ff17 (by omega)
    replace hown2 := OwnL.fr hown2 ff17 (by omega)
    replace hvs := VDs.fr hvs ff17 (by omega)
    replace hbr := Blk.fr hbr ff17 (by omega)
    replace X := Fr.fr X ff17 (by omega)
    clear ff17
    refine cN (lw_loads_b' [_, _, _, _, _, _] tabOk rfl rfl rfl hf19 rfl rfl rfl ?_)
    (refine lw_store' [_, _, _, _, _, _] [_, _, _, _, _, _] tabOk rfl rfl rfl rfl rfl rfl hbr rfl rfl ?_; intro wf20 nf21)
    have hf24 := Put.blk nf21
    have ff22 := Put.fr nf21
    have zf23 := Put.size nf21
    clear nf21 hbr
    replace hf19 := Blk.fr hf19 ff22 (by omega)
    replace hf10 := Nd.sits.fr hf10 ff22 (by omega)
    replace hf11 := PP.fr hf11 ff22 (by omega)
    replace hown2 := OwnL.fr hown2 ff22 (by omega)
    replace hvs := VDs.fr hvs ff22 (by omega)
    replace X := Fr.fr X ff22 (by omega)
    clear ff22
    refine cT (cw_ret (qw_retc rfl tabOk rfl rfl rfl hf24 rfl ?_))
    rotate_left 1
   refine ⟨_, _, _, _, _, _, rfl, ⟨VDs.wide (by assumption) (fun b h => by omega), OwnL.pds hown2 (fun b h => by omega), Nd.sits.wide (by assumption) (fun b h => by omega)⟩, by assumption, X⟩
end Bk
namespace Bk
open Go
theorem takeWhile_len {α : Type} (p : α → Bool) (l : List α) : (l.takeWhile p).length ≤ l.length := by
 induction l with
 | nil => simp
 | cons x r ih => simp only [List.takeWhile_cons]; split <;> simp; exact ih
theorem signLen_le (s : List UInt8) : signLen s ≤ s.length := by
 unfold signLen
 split
 · rename_i h
   rw [List.isPrefixOf_iff_prefix] at h
   exact h.length_le
 · split
   · rename_i h
     rcases s with _ | ⟨a, _ | ⟨b, r⟩⟩
     · exact absurd h (by decide)
     · exfalso
       simp [pairs] at h
     · simp
   · split
     · rename_i h
       cases s with
       | nil => simp at h
       | cons a r => simp
     · omega
theorem firstTok_le (s : List UInt8) : (firstTok s).2 ≤ s.length := by
 cases s with
 | nil => simp [firstTok]
 | cons c r =>
  simp only [firstTok, span]
  split
  · exact takeWhile_len _ _
  · split
    · exact takeWhile_len _ _
    · split
      · exact takeWhile_len _ _
      · split
        · exact takeWhile_len _ _
        · exact signLen_le _
theorem take_takeWhile {α : Type} (p : α → Bool) (l : List α) : l.take (l.takeWhile p).length = l.takeWhile p := by
 induction l with
 | nil => simp
 | cons x r ih => simp only [List.takeWhile_cons]; split <;> simp [ih]
theorem mem_takeWhile {α : Type} (p : α → Bool) (l : List α) : ∀ x ∈ l.takeWhile p, p x = true := by
 induction l with
 | nil => simp
 | cons y r ih =>
  simp only [List.takeWhile_cons]
  split
  · rename_i h
    intro x hx
    rcases List.mem_cons.1 hx with rfl | hx
    · exact h
    · exact ih x hx
  · simp
theorem letter_digit (c : UInt8) (h : letter c = true) : digit c = false := by
 simp only [letter, digit, Bool.and_eq_true, decide_eq_true_eq, Bool.and_eq_false_iff, decide_eq_false_iff_not] at h ⊢
 omega
theorem firstTok_num (s : List UInt8) (h : (firstTok s).1 = 2) : s.take (firstTok s).2 ≠ [] ∧ ∀ x ∈ s.take (firstTok s).2, digit x = true := by
 cases s with
 | nil => simp [firstTok] at h
 | cons c r =>
  simp only [firstTok] at h ⊢
  by_cases h1 : letter c = true
  · simp [h1] at h
  · by_cases h2 : digit c = true
    · simp only [h1, h2, if_true, Bool.false_eq_true, if_false, span]
      rw [take_takeWhile]
      refine ⟨by simp [List.takeWhile_cons, h2], mem_takeWhile _ _⟩
    · exfalso
      simp only [h1, h2, Bool.false_eq_true, if_false] at h
      by_cases h3 : blank c = true
      · simp [h3] at h
      · by_cases h4 : c = 35
        · subst h4; simp [h3] at h
        · simp [h3, h4] at h
theorem firstTok_kind (s : List UInt8) (hs : s ≠ []) (h0 : (firstTok s).2 ≠ 0) : (firstTok s).1 = 2 ↔ startsDigit (s.take (firstTok s).2) = true := by
 cases s with
 | nil => exact absurd rfl hs
 | cons c r =>
  obtain ⟨m, hm⟩ : ∃ m, (firstTok (c :: r)).2 = m + 1 := ⟨(firstTok (c :: r)).2 - 1, by omega⟩
  rw [hm]
  simp only [List.take_succ_cons, startsDigit, firstTok]
  by_cases h1 : letter c = true
  · simp [h1, letter_digit c h1]
  · by_cases h2 : digit c = true
    · simp [h1, h2]
    · simp only [h1, h2, Bool.false_eq_true, if_false, iff_false]
      by_cases h3 : blank c = true
      · simp [h3]
      · by_cases h4 : c = 35
        · subst h4; simp [h3]
        · simp [h3, h4]
structure TokOk (n : Nat) (t : Tok) : Prop where
 len : t.text.length ≤ n
 num : t.kind = 2 → t.text ≠ [] ∧ ∀ x ∈ t.text, digit x = true
 dig : t.kind = 2 ↔ startsDigit t.text = true
 pos : 0 ≤ t.pos ∧ t.pos ≤ n
theorem lexGo_ok (s : List UInt8) : ∀ (k p : Nat) (acc : List Tok), (∀ t ∈ acc, TokOk s.length t) → ∀ t ∈ (lexGo k s p acc).1, TokOk s.length t
 | 0, p, acc, h => by rw [lexGo]; exact h
 | k + 1, p, acc, h => by
  rw [lexGo]
  split
  · rename_i hp
    split
    · simp
    · rename_i h0
      refine lexGo_ok s k _ _ ?_
      intro t ht
      rcases List.mem_append.1 ht with ht | ht
      · exact h t ht
      · simp only [List.mem_singleton] at ht
        subst ht
        have hne : s.drop p ≠ [] := by
         intro e
         have := congrArg List.length e
         simp at this; omega
        refine ⟨?_, ?_, ?_, ?_⟩
        · simp only [List.length_take, List.length_drop]; omega
        · intro hk
          have hk' : (firstTok (s.drop p)).1 = 2 := by simp only at hk; omega
          exact firstTok_num _ hk'
        · have := firstTok_kind (s.drop p) hne h0
          simp only
          rw [← this]
          omega
        · simp only; omega
  · exact h
theorem lexT_ok (s : List UInt8) : ∀ t ∈ (lexT s).1, TokOk s.length t := by
 unfold lexT
 split
 · simp
 · have := lexGo_ok s (s.length + 1) 0 [] (by simp)
   split
   · rename_i l h; rw [h] at this; exact this
   · simp
theorem solid_ok (s : List UInt8) : ∀ t ∈ (startP s).1, TokOk s.length t := fun t ht => lexT_ok s t (List.mem_filter.1 ht).1
theorem digitKinds_start (s : List UInt8) : DigitKinds (startP s).1 := fun t ht => (solid_ok s t ht).dig
theorem lexGo_len (s : List UInt8) : ∀ (k p : Nat) (acc : List Tok), acc.length ≤ p → p ≤ s.length → (lexGo k s p acc).1.length ≤ s.length
 | 0, p, acc, h, hp => by rw [lexGo]; simp; omega
 | k + 1, p, acc, h, hp => by
  rw [lexGo]
  split
  · split
    · simp
    · rename_i h0
      have := firstTok_le (s.drop p)
      rw [List.length_drop] at this
      exact lexGo_len s k _ _ (by simp; omega) (by omega)
  · simp only; omega
theorem lexT_len (s : List UInt8) : (lexT s).1.length ≤ s.length := by
 unfold lexT
 split
 · simp
 · have := lexGo_len s (s.length + 1) 0 [] (by simp) (by omega)
   split
   · rename_i l h; rw [h] at this; exact this
   · simp
theorem start_len (s : List UInt8) : (startP s).1.length ≤ s.length := Nat.le_trans (List.length_filter_le _ _) (lexT_len s)
end Bk
namespace Bk
open Go Go.RowKit Go.Proofs
attribute [local irreducible] Go.Calls
def Toks (S : Nat → Prop) (w : World) (l : List Tok) (a : Option Addr) : Prop := Arr S 3 TokAt w l a
theorem Toks.ext {S : Nat → Prop} {w w' : World} {l : List Tok} {a : Option Addr} (h : Toks S w l a) (x : Ext w w') : Toks S w' l a := h.mono (fun _ h => h) (fun _ _ _ _ _ h => Row.ext h x)
theorem Toks.fr {S T : Nat → Prop} {w w' : World} {l : List Tok} {a : Option Addr} (h : Toks S w l a) (x : Fr T w w') (hs : ∀ b, S b → ¬ T b) : Toks S w' l a := h.mono (fun _ h => h) (fun b _ _ _ hb h => Row.fr h x (hs b hb))
theorem Toks.wide {S S' : Nat → Prop} {w : World} {l : List Tok} {a : Option Addr} (h : Toks S w l a) (hs : ∀ b, S b → S' b) : Toks S' w l a := h.mono hs (fun _ _ _ _ _ h => h)
theorem Toks.lt2 {S : Nat → Prop} {w : World} {l : List Tok} {a : Option Addr} (h : Toks S w l a) : Toks (fun b => S b ∧ b < w.heap.size) w l a := by
 rcases h with h | ⟨b, o, h1, h2, h3⟩
 · exact Or.inl h
 · cases l with
   | nil => exact Or.inl rfl
   | cons v r => exact Or.inr ⟨b, o, h1, ⟨h2, cell_lt (Row.at0 (h3 0 v rfl) rfl)⟩, h3⟩
def tokShape : Shape Tok where
 sz := 3
 rep := fun _ _ v cs => cs = v.cells
 len := fun h => by rw [h]; rfl
 one := fun h => by rw [h]; rfl
 mono := fun h _ _ => h
 lt := fun h => h
theorem OwnL.toks {w : World} {B e : Nat} {a : Option Addr} {len cap : Nat} {xs : List Tok} {S : Nat → Prop} (h : OwnL tokShape w B e (.slice a len cap) xs) (hS : ∀ b, B ≤ b → S b) : Toks S w xs a := by
 by_cases hx : xs = []
 · exact Or.inl hx
 · obtain ⟨g, cap', hv, hg, hall⟩ := h.rows hx
   simp only [Value.slice.injEq] at hv
   obtain ⟨rfl, -, -⟩ := hv
   refine Or.inr ⟨g, 0, rfl, hS g hg, fun i x hi => ?_⟩
   obtain ⟨cs, hr, rfl⟩ := hall i x hi
   simpa [tokShape, TokAt] using hr
theorem first_s (t : List UInt8) (w : World) (ht : t ≠ []) (hl : t.length ≤ 9223372036854775807) : Calls Tryz.prog 100 #[str t] w fun e w' => e = .returned (.tuple #[.int .u8 (firstTok t).1, .int .i64 (firstTok t).2]) ∧ w = w' := by
 cases t with
 | nil => exact absurd rfl ht
 | cons c r => exact first_c c r w hl
def LexR (w : World) (r : List Tok × Int × Int) : Ending → World → Prop := fun e w' => ∃ a k, e = .returned (.tuple #[.slice a r.1.length k, .int .i64 r.2.1, .int .i64 r.2.2]) ∧ Toks (fun b => w.heap.size ≤ b ∧ b < w'.heap.size) w' r.1 a ∧ Ext w w'
theorem LexR.ret {w : World} {r : List Tok × Int × Int} {e : Ending} {w' : World} (h : LexR w r e w') : ∃ v, e = .returned v := by
 obtain ⟨_, _, h, -⟩ := h
 exact ⟨_, h⟩
set_option maxRecDepth 100000 in
set_option maxHeartbeats 2000000 in
theorem Lex_c (s : List UInt8) (w : World) (hs : s.length ≤ 1000000) : Calls Tryz.prog 63 #[str s] w (LexR w (lexT s)) := by
 have X := Ext.refl w
 by_cases h0 : 65536 < s.length
 · rw [show lexT s = ([], 0, 5) from by simp [lexT, h0]]
   refine calls_in Tryz.func63 Tryz.ntmps63 rfl rfl ?_
   focus
    refine cS (cA rfl rfl (cA rfl rfl (cA rfl rfl (cT (cw_seq (cS (cM rfl rfl (lw_pure (pur_len_s tabOk rfl rfl) rfl (lw_pure (pur_gtr rfl rfl) rfl (cT ?_))))))))))
    refine cw_yes rfl (by omega) ?_
    refine cS (cA rfl rfl (cA rfl rfl (cA rfl rfl (cT (cw_ret (qw_then_ret (qw_ret3 rfl rfl rfl rfl ?_)))))))
    rotate_left 1
   exact ⟨_, _, rfl, Or.inl rfl, X⟩
 have hun : ∀ r, lexGo (s.length + 1) s 0 [] = r → lexT s = match r with | (l, none) => (l, 0, 0) | (_, some p) => ([], (p : Int), 3) := fun r hr => by
  obtain ⟨l, o⟩ := r
  cases o <;> simp [lexT, h0, hr]
 have HU := Lib.hid hun; clear hun
 refine calls_in Tryz.func63 Tryz.ntmps63 rfl rfl ?_
 focus
  refine cS (cA rfl rfl (cA rfl rfl (cA rfl rfl (cT (cw_seq (cS (cM rfl rfl (lw_pure (pur_len_s tabOk rfl rfl) rfl (lw_pure (pur_gtr rfl rfl) rfl (cT ?_))))))))))
  refine cw_no rfl (by omega) ?_
  refine cw_skip (qw_then (cS (cA rfl rfl (cT (cw_seq (cS (cA rfl rfl (cT (cw_block ?_)))))))))
  rotate_left 1
 refine cw_loop (ι := Nat × Nat × List Tok × Option Addr × Nat) (fun x => [(0, str s), (5, .slice x.2.2.2.1 x.2.2.1.length x.2.2.2.2), (6, .int .i64 x.2.1)])
  (fun x w' => OwnL tokShape w' w.heap.size 96 (.slice x.2.2.2.1 x.2.2.1.length x.2.2.2.2) x.2.2.1 ∧ Ext w w' ∧ x.2.1 ≤ s.length ∧ x.2.2.1.length ≤ x.2.1 ∧ s.length + 1 ≤ x.1 + x.2.1 ∧
   lexGo (s.length + 1) s 0 [] = lexGo x.1 s x.2.1 x.2.2.1) (fun x => x.1) (s.length + 1, 0, [], none, 0) (by (refine sub_cons rfl ?_; refine sub_cons rfl ?_; refine sub_cons rfl ?_; exact sub_nil)) ⟨OwnL.nil, X, Nat.zero_le _, Nat.le_refl _, Nat.le_refl _, rfl⟩ ?_
 rintro ⟨j, p, acc, a, cap⟩ w1 ⟨hown, X, hp, hacc, hj, he⟩
 simp only at hown hp hacc hj he
 refine CW.sub (m := [(0, str s), (5, .slice a acc.length cap), (6, .int .i64 p)]) ?_ (by (refine sub_cons rfl ?_; refine sub_cons rfl ?_; refine sub_cons rfl ?_; exact sub_nil))
 obtain ⟨j, rfl⟩ : ∃ i, j = i + 1 := ⟨j - 1, by omega⟩
 by_cases hlt : p < s.length
 · have hne : s.drop p ≠ [] := by
    intro e
    have := congrArg List.length e
    simp at this; omega
   have hdl : (s.drop p).length = s.length - p := List.length_drop
   have hfl := firstTok_le (s.drop p)
   rw [hdl] at hfl
   by_cases hz : (firstTok (s.drop p)).2 = 0
   · rw [HU.out ([], some p) (by rw [he, lexGo]; simp [hlt, hz])]
     focus
      refine cw_seq (cS (cM rfl rfl (cM rfl rfl (lw_pure (pur_len_s tabOk rfl rfl) rfl (lw_pure (pur_lss rfl rfl) rfl (cT ?_))))))
      refine cw_yes rfl (by omega) ?_
      refine cw_skip (qw_then (cw_block (cS (cM rfl rfl (cM rfl rfl ?_)))))
      refine lw_pure (pur_sfromN tabOk rfl rfl rfl (by omega)) rfl ?_
      refine lw_does (does_call (by kernel_rfl) rfl (first_s _ _ hne (by omega)) (fun _ _ h => ⟨_, h.1⟩)) rfl ?_ (fun _ h => h)
      rintro _ wb1 ⟨⟨⟩, rfl⟩
      refine cM rfl rfl (lw_pure (pur_extract rfl rfl) rfl (lw_pure (pur_extract rfl rfl) rfl (cA rfl rfl (cA rfl rfl (cT (cw_seq (cS (cM rfl rfl (lw_pure (pur_eql rfl rfl) rfl (cT ?_))))))))))
      refine cw_yes rfl (by omega) ?_
      refine cS (cM rfl rfl (cA rfl rfl (cA rfl rfl (cA rfl rfl (cT (cw_ret (qw_then_ret (qw_block_ret (qw_then_ret (qw_block_ret (qw_then_ret ?_)))))))))))
      refine qw_ret3 rfl rfl rfl rfl ?_
      rotate_left 1
     exact ⟨_, _, rfl, Or.inl rfl, X⟩
   · have he2 : lexGo (s.length + 1) s 0 [] = lexGo j s (p + (firstTok (s.drop p)).2) (acc ++ [⟨((firstTok (s.drop p)).1 : Nat), (s.drop p).take (firstTok (s.drop p)).2, (p : Int)⟩]) := by rw [he, lexGo]; simp [hlt, hz]
     focus
      refine cw_seq (cS (cM rfl rfl (cM rfl rfl (lw_pure (pur_len_s tabOk rfl rfl) rfl (lw_pure (pur_lss rfl rfl) rfl (cT ?_))))))
      refine cw_yes rfl (by omega) ?_
      refine cw_skip (qw_then (cw_block (cS (cM rfl rfl (cM rfl rfl ?_)))))
      refine lw_pure (pur_sfromN tabOk rfl rfl rfl (by omega)) rfl ?_
      refine lw_does (does_call (by kernel_rfl) rfl (first_s _ _ hne (by omega)) (fun _ _ h => ⟨_, h.1⟩)) rfl ?_ (fun _ h => h)
      rintro _ wc1 ⟨⟨⟩, rfl⟩
      refine cM rfl rfl (lw_pure (pur_extract rfl rfl) rfl (lw_pure (pur_extract rfl rfl) rfl (cA rfl rfl (cA rfl rfl (cT (cw_seq (cS (cM rfl rfl (lw_pure (pur_eql rfl rfl) rfl (cT ?_))))))))))
      refine cw_no rfl (by omega) ?_
      refine cw_skip (qw_then (cS (cM rfl rfl (cM rfl rfl (cM rfl rfl (cM rfl rfl (cM rfl rfl (cM rfl rfl ?_))))))))
      refine lw_pure (pur_add rfl rfl (IntWalk.i64_in _ (by omega))) rfl ?_
      refine lw_pure (pur_spartN tabOk rfl rfl rfl rfl (by omega)) rfl ?_
      refine cM rfl rfl (lw_pure (pur_build' [_, _, _] tabOk zOk rfl rfl rfl rfl) rfl ?_)
      (refine lw_does (does_slice' [_, _, _] tabOk zOk rfl rfl rfl rfl rfl rfl rfl rfl rfl) rfl ?_ (fun _ h => h); rintro _ wc3 ⟨bc2, rfl, nc4, tc5⟩)
      clear tc5
      have hc6 := New.blk nc4
      have xc7 := New.ext nc4
      have pc8 := New.pos nc4
      have zc9 := New.size nc4
      clear nc4
      replace hown := OwnL.ext hown xc7
      replace X := Ext.ext X xc7
      clear xc7
      refine lw_appendL (sh := tokShape) (z := ⟨((firstTok (s.drop p)).1 : Nat), (s.drop p).take (firstTok (s.drop p)).2, (p : Int)⟩) tabOk zOk rfl rfl rfl rfl (by kernel_rfl) rfl rfl rfl hown (Blk.row (by assumption)) rfl (by omega) (by have := Ext.size X; omega) rfl ?_
      rintro gc10 cap'c11 wc12 hc13 fc14
      have zc15 := Fr.size fc14
      clear hc6 hown
      replace X := Ext.fr X fc14 (by omega)
      clear fc14
      refine cA rfl rfl (cT (cw_region (cM rfl rfl (cM rfl rfl ?_))))
      refine lw_pure (pur_add rfl rfl (IntWalk.i64_in _ (by omega))) rfl ?_
      refine cA rfl rfl (lw_nil (qw_block_norm ?_))
      rotate_left 1
     refine qw_round (j, p + (firstTok (s.drop p)).2, acc ++ [⟨((firstTok (s.drop p)).1 : Nat), (s.drop p).take (firstTok (s.drop p)).2, (p : Int)⟩], some ⟨_, 0, none⟩, _) (by (refine sub_cons rfl ?_; refine sub_cons rfl ?_; refine sub_cons rfl ?_; exact sub_nil)) ⟨by assumption, X, by simp only; omega, by simp only [List.length_append, List.length_cons, List.length_nil]; omega, by simp only; omega, he2⟩ (by simp)
 · rw [HU.out (acc, none) (by rw [he, lexGo]; simp [hlt])]
   focus
    refine cw_seq (cS (cM rfl rfl (cM rfl rfl (lw_pure (pur_len_s tabOk rfl rfl) rfl (lw_pure (pur_lss rfl rfl) rfl (cT ?_))))))
    refine cw_no rfl (by omega) ?_
    refine cw_exit (qw_then_exit (qw_then_exit (qw_block_exit (qw_then (cS (cM rfl rfl (cA rfl rfl (cA rfl rfl (cA rfl rfl (cT (cw_ret ?_)))))))))))
    refine qw_ret3 rfl rfl rfl rfl ?_
    rotate_left 1
   exact ⟨_, _, rfl, Toks.lt2 (S := (w.heap.size ≤ ·)) (OwnL.toks hown (fun b h => h)), X⟩
theorem solid_snoc (l : List Tok) (t : Tok) : solidT (l ++ [t]) = solidT l ++ (if t.kind ≠ 4 ∧ t.kind ≠ 5 then [t] else []) := by
 unfold solidT
 rw [List.filter_append]
 congr 1
 by_cases h4 : t.kind = 4 <;> by_cases h5 : t.kind = 5 <;> simp [h4, h5]
def SolidR (w : World) (r : List Tok) : Ending → World → Prop := fun e w' => ∃ a k, e = .returned (.slice a r.length k) ∧ Toks (fun b => w.heap.size ≤ b ∧ b < w'.heap.size) w' r a ∧ Ext w w'
theorem SolidR.ret {w : World} {r : List Tok} {e : Ending} {w' : World} (h : SolidR w r e w') : ∃ v, e = .returned v := by
 obtain ⟨_, _, h, -⟩ := h
 exact ⟨_, h⟩
set_option maxRecDepth 100000 in
set_option maxHeartbeats 2000000 in
theorem Solid_c (ts : List Tok) (S : Nat → Prop) (b0 : Option Addr) (k0 : Nat) (w : World) (hl : ts.length ≤ 1000000) (hT : Toks S w ts b0) (hS : ∀ b, S b → b < w.heap.size) : Calls Tryz.prog 64 #[.slice b0 ts.length k0] w (SolidR w (solidT ts)) := by
 have X := Ext.refl w
 refine calls_in Tryz.func64 Tryz.ntmps64 rfl rfl ?_
 focus
  refine cS (cA rfl rfl (cN (cA rfl rfl (cT (cw_seq (cS (cM rfl rfl (lw_pure (pur_len_slice tabOk rfl rfl) rfl (cM rfl rfl (cT (cw_block ?_)))))))))))
  rotate_left 1
 refine cw_loop (ι := Nat × Option Addr × Nat) (fun x => [(3, .slice x.2.1 (solidT (ts.take x.1)).length x.2.2), (6, .slice b0 ts.length k0), (7, .int .i64 ts.length), (8, .int .i64 x.1)])
  (fun x w' => OwnL tokShape w' w.heap.size 96 (.slice x.2.1 (solidT (ts.take x.1)).length x.2.2) (solidT (ts.take x.1)) ∧ Ext w w' ∧ x.1 ≤ ts.length ∧ Toks S w' ts b0) (fun x => ts.length - x.1) (0, none, 0) (by (refine sub_cons rfl ?_; refine sub_cons rfl ?_; refine sub_cons rfl ?_; refine sub_cons rfl ?_; exact sub_nil)) ⟨OwnL.nil, X, Nat.zero_le _, hT⟩ ?_
 rintro ⟨j, a, cap⟩ w1 ⟨hown, X, hj, hT⟩
 simp only at hown hj hT
 have hsz := X.size
 refine CW.sub (m := [(3, .slice a (solidT (ts.take j)).length cap), (6, .slice b0 ts.length k0), (7, .int .i64 ts.length), (8, .int .i64 j)]) ?_ (by (refine sub_cons rfl ?_; refine sub_cons rfl ?_; refine sub_cons rfl ?_; refine sub_cons rfl ?_; exact sub_nil))
 by_cases hlt : j < ts.length
 · have htk : ts.take (j + 1) = ts.take j ++ [ts[j]] := by rw [List.take_add_one, List.getElem?_eq_getElem hlt]; rfl
   have hsn : solidT (ts.take (j + 1)) = solidT (ts.take j) ++ (if ts[j].kind ≠ 4 ∧ ts[j].kind ≠ 5 then [ts[j]] else []) := by rw [htk, solid_snoc]
   have hbd : (solidT (ts.take j)).length ≤ 1000000 := Nat.le_trans (List.length_filter_le _ _) (by rw [List.length_take]; omega)
   obtain ⟨tb, to, rfl, hkS, hrow⟩ := hT.get (by omega)
   have hr : Row w1 ⟨tb, to + j * 3, none⟩ ts[j].cells := hrow j _ (List.getElem?_eq_getElem hlt)
   have htb := hS tb hkS
   clear hrow htk
   generalize ts[j] = t at *
   by_cases h4 : t.kind = 4
   · rw [show (if t.kind ≠ 4 ∧ t.kind ≠ 5 then [t] else []) = [] from by simp [h4], List.append_nil] at hsn
     focus
      refine cS (lw_pure (pur_lss rfl rfl) rfl (cT (cw_seq ?_)))
      refine cw_yes rfl (by omega) ?_
      refine cw_skip (qw_then (cw_seq (cw_block (cS ?_))))
      refine lw_pure (pur_indexAddr tabOk rfl rfl rfl rfl (by omega) (by omega)) rfl ?_
      refine lw_loads_r0 tabOk rfl rfl rfl hr rfl rfl ?_
      (refine lw_alloc' [_, _, _] zOk rfl rfl ?_; intro ba1 wa2 na3)
      (refine lw_init' [_, _, _] tabOk rfl rfl rfl rfl rfl rfl na3 rfl ?_; clear na3; clear wa2; intro wa4 na3)
      have ha5 := New.blk na3
      have xa6 := New.ext na3
      have pa7 := New.pos na3
      have za8 := New.size na3
      clear na3
      replace hown := OwnL.ext hown xa6
      replace X := Ext.ext X xa6
      replace hT := Toks.ext hT xa6
      replace hr := Row.ext hr xa6
      clear xa6
      refine cN (lw_pure (pur_fieldAddr0 tabOk rfl rfl rfl) rfl (lw_load_b tabOk rfl rfl rfl ha5 rfl rfl (lw_pure (pur_neq rfl rfl) rfl (cM rfl rfl ?_))))
      refine lw_off rfl rfl rfl (gd_tf (by omega)) rfl ?_
      refine lw_off rfl rfl rfl (gd_tf (by omega)) rfl ?_
      refine lw_off rfl rfl rfl (gd_tf (by omega)) rfl ?_
      refine lw_pure (pur_pick_no rfl rfl (by omega)) rfl ?_
      refine cT (cw_cond_f rfl (cw_skip (qw_block_norm (qw_then (cw_region ?_)))))
      refine lw_pure (pur_add rfl rfl (IntWalk.i64_in _ (by omega))) rfl ?_
      refine cM rfl rfl (lw_nil ?_)
      rotate_left 1
     refine qw_round (j + 1, a, cap) ?_ ⟨by rw [hsn]; exact hown, X, by simp only; omega, hT⟩ (by simp only; omega)
     refine sub_cons' rfl (by rw [hsn]) (sub_cons rfl (sub_cons rfl (sub_cons rfl sub_nil)))
   by_cases h5 : t.kind = 5
   · rw [show (if t.kind ≠ 4 ∧ t.kind ≠ 5 then [t] else []) = [] from by simp [h5], List.append_nil] at hsn
     focus
      refine cS (lw_pure (pur_lss rfl rfl) rfl (cT (cw_seq ?_)))
      refine cw_yes rfl (by omega) ?_
      refine cw_skip (qw_then (cw_seq (cw_block (cS ?_))))
      refine lw_pure (pur_indexAddr tabOk rfl rfl rfl rfl (by omega) (by omega)) rfl ?_
      refine lw_loads_r0 tabOk rfl rfl rfl hr rfl rfl ?_
      (refine lw_alloc' [_, _, _] zOk rfl rfl ?_; intro bb1 wb2 nb3)
      (refine lw_init' [_, _, _] tabOk rfl rfl rfl rfl rfl rfl nb3 rfl ?_; clear nb3; clear wb2; intro wb4 nb3)
      have hb5 := New.blk nb3
      have xb6 := New.ext nb3
      have pb7 := New.pos nb3
      have zb8 := New.size nb3
      clear nb3
      replace hown := OwnL.ext hown xb6
      replace X := Ext.ext X xb6
      replace hT := Toks.ext hT xb6
      replace hr := Row.ext hr xb6
      clear xb6
      refine cN (lw_pure (pur_fieldAddr0 tabOk rfl rfl rfl) rfl (lw_load_b tabOk rfl rfl rfl hb5 rfl rfl (lw_pure (pur_neq rfl rfl) rfl (cM rfl rfl ?_))))
      refine lw_on rfl rfl rfl (gd_tt (by assumption)) ?_
      refine lw_pure (pur_fieldAddr0 tabOk rfl rfl rfl) rfl ?_
      refine lw_on rfl rfl rfl (gd_tt (by assumption)) ?_
      refine lw_load_b tabOk rfl rfl rfl hb5 rfl rfl ?_
      refine lw_on rfl rfl rfl (gd_tt (by assumption)) ?_
      refine lw_pure (pur_neq rfl rfl) rfl ?_
      refine lw_pure (pur_pick_yes rfl rfl (by assumption)) rfl ?_
      refine cT ?_
      refine cw_no rfl (by omega) ?_
      refine cw_skip (qw_block_norm (qw_then (cw_region ?_)))
      refine lw_pure (pur_add rfl rfl (IntWalk.i64_in _ (by omega))) rfl ?_
      refine cM rfl rfl (lw_nil ?_)
      rotate_left 1
     refine qw_round (j + 1, a, cap) ?_ ⟨by rw [hsn]; exact hown, X, by simp only; omega, hT⟩ (by simp only; omega)
     refine sub_cons' rfl (by rw [hsn]) (sub_cons rfl (sub_cons rfl (sub_cons rfl sub_nil)))
   · rw [show (if t.kind ≠ 4 ∧ t.kind ≠ 5 then [t] else []) = [t] from by simp [h4, h5]] at hsn
     focus
      refine cS (lw_pure (pur_lss rfl rfl) rfl (cT (cw_seq ?_)))
      refine cw_yes rfl (by omega) ?_
      refine cw_skip (qw_then (cw_seq (cw_block (cS ?_))))
      refine lw_pure (pur_indexAddr tabOk rfl rfl rfl rfl (by omega) (by omega)) rfl ?_
      refine lw_loads_r0 tabOk rfl rfl rfl hr rfl rfl ?_
      (refine lw_alloc' [_, _, _] zOk rfl rfl ?_; intro bc1 wc2 nc3)
      (refine lw_init' [_, _, _] tabOk rfl rfl rfl rfl rfl rfl nc3 rfl ?_; clear nc3; clear wc2; intro wc4 nc3)
      have hc5 := New.blk nc3
      have xc6 := New.ext nc3
      have pc7 := New.pos nc3
      have zc8 := New.size nc3
      clear nc3
      replace hown := OwnL.ext hown xc6
      replace X := Ext.ext X xc6
      replace hT := Toks.ext hT xc6
      replace hr := Row.ext hr xc6
      clear xc6
      refine cN (lw_pure (pur_fieldAddr0 tabOk rfl rfl rfl) rfl (lw_load_b tabOk rfl rfl rfl hc5 rfl rfl (lw_pure (pur_neq rfl rfl) rfl (cM rfl rfl ?_))))
      refine lw_on rfl rfl rfl (gd_tt (by assumption)) ?_
      refine lw_pure (pur_fieldAddr0 tabOk rfl rfl rfl) rfl ?_
      refine lw_on rfl rfl rfl (gd_tt (by assumption)) ?_
      refine lw_load_b tabOk rfl rfl rfl hc5 rfl rfl ?_
      refine lw_on rfl rfl rfl (gd_tt (by assumption)) ?_
      refine lw_pure (pur_neq rfl rfl) rfl ?_
      refine lw_pure (pur_pick_yes rfl rfl (by assumption)) rfl ?_
      refine cT ?_
      refine cw_yes rfl (by assumption) ?_
      refine cw_region (cM rfl rfl (lw_loads_b' [_, _, _] tabOk rfl rfl rfl hc5 rfl rfl rfl ?_))
      (refine lw_does (does_slice' [_, _, _] tabOk zOk rfl rfl rfl rfl rfl rfl rfl rfl rfl) rfl ?_ (fun _ h => h); rintro _ wc10 ⟨bc9, rfl, nc11, tc12⟩)
      clear tc12
      have hc13 := New.blk nc11
      have xc14 := New.ext nc11
      have pc15 := New.pos nc11
      have zc16 := New.size nc11
      clear nc11
      replace hc5 := Blk.ext hc5 xc14
      replace hown := OwnL.ext hown xc14
      replace X := Ext.ext X xc14
      replace hT := Toks.ext hT xc14
      replace hr := Row.ext hr xc14
      clear xc14
      refine lw_appendL (sh := tokShape) (z := t) tabOk zOk rfl rfl rfl rfl (by kernel_rfl) rfl rfl rfl hown (Blk.row (by assumption)) rfl (by omega) (by omega) rfl ?_
      rintro gc17 cap'c18 wc19 hc20 fc21
      have zc22 := Fr.size fc21
      clear hc13 hc5 hown
      replace X := Ext.fr X fc21 (by omega)
      replace hT := Toks.fr hT fc21 (fun k hk e => by have := hS k hk; omega)
      replace hr := Row.fr hr fc21 (by simp only; omega)
      clear fc21
      refine cA rfl rfl (lw_nil (qw_block_norm (qw_then (cw_region ?_))))
      refine lw_pure (pur_add rfl rfl (IntWalk.i64_in _ (by omega))) rfl ?_
      refine cM rfl rfl (lw_nil ?_)
      rotate_left 1
     refine qw_round (j + 1, some ⟨_, 0, none⟩, _) ?_ ⟨by rw [hsn]; assumption, X, by simp only; omega, hT⟩ (by simp only; omega)
     refine sub_cons' rfl (by rw [hsn]) (sub_cons rfl (sub_cons rfl (sub_cons rfl sub_nil)))
 · have : j = ts.length := by omega
   subst this
   rw [List.take_length] at hown
   focus
    refine cS (lw_pure (pur_lss rfl rfl) rfl (cT (cw_seq ?_)))
    refine cw_no rfl (by omega) ?_
    refine cw_exit (qw_then_exit (qw_then_exit (qw_block_exit (qw_then (cS (cM rfl rfl (cA rfl rfl (cT (cw_ret (qw_ret1 rfl rfl ?_))))))))))
    rotate_left 1
   rw [List.take_length]
   exact ⟨_, _, rfl, Toks.lt2 (S := (w.heap.size ≤ ·)) (OwnL.toks hown (fun b h => h)), X⟩
end Bk
namespace Bk
open Go Go.RowKit Go.Proofs
attribute [local irreducible] Go.Calls
section
variable {P : Program} {n : Nat} {ops : Array Oper} {Q : Exit → Act → World → Prop} {rest : List Oper} {l : Sl} {w : World} {tab : Tab} {ty : TypeId} {pos : String} {after : Array Edge}
theorem lw_mapput {x y z : Operand} {t kt e sz1 sz2 r : Nat} {k : List UInt8} {v : Value} {kvs : List (List UInt8 × Value)} (T : TabOk P tab) (ht : lookT tab t = some (.map kt e, sz1)) (hkt : lookT tab kt = some (.str, sz2)) (hx : ev l x = some (.map (some r))) (hy : ev l y = some (str k)) (hz : ev l z = some v) (hm : MapIs w r kvs)
 (kk : ∀ w1, MapIs w1 r (setS kvs k v) → Fr (· = r) w w1 → LW P n ops Q rest l w1) : LW P n ops Q (⟨none, .mapUpdate t x y z, ty, pos, after, none⟩ :: rest) l w := by
 refine lw_does0 (K := MapPut w r (setS kvs k v)) ?_ (fun v w1 h => by cases v with | none => exact kk w1 h.1 h.2.1 | some _ => exact h.elim)
 unfold Does
 intro a dst pos after g next Q ha _ hn
 obtain ⟨w1, h1, h2, h3, h4⟩ := run_mapUpdate (P := P) (k := k) (v := v) T ht hkt hm
 have e1 : (execOp a.eval ⟨dst, .mapUpdate t x y z, ty, pos, after, g⟩).run P w = .ok .skip w1 := by
  simp only [execOp, ha.ev hx, ha.ev hy, ha.ev hz, Sem.run_bind, h1, Result.andThen, Sem.run_pure]
 unfold Oper.wp
 rw [e1]
 exact hn w1 ⟨h2, h3, h4⟩
theorem lw_makeMap {t d : Nat} (hd : Nat.blt d n = true) (k : ∀ r w1, r = w.heap.size → MapIs w1 r [] → Ext w w1 → w1.heap.size = r + 1 → LW P n ops Q rest ((d, .map (some r)) :: l) w1) : LW P n ops Q (⟨some d, .makeMap t none, ty, pos, after, none⟩ :: rest) l w :=
 lw_does does_makeMap hd (fun v w1 ⟨r, h1, h2, h3, h4, h5⟩ => by subst h1; exact k r w1 h2 h3 h4 h5) (fun _ h => h)
end
def u8Shape : Shape Int where
 sz := 1
 rep := fun _ _ v cs => cs = [.int .u8 v]
 len := fun h => by rw [h]; rfl
 one := fun h => by rw [h]; rfl
 mono := fun h _ _ => h
 lt := fun h => h
def ops8 (j : Nat) : List Int := (List.range j).map fun (i : Nat) => (8 : Int) + (i : Int)
theorem ops8_snoc (j : Nat) : ops8 (j + 1) = ops8 j ++ [8 + (j : Int)] := by simp [ops8, List.range_succ]
theorem ops8_len (j : Nat) : (ops8 j).length = j := by simp [ops8]
def OpsR (w : World) : Ending → World → Prop := fun e w' => ∃ b k, e = .returned (.slice (some ⟨b, 0, none⟩) 16 k) ∧ w.heap.size ≤ b ∧ b < w'.heap.size ∧ Row w' ⟨b, 0, none⟩ ((ops8 16).map (.int .u8 ·)) ∧ Ext w w'
theorem OpsR.ret {w : World} {e : Ending} {w' : World} (h : OpsR w e w') : ∃ v, e = .returned v := by
 obtain ⟨_, _, h, -⟩ := h
 exact ⟨_, h⟩
set_option maxRecDepth 100000 in
set_option maxHeartbeats 2000000 in
theorem Operators_c (w : World) : Calls Tryz.prog 65 #[] w (OpsR w) := by
 have X := Ext.refl w
 refine calls_in (args := []) Tryz.func65 Tryz.ntmps65 rfl rfl ?_
 focus
  refine cS (cA rfl rfl (cN (cA rfl rfl (cT (cw_seq (cS (cA rfl rfl (cT (cw_block ?_)))))))))
  rotate_left 1
 refine cw_loop (ι := Nat × Option Addr × Nat) (fun x => [(1, .slice x.2.1 (ops8 x.1).length x.2.2), (2, .int .u8 (8 + (x.1 : Int)))])
  (fun x w' => OwnL u8Shape w' w.heap.size 5 (.slice x.2.1 (ops8 x.1).length x.2.2) (ops8 x.1) ∧ Ext w w' ∧ x.1 ≤ 16) (fun x => 16 - x.1) (0, none, 0) (by (refine sub_cons rfl ?_; refine sub_cons rfl ?_; exact sub_nil)) ⟨OwnL.nil, X, Nat.zero_le _⟩ ?_
 rintro ⟨j, a, cap⟩ w1 ⟨hown, X, hj⟩
 simp only at hown hj
 have hsz := X.size
 have hl := ops8_len j
 refine CW.sub (m := [(1, .slice a (ops8 j).length cap), (2, .int .u8 (8 + (j : Int)))]) ?_ (by (refine sub_cons rfl ?_; refine sub_cons rfl ?_; exact sub_nil))
 by_cases hlt : j < 16
 · have hsn := ops8_snoc j
   focus
    refine cw_seq (cS (cM rfl rfl (lw_pure (pur_leq rfl rfl) rfl (cT ?_))))
    refine cw_yes rfl (by omega) ?_
    refine cw_skip (qw_then (cw_seq (cw_block (cw_region (cM rfl rfl (cM rfl rfl ?_))))))
    (refine lw_does (does_slice' [_] tabOk zOk rfl rfl rfl rfl rfl rfl rfl rfl rfl) rfl ?_ (fun _ h => h); rintro _ wa2 ⟨ba1, rfl, na3, ta4⟩)
    clear ta4
    have ha5 := New.blk na3
    have xa6 := New.ext na3
    have pa7 := New.pos na3
    have za8 := New.size na3
    clear na3
    replace hown := OwnL.ext hown xa6
    replace X := Ext.ext X xa6
    clear xa6
    refine lw_appendL (sh := u8Shape) (z := 8 + (j : Int)) tabOk zOk rfl rfl rfl rfl (by kernel_rfl) rfl rfl rfl hown (Blk.row (by assumption)) rfl (by omega) (by omega) rfl ?_
    rintro ga9 cap'a10 wa11 ha12 fa13
    have za14 := Fr.size fa13
    clear ha5 hown
    replace X := Ext.fr X fa13 (by omega)
    clear fa13
    refine cA rfl rfl (lw_nil (qw_block_norm (qw_then (cw_region (cM rfl rfl ?_)))))
    refine lw_pure (pur_add rfl rfl (u8_wrap _ (by omega) (by omega))) rfl ?_
    refine cA rfl rfl (lw_nil ?_)
    rotate_left 1
   refine qw_round (j + 1, some ⟨_, 0, none⟩, _) ?_ ⟨by rw [hsn]; assumption, X, by simp only; omega⟩ (by simp only; omega)
   refine sub_cons' rfl (by rw [hsn]) (sub_cons' rfl ?_ sub_nil)
   simp only [Value.int.injEq, true_and]; omega
 · have : j = 16 := by omega
   subst this
   focus
    refine cw_seq (cS (cM rfl rfl (lw_pure (pur_leq rfl rfl) rfl (cT ?_))))
    refine cw_no rfl (by decide) ?_
    refine cw_exit (qw_then_exit (qw_then_exit (qw_block_exit (qw_then (cS (cM rfl rfl (cA rfl rfl (cT (cw_ret (qw_ret1 rfl rfl ?_))))))))))
    rotate_left 1
   obtain ⟨g, cap', hv, hg, hall⟩ := hown.rows (by decide)
   simp only [Value.slice.injEq] at hv
   obtain ⟨rfl, -, -⟩ := hv
   have hrow : Row w1 ⟨g, 0, none⟩ ((ops8 16).map (.int .u8 ·)) := fun i v hi => by
    rw [List.getElem?_map, Option.map_eq_some_iff] at hi
    obtain ⟨x, hx, rfl⟩ := hi
    obtain ⟨cs, hr, rfl⟩ := hall i x hx
    have := hr.at0 rfl
    have e : (⟨g, 0, none⟩ : Addr).add i = ⟨g, i * u8Shape.sz, none⟩ := by
     have : u8Shape.sz = 1 := rfl
     unfold Addr.add; by_cases h0 : i = 0 <;> simp [h0, this]
    rw [e]; exact this
   exact ⟨g, cap, by rw [ops8_len], hg, hown.lt rfl, hrow, X⟩
set_option maxRecDepth 100000 in
set_option maxHeartbeats 1000000 in
theorem finish_c (c : PC) (σ : PS) (w : World) (hP : PP c σ w) :
 Calls Tryz.prog 26 #[.pointer (some ⟨c.pb, 0, none⟩)] w fun r w' => r = .returned (.tuple #[]) ∧ PP c (finishP c.ts c.n σ) w' ∧ Fr (· = c.pb) w w' := by
 have X := Fr.refl (· = c.pb) w
 have hpb := hP.pbB
 have hB := hP.B
 by_cases h : σ.at_ < c.ts.length
 · rw [show finishP c.ts c.n σ = unexpP c.ts c.n σ from by simp [finishP, h]]
   refine calls_in Tryz.func26 Tryz.ntmps26 rfl rfl ?_
   focus
    refine cw_seq ?_
    (refine cw_tdraw (fun wz => Ext w wz) 9 (.pure 0 (.pure 1 (.pure 2 (.pure 3 (.pure 4 (.pure 5 (.pure 6 (.pure 7 (.pure 8 .tail))))))))) mixed (by kernel_rfl) (panicOk_then panicOk_body) ?_; intro w1 x2 _)
    have qs3 : (fun wz => Ext w wz) w1 := x2
    simp only at qs3
    have d_hP := hP
    have z4 := Ext.size x2
    replace hP := PP.ext hP x2
    replace X := Fr.ext X x2
    clear x2
    refine ⟨qs3, ?_⟩
    refine tw_pure rfl (pur_move rfl) rfl (tw_pure rfl (pur_nilCheck rfl) rfl (tw_pure rfl (pur_fieldAddr tabOk rfl rfl rfl) rfl (tw_pure rfl (pur_load tabOk rfl rfl rfl (fun wz hz => Blk.cell (Blk.ext (PP.blk d_hP) hz) rfl)) rfl (tw_pure rfl (pur_move rfl) rfl (tw_pure rfl (pur_nilCheck rfl) rfl (tw_pure rfl (pur_fieldAddr0 tabOk rfl rfl rfl) rfl (tw_pure rfl (pur_load tabOk rfl rfl rfl (fun wz hz => Blk.cell (Blk.ext (PP.blk d_hP) hz) rfl)) rfl (tw_pure rfl (pur_len_slice tabOk rfl rfl) rfl ?_))))))))
    clear qs3 d_hP
    refine tw_tail rfl (lw_pure (pur_lss rfl rfl) rfl (cT ?_))
    refine cw_yes rfl (by omega) ?_
    refine cw_region (cM rfl rfl ?_)
    refine lw_does (does_call (by kernel_rfl) rfl (unexpected_c _ _ _ (by assumption)) (fun _ _ h => ⟨_, h.1⟩)) rfl ?_ (fun _ h => h)
    rintro _ w7 ⟨⟨⟩, ⟨h5, f6⟩⟩
    have z8 := Fr.size f6
    clear hP
    replace X := Fr.fr X f6 (by omega)
    clear f6
    refine lw_nil (qw_end0 rfl ?_)
    rotate_left 1
   exact ⟨rfl, by assumption, X⟩
 · rw [show finishP c.ts c.n σ = σ from by simp [finishP, h]]
   refine calls_in Tryz.func26 Tryz.ntmps26 rfl rfl ?_
   focus
    refine cw_seq ?_
    (refine cw_tdraw (fun wz => Ext w wz) 9 (.pure 0 (.pure 1 (.pure 2 (.pure 3 (.pure 4 (.pure 5 (.pure 6 (.pure 7 (.pure 8 .tail))))))))) mixed (by kernel_rfl) (panicOk_then panicOk_body) ?_; intro wa1 xa2 _)
    have qsa3 : (fun wz => Ext w wz) wa1 := xa2
    simp only at qsa3
    have d_hP := hP
    have za4 := Ext.size xa2
    replace hP := PP.ext hP xa2
    replace X := Fr.ext X xa2
    clear xa2
    refine ⟨qsa3, ?_⟩
    refine tw_pure rfl (pur_move rfl) rfl (tw_pure rfl (pur_nilCheck rfl) rfl (tw_pure rfl (pur_fieldAddr tabOk rfl rfl rfl) rfl (tw_pure rfl (pur_load tabOk rfl rfl rfl (fun wz hz => Blk.cell (Blk.ext (PP.blk d_hP) hz) rfl)) rfl (tw_pure rfl (pur_move rfl) rfl (tw_pure rfl (pur_nilCheck rfl) rfl (tw_pure rfl (pur_fieldAddr0 tabOk rfl rfl rfl) rfl (tw_pure rfl (pur_load tabOk rfl rfl rfl (fun wz hz => Blk.cell (Blk.ext (PP.blk d_hP) hz) rfl)) rfl (tw_pure rfl (pur_len_slice tabOk rfl rfl) rfl ?_))))))))
    clear qsa3 d_hP
    refine tw_tail rfl (lw_pure (pur_lss rfl rfl) rfl (cT ?_))
    refine cw_no rfl (by omega) ?_
    refine cw_skip (qw_end0 rfl ?_)
    rotate_left 1
   exact ⟨rfl, by assumption, X⟩
def wholeT (t : Nd) (σ : PS) : Nd × Int × Int := if σ.err ≠ 0 then (zeroNd, σ.off, σ.err) else (t, 0, 0)
def WholeR (w : World) (pb : Nat) (S : Nat → Prop) (r : Nd × Int × Int) : Ending → World → Prop := fun e w' => ∃ a k, e = .returned (.tuple #[r.1.val a k, .int .i64 r.2.1, .int .i64 r.2.2]) ∧ r.1.sits S w' a ∧ Fr (· = pb) w w'
theorem WholeR.ret {w : World} {pb : Nat} {S : Nat → Prop} {r : Nd × Int × Int} {e : Ending} {w' : World} (h : WholeR w pb S r e w') : ∃ v, e = .returned v := by
 obtain ⟨_, _, h, -⟩ := h
 exact ⟨_, h⟩
set_option maxRecDepth 100000 in
set_option maxHeartbeats 1000000 in
theorem whole_c (c : PC) (σ : PS) (t : Nd) (S : Nat → Prop) (a : Option Addr) (k : Nat) (w : World) (hP : PP c σ w) (hz : t.size ≤ 1000000000) (hs : t.sits S w a) (hS : ∀ b, S b → b ≠ c.pb ∧ b < w.heap.size) :
 Calls Tryz.prog 40 #[.pointer (some ⟨c.pb, 0, none⟩), t.val a k] w (WholeR w c.pb S (wholeT t (limitP t 0 σ))) := by
 have X := Fr.refl (· = c.pb) w
 have hpb := hP.pbB
 have hB := hP.B
 by_cases h : (limitP t 0 σ).err = 0
 · rw [show wholeT t (limitP t 0 σ) = (t, 0, 0) from by simp [wholeT, h]]
   refine calls_in Tryz.func40 Tryz.ntmps40 rfl rfl ?_
   focus
    refine cS ?_
    (refine lw_box' [_, _, _, _] rfl rfl rfl ?_; intro b1 w2 n3)
    have h4 := New.blk n3
    have x5 := New.ext n3
    have p6 := New.pos n3
    have z7 := New.size n3
    clear n3
    replace hP := PP.ext hP x5
    replace hs := Nd.sits.ext hs x5
    replace X := Fr.ext X x5
    clear x5
    (refine lw_alloc' [_, _, _, _] zOk rfl rfl ?_; intro b8 w9 n10)
    have h12 := New.blk n10
    have x13 := New.ext n10
    have p14 := New.pos n10
    have z15 := New.size n10
    clear n10
    replace h4 := Blk.ext h4 x13
    replace hP := PP.ext hP x13
    replace hs := Nd.sits.ext hs x13
    replace X := Fr.ext X x13
    clear x13
    refine cA rfl rfl (cA rfl rfl (cN (cM rfl rfl (lw_loads_b' [_, _, _, _] tabOk rfl rfl rfl h4 rfl rfl rfl ?_))))
    refine lw_does (does_call (by kernel_rfl) rfl (limit_c _ _ _ _ _ _ _ _ (by assumption) (by omega) (by assumption)) (fun _ _ h => ⟨_, h.1⟩)) rfl ?_ (fun _ h => h)
    rintro _ w18 ⟨⟨⟩, ⟨h16, f17⟩⟩
    have z19 := Fr.size f17
    replace h12 := Blk.fr h12 f17 (by omega)
    replace h4 := Blk.fr h4 f17 (by omega)
    clear hP
    replace hs := Nd.sits.fr hs f17 (fun k hk e => by have := hS k hk; omega)
    replace X := Fr.fr X f17 (by omega)
    clear f17
    refine cT (cw_seq (cS (cM rfl rfl (lw_pure (pur_nilCheck rfl) rfl (lw_pure (pur_fieldAddr tabOk rfl rfl rfl) rfl (lw_load_b tabOk rfl rfl rfl (PP.blk h16) rfl rfl (lw_pure (pur_neq rfl rfl) rfl (cT ?_))))))))
    refine cw_no rfl (by omega) ?_
    refine cw_skip (qw_then (cS (lw_loads_b' [_, _, _, _] tabOk rfl rfl rfl h4 rfl rfl rfl ?_)))
    (refine lw_store' [_, _, _, _] [_, _, _, _] tabOk rfl rfl rfl rfl rfl rfl h12 rfl rfl ?_; intro w20 n21)
    have h24 := Put.blk n21
    have f22 := Put.fr n21
    have z23 := Put.size n21
    clear n21 h12
    replace h16 := PP.fr h16 f22 (by omega)
    replace h4 := Blk.fr h4 f22 (by omega)
    replace hs := Nd.sits.fr hs f22 (fun k hk e => by have := hS k hk; omega)
    replace X := Fr.fr X f22 (by omega)
    clear f22
    refine cA rfl rfl (cA rfl rfl (cT (cw_ret (qw_retc3 rfl tabOk rfl rfl rfl h24 rfl rfl rfl ?_))))
    rotate_left 1
   exact ⟨_, _, rfl, by assumption, X⟩
 · rw [show wholeT t (limitP t 0 σ) = (zeroNd, (limitP t 0 σ).off, (limitP t 0 σ).err) from by simp [wholeT, h]]
   refine calls_in Tryz.func40 Tryz.ntmps40 rfl rfl ?_
   focus
    refine cS ?_
    (refine lw_box' [_, _, _, _] rfl rfl rfl ?_; intro ba1 wa2 na3)
    have ha4 := New.blk na3
    have xa5 := New.ext na3
    have pa6 := New.pos na3
    have za7 := New.size na3
    clear na3
    replace hP := PP.ext hP xa5
    replace hs := Nd.sits.ext hs xa5
    replace X := Fr.ext X xa5
    clear xa5
    (refine lw_alloc' [_, _, _, _] zOk rfl rfl ?_; intro ba8 wa9 na10)
    have ha12 := New.blk na10
    have xa13 := New.ext na10
    have pa14 := New.pos na10
    have za15 := New.size na10
    clear na10
    replace ha4 := Blk.ext ha4 xa13
    replace hP := PP.ext hP xa13
    replace hs := Nd.sits.ext hs xa13
    replace X := Fr.ext X xa13
    clear xa13
    refine cA rfl rfl (cA rfl rfl (cN (cM rfl rfl (lw_loads_b' [_, _, _, _] tabOk rfl rfl rfl ha4 rfl rfl rfl ?_))))
    refine lw_does (does_call (by kernel_rfl) rfl (limit_c _ _ _ _ _ _ _ _ (by assumption) (by omega) (by assumption)) (fun _ _ h => ⟨_, h.1⟩)) rfl ?_ (fun _ h => h)
    rintro _ wa18 ⟨⟨⟩, ⟨ha16, fa17⟩⟩
    have za19 := Fr.size fa17
    replace ha12 := Blk.fr ha12 fa17 (by omega)
    replace ha4 := Blk.fr ha4 fa17 (by omega)
    clear hP
    replace hs := Nd.sits.fr hs fa17 (fun k hk e => by have := hS k hk; omega)
    replace X := Fr.fr X fa17 (by omega)
    clear fa17
    refine cT (cw_seq (cS (cM rfl rfl (lw_pure (pur_nilCheck rfl) rfl (lw_pure (pur_fieldAddr tabOk rfl rfl rfl) rfl (lw_load_b tabOk rfl rfl rfl (PP.blk ha16) rfl rfl (lw_pure (pur_neq rfl rfl) rfl (cT ?_))))))))
    refine cw_yes rfl (by assumption) ?_
    refine cw_seq ?_
    (refine cw_tdraw (fun wz => Fr (fun x => x = ba8) wa18 wz) 11 (.pure 0 (.pure 1 (.pure 2 (.pure 3 (.pure 4 (.pure 5 (.pure 6 (.pure 7 (.pure 8 (.fork 9 (.pure 10 .tail) .none)))))))))) mixed (by kernel_rfl) (panicOk_then (panicOk_then panicOk_body)) ?_; intro wa20 xa21 _)
    have qsa22 : (fun wz => Fr (fun x => x = ba8) wa18 wz) wa20 := Fr.of_ext xa21
    simp only at qsa22
    have d_ha16 := ha16
    have d_ha12 := ha12
    have d_ha4 := ha4
    have d_hs := hs
    have za23 := Ext.size xa21
    replace ha16 := PP.ext ha16 xa21
    replace ha12 := Blk.ext ha12 xa21
    replace ha4 := Blk.ext ha4 xa21
    replace hs := Nd.sits.ext hs xa21
    replace X := Fr.ext X xa21
    clear xa21
    refine ⟨qsa22, ?_⟩
    refine tw_pure rfl (pur_build' [_, _, _, _] tabOk zOk rfl rfl rfl rfl) rfl (tw_pure rfl (pur_move rfl) rfl (tw_pure rfl (pur_nilCheck rfl) rfl (tw_pure rfl (pur_fieldAddr tabOk rfl rfl rfl) rfl ?_)))
    refine tw_pure rfl (pur_load tabOk rfl rfl rfl (fun wz hz => Blk.cell (Blk.fr (PP.blk d_ha16) hz (by omega)) rfl)) rfl ?_
    refine tw_pure rfl (pur_move rfl) rfl (tw_pure rfl (pur_nilCheck rfl) rfl (tw_pure rfl (pur_fieldAddr tabOk rfl rfl rfl) rfl ?_))
    refine tw_pure rfl (pur_load tabOk rfl rfl rfl (fun wz hz => Blk.cell (Blk.fr (PP.blk d_ha16) hz (by omega)) rfl)) rfl ?_
    (refine tw_store [_, _, _, _] [_, _, _, _] rfl tabOk rfl rfl rfl rfl rfl rfl ha12 rfl rfl ?_ tw_none; intro wa24 na25)
    have ha28 := Put.blk na25
    have fa26 := Put.fr na25
    have za27 := Put.size na25
    clear na25 ha12
    replace qsa22 := Fr.fr qsa22 fa26 (by omega)
    replace ha16 := PP.fr ha16 fa26 (by omega)
    replace ha4 := Blk.fr ha4 fa26 (by omega)
    replace hs := Nd.sits.fr hs fa26 (fun k hk e => by have := hS k hk; omega)
    replace X := Fr.fr X fa26 (by omega)
    clear fa26
    refine ⟨qsa22, ?_⟩
    refine tw_pure rfl (pur_assign rfl) rfl ?_
    clear d_ha16 d_ha12 d_ha4 d_hs qsa22
    refine tw_tail rfl (cA rfl rfl (cT (cw_ret (qw_then_ret (qw_retc3 rfl tabOk rfl rfl rfl ha28 rfl rfl rfl ?_)))))
    rotate_left 1
   exact ⟨_, _, rfl, sits_nil, X⟩
end Bk
namespace Bk
open Go Go.RowKit Go.Proofs
attribute [local irreducible] Go.Calls
theorem setS_bin (j : Nat) (h : j < 16) : setS (binMap.take j) (symbol (8 + (j : Int))) (.int .u8 (8 + (j : Int))) = binMap.take (j + 1) := by
 have : j = 0 ∨ j = 1 ∨ j = 2 ∨ j = 3 ∨ j = 4 ∨ j = 5 ∨ j = 6 ∨ j = 7 ∨ j = 8 ∨ j = 9 ∨ j = 10 ∨ j = 11 ∨ j = 12 ∨ j = 13 ∨ j = 14 ∨ j = 15 := by omega
 rcases this with rfl | rfl | rfl | rfl | rfl | rfl | rfl | rfl | rfl | rfl | rfl | rfl | rfl | rfl | rfl | rfl <;> rfl
def StartR (s : List UInt8) (w : World) : Ending → World → Prop := fun e w' => ∃ c : PC, e = .returned (.pointer (some ⟨c.pb, 0, none⟩)) ∧ (c.ts = (startP s).1 ∧ c.n = s.length ∧ w.heap.size ≤ c.pb) ∧ PP c (startP s).2 w' ∧ Ext w w' ∧ c.B ≤ w'.heap.size
theorem StartR.ret {s : List UInt8} {w : World} {e : Ending} {w' : World} (h : StartR s w e w') : ∃ v, e = .returned v := by
 obtain ⟨_, h, -⟩ := h
 exact ⟨_, h⟩
theorem Syms.lt {w : World} (h : Syms w) : 0 < w.heap.size := cell_lt (h.sym 0 (by omega))
theorem Errs.lt {w : World} (h : Errs w) : 3 < w.heap.size := by
 obtain ⟨te, pe, h⟩ := h.ex
 exact cell_lt h
set_option maxRecDepth 100000 in
set_option maxHeartbeats 4000000 in
theorem start_c (s : List UInt8) (w : World) (hs : s.length ≤ 1000000) (hS : Syms w) (hE : Errs w) : Calls Tryz.prog 24 #[str s] w (StartR s w) := by
 have X := Ext.refl w
 have hg1 := hS.lt
 have hg2 := hE.lt
 have hl1 := lexT_len s
 refine calls_in Tryz.func24 Tryz.ntmps24 rfl rfl ?_
 focus
  refine cS (cA rfl rfl (cN (cM rfl rfl ?_)))
  refine lw_does (does_call (by kernel_rfl) rfl (Lex_c _ _ (by omega)) (fun _ _ h => h.ret)) rfl ?_ (fun _ h => h)
  rintro _ w5 ⟨a1, ⟨k2, ⟨⟨⟩, ⟨h3, x4⟩⟩⟩⟩
  have z6 := Ext.size x4
  replace hS := Syms.ext hS x4
  replace hE := Errs.ext hE x4
  replace X := Ext.ext X x4
  clear x4
  refine cM rfl rfl (lw_pure (pur_extract rfl rfl) rfl (lw_pure (pur_extract rfl rfl) rfl (lw_pure (pur_extract rfl rfl) rfl (cA rfl rfl (cA rfl rfl (cA rfl rfl (cN (cM rfl rfl ?_))))))))
  refine lw_does (does_call (by kernel_rfl) rfl (Solid_c _ _ _ _ _ (by omega) (by assumption) (by intro b h; exact h.2)) (fun _ _ h => h.ret)) rfl ?_ (fun _ h => h)
  rintro _ w11 ⟨a7, ⟨k8, ⟨⟨⟩, ⟨h9, x10⟩⟩⟩⟩
  have z12 := Ext.size x10
  replace h3 := Toks.ext h3 x10
  replace hS := Syms.ext hS x10
  replace hE := Errs.ext hE x10
  replace X := Ext.ext X x10
  clear x10
  refine cM rfl rfl (lw_pure (pur_len_s tabOk rfl rfl) rfl (lw_makeMap rfl ?_))
  rintro r13 w14 rfl h15 x16 h17
  have z18 := Ext.size x16
  replace h9 := Toks.ext h9 x16
  replace h3 := Toks.ext h3 x16
  replace hS := Syms.ext hS x16
  replace hE := Errs.ext hE x16
  replace X := Ext.ext X x16
  clear x16
  refine cM rfl rfl (cM rfl rfl (lw_pure (pur_build' [_, _, _, _, _, _] tabOk zOk rfl rfl rfl rfl) rfl ?_))
  (refine lw_box' [_, _, _, _, _, _] rfl rfl rfl ?_; intro b19 w20 n21)
  have h22 := New.blk n21
  have x23 := New.ext n21
  have p24 := New.pos n21
  have z25 := New.size n21
  clear n21
  replace h15 := MapIs.ext h15 x23
  replace h9 := Toks.ext h9 x23
  replace h3 := Toks.ext h3 x23
  replace hS := Syms.ext hS x23
  replace hE := Errs.ext hE x23
  replace X := Ext.ext X x23
  clear x23
  refine cA rfl rfl (cT (cw_seq (cS ?_)))
  refine lw_does (does_call (by kernel_rfl) rfl (Operators_c _) (fun _ _ h => h.ret)) rfl ?_ (fun _ h => h)
  rintro _ w32 ⟨b26, ⟨k27, ⟨⟨⟩, ⟨h28, ⟨h29, ⟨h30, x31⟩⟩⟩⟩⟩⟩
  have z33 := Ext.size x31
  replace h22 := Blk.ext h22 x31
  replace h15 := MapIs.ext h15 x31
  replace h9 := Toks.ext h9 x31
  replace h3 := Toks.ext h3 x31
  replace hS := Syms.ext hS x31
  replace hE := Errs.ext hE x31
  replace X := Ext.ext X x31
  clear x31
  refine lw_pure (pur_len_slice tabOk rfl rfl) rfl (cM rfl rfl (cT (cw_block ?_)))
  rotate_left 1
 generalize hr : w11.heap.size = r at *
 refine cw_loop (ι := Nat) (fun j => [(6, .pointer (some ⟨b19, 0, none⟩)), (24, .slice (some ⟨b26, 0, none⟩) 16 k27), (25, .int .i64 16), (26, .int .i64 j)])
  (fun j w' => j ≤ 16 ∧ MapIs w' r (binMap.take j) ∧ Row w' ⟨b26, 0, none⟩ ((ops8 16).map (.int .u8 ·)) ∧ Blk w' b19 [.slice a7 (solidT (lexT s).1).length k8, .int .i64 0, .int .i64 s.length, .map (some r), .int .i64 (lexT s).2.1, .int .i64 (lexT s).2.2] ∧
   Toks (fun b => w5.heap.size ≤ b ∧ b < r) w' (solidT (lexT s).1) a7 ∧ Syms w' ∧ Errs w' ∧ Ext w w' ∧ w32.heap.size ≤ w'.heap.size) (fun j => 16 - j) 0 (by (refine sub_cons rfl ?_; refine sub_cons rfl ?_; refine sub_cons rfl ?_; refine sub_cons rfl ?_; exact sub_nil)) ⟨Nat.zero_le _, h15, h30, h22, h9, hS, hE, X, Nat.le_refl _⟩ ?_
 rintro j w1 ⟨hj, hM, hrow, hb, hT, hS, hE, X, hz⟩
 clear h15 h30 h22 h9 h3
 by_cases hlt : j < 16
 · have hr1 : Row w1 ⟨b26, 0 + j * 1, none⟩ [.int .u8 (8 + (j : Int))] := by
    have h1 := hrow.sub j 1
    have e : (((ops8 16).map (.int .u8 ·)).drop j).take 1 = [Value.int .u8 (8 + (j : Int))] := by
     have : j = 0 ∨ j = 1 ∨ j = 2 ∨ j = 3 ∨ j = 4 ∨ j = 5 ∨ j = 6 ∨ j = 7 ∨ j = 8 ∨ j = 9 ∨ j = 10 ∨ j = 11 ∨ j = 12 ∨ j = 13 ∨ j = 14 ∨ j = 15 := by omega
     rcases this with rfl | rfl | rfl | rfl | rfl | rfl | rfl | rfl | rfl | rfl | rfl | rfl | rfl | rfl | rfl | rfl <;> rfl
    rw [e] at h1
    rw [Nat.mul_one]; exact h1
   have hset := setS_bin j hlt
   focus
    refine cS (lw_pure (pur_lss rfl rfl) rfl (cT (cw_seq ?_)))
    refine cw_yes rfl (by omega) ?_
    refine cw_skip (qw_then (cw_seq (cw_block (cS ?_))))
    refine lw_pure (pur_indexAddr tabOk rfl rfl rfl rfl (by omega) (by omega)) rfl ?_
    refine lw_load_r0 tabOk rfl rfl rfl hr1 rfl rfl (cA rfl rfl (cT ?_))
    (refine cw_tdraw (fun wz => Ext w1 wz) 7 (.pure 0 (.pure 1 (.pure 2 (.pure 3 (.pure 4 (.pure 6 (.fork 5 .tail .none))))))) mixed (by kernel_rfl) (panicOk_block (panicOk_then (panicOk_then (panicOk_block (panicOk_then panicOk_body))))) ?_; intro wa1 xa2 _)
    have qsa3 : (fun wz => Ext w1 wz) wa1 := xa2
    simp only at qsa3
    have d_hM := hM
    have d_hrow := hrow
    have d_hb := hb
    have d_hT := hT
    have d_hS := hS
    have d_hE := hE
    have d_hr1 := hr1
    have za4 := Ext.size xa2
    replace hM := MapIs.ext hM xa2
    replace hrow := Row.ext hrow xa2
    replace hb := Blk.ext hb xa2
    replace hT := Toks.ext hT xa2
    replace hS := Syms.ext hS xa2
    replace hE := Errs.ext hE xa2
    replace X := Ext.ext X xa2
    replace hr1 := Row.ext hr1 xa2
    clear xa2
    refine ⟨qsa3, ?_⟩
    refine tw_pure rfl (pur_move rfl) rfl (tw_pure rfl (pur_nilCheck rfl) rfl (tw_pure rfl (pur_fieldAddr tabOk rfl rfl rfl) rfl (tw_pure rfl (pur_load tabOk rfl rfl rfl (fun wz hz => Blk.cell (Blk.ext d_hb hz) rfl)) rfl (tw_pure rfl (pur_move rfl) rfl (tw_pure rfl (pur_move rfl) rfl ?_)))))
    refine tw_does rfl (does_call (by kernel_rfl) rfl (arith_Symbol_s _ _ (by omega) (by omega) (by assumption)) (fun _ _ h => ⟨_, h.1⟩)) rfl ?_ (fun _ h => h) tw_none
    rintro _ wa5 ⟨⟨⟩, rfl⟩
    refine ⟨qsa3, ?_⟩
    clear qsa3 d_hM d_hrow d_hb d_hT d_hS d_hE d_hr1
    refine tw_tail rfl (lw_mapput tabOk rfl rfl rfl rfl rfl hM ?_)
    rintro wa6 ha7 fa8
    have za9 := Fr.size fa8
    clear hM
    replace hrow := Row.fr hrow fa8 (by simp only; omega)
    replace hb := Blk.fr hb fa8 (by omega)
    replace hT := Toks.fr hT fa8 (by omega)
    replace hS := Syms.fr hS fa8 (by omega)
    replace hE := Errs.fr hE fa8 (by omega)
    replace X := Ext.fr X fa8 (by omega)
    replace hr1 := Row.fr hr1 fa8 (by simp only; omega)
    clear fa8
    refine lw_nil (qw_block_norm (qw_then (cw_region ?_)))
    refine lw_pure (pur_add rfl rfl (IntWalk.i64_in _ (by omega))) rfl ?_
    refine cM rfl rfl (lw_nil ?_)
    rotate_left 1
   refine qw_round (j + 1) (by (refine sub_cons rfl ?_; refine sub_cons rfl ?_; refine sub_cons rfl ?_; refine sub_cons rfl ?_; exact sub_nil)) ⟨by omega, by rw [← hset]; assumption, hrow, hb, hT, hS, hE, X, by omega⟩ (by omega)
 · have : j = 16 := by omega
   subst this
   focus
    refine cS (lw_pure (pur_lss rfl rfl) rfl (cT (cw_seq ?_)))
    refine cw_no rfl (by decide) ?_
    refine cw_exit (qw_then_exit (qw_then_exit (qw_block_exit (qw_then (cS (cM rfl rfl (cA rfl rfl (cT (cw_ret (qw_ret1 rfl rfl ?_))))))))))
    rotate_left 1
   have hsz := X.size
   refine ⟨⟨b19, w1.heap.size, solidT (lexT s).1, s.length, a7, k8, r⟩, rfl, ⟨rfl, rfl, by simp only; omega⟩, ?_, X, Nat.le_refl _⟩
   refine ⟨hb, hT.wide (fun b h => ⟨by simp only; omega, by simp only; omega⟩), hM, by simp only; omega, by simp only; omega, by simp only; omega, Nat.le_refl _, Nat.zero_le _, ?_, fun t ht => ?_, fun t ht => (solid_ok s t ht).num, hE, by simp only; omega⟩
   · exact Nat.le_trans (start_len s) hs
   · exact Nat.le_trans (solid_ok s t ht).len hs
end Bk
