/- Texts that the proofs of InverterPrograms, InverterTwice need. No condition. (Part 3 of 7.) -/
import Derived.Test.YtgiikljkekpenaaGreatDoorPInc2
set_option linter.unusedSimpArgs false
set_option linter.unusedVariables false
namespace Bk
open Go Go.RowKit
structure OwnM {α : Type} (sh : Shape α) (w : World) (R : Nat → Prop) (B : Nat) (e : TypeId) (v : Value) (xs : List α) : Prop where
 ex : ∃ css : List (List Value), Own w B e sh.sz v xs.length css.flatten ∧ css.length = xs.length ∧ ∀ (i : Nat) (x : α) (cs : List Value), xs[i]? = some x → css[i]? = some cs → sh.rep w (fun b => (R b ∨ B ≤ b) ∧ v.ownBlock ≠ some b) x cs
section
variable {α : Type} {sh : Shape α} {R : Nat → Prop} {B e : Nat} {w w' : World} {v : Value} {xs : List α}
theorem OwnM.nil : OwnM sh w R B e (.slice none 0 0) [] := ⟨⟨[], Own.nil, rfl, by simp⟩⟩
theorem OwnM.ge (h : OwnM sh w R B e v xs) {k : Nat} (hk : v.ownBlock = some k) : B ≤ k := by
 obtain ⟨css, h1, -⟩ := h.ex
 exact h1.ge hk
theorem OwnM.lt (h : OwnM sh w R B e v xs) {k : Nat} (hk : v.ownBlock = some k) : k < w.heap.size := by
 obtain ⟨css, h1, -⟩ := h.ex
 exact (h1.blk hk).2
theorem OwnM.ext (h : OwnM sh w R B e v xs) (x : Ext w w') : OwnM sh w' R B e v xs := by
 obtain ⟨css, h1, h2, h3⟩ := h.ex
 exact ⟨css, h1.ext x, h2, fun i y cs hy hc => sh.mono (h3 i y cs hy hc) (fun _ h => h) (fun b o u _ hu => x.keep hu)⟩
theorem OwnM.fr {S : Nat → Prop} (h : OwnM sh w R B e v xs) (x : Fr S w w') (hs : ∀ k, S k → ¬ R k ∧ k < B) : OwnM sh w' R B e v xs := by
 obtain ⟨css, h1, h2, h3⟩ := h.ex
 exact ⟨css, h1.fr x (fun k hk hS => by have := h1.ge hk; have := (hs k hS).2; omega), h2, fun i y cs hy hc => sh.mono (h3 i y cs hy hc) (fun _ h => h) (fun b o u hb hu => x.keep (fun hS => by
  obtain ⟨h1, h2⟩ := hs b hS
  rcases hb.1 with h | h
  · exact h1 h
  · omega) hu)⟩
def GrewM (sh : Shape α) (w : World) (R : Nat → Prop) (B : Nat) (e : TypeId) (ys : List α) : Option Value → World → Prop
 | some v', w' => ∃ g cap, v' = .slice (some ⟨g, 0, none⟩) ys.length cap ∧ OwnM sh w' R B e v' ys ∧ Fr (B ≤ ·) w w'
 | none, _ => False
theorem does_appendM {P : Program} {n : Nat} {l : Sl} {tab : Tab} {zt : ZTab} {ty : TypeId} {x y : Operand} {t sz1 cap : Nat} {sE : Sk} {zs : List Value} {cs : List Value} {z : α} {p : Addr} (T : TabOk P tab) (Z : ZTabOk P zt) (ht : lookT tab t = some (.slice e, sz1)) (hE : lookT tab e = some (sE, sh.sz)) (hz : lookZ zt e = some zs) (hzl : zs.length = sh.sz)
 (hby : bytesOk P e = true) (hsz : Nat.blt 0 sh.sz = true) (hx : ev l x = some v) (hy : ev l y = some (.slice (some p) 1 cap)) (hown : OwnM sh w R B e v xs) (hr : Row w p cs) (hrep : sh.rep w (fun b => (R b ∨ B ≤ b) ∧ v.ownBlock ≠ some b) z cs) (hlen : xs.length ≤ 10000000000) (hB : B ≤ w.heap.size) :
 Does P n l (.call ⟨.builtin .append, #[x, y], #[t, t]⟩) ty w (GrewM sh w R B e (xs ++ [z])) := by
 obtain ⟨css, h1, h2, h3⟩ := hown.ex; have hd := does_append (P := P) (n := n) (l := l) (ty := ty) T Z ht hE hz hzl hby hsz hx hy h1 hr (by rw [sh.len hrep]; simp) (sh.one hrep) (by omega) (by omega) hB
 unfold Does at hd ⊢
 intro a dst pos after g next Q ha hn hn0; refine hd a dst pos after g next Q ha (fun v' w' hG => ?_) (fun w' hG => hG.elim); obtain ⟨g1, g2, g, cap', g3, g4⟩ := hG; refine hn v' w' ⟨g, cap', by rw [g3]; simp, ⟨css ++ [cs], ?_, by simp [h2], fun i y ds hy hc => ?_⟩, g2.weaken (fun b hb => h1.ge hb)⟩
 · have e1 : (css ++ [cs]).flatten = css.flatten ++ cs := by simp
   have e2 : (xs ++ [z]).length = xs.length + 1 := by simp
   rw [e1, e2]; exact g1
 · have key : sh.rep w (fun b => (R b ∨ B ≤ b) ∧ v.ownBlock ≠ some b) y ds := by
    by_cases hi : i < xs.length
    · rw [List.getElem?_append_left hi] at hy
      rw [List.getElem?_append_left (by omega)] at hc
      exact h3 i y ds hy hc
    · have hil : i < (xs ++ [z]).length := by
       rcases Nat.lt_or_ge i (xs ++ [z]).length with h | h
       · exact h
       · rw [List.getElem?_eq_none h] at hy; cases hy
      simp only [List.length_append, List.length_cons, List.length_nil] at hil
      have hi' : i = xs.length := by omega
      subst hi'; rw [List.getElem?_append_right (Nat.le_refl _)] at hy; rw [List.getElem?_append_right (by omega)] at hc; simp only [Nat.sub_self, List.getElem?_cons_zero, Option.some.injEq] at hy; rw [h2] at hc; simp only [Nat.sub_self, List.getElem?_cons_zero, Option.some.injEq] at hc; subst hy hc
      exact hrep
   refine sh.mono (sh.lt key) (fun b hb => ⟨hb.1.1, fun e => ?_⟩) (fun b o u hb hu => g2.keep hb.1.2 hu); rw [g3] at e; simp only [Value.ownBlock, Option.some.injEq] at e; subst e
   rcases g4 with h | h
   · exact hb.1.2 h
   · omega
theorem OwnM.rows (h : OwnM sh w R B e v xs) (hx : xs ≠ []) : ∃ g cap, v = .slice (some ⟨g, 0, none⟩) xs.length cap ∧ B ≤ g ∧ ∀ (i : Nat) (x : α), xs[i]? = some x → ∃ cs, Row w ⟨g, i * sh.sz, none⟩ cs ∧ sh.rep w (fun b => R b ∨ B ≤ b) x cs := by
 obtain ⟨css, h1, h2, h3⟩ := h.ex
 rcases h1.row with ⟨rfl, hn, -⟩ | ⟨g, cap, rfl, hg, hob, hr⟩
 · exact absurd (List.length_eq_zero_iff.1 hn) hx
 · refine ⟨g, cap, rfl, hg, fun i x hi => ?_⟩
   have hlt : i < xs.length := by
    rcases Nat.lt_or_ge i xs.length with h | h
    · exact h
    · rw [List.getElem?_eq_none h] at hi; cases hi
   have hc : css[i]? = some css[i] := List.getElem?_eq_getElem (by omega)
   have hlen : ∀ cs ∈ css, cs.length = sh.sz := fun cs hcs => by
    obtain ⟨k, hk, rfl⟩ := List.mem_iff_getElem.1 hcs
    exact sh.len (h3 k xs[k] css[k] (List.getElem?_eq_getElem (by omega)) (List.getElem?_eq_getElem hk))
   obtain ⟨e1, e2⟩ := flatten_at hlen (show i < css.length by omega); refine ⟨css[i], fun j u hj => ?_, sh.mono (h3 i x _ hi hc) (fun _ h => h.1) (fun _ _ _ _ h => h)⟩
   have hjl : j < css[i].length := by
    rcases Nat.lt_or_ge j css[i].length with h | h
    · exact h
    · rw [List.getElem?_eq_none h] at hj; cases hj
   have hget : css.flatten[i * sh.sz + j]? = some u := by
    rw [e1, List.append_assoc, List.getElem?_append_right (by omega), e2, Nat.add_sub_cancel_left, List.getElem?_append_left hjl]
    exact hj
   have := hr.at (i := i * sh.sz + j) hget
   have e : (⟨g, i * sh.sz, none⟩ : Addr).add j = ⟨g, 0 + (i * sh.sz + j), none⟩ := by unfold Addr.add; by_cases h0 : j = 0 <;> simp [h0]
   rw [e]; exact this
theorem OwnM.slice (h : OwnM sh w R B e v xs) : ∃ a cap, v = .slice a xs.length cap := by
 obtain ⟨css, h1, h2, h3⟩ := h.ex
 rcases h1.row with ⟨rfl, hn, -⟩ | ⟨g, cap, rfl, -⟩
 · exact ⟨none, 0, by rw [hn]⟩
 · exact ⟨_, _, rfl⟩
end
theorem OwnM.sits {w : World} {R : Nat → Prop} {B e : Nat} {a : Option Addr} {len cap : Nat} {xs : List Nd} {S : Nat → Prop} (h : OwnM ndShape w R B e (.slice a len cap) xs) (hS : ∀ b, R b ∨ B ≤ b → S b) : rowSits S w xs a := by
 by_cases hx : xs = []
 · subst hx; simp [rowSits]
 · obtain ⟨g, cap', hv, hg, hall⟩ := h.rows hx
   simp only [Value.slice.injEq] at hv; obtain ⟨rfl, -, -⟩ := hv; refine rowSits_of (hS g (Or.inr hg)) xs 0 (fun i x hi => ?_); obtain ⟨cs, hr, a, c, rfl, hs⟩ := hall i x hi
   exact ⟨a, c, by simpa [ndShape] using hr, Nd.sits_mono (fun b hb => hS b hb) (fun _ _ _ _ h => h) _ _ hs⟩
end Bk
namespace Bk
open Go Go.RowKit Go.Proofs
attribute [local irreducible] Go.Calls
set_option maxRecDepth 100000 in
set_option maxHeartbeats 4000000 in
theorem rKind_c (k : Int) (w : World) (h0 : 0 ≤ k) (h1 : k ≤ 255) : Calls Tryz.prog 32 #[.int .u8 k] w fun e w' => e = .returned (.int .u8 (exch k)) ∧ w = w' := by
 refine calls_in Tryz.func32 Tryz.ntmps32 rfl rfl ?_
 focus
  refine cS (cA rfl rfl (cT (cw_seq (cS (cM rfl rfl (cT (cw_block (cS (lw_pure (pur_eql rfl rfl) rfl (cA rfl rfl (cT ?_))))))))))); refine cw_dec rfl (fun c1 => ?_) (fun c1 => ?_); refine cS (cA rfl rfl (cT (cw_ret (qw_block_ret (qw_then_ret (qw_ret1 rfl rfl ?_)))))); rotate_left 1; refine cS (lw_pure (pur_eql rfl rfl) rfl (cA rfl rfl (cT ?_))); refine cw_dec rfl (fun c2 => ?_) (fun c2 => ?_); refine cS (cA rfl rfl (cT (cw_ret (qw_block_ret (qw_then_ret (qw_ret1 rfl rfl ?_)))))); rotate_left 1; refine cS (lw_pure (pur_eql rfl rfl) rfl (cA rfl rfl (cT ?_))); refine cw_dec rfl (fun c3 => ?_) (fun c3 => ?_); refine cS (cA rfl rfl (cT (cw_ret (qw_block_ret (qw_then_ret (qw_ret1 rfl rfl ?_)))))); rotate_left 1; refine cS (lw_pure (pur_eql rfl rfl) rfl (cA rfl rfl (cT ?_))); refine cw_dec rfl (fun c4 => ?_) (fun c4 => ?_); refine cS (cA rfl rfl (cT (cw_ret (qw_block_ret (qw_then_ret (qw_ret1 rfl rfl ?_)))))); rotate_left 1; refine cS (lw_pure (pur_eql rfl rfl) rfl (cA rfl rfl (cT ?_))); refine cw_dec rfl (fun c5 => ?_) (fun c5 => ?_); refine cS (cA rfl rfl (cT (cw_ret (qw_block_ret (qw_then_ret (qw_ret1 rfl rfl ?_)))))); rotate_left 1; refine cS (lw_pure (pur_eql rfl rfl) rfl (cA rfl rfl (cT ?_))); refine cw_dec rfl (fun c6 => ?_) (fun c6 => ?_); refine cS (cA rfl rfl (cT (cw_ret (qw_block_ret (qw_then_ret (qw_ret1 rfl rfl ?_)))))); rotate_left 1; refine cS (lw_pure (pur_eql rfl rfl) rfl (cA rfl rfl (cT ?_))); refine cw_dec rfl (fun c7 => ?_) (fun c7 => ?_); refine cS (cA rfl rfl (cT (cw_ret (qw_block_ret (qw_then_ret (qw_ret1 rfl rfl ?_))))))
  rotate_left 1; refine cS (lw_pure (pur_eql rfl rfl) rfl (cA rfl rfl (cT ?_))); refine cw_dec rfl (fun c8 => ?_) (fun c8 => ?_); refine cS (cA rfl rfl (cT (cw_ret (qw_block_ret (qw_then_ret (qw_ret1 rfl rfl ?_)))))); rotate_left 1; refine cS (lw_pure (pur_eql rfl rfl) rfl (cA rfl rfl (cT ?_))); refine cw_dec rfl (fun c9 => ?_) (fun c9 => ?_); refine cS (cA rfl rfl (cT (cw_ret (qw_block_ret (qw_then_ret (qw_ret1 rfl rfl ?_)))))); rotate_left 1; refine cS (lw_pure (pur_eql rfl rfl) rfl (cA rfl rfl (cT ?_))); refine cw_dec rfl (fun c10 => ?_) (fun c10 => ?_); refine cS (cA rfl rfl (cT (cw_ret (qw_block_ret (qw_then_ret (qw_ret1 rfl rfl ?_)))))); rotate_left 1; refine cw_skip (qw_block_norm (qw_then (cS (cM rfl rfl (cA rfl rfl (cT (cw_ret (qw_ret1 rfl rfl ?_)))))))); rotate_left 1
 all_goals (refine ⟨congrArg (fun x => Ending.returned (.int .u8 x)) ?_, rfl⟩; unfold exch; (repeat' split) <;> omega)
def ShareR (S : Nat → Prop) (u : Nd) (w : World) : Ending → World → Prop := fun e w' => ∃ a c, e = .returned (u.val a c) ∧ u.sits (fun b => S b ∨ w.heap.size ≤ b) w' a ∧ Ext w w'
theorem ShareR.ret {S : Nat → Prop} {u : Nd} {w : World} {e : Ending} {w' : World} (h : ShareR S u w e w') : ∃ v, e = .returned v := by
 obtain ⟨_, _, h, -⟩ := h
 exact ⟨_, h⟩
theorem rowInv_snoc (q : Bool) (l : List Nd) (r : Nat) (h : r < l.length) : rowInv q (l.drop r) = (l[r]).inv q :: rowInv q (l.drop (r + 1)) := by
 rw [List.drop_eq_getElem_cons h, rowInv]
theorem rowWide {S S' : Nat → Prop} {w : World} {l : List Nd} {a : Option Addr} (h : rowSits S w l a) (hS : ∀ b, S b → S' b) : rowSits S' w l a := rowSits_mono hS (fun _ _ _ _ h => h) l a h
theorem shareR_mk {S : Nat → Prop} {k n : Int} {s : List UInt8} {xs : List Nd} {m c : Nat} {a' : Option Addr} {w w' : World} (hm : xs.length = m) (h : rowSits (fun b => S b ∨ w.heap.size ≤ b) w' xs a') (X : Ext w w') : ShareR S (.mk k n s xs) w (.returned (.agg #[.int .u8 k, .int .i64 n, str s, .slice a' m c])) w' := by
 subst hm
 exact ⟨a', c, rfl, sits_mk h, X⟩
set_option maxRecDepth 100000 in
set_option maxHeartbeats 4000000 in
theorem rStmt_c (N : Nat) : ∀ (t : Nd) (S : Nat → Prop) (a : Option Addr) (c : Nat) (w : World), t.size < N → t.size ≤ 1000000 → (t.isStmt = true ∨ t.isBlock = true) → t.sits S w a → Calls Tryz.prog 14 #[t.val a c] w (ShareR S (t.inv false) w) := by
 induction N with
 | zero => intro t S a c w h; omega
 | succ N ih =>
  rintro ⟨k, n, s, l⟩ S a c w hN hM hv hs; have X := Ext.refl w; replace hs := kids_sits (sits_lt2 _ _ hs); obtain ⟨-, -, v3, v4⟩ := kids_valid hv; have hlen := length_rowA l; simp only [Nd.size] at hN hM
  have hC : ∀ x : Nd, x.size ≤ rowSize l → (x.isStmt = true ∨ x.isBlock = true) → ∀ (a : Option Addr) (c : Nat) (w1 : World), x.sits (fun b => S b ∧ b < w.heap.size) w1 a → Calls Tryz.prog 14 #[x.val a c] w1 (ShareR (fun b => S b ∧ b < w.heap.size) (x.inv false) w1) := fun x hx hv a c w1 h => ih x _ a c w1 (by omega) (by omega) hv h
  clear ih
  have HC := Lib.hid hC; clear hC
  simp only [Nd.val, Nd.kind, Nd.num, Nd.name, Nd.kids]; refine calls_in Tryz.func14 Tryz.ntmps14 rfl rfl ?_
  focus
   refine cS ?_; (refine lw_box' [_, _, _, _] rfl rfl rfl ?_; intro b1 w2 n3); have h4 := n3.blk; have x5 := n3.ext; have p6 := n3.pos; have z7 := n3.size; clear n3; replace X := X.ext x5; replace hs := Bk.rowSits.ext hs x5; clear x5; (refine lw_alloc' [_, _, _, _] zOk rfl rfl ?_; intro b8 w9 n10); have h12 := n10.blk; have x13 := n10.ext; have p14 := n10.pos; have z15 := n10.size; clear n10; replace h4 := h4.ext x13; replace X := X.ext x13; replace hs := Bk.rowSits.ext hs x13; clear x13; refine cT ?_; rotate_left 1
  refine cw_meet (ι := Nat) (fun bm => [(1, .pointer (some ⟨b1, 0, none⟩)), (2, .pointer (some ⟨b8, 0, none⟩)), (3, .pointer (some ⟨bm, 0, none⟩))])
   (fun bm w' => Blk w' bm [.int .u8 (exch k), .int .i64 n, str s, .slice none 0 0] ∧ b8 < bm ∧ bm + 1 = w'.heap.size ∧ bm = b1 + 2 ∧ Blk w' b1 [.int .u8 k, .int .i64 n, str s, .slice a l.length c] ∧ Blk w' b8 [.int .u8 0, .int .i64 0, str [], .slice none 0 0] ∧ rowSits (fun b => S b ∧ b < w.heap.size) w' l a ∧ Ext w w') ?_ ?_
  · focus
     (refine cw_tdraw (fun wz => Ext w9 wz) 9 (.pure 0 (.pure 1 (.pure 3 (.pure 4 (.pure 5 (.pure 6 (.fork 2 (.pure 7 (.fork 8 .tail .none)) (.fork 8 (.fork 2 (.pure 7 .tail) .none) .none)))))))) mixed (by kernel_rfl) (panicOk_then panicOk_body) ?_; intro wa1 xa2 _); have qsa3 : (fun wz => Ext w9 wz) wa1 := xa2; simp only at qsa3; have d_h12 := h12; have d_h4 := h4; have d_hs := hs; have za4 := xa2.size; replace h12 := h12.ext xa2; replace h4 := h4.ext xa2; replace X := X.ext xa2; replace hs := Bk.rowSits.ext hs xa2; clear xa2; refine ⟨qsa3, ?_⟩; refine tw_pure rfl (pur_fieldAddr0 tabOk rfl rfl rfl) rfl (tw_pure rfl (pur_load tabOk rfl rfl rfl (fun wz hz => Blk.cell (Blk.ext d_h4 hz) rfl)) rfl (tw_pure rfl (pur_fieldAddr tabOk rfl rfl rfl) rfl (tw_pure rfl (pur_load tabOk rfl rfl rfl (fun wz hz => Blk.cell (Blk.ext d_h4 hz) rfl)) rfl (tw_pure rfl (pur_fieldAddr tabOk rfl rfl rfl) rfl (tw_pure rfl (pur_load tabOk rfl rfl rfl (fun wz hz => Blk.cell (Blk.ext d_h4 hz) rfl)) rfl ?_))))); refine tw_does rfl (does_call (by kernel_rfl) rfl (rKind_c _ _ (by omega) (by omega)) (fun _ _ h => ⟨_, h.1⟩)) rfl ?_ (fun _ h => h) ?kra5; rintro _ wa6 ⟨⟨⟩, rfl⟩; refine ⟨qsa3, ?_⟩; refine tw_pure rfl (pur_build' [_, _, _, _] tabOk zOk rfl rfl rfl rfl) rfl ?_; (refine tw_does rfl (does_alloc zOk rfl) rfl ?_ (fun _ h => h) tw_none; rintro _ wa9 ⟨ba8, rfl, na10⟩); have ha11 := na10.blk; dsimp only at ha11; have xa12 := na10.ext; have pa13 := na10.pos; have za14 := na10.size; clear na10; replace qsa3 := qsa3.ext xa12
     replace h12 := h12.ext xa12; replace h4 := h4.ext xa12; replace X := X.ext xa12; replace hs := Bk.rowSits.ext hs xa12; clear xa12; refine ⟨qsa3, ?_⟩; clear d_h12 d_h4 d_hs qsa3; refine tw_tail rfl ?_; (refine lw_store' [_, _, _, _] [_, _, _, _] tabOk rfl rfl rfl rfl rfl rfl ha11 rfl rfl ?_; intro wa15 na16); have ha19 := na16.blk; have fa17 := na16.fr; have za18 := na16.size; clear na16 ha11; replace h12 := h12.fr fa17 (by omega); replace h4 := h4.fr fa17 (by omega); replace X := X.fr fa17 (by omega); replace hs := Bk.rowSits.fr hs fa17 (by omega); clear fa17; refine lw_nil ?_; rotate_left 1; (refine tw_does rfl (does_alloc zOk rfl) rfl ?_ (fun _ h => h) tw_none; rintro _ wa22 ⟨ba21, rfl, na23⟩); have ha24 := na23.blk; dsimp only at ha24; have xa25 := na23.ext; have pa26 := na23.pos; have za27 := na23.size; clear na23; replace qsa3 := qsa3.ext xa25; replace h12 := h12.ext xa25; replace h4 := h4.ext xa25; replace X := X.ext xa25; replace hs := Bk.rowSits.ext hs xa25; clear xa25; refine ⟨qsa3, ?_⟩; refine tw_does rfl (does_call (by kernel_rfl) rfl (rKind_c _ _ (by omega) (by omega)) (fun _ _ h => ⟨_, h.1⟩)) rfl ?_ (fun _ h => h) tw_none; rintro _ wa29 ⟨⟨⟩, rfl⟩; refine ⟨qsa3, ?_⟩; refine tw_pure rfl (pur_build' [_, _, _, _] tabOk zOk rfl rfl rfl rfl) rfl ?_; clear d_h12 d_h4 d_hs qsa3; refine tw_tail rfl ?_; (refine lw_store' [_, _, _, _] [_, _, _, _] tabOk rfl rfl rfl rfl rfl rfl ha24 rfl rfl ?_; intro wa30 na31); have ha34 := na31.blk; have fa32 := na31.fr; have za33 := na31.size
     clear na31 ha24; replace h12 := h12.fr fa32 (by omega); replace h4 := h4.fr fa32 (by omega); replace X := X.fr fa32 (by omega); replace hs := Bk.rowSits.fr hs fa32 (by omega); clear fa32; refine lw_nil ?_; rotate_left 1
    · have hq : wa1.heap.size = w9.heap.size := congrArg Array.size (by assumption)
      exact qw_meet ba8 (by (refine sub_cons rfl ?_; refine sub_cons rfl ?_; refine sub_cons rfl ?_; exact sub_nil)) ⟨ha19, by omega, by omega, by omega, h4, h12, hs, X⟩
    · have hq : wa1.heap.size = w9.heap.size := congrArg Array.size (by assumption)
      exact qw_meet ba21 (by (refine sub_cons rfl ?_; refine sub_cons rfl ?_; refine sub_cons rfl ?_; exact sub_nil)) ⟨ha34, by omega, by omega, by omega, h4, h12, hs, X⟩
  · clear h4 h12 hs X
    rintro bm w1 ⟨hbm, o1, o2, o3, hb1, hb8, hs, X⟩
    have hK : ∀ b, ((S b ∧ b < w.heap.size) ∨ w1.heap.size ≤ b) → (S b ∨ w.heap.size ≤ b) := fun b h => h.elim (fun h => Or.inl h.1) (fun h => Or.inr (by have := X.size; omega))
    by_cases hst : (Nd.mk k n s l).isStmt = true
    · cases stmt_shape hst with
      | @upd _ x y hk hx hy =>
       rw [inv_upd _ hk (place_isExpr hx) hy]; clear HC hv hst
       rcases hk with rfl | rfl | rfl | rfl
       · focus
          refine cS (lw_pure (pur_fieldAddr tabOk rfl rfl rfl) rfl (lw_load_b tabOk rfl rfl rfl hb1 rfl rfl (cA rfl rfl (cT (cw_seq (cS (lw_pure (pur_fieldAddr0 tabOk rfl rfl rfl) rfl (lw_load_b tabOk rfl rfl rfl hb1 rfl rfl (cT (cw_block (cw_seq ?_))))))))))); refine cS (lw_pure (pur_eql rfl rfl) rfl (cA rfl rfl (cT ?_))); refine cw_no rfl (by decide) ?_; refine cw_region (lw_pure (pur_eql rfl rfl) rfl (cA rfl rfl (cT ?_))); refine cw_no rfl (by decide) ?_; refine cS (lw_pure (pur_eql rfl rfl) rfl (cA rfl rfl (cT ?_))); refine cw_no rfl (by decide) ?_; refine cS (lw_pure (pur_eql rfl rfl) rfl (cA rfl rfl (cT ?_))); refine cw_no rfl (by decide) ?_; refine cS (lw_pure (pur_eql rfl rfl) rfl (cA rfl rfl (cT ?_))); refine cw_no rfl (by decide) ?_; refine cw_region (lw_pure (pur_fieldAddr tabOk rfl rfl rfl) rfl (lw_load_b tabOk rfl rfl rfl hbm rfl rfl (cM rfl rfl ?_))); refine lw_does (does_appendN tabOk zOk rfl rfl rfl rfl (by kernel_rfl) rfl rfl hs (by simp only [List.length_cons, List.length_nil]; omega)) rfl ?_ (fun _ h => h); rintro _ wb5 ⟨a'b1, ⟨c'b2, ⟨rfl, ⟨hb3, xb4⟩⟩⟩⟩; have zb6 := xb4.size; replace hb8 := hb8.ext xb4; replace X := X.ext xb4; replace hs := Bk.rowSits.ext hs xb4; replace hbm := hbm.ext xb4; replace hb1 := hb1.ext xb4; clear xb4; refine lw_pure (pur_fieldAddr tabOk rfl rfl rfl) rfl ?_; (refine lw_store' [_] [_, _, _, _] tabOk rfl rfl rfl rfl rfl rfl hbm rfl rfl ?_; intro wb7 nb8); have hb11 := nb8.blk; have fb9 := nb8.fr; have zb10 := nb8.size; clear nb8 hbm
          replace hb3 := Bk.rowSits.fr hb3 fb9 (by omega); replace hb8 := hb8.fr fb9 (by omega); replace X := X.fr fb9 (by omega); replace hs := Bk.rowSits.fr hs fb9 (by omega); replace hb1 := hb1.fr fb9 (by omega); clear fb9; refine lw_nil (qw_block_norm (qw_then (cS (lw_loads_b' [_, _, _, _] tabOk rfl rfl rfl hb11 rfl rfl rfl ?_)))); (refine lw_store' [_, _, _, _] [_, _, _, _] tabOk rfl rfl rfl rfl rfl rfl hb8 rfl rfl ?_; intro wb12 nb13); have hb16 := nb13.blk; have fb14 := nb13.fr; have zb15 := nb13.size; clear nb13 hb8; replace hb11 := hb11.fr fb14 (by omega); replace hb3 := Bk.rowSits.fr hb3 fb14 (by omega); replace X := X.fr fb14 (by omega); replace hs := Bk.rowSits.fr hs fb14 (by omega); replace hb1 := hb1.fr fb14 (by omega); clear fb14; refine cT (cw_ret (qw_retc rfl tabOk rfl rfl rfl hb16 rfl ?_)); rotate_left 1
         exact shareR_mk rfl (rowWide (by assumption) hK) X
       · focus
          refine cS (lw_pure (pur_fieldAddr tabOk rfl rfl rfl) rfl (lw_load_b tabOk rfl rfl rfl hb1 rfl rfl (cA rfl rfl (cT (cw_seq (cS (lw_pure (pur_fieldAddr0 tabOk rfl rfl rfl) rfl (lw_load_b tabOk rfl rfl rfl hb1 rfl rfl (cT (cw_block (cw_seq ?_))))))))))); refine cS (lw_pure (pur_eql rfl rfl) rfl (cA rfl rfl (cT ?_))); refine cw_no rfl (by decide) ?_; refine cw_region (lw_pure (pur_eql rfl rfl) rfl (cA rfl rfl (cT ?_))); refine cw_no rfl (by decide) ?_; refine cS (lw_pure (pur_eql rfl rfl) rfl (cA rfl rfl (cT ?_))); refine cw_no rfl (by decide) ?_; refine cS (lw_pure (pur_eql rfl rfl) rfl (cA rfl rfl (cT ?_))); refine cw_no rfl (by decide) ?_; refine cS (lw_pure (pur_eql rfl rfl) rfl (cA rfl rfl (cT ?_))); refine cw_no rfl (by decide) ?_; refine cw_region (lw_pure (pur_fieldAddr tabOk rfl rfl rfl) rfl (lw_load_b tabOk rfl rfl rfl hbm rfl rfl (cM rfl rfl ?_))); refine lw_does (does_appendN tabOk zOk rfl rfl rfl rfl (by kernel_rfl) rfl rfl hs (by simp only [List.length_cons, List.length_nil]; omega)) rfl ?_ (fun _ h => h); rintro _ wc5 ⟨a'c1, ⟨c'c2, ⟨rfl, ⟨hc3, xc4⟩⟩⟩⟩; have zc6 := xc4.size; replace hb8 := hb8.ext xc4; replace X := X.ext xc4; replace hs := Bk.rowSits.ext hs xc4; replace hbm := hbm.ext xc4; replace hb1 := hb1.ext xc4; clear xc4; refine lw_pure (pur_fieldAddr tabOk rfl rfl rfl) rfl ?_; (refine lw_store' [_] [_, _, _, _] tabOk rfl rfl rfl rfl rfl rfl hbm rfl rfl ?_; intro wc7 nc8); have hc11 := nc8.blk; have fc9 := nc8.fr; have zc10 := nc8.size; clear nc8 hbm
          replace hc3 := Bk.rowSits.fr hc3 fc9 (by omega); replace hb8 := hb8.fr fc9 (by omega); replace X := X.fr fc9 (by omega); replace hs := Bk.rowSits.fr hs fc9 (by omega); replace hb1 := hb1.fr fc9 (by omega); clear fc9; refine lw_nil (qw_block_norm (qw_then (cS (lw_loads_b' [_, _, _, _] tabOk rfl rfl rfl hc11 rfl rfl rfl ?_)))); (refine lw_store' [_, _, _, _] [_, _, _, _] tabOk rfl rfl rfl rfl rfl rfl hb8 rfl rfl ?_; intro wc12 nc13); have hc16 := nc13.blk; have fc14 := nc13.fr; have zc15 := nc13.size; clear nc13 hb8; replace hc11 := hc11.fr fc14 (by omega); replace hc3 := Bk.rowSits.fr hc3 fc14 (by omega); replace X := X.fr fc14 (by omega); replace hs := Bk.rowSits.fr hs fc14 (by omega); replace hb1 := hb1.fr fc14 (by omega); clear fc14; refine cT (cw_ret (qw_retc rfl tabOk rfl rfl rfl hc16 rfl ?_)); rotate_left 1
         exact shareR_mk rfl (rowWide (by assumption) hK) X
       · focus
          refine cS (lw_pure (pur_fieldAddr tabOk rfl rfl rfl) rfl (lw_load_b tabOk rfl rfl rfl hb1 rfl rfl (cA rfl rfl (cT (cw_seq (cS (lw_pure (pur_fieldAddr0 tabOk rfl rfl rfl) rfl (lw_load_b tabOk rfl rfl rfl hb1 rfl rfl (cT (cw_block (cw_seq ?_))))))))))); refine cS (lw_pure (pur_eql rfl rfl) rfl (cA rfl rfl (cT ?_))); refine cw_no rfl (by decide) ?_; refine cw_region (lw_pure (pur_eql rfl rfl) rfl (cA rfl rfl (cT ?_))); refine cw_no rfl (by decide) ?_; refine cS (lw_pure (pur_eql rfl rfl) rfl (cA rfl rfl (cT ?_))); refine cw_no rfl (by decide) ?_; refine cS (lw_pure (pur_eql rfl rfl) rfl (cA rfl rfl (cT ?_))); refine cw_no rfl (by decide) ?_; refine cS (lw_pure (pur_eql rfl rfl) rfl (cA rfl rfl (cT ?_))); refine cw_no rfl (by decide) ?_; refine cw_region (lw_pure (pur_fieldAddr tabOk rfl rfl rfl) rfl (lw_load_b tabOk rfl rfl rfl hbm rfl rfl (cM rfl rfl ?_))); refine lw_does (does_appendN tabOk zOk rfl rfl rfl rfl (by kernel_rfl) rfl rfl hs (by simp only [List.length_cons, List.length_nil]; omega)) rfl ?_ (fun _ h => h); rintro _ wd5 ⟨a'd1, ⟨c'd2, ⟨rfl, ⟨hd3, xd4⟩⟩⟩⟩; have zd6 := xd4.size; replace hb8 := hb8.ext xd4; replace X := X.ext xd4; replace hs := Bk.rowSits.ext hs xd4; replace hbm := hbm.ext xd4; replace hb1 := hb1.ext xd4; clear xd4; refine lw_pure (pur_fieldAddr tabOk rfl rfl rfl) rfl ?_; (refine lw_store' [_] [_, _, _, _] tabOk rfl rfl rfl rfl rfl rfl hbm rfl rfl ?_; intro wd7 nd8); have hd11 := nd8.blk; have fd9 := nd8.fr; have zd10 := nd8.size; clear nd8 hbm
          replace hd3 := Bk.rowSits.fr hd3 fd9 (by omega); replace hb8 := hb8.fr fd9 (by omega); replace X := X.fr fd9 (by omega); replace hs := Bk.rowSits.fr hs fd9 (by omega); replace hb1 := hb1.fr fd9 (by omega); clear fd9; refine lw_nil (qw_block_norm (qw_then (cS (lw_loads_b' [_, _, _, _] tabOk rfl rfl rfl hd11 rfl rfl rfl ?_)))); (refine lw_store' [_, _, _, _] [_, _, _, _] tabOk rfl rfl rfl rfl rfl rfl hb8 rfl rfl ?_; intro wd12 nd13); have hd16 := nd13.blk; have fd14 := nd13.fr; have zd15 := nd13.size; clear nd13 hb8; replace hd11 := hd11.fr fd14 (by omega); replace hd3 := Bk.rowSits.fr hd3 fd14 (by omega); replace X := X.fr fd14 (by omega); replace hs := Bk.rowSits.fr hs fd14 (by omega); replace hb1 := hb1.fr fd14 (by omega); clear fd14; refine cT (cw_ret (qw_retc rfl tabOk rfl rfl rfl hd16 rfl ?_)); rotate_left 1
         exact shareR_mk rfl (rowWide (by assumption) hK) X
       · focus
          refine cS (lw_pure (pur_fieldAddr tabOk rfl rfl rfl) rfl (lw_load_b tabOk rfl rfl rfl hb1 rfl rfl (cA rfl rfl (cT (cw_seq (cS (lw_pure (pur_fieldAddr0 tabOk rfl rfl rfl) rfl (lw_load_b tabOk rfl rfl rfl hb1 rfl rfl (cT (cw_block (cw_seq ?_))))))))))); refine cS (lw_pure (pur_eql rfl rfl) rfl (cA rfl rfl (cT ?_))); refine cw_no rfl (by decide) ?_; refine cw_region (lw_pure (pur_eql rfl rfl) rfl (cA rfl rfl (cT ?_))); refine cw_no rfl (by decide) ?_; refine cS (lw_pure (pur_eql rfl rfl) rfl (cA rfl rfl (cT ?_))); refine cw_no rfl (by decide) ?_; refine cS (lw_pure (pur_eql rfl rfl) rfl (cA rfl rfl (cT ?_))); refine cw_no rfl (by decide) ?_; refine cS (lw_pure (pur_eql rfl rfl) rfl (cA rfl rfl (cT ?_))); refine cw_no rfl (by decide) ?_; refine cw_region (lw_pure (pur_fieldAddr tabOk rfl rfl rfl) rfl (lw_load_b tabOk rfl rfl rfl hbm rfl rfl (cM rfl rfl ?_))); refine lw_does (does_appendN tabOk zOk rfl rfl rfl rfl (by kernel_rfl) rfl rfl hs (by simp only [List.length_cons, List.length_nil]; omega)) rfl ?_ (fun _ h => h); rintro _ we5 ⟨a'e1, ⟨c'e2, ⟨rfl, ⟨he3, xe4⟩⟩⟩⟩; have ze6 := xe4.size; replace hb8 := hb8.ext xe4; replace X := X.ext xe4; replace hs := Bk.rowSits.ext hs xe4; replace hbm := hbm.ext xe4; replace hb1 := hb1.ext xe4; clear xe4; refine lw_pure (pur_fieldAddr tabOk rfl rfl rfl) rfl ?_; (refine lw_store' [_] [_, _, _, _] tabOk rfl rfl rfl rfl rfl rfl hbm rfl rfl ?_; intro we7 ne8); have he11 := ne8.blk; have fe9 := ne8.fr; have ze10 := ne8.size; clear ne8 hbm
          replace he3 := Bk.rowSits.fr he3 fe9 (by omega); replace hb8 := hb8.fr fe9 (by omega); replace X := X.fr fe9 (by omega); replace hs := Bk.rowSits.fr hs fe9 (by omega); replace hb1 := hb1.fr fe9 (by omega); clear fe9; refine lw_nil (qw_block_norm (qw_then (cS (lw_loads_b' [_, _, _, _] tabOk rfl rfl rfl he11 rfl rfl rfl ?_)))); (refine lw_store' [_, _, _, _] [_, _, _, _] tabOk rfl rfl rfl rfl rfl rfl hb8 rfl rfl ?_; intro we12 ne13); have he16 := ne13.blk; have fe14 := ne13.fr; have ze15 := ne13.size; clear ne13 hb8; replace he11 := he11.fr fe14 (by omega); replace he3 := Bk.rowSits.fr he3 fe14 (by omega); replace X := X.fr fe14 (by omega); replace hs := Bk.rowSits.fr hs fe14 (by omega); replace hb1 := hb1.fr fe14 (by omega); clear fe14; refine cT (cw_ret (qw_retc rfl tabOk rfl rfl rfl he16 rfl ?_)); rotate_left 1
         exact shareR_mk rfl (rowWide (by assumption) hK) X
      | @swap x y hx hy =>
       rw [inv_swap _ (place_isExpr hx) (place_isExpr hy)]; clear HC hv hst
       focus
        refine cS (lw_pure (pur_fieldAddr tabOk rfl rfl rfl) rfl (lw_load_b tabOk rfl rfl rfl hb1 rfl rfl (cA rfl rfl (cT (cw_seq (cS (lw_pure (pur_fieldAddr0 tabOk rfl rfl rfl) rfl (lw_load_b tabOk rfl rfl rfl hb1 rfl rfl (cT (cw_block (cw_seq ?_))))))))))); refine cS (lw_pure (pur_eql rfl rfl) rfl (cA rfl rfl (cT ?_))); refine cw_no rfl (by decide) ?_; refine cw_region (lw_pure (pur_eql rfl rfl) rfl (cA rfl rfl (cT ?_))); refine cw_no rfl (by decide) ?_; refine cS (lw_pure (pur_eql rfl rfl) rfl (cA rfl rfl (cT ?_))); refine cw_no rfl (by decide) ?_; refine cS (lw_pure (pur_eql rfl rfl) rfl (cA rfl rfl (cT ?_))); refine cw_no rfl (by decide) ?_; refine cS (lw_pure (pur_eql rfl rfl) rfl (cA rfl rfl (cT ?_))); refine cw_no rfl (by decide) ?_; refine cw_region (lw_pure (pur_fieldAddr tabOk rfl rfl rfl) rfl (lw_load_b tabOk rfl rfl rfl hbm rfl rfl (cM rfl rfl ?_))); refine lw_does (does_appendN tabOk zOk rfl rfl rfl rfl (by kernel_rfl) rfl rfl hs (by simp only [List.length_cons, List.length_nil]; omega)) rfl ?_ (fun _ h => h); rintro _ wf5 ⟨a'f1, ⟨c'f2, ⟨rfl, ⟨hf3, xf4⟩⟩⟩⟩; have zf6 := xf4.size; replace hb8 := hb8.ext xf4; replace X := X.ext xf4; replace hbm := hbm.ext xf4; replace hs := Bk.rowSits.ext hs xf4; replace hb1 := hb1.ext xf4; clear xf4; refine lw_pure (pur_fieldAddr tabOk rfl rfl rfl) rfl ?_; (refine lw_store' [_] [_, _, _, _] tabOk rfl rfl rfl rfl rfl rfl hbm rfl rfl ?_; intro wf7 nf8); have hf11 := nf8.blk; have ff9 := nf8.fr; have zf10 := nf8.size; clear nf8 hbm; replace hf3 := Bk.rowSits.fr hf3 ff9 (by omega)
        replace hb8 := hb8.fr ff9 (by omega); replace X := X.fr ff9 (by omega); replace hs := Bk.rowSits.fr hs ff9 (by omega); replace hb1 := hb1.fr ff9 (by omega); clear ff9; refine lw_nil (qw_block_norm (qw_then (cS (lw_loads_b' [_, _, _, _] tabOk rfl rfl rfl hf11 rfl rfl rfl ?_)))); (refine lw_store' [_, _, _, _] [_, _, _, _] tabOk rfl rfl rfl rfl rfl rfl hb8 rfl rfl ?_; intro wf12 nf13); have hf16 := nf13.blk; have ff14 := nf13.fr; have zf15 := nf13.size; clear nf13 hb8; replace hf11 := hf11.fr ff14 (by omega); replace hf3 := Bk.rowSits.fr hf3 ff14 (by omega); replace X := X.fr ff14 (by omega); replace hs := Bk.rowSits.fr hs ff14 (by omega); replace hb1 := hb1.fr ff14 (by omega); clear ff14; refine cT (cw_ret (qw_retc rfl tabOk rfl rfl rfl hf16 rfl ?_)); rotate_left 1
       exact shareR_mk rfl (rowWide (by assumption) hK) X
      | @stack _ _ x hk hn hx =>
       rw [inv_one _ (by omega) (place_isExpr hx)]; clear HC hv hst
       rcases hk with rfl | rfl
       · focus
          refine cS (lw_pure (pur_fieldAddr tabOk rfl rfl rfl) rfl (lw_load_b tabOk rfl rfl rfl hb1 rfl rfl (cA rfl rfl (cT (cw_seq (cS (lw_pure (pur_fieldAddr0 tabOk rfl rfl rfl) rfl (lw_load_b tabOk rfl rfl rfl hb1 rfl rfl (cT (cw_block (cw_seq ?_))))))))))); refine cS (lw_pure (pur_eql rfl rfl) rfl (cA rfl rfl (cT ?_))); refine cw_no rfl (by decide) ?_; refine cw_region (lw_pure (pur_eql rfl rfl) rfl (cA rfl rfl (cT ?_))); refine cw_no rfl (by decide) ?_; refine cS (lw_pure (pur_eql rfl rfl) rfl (cA rfl rfl (cT ?_))); refine cw_no rfl (by decide) ?_; refine cS (lw_pure (pur_eql rfl rfl) rfl (cA rfl rfl (cT ?_))); refine cw_no rfl (by decide) ?_; refine cS (lw_pure (pur_eql rfl rfl) rfl (cA rfl rfl (cT ?_))); refine cw_no rfl (by decide) ?_; refine cw_region (lw_pure (pur_fieldAddr tabOk rfl rfl rfl) rfl (lw_load_b tabOk rfl rfl rfl hbm rfl rfl (cM rfl rfl ?_))); refine lw_does (does_appendN tabOk zOk rfl rfl rfl rfl (by kernel_rfl) rfl rfl hs (by simp only [List.length_cons, List.length_nil]; omega)) rfl ?_ (fun _ h => h); rintro _ wg5 ⟨a'g1, ⟨c'g2, ⟨rfl, ⟨hg3, xg4⟩⟩⟩⟩; have zg6 := xg4.size; replace hb8 := hb8.ext xg4; replace X := X.ext xg4; replace hs := Bk.rowSits.ext hs xg4; replace hbm := hbm.ext xg4; replace hb1 := hb1.ext xg4; clear xg4; refine lw_pure (pur_fieldAddr tabOk rfl rfl rfl) rfl ?_; (refine lw_store' [_] [_, _, _, _] tabOk rfl rfl rfl rfl rfl rfl hbm rfl rfl ?_; intro wg7 ng8); have hg11 := ng8.blk; have fg9 := ng8.fr; have zg10 := ng8.size; clear ng8 hbm
          replace hg3 := Bk.rowSits.fr hg3 fg9 (by omega); replace hb8 := hb8.fr fg9 (by omega); replace X := X.fr fg9 (by omega); replace hs := Bk.rowSits.fr hs fg9 (by omega); replace hb1 := hb1.fr fg9 (by omega); clear fg9; refine lw_nil (qw_block_norm (qw_then (cS (lw_loads_b' [_, _, _, _] tabOk rfl rfl rfl hg11 rfl rfl rfl ?_)))); (refine lw_store' [_, _, _, _] [_, _, _, _] tabOk rfl rfl rfl rfl rfl rfl hb8 rfl rfl ?_; intro wg12 ng13); have hg16 := ng13.blk; have fg14 := ng13.fr; have zg15 := ng13.size; clear ng13 hb8; replace hg11 := hg11.fr fg14 (by omega); replace hg3 := Bk.rowSits.fr hg3 fg14 (by omega); replace X := X.fr fg14 (by omega); replace hs := Bk.rowSits.fr hs fg14 (by omega); replace hb1 := hb1.fr fg14 (by omega); clear fg14; refine cT (cw_ret (qw_retc rfl tabOk rfl rfl rfl hg16 rfl ?_)); rotate_left 1
         exact shareR_mk rfl (rowWide (by assumption) hK) X
       · focus
          refine cS (lw_pure (pur_fieldAddr tabOk rfl rfl rfl) rfl (lw_load_b tabOk rfl rfl rfl hb1 rfl rfl (cA rfl rfl (cT (cw_seq (cS (lw_pure (pur_fieldAddr0 tabOk rfl rfl rfl) rfl (lw_load_b tabOk rfl rfl rfl hb1 rfl rfl (cT (cw_block (cw_seq ?_))))))))))); refine cS (lw_pure (pur_eql rfl rfl) rfl (cA rfl rfl (cT ?_))); refine cw_no rfl (by decide) ?_; refine cw_region (lw_pure (pur_eql rfl rfl) rfl (cA rfl rfl (cT ?_))); refine cw_no rfl (by decide) ?_; refine cS (lw_pure (pur_eql rfl rfl) rfl (cA rfl rfl (cT ?_))); refine cw_no rfl (by decide) ?_; refine cS (lw_pure (pur_eql rfl rfl) rfl (cA rfl rfl (cT ?_))); refine cw_no rfl (by decide) ?_; refine cS (lw_pure (pur_eql rfl rfl) rfl (cA rfl rfl (cT ?_))); refine cw_no rfl (by decide) ?_; refine cw_region (lw_pure (pur_fieldAddr tabOk rfl rfl rfl) rfl (lw_load_b tabOk rfl rfl rfl hbm rfl rfl (cM rfl rfl ?_))); refine lw_does (does_appendN tabOk zOk rfl rfl rfl rfl (by kernel_rfl) rfl rfl hs (by simp only [List.length_cons, List.length_nil]; omega)) rfl ?_ (fun _ h => h); rintro _ wh5 ⟨a'h1, ⟨c'h2, ⟨rfl, ⟨hh3, xh4⟩⟩⟩⟩; have zh6 := xh4.size; replace hb8 := hb8.ext xh4; replace X := X.ext xh4; replace hs := Bk.rowSits.ext hs xh4; replace hbm := hbm.ext xh4; replace hb1 := hb1.ext xh4; clear xh4; refine lw_pure (pur_fieldAddr tabOk rfl rfl rfl) rfl ?_; (refine lw_store' [_] [_, _, _, _] tabOk rfl rfl rfl rfl rfl rfl hbm rfl rfl ?_; intro wh7 nh8); have hh11 := nh8.blk; have fh9 := nh8.fr; have zh10 := nh8.size; clear nh8 hbm
          replace hh3 := Bk.rowSits.fr hh3 fh9 (by omega); replace hb8 := hb8.fr fh9 (by omega); replace X := X.fr fh9 (by omega); replace hs := Bk.rowSits.fr hs fh9 (by omega); replace hb1 := hb1.fr fh9 (by omega); clear fh9; refine lw_nil (qw_block_norm (qw_then (cS (lw_loads_b' [_, _, _, _] tabOk rfl rfl rfl hh11 rfl rfl rfl ?_)))); (refine lw_store' [_, _, _, _] [_, _, _, _] tabOk rfl rfl rfl rfl rfl rfl hb8 rfl rfl ?_; intro wh12 nh13); have hh16 := nh13.blk; have fh14 := nh13.fr; have zh15 := nh13.size; clear nh13 hb8; replace hh11 := hh11.fr fh14 (by omega); replace hh3 := Bk.rowSits.fr hh3 fh14 (by omega); replace X := X.fr fh14 (by omega); replace hs := Bk.rowSits.fr hs fh14 (by omega); replace hb1 := hb1.fr fh14 (by omega); clear fh14; refine cT (cw_ret (qw_retc rfl tabOk rfl rfl rfl hh16 rfl ?_)); rotate_left 1
         exact shareR_mk rfl (rowWide (by assumption) hK) X
      | @tape _ x hk hx =>
       rw [inv_one _ (by omega) (place_isExpr hx)]; clear HC hv hst
       rcases hk with rfl | rfl | rfl | rfl
       · focus
          refine cS (lw_pure (pur_fieldAddr tabOk rfl rfl rfl) rfl (lw_load_b tabOk rfl rfl rfl hb1 rfl rfl (cA rfl rfl (cT (cw_seq (cS (lw_pure (pur_fieldAddr0 tabOk rfl rfl rfl) rfl (lw_load_b tabOk rfl rfl rfl hb1 rfl rfl (cT (cw_block (cw_seq ?_))))))))))); refine cS (lw_pure (pur_eql rfl rfl) rfl (cA rfl rfl (cT ?_))); refine cw_no rfl (by decide) ?_; refine cw_region (lw_pure (pur_eql rfl rfl) rfl (cA rfl rfl (cT ?_))); refine cw_no rfl (by decide) ?_; refine cS (lw_pure (pur_eql rfl rfl) rfl (cA rfl rfl (cT ?_))); refine cw_no rfl (by decide) ?_; refine cS (lw_pure (pur_eql rfl rfl) rfl (cA rfl rfl (cT ?_))); refine cw_no rfl (by decide) ?_; refine cS (lw_pure (pur_eql rfl rfl) rfl (cA rfl rfl (cT ?_))); refine cw_no rfl (by decide) ?_; refine cw_region (lw_pure (pur_fieldAddr tabOk rfl rfl rfl) rfl (lw_load_b tabOk rfl rfl rfl hbm rfl rfl (cM rfl rfl ?_))); refine lw_does (does_appendN tabOk zOk rfl rfl rfl rfl (by kernel_rfl) rfl rfl hs (by simp only [List.length_cons, List.length_nil]; omega)) rfl ?_ (fun _ h => h); rintro _ wi5 ⟨a'i1, ⟨c'i2, ⟨rfl, ⟨hi3, xi4⟩⟩⟩⟩; have zi6 := xi4.size; replace hb8 := hb8.ext xi4; replace X := X.ext xi4; replace hs := Bk.rowSits.ext hs xi4; replace hbm := hbm.ext xi4; replace hb1 := hb1.ext xi4; clear xi4; refine lw_pure (pur_fieldAddr tabOk rfl rfl rfl) rfl ?_; (refine lw_store' [_] [_, _, _, _] tabOk rfl rfl rfl rfl rfl rfl hbm rfl rfl ?_; intro wi7 ni8); have hi11 := ni8.blk; have fi9 := ni8.fr; have zi10 := ni8.size; clear ni8 hbm
          replace hi3 := Bk.rowSits.fr hi3 fi9 (by omega); replace hb8 := hb8.fr fi9 (by omega); replace X := X.fr fi9 (by omega); replace hs := Bk.rowSits.fr hs fi9 (by omega); replace hb1 := hb1.fr fi9 (by omega); clear fi9; refine lw_nil (qw_block_norm (qw_then (cS (lw_loads_b' [_, _, _, _] tabOk rfl rfl rfl hi11 rfl rfl rfl ?_)))); (refine lw_store' [_, _, _, _] [_, _, _, _] tabOk rfl rfl rfl rfl rfl rfl hb8 rfl rfl ?_; intro wi12 ni13); have hi16 := ni13.blk; have fi14 := ni13.fr; have zi15 := ni13.size; clear ni13 hb8; replace hi11 := hi11.fr fi14 (by omega); replace hi3 := Bk.rowSits.fr hi3 fi14 (by omega); replace X := X.fr fi14 (by omega); replace hs := Bk.rowSits.fr hs fi14 (by omega); replace hb1 := hb1.fr fi14 (by omega); clear fi14; refine cT (cw_ret (qw_retc rfl tabOk rfl rfl rfl hi16 rfl ?_)); rotate_left 1
         exact shareR_mk rfl (rowWide (by assumption) hK) X
       · focus
          refine cS (lw_pure (pur_fieldAddr tabOk rfl rfl rfl) rfl (lw_load_b tabOk rfl rfl rfl hb1 rfl rfl (cA rfl rfl (cT (cw_seq (cS (lw_pure (pur_fieldAddr0 tabOk rfl rfl rfl) rfl (lw_load_b tabOk rfl rfl rfl hb1 rfl rfl (cT (cw_block (cw_seq ?_))))))))))); refine cS (lw_pure (pur_eql rfl rfl) rfl (cA rfl rfl (cT ?_))); refine cw_no rfl (by decide) ?_; refine cw_region (lw_pure (pur_eql rfl rfl) rfl (cA rfl rfl (cT ?_))); refine cw_no rfl (by decide) ?_; refine cS (lw_pure (pur_eql rfl rfl) rfl (cA rfl rfl (cT ?_))); refine cw_no rfl (by decide) ?_; refine cS (lw_pure (pur_eql rfl rfl) rfl (cA rfl rfl (cT ?_))); refine cw_no rfl (by decide) ?_; refine cS (lw_pure (pur_eql rfl rfl) rfl (cA rfl rfl (cT ?_))); refine cw_no rfl (by decide) ?_; refine cw_region (lw_pure (pur_fieldAddr tabOk rfl rfl rfl) rfl (lw_load_b tabOk rfl rfl rfl hbm rfl rfl (cM rfl rfl ?_))); refine lw_does (does_appendN tabOk zOk rfl rfl rfl rfl (by kernel_rfl) rfl rfl hs (by simp only [List.length_cons, List.length_nil]; omega)) rfl ?_ (fun _ h => h); rintro _ wj5 ⟨a'j1, ⟨c'j2, ⟨rfl, ⟨hj3, xj4⟩⟩⟩⟩; have zj6 := xj4.size; replace hb8 := hb8.ext xj4; replace X := X.ext xj4; replace hs := Bk.rowSits.ext hs xj4; replace hbm := hbm.ext xj4; replace hb1 := hb1.ext xj4; clear xj4; refine lw_pure (pur_fieldAddr tabOk rfl rfl rfl) rfl ?_; (refine lw_store' [_] [_, _, _, _] tabOk rfl rfl rfl rfl rfl rfl hbm rfl rfl ?_; intro wj7 nj8); have hj11 := nj8.blk; have fj9 := nj8.fr; have zj10 := nj8.size; clear nj8 hbm
          replace hj3 := Bk.rowSits.fr hj3 fj9 (by omega); replace hb8 := hb8.fr fj9 (by omega); replace X := X.fr fj9 (by omega); replace hs := Bk.rowSits.fr hs fj9 (by omega); replace hb1 := hb1.fr fj9 (by omega); clear fj9; refine lw_nil (qw_block_norm (qw_then (cS (lw_loads_b' [_, _, _, _] tabOk rfl rfl rfl hj11 rfl rfl rfl ?_)))); (refine lw_store' [_, _, _, _] [_, _, _, _] tabOk rfl rfl rfl rfl rfl rfl hb8 rfl rfl ?_; intro wj12 nj13); have hj16 := nj13.blk; have fj14 := nj13.fr; have zj15 := nj13.size; clear nj13 hb8; replace hj11 := hj11.fr fj14 (by omega); replace hj3 := Bk.rowSits.fr hj3 fj14 (by omega); replace X := X.fr fj14 (by omega); replace hs := Bk.rowSits.fr hs fj14 (by omega); replace hb1 := hb1.fr fj14 (by omega); clear fj14; refine cT (cw_ret (qw_retc rfl tabOk rfl rfl rfl hj16 rfl ?_)); rotate_left 1
         exact shareR_mk rfl (rowWide (by assumption) hK) X
       · focus
          refine cS (lw_pure (pur_fieldAddr tabOk rfl rfl rfl) rfl (lw_load_b tabOk rfl rfl rfl hb1 rfl rfl (cA rfl rfl (cT (cw_seq (cS (lw_pure (pur_fieldAddr0 tabOk rfl rfl rfl) rfl (lw_load_b tabOk rfl rfl rfl hb1 rfl rfl (cT (cw_block (cw_seq ?_))))))))))); refine cS (lw_pure (pur_eql rfl rfl) rfl (cA rfl rfl (cT ?_))); refine cw_no rfl (by decide) ?_; refine cw_region (lw_pure (pur_eql rfl rfl) rfl (cA rfl rfl (cT ?_))); refine cw_no rfl (by decide) ?_; refine cS (lw_pure (pur_eql rfl rfl) rfl (cA rfl rfl (cT ?_))); refine cw_no rfl (by decide) ?_; refine cS (lw_pure (pur_eql rfl rfl) rfl (cA rfl rfl (cT ?_))); refine cw_no rfl (by decide) ?_; refine cS (lw_pure (pur_eql rfl rfl) rfl (cA rfl rfl (cT ?_))); refine cw_no rfl (by decide) ?_; refine cw_region (lw_pure (pur_fieldAddr tabOk rfl rfl rfl) rfl (lw_load_b tabOk rfl rfl rfl hbm rfl rfl (cM rfl rfl ?_))); refine lw_does (does_appendN tabOk zOk rfl rfl rfl rfl (by kernel_rfl) rfl rfl hs (by simp only [List.length_cons, List.length_nil]; omega)) rfl ?_ (fun _ h => h); rintro _ wk5 ⟨a'k1, ⟨c'k2, ⟨rfl, ⟨hk3, xk4⟩⟩⟩⟩; have zk6 := xk4.size; replace hb8 := hb8.ext xk4; replace X := X.ext xk4; replace hs := Bk.rowSits.ext hs xk4; replace hbm := hbm.ext xk4; replace hb1 := hb1.ext xk4; clear xk4; refine lw_pure (pur_fieldAddr tabOk rfl rfl rfl) rfl ?_; (refine lw_store' [_] [_, _, _, _] tabOk rfl rfl rfl rfl rfl rfl hbm rfl rfl ?_; intro wk7 nk8); have hk11 := nk8.blk; have fk9 := nk8.fr; have zk10 := nk8.size; clear nk8 hbm
          replace hk3 := Bk.rowSits.fr hk3 fk9 (by omega); replace hb8 := hb8.fr fk9 (by omega); replace X := X.fr fk9 (by omega); replace hs := Bk.rowSits.fr hs fk9 (by omega); replace hb1 := hb1.fr fk9 (by omega); clear fk9; refine lw_nil (qw_block_norm (qw_then (cS (lw_loads_b' [_, _, _, _] tabOk rfl rfl rfl hk11 rfl rfl rfl ?_)))); (refine lw_store' [_, _, _, _] [_, _, _, _] tabOk rfl rfl rfl rfl rfl rfl hb8 rfl rfl ?_; intro wk12 nk13); have hk16 := nk13.blk; have fk14 := nk13.fr; have zk15 := nk13.size; clear nk13 hb8; replace hk11 := hk11.fr fk14 (by omega); replace hk3 := Bk.rowSits.fr hk3 fk14 (by omega); replace X := X.fr fk14 (by omega); replace hs := Bk.rowSits.fr hs fk14 (by omega); replace hb1 := hb1.fr fk14 (by omega); clear fk14; refine cT (cw_ret (qw_retc rfl tabOk rfl rfl rfl hk16 rfl ?_)); rotate_left 1
         exact shareR_mk rfl (rowWide (by assumption) hK) X
       · focus
          refine cS (lw_pure (pur_fieldAddr tabOk rfl rfl rfl) rfl (lw_load_b tabOk rfl rfl rfl hb1 rfl rfl (cA rfl rfl (cT (cw_seq (cS (lw_pure (pur_fieldAddr0 tabOk rfl rfl rfl) rfl (lw_load_b tabOk rfl rfl rfl hb1 rfl rfl (cT (cw_block (cw_seq ?_))))))))))); refine cS (lw_pure (pur_eql rfl rfl) rfl (cA rfl rfl (cT ?_))); refine cw_no rfl (by decide) ?_; refine cw_region (lw_pure (pur_eql rfl rfl) rfl (cA rfl rfl (cT ?_))); refine cw_no rfl (by decide) ?_; refine cS (lw_pure (pur_eql rfl rfl) rfl (cA rfl rfl (cT ?_))); refine cw_no rfl (by decide) ?_; refine cS (lw_pure (pur_eql rfl rfl) rfl (cA rfl rfl (cT ?_))); refine cw_no rfl (by decide) ?_; refine cS (lw_pure (pur_eql rfl rfl) rfl (cA rfl rfl (cT ?_))); refine cw_no rfl (by decide) ?_; refine cw_region (lw_pure (pur_fieldAddr tabOk rfl rfl rfl) rfl (lw_load_b tabOk rfl rfl rfl hbm rfl rfl (cM rfl rfl ?_))); refine lw_does (does_appendN tabOk zOk rfl rfl rfl rfl (by kernel_rfl) rfl rfl hs (by simp only [List.length_cons, List.length_nil]; omega)) rfl ?_ (fun _ h => h); rintro _ wl5 ⟨a'l1, ⟨c'l2, ⟨rfl, ⟨hl3, xl4⟩⟩⟩⟩; have zl6 := xl4.size; replace hb8 := hb8.ext xl4; replace X := X.ext xl4; replace hs := Bk.rowSits.ext hs xl4; replace hbm := hbm.ext xl4; replace hb1 := hb1.ext xl4; clear xl4; refine lw_pure (pur_fieldAddr tabOk rfl rfl rfl) rfl ?_; (refine lw_store' [_] [_, _, _, _] tabOk rfl rfl rfl rfl rfl rfl hbm rfl rfl ?_; intro wl7 nl8); have hl11 := nl8.blk; have fl9 := nl8.fr; have zl10 := nl8.size; clear nl8 hbm
          replace hl3 := Bk.rowSits.fr hl3 fl9 (by omega); replace hb8 := hb8.fr fl9 (by omega); replace X := X.fr fl9 (by omega); replace hs := Bk.rowSits.fr hs fl9 (by omega); replace hb1 := hb1.fr fl9 (by omega); clear fl9; refine lw_nil (qw_block_norm (qw_then (cS (lw_loads_b' [_, _, _, _] tabOk rfl rfl rfl hl11 rfl rfl rfl ?_)))); (refine lw_store' [_, _, _, _] [_, _, _, _] tabOk rfl rfl rfl rfl rfl rfl hb8 rfl rfl ?_; intro wl12 nl13); have hl16 := nl13.blk; have fl14 := nl13.fr; have zl15 := nl13.size; clear nl13 hb8; replace hl11 := hl11.fr fl14 (by omega); replace hl3 := Bk.rowSits.fr hl3 fl14 (by omega); replace X := X.fr fl14 (by omega); replace hs := Bk.rowSits.fr hs fl14 (by omega); replace hb1 := hb1.fr fl14 (by omega); clear fl14; refine cT (cw_ret (qw_retc rfl tabOk rfl rfl rfl hl16 rfl ?_)); rotate_left 1
         exact shareR_mk rfl (rowWide (by assumption) hK) X
      | @call _ _ _ hk hn hl ha =>
       rw [inv_call _ hk ha, if_neg (by decide)]; clear HC hv hst
       rcases hk with rfl | rfl
       · focus
          refine cS (lw_pure (pur_fieldAddr tabOk rfl rfl rfl) rfl (lw_load_b tabOk rfl rfl rfl hb1 rfl rfl (cA rfl rfl (cT (cw_seq (cS (lw_pure (pur_fieldAddr0 tabOk rfl rfl rfl) rfl (lw_load_b tabOk rfl rfl rfl hb1 rfl rfl (cT (cw_block (cw_seq ?_))))))))))); refine cS (lw_pure (pur_eql rfl rfl) rfl (cA rfl rfl (cT ?_))); refine cw_no rfl (by decide) ?_; refine cw_region (lw_pure (pur_eql rfl rfl) rfl (cA rfl rfl (cT ?_))); refine cw_no rfl (by decide) ?_; refine cS (lw_pure (pur_eql rfl rfl) rfl (cA rfl rfl (cT ?_))); refine cw_no rfl (by decide) ?_; refine cS (lw_pure (pur_eql rfl rfl) rfl (cA rfl rfl (cT ?_))); refine cw_no rfl (by decide) ?_; refine cS (lw_pure (pur_eql rfl rfl) rfl (cA rfl rfl (cT ?_))); refine cw_no rfl (by decide) ?_; refine cw_region (lw_pure (pur_fieldAddr tabOk rfl rfl rfl) rfl (lw_load_b tabOk rfl rfl rfl hbm rfl rfl (cM rfl rfl ?_))); refine lw_does (does_appendN tabOk zOk rfl rfl rfl rfl (by kernel_rfl) rfl rfl hs (by omega)) rfl ?_ (fun _ h => h); rintro _ wm5 ⟨a'm1, ⟨c'm2, ⟨rfl, ⟨hm3, xm4⟩⟩⟩⟩; have zm6 := xm4.size; replace hb8 := hb8.ext xm4; replace hs := Bk.rowSits.ext hs xm4; replace X := X.ext xm4; replace hbm := hbm.ext xm4; replace hb1 := hb1.ext xm4; clear xm4; refine lw_pure (pur_fieldAddr tabOk rfl rfl rfl) rfl ?_; (refine lw_store' [_] [_, _, _, _] tabOk rfl rfl rfl rfl rfl rfl hbm rfl rfl ?_; intro wm7 nm8); have hm11 := nm8.blk; have fm9 := nm8.fr; have zm10 := nm8.size; clear nm8 hbm; replace hm3 := Bk.rowSits.fr hm3 fm9 (by omega)
          replace hb8 := hb8.fr fm9 (by omega); replace hs := Bk.rowSits.fr hs fm9 (by omega); replace X := X.fr fm9 (by omega); replace hb1 := hb1.fr fm9 (by omega); clear fm9; refine lw_nil (qw_block_norm (qw_then (cS (lw_loads_b' [_, _, _, _] tabOk rfl rfl rfl hm11 rfl rfl rfl ?_)))); (refine lw_store' [_, _, _, _] [_, _, _, _] tabOk rfl rfl rfl rfl rfl rfl hb8 rfl rfl ?_; intro wm12 nm13); have hm16 := nm13.blk; have fm14 := nm13.fr; have zm15 := nm13.size; clear nm13 hb8; replace hm11 := hm11.fr fm14 (by omega); replace hm3 := Bk.rowSits.fr hm3 fm14 (by omega); replace hs := Bk.rowSits.fr hs fm14 (by omega); replace X := X.fr fm14 (by omega); replace hb1 := hb1.fr fm14 (by omega); clear fm14; refine cT (cw_ret (qw_retc rfl tabOk rfl rfl rfl hm16 rfl ?_)); rotate_left 1
         exact shareR_mk rfl (rowWide (by assumption) hK) X
       · focus
          refine cS (lw_pure (pur_fieldAddr tabOk rfl rfl rfl) rfl (lw_load_b tabOk rfl rfl rfl hb1 rfl rfl (cA rfl rfl (cT (cw_seq (cS (lw_pure (pur_fieldAddr0 tabOk rfl rfl rfl) rfl (lw_load_b tabOk rfl rfl rfl hb1 rfl rfl (cT (cw_block (cw_seq ?_))))))))))); refine cS (lw_pure (pur_eql rfl rfl) rfl (cA rfl rfl (cT ?_))); refine cw_no rfl (by decide) ?_; refine cw_region (lw_pure (pur_eql rfl rfl) rfl (cA rfl rfl (cT ?_))); refine cw_no rfl (by decide) ?_; refine cS (lw_pure (pur_eql rfl rfl) rfl (cA rfl rfl (cT ?_))); refine cw_no rfl (by decide) ?_; refine cS (lw_pure (pur_eql rfl rfl) rfl (cA rfl rfl (cT ?_))); refine cw_no rfl (by decide) ?_; refine cS (lw_pure (pur_eql rfl rfl) rfl (cA rfl rfl (cT ?_))); refine cw_no rfl (by decide) ?_; refine cw_region (lw_pure (pur_fieldAddr tabOk rfl rfl rfl) rfl (lw_load_b tabOk rfl rfl rfl hbm rfl rfl (cM rfl rfl ?_))); refine lw_does (does_appendN tabOk zOk rfl rfl rfl rfl (by kernel_rfl) rfl rfl hs (by omega)) rfl ?_ (fun _ h => h); rintro _ wn5 ⟨a'n1, ⟨c'n2, ⟨rfl, ⟨hn3, xn4⟩⟩⟩⟩; have zn6 := xn4.size; replace hb8 := hb8.ext xn4; replace hs := Bk.rowSits.ext hs xn4; replace X := X.ext xn4; replace hbm := hbm.ext xn4; replace hb1 := hb1.ext xn4; clear xn4; refine lw_pure (pur_fieldAddr tabOk rfl rfl rfl) rfl ?_; (refine lw_store' [_] [_, _, _, _] tabOk rfl rfl rfl rfl rfl rfl hbm rfl rfl ?_; intro wn7 nn8); have hn11 := nn8.blk; have fn9 := nn8.fr; have zn10 := nn8.size; clear nn8 hbm; replace hn3 := Bk.rowSits.fr hn3 fn9 (by omega)
          replace hb8 := hb8.fr fn9 (by omega); replace hs := Bk.rowSits.fr hs fn9 (by omega); replace X := X.fr fn9 (by omega); replace hb1 := hb1.fr fn9 (by omega); clear fn9; refine lw_nil (qw_block_norm (qw_then (cS (lw_loads_b' [_, _, _, _] tabOk rfl rfl rfl hn11 rfl rfl rfl ?_)))); (refine lw_store' [_, _, _, _] [_, _, _, _] tabOk rfl rfl rfl rfl rfl rfl hb8 rfl rfl ?_; intro wn12 nn13); have hn16 := nn13.blk; have fn14 := nn13.fr; have zn15 := nn13.size; clear nn13 hb8; replace hn11 := hn11.fr fn14 (by omega); replace hn3 := Bk.rowSits.fr hn3 fn14 (by omega); replace hs := Bk.rowSits.fr hs fn14 (by omega); replace X := X.fr fn14 (by omega); replace hb1 := hb1.fr fn14 (by omega); clear fn14; refine cT (cw_ret (qw_retc rfl tabOk rfl rfl rfl hn16 rfl ?_)); rotate_left 1
         exact shareR_mk rfl (rowWide (by assumption) hK) X
      | @branch _ x y z u hk hx hy hz hu =>
       rw [inv_branch _ hk hx hy hz hu]; have HY := Lib.hid (HC.out y (by simp only [rowSize]; omega) (Or.inr hy)); have HZ := Lib.hid (HC.out z (by simp only [rowSize]; omega) (Or.inr hz)); obtain ⟨kb, ko, rfl, kS, hkid⟩ := kidRows hs (by simp); obtain ⟨xa, xc, rx, sx⟩ := hkid 0 x rfl; obtain ⟨ya, yc, ry, sy⟩ := hkid 1 y rfl; obtain ⟨za, zc, rz, sz⟩ := hkid 2 z rfl; obtain ⟨ua, uc, ru, su⟩ := hkid 3 u rfl; clear hkid hs HC hv hst
       rcases hk with rfl | rfl
       · focus
          refine cS (lw_pure (pur_fieldAddr tabOk rfl rfl rfl) rfl (lw_load_b tabOk rfl rfl rfl hb1 rfl rfl (cA rfl rfl (cT (cw_seq (cS (lw_pure (pur_fieldAddr0 tabOk rfl rfl rfl) rfl (lw_load_b tabOk rfl rfl rfl hb1 rfl rfl (cT (cw_block (cw_seq ?_))))))))))); refine cS (lw_pure (pur_eql rfl rfl) rfl (cA rfl rfl (cT ?_))); refine cw_yes rfl (by decide) ?_; refine cw_skip (qw_then ?_); refine cw_yes rfl (by decide) ?_; (refine cw_tdraw (fun wz => Ext w1 wz) 14 (.pure 0 (.pure 1 (.pure 2 (.pure 3 (.pure 4 (.pure 5 (.pure 7 (.pure 8 (.pure 9 (.pure 11 (.pure 12 (.pure 13 (.fork 6 (.fork 10 .tail .none) .none))))))))))))) mixed (by kernel_rfl) (panicOk_block (panicOk_then panicOk_body)) ?_; intro wo1 xo2 _); have qso3 : (fun wz => Ext w1 wz) wo1 := xo2; simp only at qso3; have d_hb8 := hb8; have d_rx := rx; have d_sx := sx; have d_ry := ry; have d_sy := sy; have d_rz := rz; have d_sz := sz; have d_ru := ru; have d_su := su; have d_hbm := hbm; have d_hb1 := hb1; have zo4 := xo2.size; replace hb8 := hb8.ext xo2; replace X := X.ext xo2; replace rx := rx.ext xo2; replace sx := Nd.sits.ext sx xo2; replace ry := ry.ext xo2; replace sy := Nd.sits.ext sy xo2; replace rz := rz.ext xo2; replace sz := Nd.sits.ext sz xo2; replace ru := ru.ext xo2; replace su := Nd.sits.ext su xo2; replace hbm := hbm.ext xo2; replace hb1 := hb1.ext xo2; clear xo2; refine ⟨qso3, ?_⟩; refine tw_pure rfl (pur_move rfl) rfl ?_; refine tw_pure rfl (pur_indexAddr tabOk rfl rfl rfl rfl (by omega) (by simp only [List.length_cons, List.length_nil]; omega)) rfl ?_
          refine tw_pure rfl (pur_loads' tabOk rfl rfl rfl (fun wz hz => (Row.ext d_ru hz)) rfl) rfl (tw_pure rfl (pur_move rfl) rfl ?_); refine tw_pure rfl (pur_indexAddr tabOk rfl rfl rfl rfl (by omega) (by simp only [List.length_cons, List.length_nil]; omega)) rfl ?_; refine tw_pure rfl (pur_loads' tabOk rfl rfl rfl (fun wz hz => (Row.ext d_ry hz)) rfl) rfl (tw_pure rfl (pur_move rfl) rfl ?_); refine tw_pure rfl (pur_indexAddr tabOk rfl rfl rfl rfl (by omega) (by simp only [List.length_cons, List.length_nil]; omega)) rfl ?_; refine tw_pure rfl (pur_loads' tabOk rfl rfl rfl (fun wz hz => (Row.ext d_rz hz)) rfl) rfl (tw_pure rfl (pur_move rfl) rfl ?_); refine tw_pure rfl (pur_indexAddr tabOk rfl rfl rfl rfl (by omega) (by simp only [List.length_cons, List.length_nil]; omega)) rfl ?_; refine tw_pure rfl (pur_loads_row' [_, _, _, _] tabOk rfl rfl rfl (fun wz hz => (Row.ext d_rx hz)) rfl rfl) rfl ?_; refine tw_does rfl (does_call (by kernel_rfl) rfl (HY.out _ _ _ (by assumption)) (fun _ _ h => h.ret)) rfl ?_ (fun _ h => h) tw_none; rintro _ wo10 ⟨ao6, ⟨co7, ⟨⟨⟩, ⟨ho8, xo9⟩⟩⟩⟩; have zo11 := xo9.size; replace qso3 := qso3.ext xo9; replace hb8 := hb8.ext xo9; replace X := X.ext xo9; replace rx := rx.ext xo9; replace sx := Nd.sits.ext sx xo9; replace ry := ry.ext xo9; replace sy := Nd.sits.ext sy xo9; replace rz := rz.ext xo9; replace sz := Nd.sits.ext sz xo9; replace ru := ru.ext xo9; replace su := Nd.sits.ext su xo9; replace hbm := hbm.ext xo9; replace hb1 := hb1.ext xo9; clear xo9
          refine ⟨qso3, ?_⟩; refine tw_does rfl (does_call (by kernel_rfl) rfl (HZ.out _ _ _ (by assumption)) (fun _ _ h => h.ret)) rfl ?_ (fun _ h => h) tw_none; rintro _ wo17 ⟨ao13, ⟨co14, ⟨⟨⟩, ⟨ho15, xo16⟩⟩⟩⟩; have zo18 := xo16.size; replace ho8 := Nd.sits.ext ho8 xo16; replace qso3 := qso3.ext xo16; replace hb8 := hb8.ext xo16; replace X := X.ext xo16; replace rx := rx.ext xo16; replace sx := Nd.sits.ext sx xo16; replace ry := ry.ext xo16; replace sy := Nd.sits.ext sy xo16; replace rz := rz.ext xo16; replace sz := Nd.sits.ext sz xo16; replace ru := ru.ext xo16; replace su := Nd.sits.ext su xo16; replace hbm := hbm.ext xo16; replace hb1 := hb1.ext xo16; clear xo16; refine ⟨qso3, ?_⟩; clear d_hb8 d_rx d_sx d_ry d_sy d_rz d_sz d_ru d_su d_hbm d_hb1 qso3; refine tw_tail rfl ?_; (refine lw_does (does_slice' [_, _, _, _, _, _, _, _, _, _, _, _, _, _, _, _] tabOk zOk rfl rfl rfl rfl rfl rfl rfl rfl rfl) rfl ?_ (fun _ h => h); rintro _ wo20 ⟨bo19, rfl, no21, to22⟩); clear to22; have ho23 := no21.blk; have xo24 := no21.ext; have po25 := no21.pos; have zo26 := no21.size; clear no21; replace ho15 := Nd.sits.ext ho15 xo24; replace ho8 := Nd.sits.ext ho8 xo24; replace hb8 := hb8.ext xo24; replace X := X.ext xo24; replace rx := rx.ext xo24; replace sx := Nd.sits.ext sx xo24; replace ry := ry.ext xo24; replace sy := Nd.sits.ext sy xo24; replace rz := rz.ext xo24; replace sz := Nd.sits.ext sz xo24; replace ru := ru.ext xo24; replace su := Nd.sits.ext su xo24; replace hbm := hbm.ext xo24; replace hb1 := hb1.ext xo24
          clear xo24; refine lw_pure (pur_fieldAddr tabOk rfl rfl rfl) rfl ?_; (refine lw_store' [_] [_, _, _, _] tabOk rfl rfl rfl rfl rfl rfl hbm rfl rfl ?_; intro wo27 no28); have ho31 := no28.blk; have fo29 := no28.fr; have zo30 := no28.size; clear no28 hbm; replace ho23 := ho23.fr fo29 (by omega); replace ho15 := Nd.sits.fr ho15 fo29 (by omega); replace ho8 := Nd.sits.fr ho8 fo29 (by omega); replace hb8 := hb8.fr fo29 (by omega); replace X := X.fr fo29 (by omega); replace rx := Row.fr rx fo29 (by simp only; omega); replace sx := Nd.sits.fr sx fo29 (by omega); replace ry := Row.fr ry fo29 (by simp only; omega); replace sy := Nd.sits.fr sy fo29 (by omega); replace rz := Row.fr rz fo29 (by simp only; omega); replace sz := Nd.sits.fr sz fo29 (by omega); replace ru := Row.fr ru fo29 (by simp only; omega); replace su := Nd.sits.fr su fo29 (by omega); replace hb1 := hb1.fr fo29 (by omega); clear fo29; refine lw_nil (qw_block_norm (qw_then (cS (lw_loads_b' [_, _, _, _] tabOk rfl rfl rfl ho31 rfl rfl rfl ?_)))); (refine lw_store' [_, _, _, _] [_, _, _, _] tabOk rfl rfl rfl rfl rfl rfl hb8 rfl rfl ?_; intro wo32 no33); have ho36 := no33.blk; have fo34 := no33.fr; have zo35 := no33.size; clear no33 hb8; replace ho31 := ho31.fr fo34 (by omega); replace ho23 := ho23.fr fo34 (by omega); replace ho15 := Nd.sits.fr ho15 fo34 (by omega); replace ho8 := Nd.sits.fr ho8 fo34 (by omega); replace X := X.fr fo34 (by omega); replace rx := Row.fr rx fo34 (by simp only; omega); replace sx := Nd.sits.fr sx fo34 (by omega)
          replace ry := Row.fr ry fo34 (by simp only; omega); replace sy := Nd.sits.fr sy fo34 (by omega); replace rz := Row.fr rz fo34 (by simp only; omega); replace sz := Nd.sits.fr sz fo34 (by omega); replace ru := Row.fr ru fo34 (by simp only; omega); replace su := Nd.sits.fr su fo34 (by omega); replace hb1 := hb1.fr fo34 (by omega); clear fo34; refine cT (cw_ret (qw_retc rfl tabOk rfl rfl rfl ho36 rfl ?_)); rotate_left 1
         exact shareR_mk rfl (kids_sits (sits_4 (k := 52) (n := 0) (s := []) ho23 (Or.inr (by omega)) su (fun b h => Or.inl h.1) ho8 (fun b h => h.elim (fun h => Or.inl h.1) (fun h => Or.inr (by omega))) ho15 (fun b h => h.elim (fun h => Or.inl h.1) (fun h => Or.inr (by omega))) sx (fun b h => Or.inl h.1))) X
       · focus
          refine cS (lw_pure (pur_fieldAddr tabOk rfl rfl rfl) rfl (lw_load_b tabOk rfl rfl rfl hb1 rfl rfl (cA rfl rfl (cT (cw_seq (cS (lw_pure (pur_fieldAddr0 tabOk rfl rfl rfl) rfl (lw_load_b tabOk rfl rfl rfl hb1 rfl rfl (cT (cw_block (cw_seq ?_))))))))))); refine cS (lw_pure (pur_eql rfl rfl) rfl (cA rfl rfl (cT ?_))); refine cw_no rfl (by decide) ?_; refine cw_region (lw_pure (pur_eql rfl rfl) rfl (cA rfl rfl (cT ?_))); refine cw_yes rfl (by decide) ?_; (refine cw_tdraw (fun wz => Ext w1 wz) 14 (.pure 0 (.pure 1 (.pure 2 (.pure 3 (.pure 4 (.pure 5 (.pure 7 (.pure 8 (.pure 9 (.pure 11 (.pure 12 (.pure 13 (.fork 6 (.fork 10 .tail .none) .none))))))))))))) mixed (by kernel_rfl) (panicOk_block (panicOk_then panicOk_body)) ?_; intro wp1 xp2 _); have qsp3 : (fun wz => Ext w1 wz) wp1 := xp2; simp only at qsp3; have d_hb8 := hb8; have d_rx := rx; have d_sx := sx; have d_ry := ry; have d_sy := sy; have d_rz := rz; have d_sz := sz; have d_ru := ru; have d_su := su; have d_hbm := hbm; have d_hb1 := hb1; have zp4 := xp2.size; replace hb8 := hb8.ext xp2; replace X := X.ext xp2; replace rx := rx.ext xp2; replace sx := Nd.sits.ext sx xp2; replace ry := ry.ext xp2; replace sy := Nd.sits.ext sy xp2; replace rz := rz.ext xp2; replace sz := Nd.sits.ext sz xp2; replace ru := ru.ext xp2; replace su := Nd.sits.ext su xp2; replace hbm := hbm.ext xp2; replace hb1 := hb1.ext xp2; clear xp2; refine ⟨qsp3, ?_⟩; refine tw_pure rfl (pur_move rfl) rfl ?_; refine tw_pure rfl (pur_indexAddr tabOk rfl rfl rfl rfl (by omega) (by simp only [List.length_cons, List.length_nil]; omega)) rfl ?_
          refine tw_pure rfl (pur_loads' tabOk rfl rfl rfl (fun wz hz => (Row.ext d_ru hz)) rfl) rfl (tw_pure rfl (pur_move rfl) rfl ?_); refine tw_pure rfl (pur_indexAddr tabOk rfl rfl rfl rfl (by omega) (by simp only [List.length_cons, List.length_nil]; omega)) rfl ?_; refine tw_pure rfl (pur_loads' tabOk rfl rfl rfl (fun wz hz => (Row.ext d_ry hz)) rfl) rfl (tw_pure rfl (pur_move rfl) rfl ?_); refine tw_pure rfl (pur_indexAddr tabOk rfl rfl rfl rfl (by omega) (by simp only [List.length_cons, List.length_nil]; omega)) rfl ?_; refine tw_pure rfl (pur_loads' tabOk rfl rfl rfl (fun wz hz => (Row.ext d_rz hz)) rfl) rfl (tw_pure rfl (pur_move rfl) rfl ?_); refine tw_pure rfl (pur_indexAddr tabOk rfl rfl rfl rfl (by omega) (by simp only [List.length_cons, List.length_nil]; omega)) rfl ?_; refine tw_pure rfl (pur_loads_row' [_, _, _, _] tabOk rfl rfl rfl (fun wz hz => (Row.ext d_rx hz)) rfl rfl) rfl ?_; refine tw_does rfl (does_call (by kernel_rfl) rfl (HY.out _ _ _ (by assumption)) (fun _ _ h => h.ret)) rfl ?_ (fun _ h => h) tw_none; rintro _ wp10 ⟨ap6, ⟨cp7, ⟨⟨⟩, ⟨hp8, xp9⟩⟩⟩⟩; have zp11 := xp9.size; replace qsp3 := qsp3.ext xp9; replace hb8 := hb8.ext xp9; replace X := X.ext xp9; replace rx := rx.ext xp9; replace sx := Nd.sits.ext sx xp9; replace ry := ry.ext xp9; replace sy := Nd.sits.ext sy xp9; replace rz := rz.ext xp9; replace sz := Nd.sits.ext sz xp9; replace ru := ru.ext xp9; replace su := Nd.sits.ext su xp9; replace hbm := hbm.ext xp9; replace hb1 := hb1.ext xp9; clear xp9
          refine ⟨qsp3, ?_⟩; refine tw_does rfl (does_call (by kernel_rfl) rfl (HZ.out _ _ _ (by assumption)) (fun _ _ h => h.ret)) rfl ?_ (fun _ h => h) tw_none; rintro _ wp17 ⟨ap13, ⟨cp14, ⟨⟨⟩, ⟨hp15, xp16⟩⟩⟩⟩; have zp18 := xp16.size; replace hp8 := Nd.sits.ext hp8 xp16; replace qsp3 := qsp3.ext xp16; replace hb8 := hb8.ext xp16; replace X := X.ext xp16; replace rx := rx.ext xp16; replace sx := Nd.sits.ext sx xp16; replace ry := ry.ext xp16; replace sy := Nd.sits.ext sy xp16; replace rz := rz.ext xp16; replace sz := Nd.sits.ext sz xp16; replace ru := ru.ext xp16; replace su := Nd.sits.ext su xp16; replace hbm := hbm.ext xp16; replace hb1 := hb1.ext xp16; clear xp16; refine ⟨qsp3, ?_⟩; clear d_hb8 d_rx d_sx d_ry d_sy d_rz d_sz d_ru d_su d_hbm d_hb1 qsp3; refine tw_tail rfl ?_; (refine lw_does (does_slice' [_, _, _, _, _, _, _, _, _, _, _, _, _, _, _, _] tabOk zOk rfl rfl rfl rfl rfl rfl rfl rfl rfl) rfl ?_ (fun _ h => h); rintro _ wp20 ⟨bp19, rfl, np21, tp22⟩); clear tp22; have hp23 := np21.blk; have xp24 := np21.ext; have pp25 := np21.pos; have zp26 := np21.size; clear np21; replace hp15 := Nd.sits.ext hp15 xp24; replace hp8 := Nd.sits.ext hp8 xp24; replace hb8 := hb8.ext xp24; replace X := X.ext xp24; replace rx := rx.ext xp24; replace sx := Nd.sits.ext sx xp24; replace ry := ry.ext xp24; replace sy := Nd.sits.ext sy xp24; replace rz := rz.ext xp24; replace sz := Nd.sits.ext sz xp24; replace ru := ru.ext xp24; replace su := Nd.sits.ext su xp24; replace hbm := hbm.ext xp24; replace hb1 := hb1.ext xp24
          clear xp24; refine lw_pure (pur_fieldAddr tabOk rfl rfl rfl) rfl ?_; (refine lw_store' [_] [_, _, _, _] tabOk rfl rfl rfl rfl rfl rfl hbm rfl rfl ?_; intro wp27 np28); have hp31 := np28.blk; have fp29 := np28.fr; have zp30 := np28.size; clear np28 hbm; replace hp23 := hp23.fr fp29 (by omega); replace hp15 := Nd.sits.fr hp15 fp29 (by omega); replace hp8 := Nd.sits.fr hp8 fp29 (by omega); replace hb8 := hb8.fr fp29 (by omega); replace X := X.fr fp29 (by omega); replace rx := Row.fr rx fp29 (by simp only; omega); replace sx := Nd.sits.fr sx fp29 (by omega); replace ry := Row.fr ry fp29 (by simp only; omega); replace sy := Nd.sits.fr sy fp29 (by omega); replace rz := Row.fr rz fp29 (by simp only; omega); replace sz := Nd.sits.fr sz fp29 (by omega); replace ru := Row.fr ru fp29 (by simp only; omega); replace su := Nd.sits.fr su fp29 (by omega); replace hb1 := hb1.fr fp29 (by omega); clear fp29; refine lw_nil (qw_block_norm (qw_then (cS (lw_loads_b' [_, _, _, _] tabOk rfl rfl rfl hp31 rfl rfl rfl ?_)))); (refine lw_store' [_, _, _, _] [_, _, _, _] tabOk rfl rfl rfl rfl rfl rfl hb8 rfl rfl ?_; intro wp32 np33); have hp36 := np33.blk; have fp34 := np33.fr; have zp35 := np33.size; clear np33 hb8; replace hp31 := hp31.fr fp34 (by omega); replace hp23 := hp23.fr fp34 (by omega); replace hp15 := Nd.sits.fr hp15 fp34 (by omega); replace hp8 := Nd.sits.fr hp8 fp34 (by omega); replace X := X.fr fp34 (by omega); replace rx := Row.fr rx fp34 (by simp only; omega); replace sx := Nd.sits.fr sx fp34 (by omega)
          replace ry := Row.fr ry fp34 (by simp only; omega); replace sy := Nd.sits.fr sy fp34 (by omega); replace rz := Row.fr rz fp34 (by simp only; omega); replace sz := Nd.sits.fr sz fp34 (by omega); replace ru := Row.fr ru fp34 (by simp only; omega); replace su := Nd.sits.fr su fp34 (by omega); replace hb1 := hb1.fr fp34 (by omega); clear fp34; refine cT (cw_ret (qw_retc rfl tabOk rfl rfl rfl hp36 rfl ?_)); rotate_left 1
         exact shareR_mk rfl (kids_sits (sits_4 (k := 53) (n := 0) (s := []) hp23 (Or.inr (by omega)) su (fun b h => Or.inl h.1) hp8 (fun b h => h.elim (fun h => Or.inl h.1) (fun h => Or.inr (by omega))) hp15 (fun b h => h.elim (fun h => Or.inl h.1) (fun h => Or.inr (by omega))) sx (fun b h => Or.inl h.1))) X
      | @local_ _ x y z hn hx hy hz =>
       rw [inv_local _ hx hy hz]; have HY := Lib.hid (HC.out y (by simp only [rowSize]; omega) (Or.inr hy)); obtain ⟨kb, ko, rfl, kS, hkid⟩ := kidRows hs (by simp); obtain ⟨xa, xc, rx, sx⟩ := hkid 0 x rfl; obtain ⟨ya, yc, ry, sy⟩ := hkid 1 y rfl; obtain ⟨za, zc, rz, sz⟩ := hkid 2 z rfl; clear hkid hs HC hv hst
       focus
        refine cS (lw_pure (pur_fieldAddr tabOk rfl rfl rfl) rfl (lw_load_b tabOk rfl rfl rfl hb1 rfl rfl (cA rfl rfl (cT (cw_seq (cS (lw_pure (pur_fieldAddr0 tabOk rfl rfl rfl) rfl (lw_load_b tabOk rfl rfl rfl hb1 rfl rfl (cT (cw_block (cw_seq ?_))))))))))); refine cS (lw_pure (pur_eql rfl rfl) rfl (cA rfl rfl (cT ?_))); refine cw_no rfl (by decide) ?_; refine cw_region (lw_pure (pur_eql rfl rfl) rfl (cA rfl rfl (cT ?_))); refine cw_no rfl (by decide) ?_; refine cS (lw_pure (pur_eql rfl rfl) rfl (cA rfl rfl (cT ?_))); refine cw_yes rfl (by decide) ?_; (refine cw_tdraw (fun wz => Ext w1 wz) 10 (.pure 0 (.pure 1 (.pure 2 (.pure 3 (.pure 4 (.pure 5 (.pure 7 (.pure 8 (.pure 9 (.fork 6 .tail .none)))))))))) mixed (by kernel_rfl) (panicOk_block (panicOk_then panicOk_body)) ?_; intro wq1 xq2 _); have qsq3 : (fun wz => Ext w1 wz) wq1 := xq2; simp only at qsq3; have d_hb8 := hb8; have d_hbm := hbm; have d_hb1 := hb1; have d_rx := rx; have d_sx := sx; have d_ry := ry; have d_sy := sy; have d_rz := rz; have d_sz := sz; have zq4 := xq2.size; replace hb8 := hb8.ext xq2; replace X := X.ext xq2; replace hbm := hbm.ext xq2; replace hb1 := hb1.ext xq2; replace rx := rx.ext xq2; replace sx := Nd.sits.ext sx xq2; replace ry := ry.ext xq2; replace sy := Nd.sits.ext sy xq2; replace rz := rz.ext xq2; replace sz := Nd.sits.ext sz xq2; clear xq2; refine ⟨qsq3, ?_⟩; refine tw_pure rfl (pur_move rfl) rfl ?_; refine tw_pure rfl (pur_indexAddr tabOk rfl rfl rfl rfl (by omega) (by simp only [List.length_cons, List.length_nil]; omega)) rfl ?_
        refine tw_pure rfl (pur_loads' tabOk rfl rfl rfl (fun wz hz => (Row.ext d_rz hz)) rfl) rfl (tw_pure rfl (pur_move rfl) rfl ?_); refine tw_pure rfl (pur_indexAddr tabOk rfl rfl rfl rfl (by omega) (by simp only [List.length_cons, List.length_nil]; omega)) rfl ?_; refine tw_pure rfl (pur_loads' tabOk rfl rfl rfl (fun wz hz => (Row.ext d_ry hz)) rfl) rfl (tw_pure rfl (pur_move rfl) rfl ?_); refine tw_pure rfl (pur_indexAddr tabOk rfl rfl rfl rfl (by omega) (by simp only [List.length_cons, List.length_nil]; omega)) rfl ?_; refine tw_pure rfl (pur_loads_row' [_, _, _, _] tabOk rfl rfl rfl (fun wz hz => (Row.ext d_rx hz)) rfl rfl) rfl ?_; refine tw_does rfl (does_call (by kernel_rfl) rfl (HY.out _ _ _ (by assumption)) (fun _ _ h => h.ret)) rfl ?_ (fun _ h => h) tw_none; rintro _ wq10 ⟨aq6, ⟨cq7, ⟨⟨⟩, ⟨hq8, xq9⟩⟩⟩⟩; have zq11 := xq9.size; replace qsq3 := qsq3.ext xq9; replace hb8 := hb8.ext xq9; replace X := X.ext xq9; replace hbm := hbm.ext xq9; replace hb1 := hb1.ext xq9; replace rx := rx.ext xq9; replace sx := Nd.sits.ext sx xq9; replace ry := ry.ext xq9; replace sy := Nd.sits.ext sy xq9; replace rz := rz.ext xq9; replace sz := Nd.sits.ext sz xq9; clear xq9; refine ⟨qsq3, ?_⟩; clear d_hb8 d_hbm d_hb1 d_rx d_sx d_ry d_sy d_rz d_sz qsq3; refine tw_tail rfl ?_; (refine lw_does (does_slice' [_, _, _, _, _, _, _, _, _, _, _, _] tabOk zOk rfl rfl rfl rfl rfl rfl rfl rfl rfl) rfl ?_ (fun _ h => h); rintro _ wq13 ⟨bq12, rfl, nq14, tq15⟩); clear tq15; have hq16 := nq14.blk; have xq17 := nq14.ext
        have pq18 := nq14.pos; have zq19 := nq14.size; clear nq14; replace hq8 := Nd.sits.ext hq8 xq17; replace hb8 := hb8.ext xq17; replace X := X.ext xq17; replace hbm := hbm.ext xq17; replace hb1 := hb1.ext xq17; replace rx := rx.ext xq17; replace sx := Nd.sits.ext sx xq17; replace ry := ry.ext xq17; replace sy := Nd.sits.ext sy xq17; replace rz := rz.ext xq17; replace sz := Nd.sits.ext sz xq17; clear xq17; refine lw_pure (pur_fieldAddr tabOk rfl rfl rfl) rfl ?_; (refine lw_store' [_] [_, _, _, _] tabOk rfl rfl rfl rfl rfl rfl hbm rfl rfl ?_; intro wq20 nq21); have hq24 := nq21.blk; have fq22 := nq21.fr; have zq23 := nq21.size; clear nq21 hbm; replace hq16 := hq16.fr fq22 (by omega); replace hq8 := Nd.sits.fr hq8 fq22 (by omega); replace hb8 := hb8.fr fq22 (by omega); replace X := X.fr fq22 (by omega); replace hb1 := hb1.fr fq22 (by omega); replace rx := Row.fr rx fq22 (by simp only; omega); replace sx := Nd.sits.fr sx fq22 (by omega); replace ry := Row.fr ry fq22 (by simp only; omega); replace sy := Nd.sits.fr sy fq22 (by omega); replace rz := Row.fr rz fq22 (by simp only; omega); replace sz := Nd.sits.fr sz fq22 (by omega); clear fq22; refine lw_nil (qw_block_norm (qw_then (cS (lw_loads_b' [_, _, _, _] tabOk rfl rfl rfl hq24 rfl rfl rfl ?_)))); (refine lw_store' [_, _, _, _] [_, _, _, _] tabOk rfl rfl rfl rfl rfl rfl hb8 rfl rfl ?_; intro wq25 nq26); have hq29 := nq26.blk; have fq27 := nq26.fr; have zq28 := nq26.size; clear nq26 hb8; replace hq24 := hq24.fr fq27 (by omega)
        replace hq16 := hq16.fr fq27 (by omega); replace hq8 := Nd.sits.fr hq8 fq27 (by omega); replace X := X.fr fq27 (by omega); replace hb1 := hb1.fr fq27 (by omega); replace rx := Row.fr rx fq27 (by simp only; omega); replace sx := Nd.sits.fr sx fq27 (by omega); replace ry := Row.fr ry fq27 (by simp only; omega); replace sy := Nd.sits.fr sy fq27 (by omega); replace rz := Row.fr rz fq27 (by simp only; omega); replace sz := Nd.sits.fr sz fq27 (by omega); clear fq27; refine cT (cw_ret (qw_retc rfl tabOk rfl rfl rfl hq29 rfl ?_)); rotate_left 1
       exact shareR_mk rfl (kids_sits (sits_3 (k := 54) (n := 0) (s := s) hq16 (Or.inr (by omega)) sz (fun b h => Or.inl h.1) hq8 (fun b h => h.elim (fun h => Or.inl h.1) (fun h => Or.inr (by omega))) sx (fun b h => Or.inl h.1))) X
      | @lstack _ x hn hx =>
       rw [inv_lstack _ hx]; have HY := Lib.hid (HC.out x (by simp only [rowSize]; omega) (Or.inr hx)); obtain ⟨kb, ko, rfl, kS, hkid⟩ := kidRows hs (by simp); obtain ⟨xa, xc, rx, sx⟩ := hkid 0 x rfl; clear hkid hs HC hv hst
       focus
        refine cS (lw_pure (pur_fieldAddr tabOk rfl rfl rfl) rfl (lw_load_b tabOk rfl rfl rfl hb1 rfl rfl (cA rfl rfl (cT (cw_seq (cS (lw_pure (pur_fieldAddr0 tabOk rfl rfl rfl) rfl (lw_load_b tabOk rfl rfl rfl hb1 rfl rfl (cT (cw_block (cw_seq ?_))))))))))); refine cS (lw_pure (pur_eql rfl rfl) rfl (cA rfl rfl (cT ?_))); refine cw_no rfl (by decide) ?_; refine cw_region (lw_pure (pur_eql rfl rfl) rfl (cA rfl rfl (cT ?_))); refine cw_no rfl (by decide) ?_; refine cS (lw_pure (pur_eql rfl rfl) rfl (cA rfl rfl (cT ?_))); refine cw_no rfl (by decide) ?_; refine cS (lw_pure (pur_eql rfl rfl) rfl (cA rfl rfl (cT ?_))); refine cw_yes rfl (by decide) ?_; refine cw_region (cM rfl rfl ?_); refine lw_pure (pur_indexAddr tabOk rfl rfl rfl rfl (by omega) (by simp only [List.length_cons, List.length_nil]; omega)) rfl ?_; refine lw_loads_r' [_, _, _, _] tabOk rfl rfl rfl rx rfl rfl rfl ?_; refine cR (by kernel_rfl) rfl (HY.out _ _ _ (by assumption)) (fun _ _ h => h.ret) rfl ?_; rintro _ wr5 ⟨ar1, ⟨cr2, ⟨⟨⟩, ⟨hr3, xr4⟩⟩⟩⟩; have zr6 := xr4.size; replace hb8 := hb8.ext xr4; replace X := X.ext xr4; replace hbm := hbm.ext xr4; replace hb1 := hb1.ext xr4; replace rx := rx.ext xr4; replace sx := Nd.sits.ext sx xr4; clear xr4; (refine lw_does (does_slice' [_, _, _, _] tabOk zOk rfl rfl rfl rfl rfl rfl rfl rfl rfl) rfl ?_ (fun _ h => h); rintro _ wr8 ⟨br7, rfl, nr9, tr10⟩); clear tr10; have hr11 := nr9.blk; have xr12 := nr9.ext; have pr13 := nr9.pos; have zr14 := nr9.size; clear nr9; replace hr3 := Nd.sits.ext hr3 xr12
        replace hb8 := hb8.ext xr12; replace X := X.ext xr12; replace hbm := hbm.ext xr12; replace hb1 := hb1.ext xr12; replace rx := rx.ext xr12; replace sx := Nd.sits.ext sx xr12; clear xr12; refine lw_pure (pur_fieldAddr tabOk rfl rfl rfl) rfl ?_; (refine lw_store' [_] [_, _, _, _] tabOk rfl rfl rfl rfl rfl rfl hbm rfl rfl ?_; intro wr15 nr16); have hr19 := nr16.blk; have fr17 := nr16.fr; have zr18 := nr16.size; clear nr16 hbm; replace hr11 := hr11.fr fr17 (by omega); replace hr3 := Nd.sits.fr hr3 fr17 (by omega); replace hb8 := hb8.fr fr17 (by omega); replace X := X.fr fr17 (by omega); replace hb1 := hb1.fr fr17 (by omega); replace rx := Row.fr rx fr17 (by simp only; omega); replace sx := Nd.sits.fr sx fr17 (by omega); clear fr17; refine lw_nil (qw_block_norm (qw_then (cS (lw_loads_b' [_, _, _, _] tabOk rfl rfl rfl hr19 rfl rfl rfl ?_)))); (refine lw_store' [_, _, _, _] [_, _, _, _] tabOk rfl rfl rfl rfl rfl rfl hb8 rfl rfl ?_; intro wr20 nr21); have hr24 := nr21.blk; have fr22 := nr21.fr; have zr23 := nr21.size; clear nr21 hb8; replace hr19 := hr19.fr fr22 (by omega); replace hr11 := hr11.fr fr22 (by omega); replace hr3 := Nd.sits.fr hr3 fr22 (by omega); replace X := X.fr fr22 (by omega); replace hb1 := hb1.fr fr22 (by omega); replace rx := Row.fr rx fr22 (by simp only; omega); replace sx := Nd.sits.fr sx fr22 (by omega); clear fr22; refine cT (cw_ret (qw_retc rfl tabOk rfl rfl rfl hr24 rfl ?_)); rotate_left 1
       exact shareR_mk rfl (kids_sits (sits_1 (k := 55) (n := 0) (s := s) hr11 (Or.inr (by omega)) hr3 (fun b h => h.elim (fun h => Or.inl h.1) (fun h => Or.inr (by omega))))) X
    · have hb : (Nd.mk k n s l).isBlock = true := hv.resolve_left hst
      obtain ⟨e, hr⟩ := block_kind hb; simp only [Nd.kids, Nd.mk.injEq, and_true] at e hr; obtain ⟨rfl, rfl, rfl⟩ := e; rw [inv_block]; have hall := rowStmt_iff.1 hr; clear hst hv hb hr
      focus
       refine cS (lw_pure (pur_fieldAddr tabOk rfl rfl rfl) rfl (lw_load_b tabOk rfl rfl rfl hb1 rfl rfl (cA rfl rfl (cT (cw_seq (cS (lw_pure (pur_fieldAddr0 tabOk rfl rfl rfl) rfl (lw_load_b tabOk rfl rfl rfl hb1 rfl rfl (cT (cw_block (cw_seq ?_))))))))))); refine cS (lw_pure (pur_eql rfl rfl) rfl (cA rfl rfl (cT ?_))); refine cw_no rfl (by decide) ?_; refine cw_region (lw_pure (pur_eql rfl rfl) rfl (cA rfl rfl (cT ?_))); refine cw_no rfl (by decide) ?_; refine cS (lw_pure (pur_eql rfl rfl) rfl (cA rfl rfl (cT ?_))); refine cw_no rfl (by decide) ?_; refine cS (lw_pure (pur_eql rfl rfl) rfl (cA rfl rfl (cT ?_))); refine cw_no rfl (by decide) ?_; refine cS (lw_pure (pur_eql rfl rfl) rfl (cA rfl rfl (cT ?_))); refine cw_yes rfl (by decide) ?_; refine cS (cM rfl rfl (lw_pure (pur_len_slice tabOk rfl rfl) rfl ?_)); refine lw_pure (pur_sub rfl rfl (IntWalk.i64_in _ (by omega))) rfl ?_; refine cA rfl rfl (cT (cw_block ?_)); rotate_left 1
      refine cw_loop (ι := Nat × List Nd × Option Addr × Nat) (fun x => [(1, .pointer (some ⟨b1, 0, none⟩)), (2, .pointer (some ⟨b8, 0, none⟩)), (3, .pointer (some ⟨bm, 0, none⟩)), (4, .slice a l.length c), (5, .int .i64 ((x.1 : Int) - 1))])
       (fun x w' => OwnM ndShape w' (fun b => S b ∧ b < w.heap.size) (bm + 1) 24 (.slice x.2.2.1 x.2.1.length x.2.2.2) x.2.1 ∧ x.2.1 = (rowInv false (l.drop x.1)).reverse ∧ x.1 ≤ l.length ∧ Blk w' bm [.int .u8 (exch 57), .int .i64 0, str [], .slice x.2.2.1 x.2.1.length x.2.2.2] ∧ Blk w' b1 [.int .u8 57, .int .i64 0, str [], .slice a l.length c] ∧ Blk w' b8 [.int .u8 0, .int .i64 0, str [], .slice none 0 0] ∧ rowSits (fun b => S b ∧ b < w.heap.size) w' l a ∧ Ext w w' ∧ bm + 1 ≤ w'.heap.size)
       (fun x => x.1) (l.length, [], none, 0) (by (refine sub_cons rfl ?_; refine sub_cons rfl ?_; refine sub_cons rfl ?_; refine sub_cons rfl ?_; refine sub_cons rfl ?_; exact sub_nil)) ⟨OwnM.nil, by simp [rowInv], Nat.le_refl _, hbm, hb1, hb8, hs, X, by omega⟩ ?_
      clear hbm hb1 hb8 hs X hK; rintro ⟨r, xs, ra, rc⟩ w2 ⟨hown, hxs, hr, hbm, hb1, hb8, hs, X, hz⟩; simp only at hown hxs hr hbm
      have hob : ∀ g, (Value.slice ra xs.length rc).ownBlock = some g → bm + 1 ≤ g ∧ g < w2.heap.size := fun g h => ⟨hown.ge h, hown.lt h⟩
      have hxl : xs.length ≤ l.length := by rw [hxs, List.length_reverse, rowInv_len, List.length_drop]; omega
      refine CW.sub (m := [(1, .pointer (some ⟨b1, 0, none⟩)), (2, .pointer (some ⟨b8, 0, none⟩)), (3, .pointer (some ⟨bm, 0, none⟩)), (4, .slice a l.length c), (5, .int .i64 ((r : Int) - 1))]) ?_ (by (refine sub_cons rfl ?_; refine sub_cons rfl ?_; refine sub_cons rfl ?_; refine sub_cons rfl ?_; refine sub_cons rfl ?_; exact sub_nil))
      by_cases h0 : r = 0
      · subst h0
        rw [List.drop_zero] at hxs
        focus
         refine cw_seq (cS (cM rfl rfl (lw_pure (pur_geq rfl rfl) rfl (cT ?_)))); refine cw_no rfl (by decide) ?_; refine cw_exit (qw_then_exit (qw_then_exit (qw_block_exit (qw_block_norm (qw_then (cS (lw_loads_b' [_, _, _, _] tabOk rfl rfl rfl hbm rfl rfl rfl ?_))))))); (refine lw_store' [_, _, _, _] [_, _, _, _] tabOk rfl rfl rfl rfl rfl rfl hb8 rfl rfl ?_; intro wt1 nt2); have ht5 := nt2.blk; have ft3 := nt2.fr; have zt4 := nt2.size; clear nt2 hb8; replace hown := hown.fr ft3 (by omega); replace hbm := hbm.fr ft3 (by omega); replace hb1 := hb1.fr ft3 (by omega); replace hs := Bk.rowSits.fr hs ft3 (by omega); replace X := X.fr ft3 (by omega); clear ft3; refine cT (cw_ret (qw_retc rfl tabOk rfl rfl rfl ht5 rfl ?_)); rotate_left 1
        exact shareR_mk (by rw [← hxs]) (by rw [← hxs]; exact hown.sits (fun b h => h.elim (fun h => Or.inl h.1) (fun h => Or.inr (by omega)))) X
      · obtain ⟨kb, ko, rfl, kS, hkid⟩ := kidRows hs (by intro e; subst e; simp at hr; omega)
        have kS2 : kb < w.heap.size := kS.2
        have hlt : r - 1 < l.length := by omega
        obtain ⟨xa, xc, rx, sx⟩ := hkid (r - 1) l[r - 1] (List.getElem?_eq_getElem hlt); have hsz := size_memA (List.getElem_mem hlt); have HY := Lib.hid (HC.out l[r - 1] hsz (Or.inl (hall _ (List.getElem_mem hlt))))
        have hnext : xs ++ [(l[r - 1]).inv false] = (rowInv false (l.drop (r - 1))).reverse := by
         rw [hxs, rowInv_snoc false l (r - 1) hlt, List.reverse_cons, show r - 1 + 1 = r by omega]
        have em : ((r : Int) - 1).toNat = r - 1 := by omega
        clear hkid HC hxs hall kS
        generalize l[r - 1] = x at *
        replace rx : Row w2 ⟨kb, ko + ((r : Int) - 1).toNat * 4, none⟩ (x.cells xa xc) := by rw [em]; exact rx
        have hin : ∀ m b : Nat, w2.heap.size ≤ m → ((S b ∧ b < w.heap.size) ∨ m ≤ b) → (((S b ∧ b < w.heap.size) ∨ bm + 1 ≤ b) ∧ (Value.slice ra xs.length rc).ownBlock ≠ some b) := fun m b hm h => by
         rcases h with h | h
         · exact ⟨Or.inl h, fun e => by have := hob _ e; omega⟩
         · exact ⟨Or.inr (by omega), fun e => by have := hob _ e; omega⟩
        focus
         refine cw_seq (cS (cM rfl rfl (lw_pure (pur_geq rfl rfl) rfl (cT ?_)))); refine cw_yes rfl (by omega) ?_; refine cw_skip (qw_then (cw_seq (cw_block ?_))); (refine cw_tdraw (fun wz => Fr (bm + 1 ≤ ·) w2 wz) 8 (.pure 0 (.pure 1 (.pure 2 (.pure 3 (.pure 4 (.pure 5 (.fork 6 (.fork 7 .tail .none) .none))))))) mixed (by kernel_rfl) (panicOk_block (panicOk_then (panicOk_then (panicOk_block (panicOk_block (panicOk_then panicOk_body)))))) ?_; intro wu1 xu2 _); have qsu3 : (fun wz => Fr (bm + 1 ≤ ·) w2 wz) wu1 := Fr.of_ext xu2; simp only at qsu3; have d_hown := hown; have d_hbm := hbm; have d_hb8 := hb8; have d_hb1 := hb1; have d_hs := hs; have d_sx := sx; have d_rx := rx; have zu4 := xu2.size; replace hown := hown.ext xu2; replace hbm := hbm.ext xu2; replace hb8 := hb8.ext xu2; replace X := X.ext xu2; replace hb1 := hb1.ext xu2; replace hs := Bk.rowSits.ext hs xu2; replace sx := Nd.sits.ext sx xu2; replace rx := rx.ext xu2; clear xu2; refine ⟨qsu3, ?_⟩; refine tw_pure rfl (pur_fieldAddr tabOk rfl rfl rfl) rfl ?_; refine tw_pure rfl (pur_load tabOk rfl rfl rfl (fun wz hz => Blk.cell (Blk.fr d_hbm hz (by first | omega | (dsimp only; omega))) rfl)) rfl ?_; refine tw_pure rfl (pur_move rfl) rfl (tw_pure rfl (pur_move rfl) rfl ?_); refine tw_pure rfl (pur_indexAddr tabOk rfl rfl rfl rfl (by omega) (by omega)) rfl ?_; refine tw_pure rfl (pur_loads' tabOk rfl rfl rfl (fun wz hz => (Row.fr d_rx hz (by first | omega | (dsimp only; omega)))) rfl) rfl ?_; refine tw_does rfl (does_call (by kernel_rfl) rfl (HY.out _ _ _ (by assumption)) (fun _ _ h => h.ret)) rfl ?_ (fun _ h => h) tw_none
         rintro _ wu10 ⟨au6, ⟨cu7, ⟨⟨⟩, ⟨hu8, xu9⟩⟩⟩⟩; have zu11 := xu9.size; replace qsu3 := qsu3.ext xu9; replace hown := hown.ext xu9; replace hbm := hbm.ext xu9; replace hb8 := hb8.ext xu9; replace X := X.ext xu9; replace hb1 := hb1.ext xu9; replace hs := Bk.rowSits.ext hs xu9; replace sx := Nd.sits.ext sx xu9; replace rx := rx.ext xu9; clear xu9; refine ⟨qsu3, ?_⟩; (refine tw_does rfl (does_slice' [_, _, _, _] tabOk zOk rfl rfl rfl rfl rfl rfl rfl rfl rfl) rfl ?_ (fun _ h => h) tw_none; rintro _ wu14 ⟨bu13, rfl, nu15, tu16⟩); clear tu16; have hu17 := nu15.blk; have xu18 := nu15.ext; have pu19 := nu15.pos; have zu20 := nu15.size; clear nu15; replace hu8 := Nd.sits.ext hu8 xu18; replace qsu3 := qsu3.ext xu18; replace hown := hown.ext xu18; replace hbm := hbm.ext xu18; replace hb8 := hb8.ext xu18; replace X := X.ext xu18; replace hb1 := hb1.ext xu18; replace hs := Bk.rowSits.ext hs xu18; replace sx := Nd.sits.ext sx xu18; replace rx := rx.ext xu18; clear xu18; refine ⟨qsu3, ?_⟩; clear d_hown d_hbm d_hb8 d_hb1 d_hs d_sx d_rx qsu3; refine tw_tail rfl ?_; refine lw_does (does_appendM (sh := ndShape) (z := x.inv false) tabOk zOk rfl rfl rfl rfl (by kernel_rfl) rfl rfl rfl (by assumption) (Blk.row (by assumption)) ⟨_, _, rfl, Nd.sits.wide (by assumption) (fun b h => hin _ b (by omega) h)⟩ (by omega) (by omega)) rfl ?_ (fun _ h => h); rintro _ wu25 ⟨gu21, ⟨capu22, ⟨rfl, ⟨hu23, fu24⟩⟩⟩⟩; have zu26 := fu24.size; clear hu17 hu8 hown; replace hbm := hbm.fr fu24 (by omega); replace hb8 := hb8.fr fu24 (by omega)
         replace X := X.fr fu24 (by omega); replace hb1 := hb1.fr fu24 (by omega); replace hs := Bk.rowSits.fr hs fu24 (by omega); replace sx := Nd.sits.fr sx fu24 (by omega); replace rx := Row.fr rx fu24 (by simp only; omega); clear fu24; refine lw_pure (pur_fieldAddr tabOk rfl rfl rfl) rfl ?_; (refine lw_store' [_] [_, _, _, _] tabOk rfl rfl rfl rfl rfl rfl hbm rfl rfl ?_; intro wu27 nu28); have hu31 := nu28.blk; have fu29 := nu28.fr; have zu30 := nu28.size; clear nu28 hbm; replace hu23 := hu23.fr fu29 (by omega); replace hb8 := hb8.fr fu29 (by omega); replace X := X.fr fu29 (by omega); replace hb1 := hb1.fr fu29 (by omega); replace hs := Bk.rowSits.fr hs fu29 (by omega); replace sx := Nd.sits.fr sx fu29 (by omega); replace rx := Row.fr rx fu29 (by simp only; omega); clear fu29; refine lw_nil (qw_block_norm (qw_then (cw_region (cM rfl rfl ?_)))); refine lw_pure (pur_sub rfl rfl (IntWalk.i64_in _ (by omega))) rfl ?_; refine cA rfl rfl (lw_nil ?_); rotate_left 1
        refine qw_round (r - 1, xs ++ [x.inv false], some ⟨_, 0, none⟩, _) (by (refine sub_cons rfl ?_; refine sub_cons rfl ?_; refine sub_cons rfl ?_; refine sub_cons rfl ?_; refine sub_cons' rfl (by go_num) ?_; exact sub_nil)) ⟨by assumption, hnext, by simp only; omega, by assumption, hb1, hb8, hs, X, by omega⟩ (by simp only; omega)
end Bk
namespace Bk
open Go Go.RowKit Go.Proofs
attribute [local irreducible] Go.Calls
theorem cw_meet2 {P : Program} {n : Nat} {l : Sl} {w : World} {Q : Exit → Act → World → Prop} {x y : Code} {ι : Type} (L : ι → Sl) (I : ι → World → Prop) (h : CW P n x (Exit.then (fun a w => ∃ i, Env n (L i) a ∧ I i w) Q) l w) (k : ∀ i w, I i w → CW P n y Q (L i) w) : CW P n x (Exit.then (Code.wp P y Q) Q) l w := by
 unfold CW at h k ⊢
 intro a ha; refine Code.wp_mono (fun e a w q => ?_) (h a ha)
 cases e with
 | normal =>
  obtain ⟨i, he, hi⟩ := q
  exact k i w hi a he
 | _ => exact q
theorem rowCalls_snoc (l : List Nd) (j : Nat) (h : j < l.length) : rowCalls (l.take (j + 1)) = rowCalls (l.take j) ++ [(l[j]).calls] := by
 rw [List.take_succ_eq_append_getElem h, rowCalls_app, rowCalls, rowCalls]
theorem rowCalls_len : ∀ l : List Nd, (rowCalls l).length = l.length
 | [] => rfl
 | t :: r => by simp only [rowCalls, List.length_cons, rowCalls_len r]
set_option maxRecDepth 100000 in
set_option maxHeartbeats 4000000 in
theorem rCalls_c (N : Nat) : ∀ (t : Nd) (S : Nat → Prop) (a : Option Addr) (c : Nat) (w : World), t.size < N → t.size ≤ 1000000 → t.sits S w a → Calls Tryz.prog 42 #[t.val a c] w (ShareR S t.calls w) := by
 induction N with
 | zero => intro t S a c w h; omega
 | succ N ih =>
  rintro ⟨k, n, s, l⟩ S a c w hN hM hs; have X := Ext.refl w; replace hs := kids_sits (sits_lt2 _ _ hs); have hlen := length_rowA l; simp only [Nd.size] at hN hM
  have hC : ∀ x : Nd, x.size ≤ rowSize l → ∀ (a : Option Addr) (c : Nat) (w1 : World), x.sits (fun b => S b ∧ b < w.heap.size) w1 a → Calls Tryz.prog 42 #[x.val a c] w1 (ShareR (fun b => S b ∧ b < w.heap.size) x.calls w1) := fun x hx a c w1 h => ih x _ a c w1 (by omega) (by omega) h
  clear ih
  have HC := Lib.hid hC; clear hC
  simp only [Nd.calls]
  generalize hk' : (if k = 50 ∨ k = 51 then exch k else k) = k'
  simp only [Nd.val, Nd.kind, Nd.num, Nd.name, Nd.kids]; refine calls_in Tryz.func42 Tryz.ntmps42 rfl rfl ?_
  focus
   refine cS ?_; (refine lw_box' [_, _, _, _] rfl rfl rfl ?_; intro b1 w2 n3); have h4 := n3.blk; have x5 := n3.ext; have p6 := n3.pos; have z7 := n3.size; clear n3; replace X := X.ext x5; replace hs := Bk.rowSits.ext hs x5; clear x5; (refine lw_alloc' [_, _, _, _] zOk rfl rfl ?_; intro b8 w9 n10); have h12 := n10.blk; have x13 := n10.ext; have p14 := n10.pos; have z15 := n10.size; clear n10; replace h4 := h4.ext x13; replace X := X.ext x13; replace hs := Bk.rowSits.ext hs x13; clear x13; refine cN (lw_loads_b' [_, _, _, _] tabOk rfl rfl rfl h4 rfl rfl rfl ?_); (refine lw_alloc' [_, _, _, _] zOk rfl rfl ?_; intro b16 w17 n18); (refine lw_init' [_, _, _, _] tabOk rfl rfl rfl rfl rfl rfl n18 rfl ?_; clear n18; clear w17; intro w19 n18); have h20 := n18.blk; have x21 := n18.ext; have p22 := n18.pos; have z23 := n18.size; clear n18; replace h12 := h12.ext x21; replace h4 := h4.ext x21; replace X := X.ext x21; replace hs := Bk.rowSits.ext hs x21; clear x21; refine cT (cw_seq ?_); rotate_left 1
  refine cw_meet2 (ι := Nat) (fun _ => [(1, .pointer (some ⟨b1, 0, none⟩)), (2, .pointer (some ⟨b8, 0, none⟩)), (3, .pointer (some ⟨b16, 0, none⟩))])
   (fun _ w' => Blk w' b16 [.int .u8 k', .int .i64 n, str s, .slice a l.length c] ∧ b16 + 1 ≤ w'.heap.size ∧ Blk w' b1 [.int .u8 k, .int .i64 n, str s, .slice a l.length c] ∧ Blk w' b8 [.int .u8 0, .int .i64 0, str [], .slice none 0 0] ∧ rowSits (fun b => S b ∧ b < w.heap.size) w' l a ∧ Ext w w') ?_ ?_
  · clear HC
    focus
     refine cS (lw_pure (pur_fieldAddr0 tabOk rfl rfl rfl) rfl (lw_load_b tabOk rfl rfl rfl h4 rfl rfl (lw_pure (pur_eql rfl rfl) rfl (cM rfl rfl ?_)))); refine lw_dec rfl rfl rfl (fun ca1 => ?_) (fun ca1 => ?_); refine lw_off rfl rfl rfl (gd_ft (by assumption)) rfl ?_; refine lw_off rfl rfl rfl (gd_ft (by assumption)) rfl ?_; refine lw_off rfl rfl rfl (gd_ft (by assumption)) rfl ?_; refine lw_pure (pur_pick_yes rfl rfl (by assumption)) rfl ?_; refine cT (cw_cond_t rfl (cw_region (lw_pure (pur_fieldAddr0 tabOk rfl rfl rfl) rfl (lw_load_b tabOk rfl rfl rfl h4 rfl rfl ?_)))); refine cC (by kernel_rfl) rfl (rKind_c _ _ (by omega) (by omega)) rfl ?_; rintro _ wa2 ⟨⟨⟩, rfl⟩; refine lw_pure (pur_fieldAddr0 tabOk rfl rfl rfl) rfl ?_; (refine lw_store' [_] [_, _, _, _] tabOk rfl rfl rfl rfl rfl rfl h20 rfl rfl ?_; intro wa3 na4); have ha7 := na4.blk; have fa5 := na4.fr; have za6 := na4.size; clear na4 h20; replace h12 := h12.fr fa5 (by omega); replace h4 := h4.fr fa5 (by omega); replace X := X.fr fa5 (by omega); replace hs := Bk.rowSits.fr hs fa5 (by omega); clear fa5; refine lw_nil ?_; rotate_left 1; refine lw_on rfl rfl rfl (gd_ff (by assumption)) ?_; refine lw_pure (pur_fieldAddr0 tabOk rfl rfl rfl) rfl ?_; refine lw_on rfl rfl rfl (gd_ff (by assumption)) ?_; refine lw_load_b tabOk rfl rfl rfl h4 rfl rfl ?_; refine lw_on rfl rfl rfl (gd_ff (by assumption)) ?_; refine lw_pure (pur_eql rfl rfl) rfl ?_; refine lw_pure (pur_pick_no rfl rfl (by assumption)) rfl ?_; refine cT ?_; refine cw_dec rfl (fun ca8 => ?_) (fun ca8 => ?_)
     refine cw_region (lw_pure (pur_fieldAddr0 tabOk rfl rfl rfl) rfl (lw_load_b tabOk rfl rfl rfl h4 rfl rfl ?_)); refine cC (by kernel_rfl) rfl (rKind_c _ _ (by omega) (by omega)) rfl ?_; rintro _ wa9 ⟨⟨⟩, rfl⟩; refine lw_pure (pur_fieldAddr0 tabOk rfl rfl rfl) rfl ?_; (refine lw_store' [_] [_, _, _, _] tabOk rfl rfl rfl rfl rfl rfl h20 rfl rfl ?_; intro wa10 na11); have ha14 := na11.blk; have fa12 := na11.fr; have za13 := na11.size; clear na11 h20; replace h12 := h12.fr fa12 (by omega); replace h4 := h4.fr fa12 (by omega); replace X := X.fr fa12 (by omega); replace hs := Bk.rowSits.fr hs fa12 (by omega); clear fa12; refine lw_nil ?_; rotate_left 1; refine cw_skip ?_; rotate_left 1
    · exact qw_meet 0 (by (refine sub_cons rfl ?_; refine sub_cons rfl ?_; refine sub_cons rfl ?_; exact sub_nil)) ⟨by rw [← hk', if_pos (by omega)]; assumption, by omega, by assumption, by assumption, by assumption, by assumption⟩
    · exact qw_meet 0 (by (refine sub_cons rfl ?_; refine sub_cons rfl ?_; refine sub_cons rfl ?_; exact sub_nil)) ⟨by rw [← hk', if_pos (by omega)]; assumption, by omega, by assumption, by assumption, by assumption, by assumption⟩
    · exact qw_meet 0 (by (refine sub_cons rfl ?_; refine sub_cons rfl ?_; refine sub_cons rfl ?_; exact sub_nil)) ⟨by rw [← hk', if_neg (by omega)]; assumption, by omega, by assumption, by assumption, by assumption, by assumption⟩
  · clear h20 h12 h4 hs X
    rintro i w1 ⟨hbm, o1, hb1, hb8, hs, X⟩
    focus
     refine cS (lw_pure (pur_fieldAddr tabOk rfl rfl rfl) rfl ?_); (refine lw_store' [_] [_, _, _, _] tabOk rfl rfl rfl rfl rfl rfl hbm rfl rfl ?_; intro wb1 nb2); have hb5 := nb2.blk; have fb3 := nb2.fr; have zb4 := nb2.size; clear nb2 hbm; replace hb1 := hb1.fr fb3 (by omega); replace hb8 := hb8.fr fb3 (by omega); replace hs := Bk.rowSits.fr hs fb3 (by omega); replace X := X.fr fb3 (by omega); clear fb3; refine cT (cw_seq (cS (cA rfl rfl (cT (cw_block ?_))))); rotate_left 1
    refine cw_loop (ι := Nat × List Nd × Option Addr × Nat) (fun x => [(1, .pointer (some ⟨b1, 0, none⟩)), (2, .pointer (some ⟨b8, 0, none⟩)), (3, .pointer (some ⟨b16, 0, none⟩)), (4, .int .i64 x.1)])
     (fun x w' => OwnM ndShape w' (fun b => S b ∧ b < w.heap.size) (b16 + 1) 24 (.slice x.2.2.1 x.2.1.length x.2.2.2) x.2.1 ∧ x.2.1 = rowCalls (l.take x.1) ∧ x.1 ≤ l.length ∧ Blk w' b16 [.int .u8 k', .int .i64 n, str s, .slice x.2.2.1 x.2.1.length x.2.2.2] ∧ Blk w' b1 [.int .u8 k, .int .i64 n, str s, .slice a l.length c] ∧ Blk w' b8 [.int .u8 0, .int .i64 0, str [], .slice none 0 0] ∧ rowSits (fun b => S b ∧ b < w.heap.size) w' l a ∧ Ext w w' ∧ b16 + 1 ≤ w'.heap.size)
     (fun x => l.length - x.1) (0, [], none, 0) (by (refine sub_cons rfl ?_; refine sub_cons rfl ?_; refine sub_cons rfl ?_; refine sub_cons rfl ?_; exact sub_nil)) ⟨OwnM.nil, by simp [rowCalls], Nat.zero_le _, by assumption, hb1, hb8, hs, X, by omega⟩ ?_
    clear hb1 hb8 hs X o1; rintro ⟨r, xs, ra, rc⟩ w2 ⟨hown, hxs, hr, hbm, hb1, hb8, hs, X, hz⟩; simp only at hown hxs hr hbm
    have hob : ∀ g, (Value.slice ra xs.length rc).ownBlock = some g → b16 + 1 ≤ g ∧ g < w2.heap.size := fun g h => ⟨hown.ge h, hown.lt h⟩
    have hxl : xs.length ≤ l.length := by rw [hxs, rowCalls_len, List.length_take]; omega
    refine CW.sub (m := [(1, .pointer (some ⟨b1, 0, none⟩)), (2, .pointer (some ⟨b8, 0, none⟩)), (3, .pointer (some ⟨b16, 0, none⟩)), (4, .int .i64 (r : Int))]) ?_ (by (refine sub_cons rfl ?_; refine sub_cons rfl ?_; refine sub_cons rfl ?_; refine sub_cons rfl ?_; exact sub_nil))
    by_cases h0 : r < l.length
    · obtain ⟨kb, ko, rfl, kS, hkid⟩ := kidRows hs (by intro e; subst e; simp at h0)
      have kS2 : kb < w.heap.size := kS.2; obtain ⟨xa, xc, rx, sx⟩ := hkid r l[r] (List.getElem?_eq_getElem h0); have hsz := size_memA (List.getElem_mem h0); have HY := Lib.hid (HC.out l[r] hsz)
      have hnext : xs ++ [(l[r]).calls] = rowCalls (l.take (r + 1)) := by
       rw [hxs, rowCalls_snoc l r h0]
      clear hkid HC hxs kS
      generalize l[r] = x at *
      have hin : ∀ m b : Nat, w2.heap.size ≤ m → ((S b ∧ b < w.heap.size) ∨ m ≤ b) → (((S b ∧ b < w.heap.size) ∨ b16 + 1 ≤ b) ∧ (Value.slice ra xs.length rc).ownBlock ≠ some b) := fun m b hm h => by
       rcases h with h | h
       · exact ⟨Or.inl h, fun e => by have := hob _ e; omega⟩
       · exact ⟨Or.inr (by omega), fun e => by have := hob _ e; omega⟩
      focus
       refine cw_seq (cS (cM rfl rfl (lw_pure (pur_fieldAddr tabOk rfl rfl rfl) rfl (lw_load_b tabOk rfl rfl rfl hb1 rfl rfl (lw_pure (pur_len_slice tabOk rfl rfl) rfl (lw_pure (pur_lss rfl rfl) rfl (cT ?_))))))); refine cw_yes rfl (by omega) ?_; refine cw_skip (qw_then (cw_seq (cw_block ?_))); (refine cw_tdraw (fun wz => Fr (b16 + 1 ≤ ·) w2 wz) 9 (.pure 0 (.pure 1 (.pure 2 (.pure 3 (.pure 4 (.pure 5 (.pure 6 (.fork 7 (.fork 8 .tail .none) .none)))))))) mixed (by kernel_rfl) (panicOk_block (panicOk_then (panicOk_then (panicOk_block (panicOk_then panicOk_body))))) ?_; intro wc1 xc2 _); have qsc3 : (fun wz => Fr (b16 + 1 ≤ ·) w2 wz) wc1 := Fr.of_ext xc2; simp only at qsc3; have d_hown := hown; have d_hbm := hbm; have d_hb8 := hb8; have d_hb1 := hb1; have d_hs := hs; have d_rx := rx; have d_sx := sx; have zc4 := xc2.size; replace hown := hown.ext xc2; replace hbm := hbm.ext xc2; replace hb8 := hb8.ext xc2; replace X := X.ext xc2; replace hb1 := hb1.ext xc2; replace hs := Bk.rowSits.ext hs xc2; replace rx := rx.ext xc2; replace sx := Nd.sits.ext sx xc2; clear xc2; refine ⟨qsc3, ?_⟩; refine tw_pure rfl (pur_fieldAddr tabOk rfl rfl rfl) rfl ?_; refine tw_pure rfl (pur_load tabOk rfl rfl rfl (fun wz hz => Blk.cell (Blk.fr d_hbm hz (by first | omega | (dsimp only; omega))) rfl)) rfl ?_; refine tw_pure rfl (pur_fieldAddr tabOk rfl rfl rfl) rfl ?_; refine tw_pure rfl (pur_load tabOk rfl rfl rfl (fun wz hz => Blk.cell (Blk.fr d_hb1 hz (by first | omega | (dsimp only; omega))) rfl)) rfl ?_
       refine tw_pure rfl (pur_move rfl) rfl ?_; refine tw_pure rfl (pur_indexAddr tabOk rfl rfl rfl rfl (by omega) (by omega)) rfl ?_; refine tw_pure rfl (pur_loads' tabOk rfl rfl rfl (fun wz hz => (Row.fr d_rx hz (by first | omega | (dsimp only; omega)))) rfl) rfl ?_; refine tw_does rfl (does_call (by kernel_rfl) rfl (HY.out _ _ _ (by assumption)) (fun _ _ h => h.ret)) rfl ?_ (fun _ h => h) tw_none; rintro _ wc10 ⟨ac6, ⟨cc7, ⟨⟨⟩, ⟨hc8, xc9⟩⟩⟩⟩; have zc11 := xc9.size; replace qsc3 := qsc3.ext xc9; replace hown := hown.ext xc9; replace hbm := hbm.ext xc9; replace hb8 := hb8.ext xc9; replace X := X.ext xc9; replace hb1 := hb1.ext xc9; replace hs := Bk.rowSits.ext hs xc9; replace rx := rx.ext xc9; replace sx := Nd.sits.ext sx xc9; clear xc9; refine ⟨qsc3, ?_⟩; (refine tw_does rfl (does_slice' [_, _, _, _] tabOk zOk rfl rfl rfl rfl rfl rfl rfl rfl rfl) rfl ?_ (fun _ h => h) tw_none; rintro _ wc14 ⟨bc13, rfl, nc15, tc16⟩); clear tc16; have hc17 := nc15.blk; have xc18 := nc15.ext; have pc19 := nc15.pos; have zc20 := nc15.size; clear nc15; replace hc8 := Nd.sits.ext hc8 xc18; replace qsc3 := qsc3.ext xc18; replace hown := hown.ext xc18; replace hbm := hbm.ext xc18; replace hb8 := hb8.ext xc18; replace X := X.ext xc18; replace hb1 := hb1.ext xc18; replace hs := Bk.rowSits.ext hs xc18; replace rx := rx.ext xc18; replace sx := Nd.sits.ext sx xc18; clear xc18; refine ⟨qsc3, ?_⟩; clear d_hown d_hbm d_hb8 d_hb1 d_hs d_rx d_sx qsc3; refine tw_tail rfl ?_; refine lw_does (does_appendM (sh := ndShape) (z := x.calls) tabOk zOk rfl rfl rfl rfl (by kernel_rfl) rfl rfl rfl (by assumption) (Blk.row (by assumption)) ⟨_, _, rfl, Nd.sits.wide (by assumption) (fun b h => hin _ b (by omega) h)⟩ (by omega) (by omega)) rfl ?_ (fun _ h => h)
       rintro _ wc25 ⟨gc21, ⟨capc22, ⟨rfl, ⟨hc23, fc24⟩⟩⟩⟩; have zc26 := fc24.size; clear hc17 hc8 hown; replace hbm := hbm.fr fc24 (by omega); replace hb8 := hb8.fr fc24 (by omega); replace X := X.fr fc24 (by omega); replace hb1 := hb1.fr fc24 (by omega); replace hs := Bk.rowSits.fr hs fc24 (by omega); replace rx := Row.fr rx fc24 (by simp only; omega); replace sx := Nd.sits.fr sx fc24 (by omega); clear fc24; refine lw_pure (pur_fieldAddr tabOk rfl rfl rfl) rfl ?_; (refine lw_store' [_] [_, _, _, _] tabOk rfl rfl rfl rfl rfl rfl hbm rfl rfl ?_; intro wc27 nc28); have hc31 := nc28.blk; have fc29 := nc28.fr; have zc30 := nc28.size; clear nc28 hbm; replace hc23 := hc23.fr fc29 (by omega); replace hb8 := hb8.fr fc29 (by omega); replace X := X.fr fc29 (by omega); replace hb1 := hb1.fr fc29 (by omega); replace hs := Bk.rowSits.fr hs fc29 (by omega); replace rx := Row.fr rx fc29 (by simp only; omega); replace sx := Nd.sits.fr sx fc29 (by omega); clear fc29; refine lw_nil (qw_block_norm (qw_then (cw_region (cM rfl rfl ?_)))); refine lw_pure (pur_add rfl rfl (IntWalk.i64_in _ (by omega))) rfl ?_; refine cA rfl rfl (lw_nil ?_); rotate_left 1
      refine qw_round (r + 1, xs ++ [x.calls], some ⟨_, 0, none⟩, _) (by (refine sub_cons rfl ?_; refine sub_cons rfl ?_; refine sub_cons rfl ?_; refine sub_cons rfl ?_; exact sub_nil)) ⟨by assumption, hnext, by simp only; omega, by assumption, hb1, hb8, hs, X, by omega⟩ (by simp only; omega)
    · have hre : r = l.length := by omega
      subst hre; rw [List.take_length] at hxs
      focus
       refine cw_seq (cS (cM rfl rfl (lw_pure (pur_fieldAddr tabOk rfl rfl rfl) rfl (lw_load_b tabOk rfl rfl rfl hb1 rfl rfl (lw_pure (pur_len_slice tabOk rfl rfl) rfl (lw_pure (pur_lss rfl rfl) rfl (cT ?_))))))); refine cw_no rfl (by omega) ?_; refine cw_exit (qw_then_exit (qw_then_exit (qw_block_exit (qw_then (cS (lw_loads_b' [_, _, _, _] tabOk rfl rfl rfl hbm rfl rfl rfl ?_)))))); (refine lw_store' [_, _, _, _] [_, _, _, _] tabOk rfl rfl rfl rfl rfl rfl hb8 rfl rfl ?_; intro wd1 nd2); have hd5 := nd2.blk; have fd3 := nd2.fr; have zd4 := nd2.size; clear nd2 hb8; replace hown := hown.fr fd3 (by omega); replace hbm := hbm.fr fd3 (by omega); replace hb1 := hb1.fr fd3 (by omega); replace hs := Bk.rowSits.fr hs fd3 (by omega); replace X := X.fr fd3 (by omega); clear fd3; refine cT (cw_ret (qw_retc rfl tabOk rfl rfl rfl hd5 rfl ?_)); rotate_left 1
      exact shareR_mk (by rw [← hxs]) (by rw [← hxs]; exact hown.sits (fun b h => h.elim (fun h => Or.inl h.1) (fun h => Or.inr (by omega)))) X
end Bk
namespace Bk
open Go Go.RowKit Go.Proofs
attribute [local irreducible] Go.Calls
theorem vd_len (v : VD) : v.cells.length = 3 := rfl
theorem vd_one (v : VD) : v.cells.all Value.one = true := rfl
theorem vds_rows {S : Nat → Prop} {w : World} {l : List VD} {a : Option Addr} (h : VDs S w l a) : Rows S w (l.flatMap VD.cells) a := by
 rcases h with h | ⟨b, o, h1, h2, h3⟩
 · subst h; exact Or.inl rfl
 · exact Or.inr ⟨b, o, h1, h2, rows_each vd_len l o (fun i x hi => h3 i x hi)⟩
theorem rows_vds {S : Nat → Prop} {w : World} {l : List VD} {a : Option Addr} (h : Rows S w (l.flatMap VD.cells) a) : VDs S w l a := by
 cases l with
 | nil => exact Or.inl rfl
 | cons v r =>
  rcases h with h | ⟨b, o, h1, h2, h3⟩
  · simp at h
  · exact Or.inr ⟨b, o, h1, h2, fun i x hi => each_rows vd_len (v :: r) o h3 i x hi⟩
def VCopyR (l : List VD) (w : World) : Ending → World → Prop := fun e w' => ∃ a c, e = .returned (.slice a l.length c) ∧ VDs (fun b => w.heap.size ≤ b ∧ b < w'.heap.size) w' l a ∧ Ext w w'
theorem VCopyR.ret {l : List VD} {w : World} {e : Ending} {w' : World} (h : VCopyR l w e w') : ∃ v, e = .returned v := by
 obtain ⟨_, _, h, -⟩ := h
 exact ⟨_, h⟩
theorem vCopyR_nil {w w' : World} (X : Ext w w') : VCopyR [] w (.returned (.slice none 0 0)) w' := ⟨none, 0, rfl, Or.inl rfl, X⟩
theorem vCopyR_own {l : List VD} {e B g cap m : Nat} {w w' : World} (hm : 0 + l.length = m) (h : OwnF e 3 B w' g cap m ([] ++ l.flatMap VD.cells)) (hB : w.heap.size ≤ g) (X : Ext w w') : VCopyR l w (.returned (.slice (some ⟨g, 0, none⟩) m cap)) w' := by
 have hl := h.lt; subst hm
 exact ⟨some ⟨g, 0, none⟩, cap, by rw [Nat.zero_add], rows_vds (h.rows ⟨hB, hl⟩), X⟩
set_option maxRecDepth 100000 in
set_option maxHeartbeats 4000000 in
theorem vdClone_c (l : List VD) (hl : l.length ≤ 1000000000) (S : Nat → Prop) (a : Option Addr) (c : Nat) (w : World) (hs : VDs S w l a) :
 Calls Tryz.prog 50 #[.slice a l.length c] w (VCopyR l w) := by
 have X := Ext.refl w; have hd := flatMap_len vd_len l; have ho := flatMap_one vd_one l
 cases a with
 | none =>
  have h0 : l = [] := by
   rcases hs with h | ⟨b, o, h, -⟩
   · exact h
   · cases h
  subst h0; refine calls_in Tryz.func50 Tryz.ntmps50 rfl rfl ?_
  focus
   refine cS (cA rfl rfl (cT (cw_seq (cS (cM rfl rfl (lw_pure (pur_slnil0 tabOk rfl rfl) rfl (cT (cw_cond_t rfl (cS (cA rfl rfl (cT ?_))))))))))); refine cw_ret (qw_then_ret (qw_ret1 rfl rfl ?_)); rotate_left 1
  exact vCopyR_nil X
 | some p =>
  replace hs := (vds_rows hs).ltA; refine calls_in Tryz.func50 Tryz.ntmps50 rfl rfl ?_
  focus
   refine cS (cA rfl rfl (cT (cw_seq (cS (cM rfl rfl (lw_pure (pur_slnil1 tabOk rfl rfl) rfl (cT (cw_cond_f rfl (cw_skip (qw_then (cS ?_))))))))))); refine lw_does (does_slice0F (B := w.heap.size) tabOk rfl rfl (by omega)) rfl ?_ (fun _ h => h); rintro _ wa6 ⟨ga1, ⟨rfl, ⟨ha2, ⟨ha3, ⟨ha4, xa5⟩⟩⟩⟩⟩; have za7 := xa5.size; replace X := X.ext xa5; replace hs := hs.ext xa5; clear xa5; refine cM rfl rfl ?_; refine lw_does (does_appendF tabOk zOk rfl rfl rfl rfl (by kernel_rfl) rfl rfl rfl (by assumption) (by assumption) hd ho (by omega)) rfl ?_ (fun _ h => h); rintro _ wa14 ⟨g'a8, ⟨cap'a9, ⟨rfl, ⟨ha10, ⟨ha11, ⟨ha12, fa13⟩⟩⟩⟩⟩⟩; have za15 := fa13.size; clear ha2; replace X := X.fr fa13 (by omega); replace hs := hs.fr fa13 (by omega); clear fa13; refine cA rfl rfl (cT (cw_ret (qw_ret1 rfl rfl ?_))); rotate_left 1
  exact vCopyR_own rfl (by assumption) (by omega) X
end Bk
namespace Bk
open Go
section
variable {ts : List Tok} {n : Int}
structure Le (ts : List Tok) (σ σ' : PS) : Prop where
 le : σ.at_ ≤ σ'.at_
 wf : σ'.at_ ≤ ts.length
 err : σ.err ≠ 0 → σ' = σ
def Lt (σ σ' : PS) : Prop := σ'.err = 0 → σ.at_ < σ'.at_
theorem Le.refl {σ : PS} (h : σ.at_ ≤ ts.length) : Le ts σ σ := ⟨Nat.le_refl _, h, fun _ => rfl⟩
theorem Le.trans {a b c : PS} (h : Le ts a b) (k : Le ts b c) : Le ts a c := ⟨Nat.le_trans h.le k.le, k.wf, fun e => by rw [k.err (by rw [h.err e]; exact e), h.err e]⟩
theorem Le.ok {a b : PS} (h : Le ts a b) (e : b.err = 0) : a.err = 0 := by
 rcases Int.lt_trichotomy a.err 0 with h' | h' | h'
 · have := h.err (by omega); rw [this] at e; exact e
 · exact h'
 · have := h.err (by omega); rw [this] at e; exact e
theorem Lt.of_lt {a b c : PS} (h : Lt a b) (k : Le ts b c) : Lt a c := fun e => Nat.lt_of_lt_of_le (h (k.ok e)) k.le
theorem Lt.of_le {a b c : PS} (h : Le ts a b) (k : Lt b c) : Lt a c := fun e => Nat.lt_of_le_of_lt h.le (k e)
theorem peek_err {σ : PS} (h : σ.err ≠ 0) : peekP ts σ = Tok.zero := by unfold peekP; rw [if_pos (Or.inl h)]
theorem peek_end {σ : PS} (h : σ.at_ = ts.length) : peekP ts σ = Tok.zero := by unfold peekP; rw [if_pos (Or.inr h)]
theorem peek_in {σ : PS} (hw : σ.at_ ≤ ts.length) (h : (peekP ts σ).text ≠ [] ∨ (peekP ts σ).kind ≠ 0) : σ.err = 0 ∧ σ.at_ < ts.length := by
 by_cases h1 : σ.err = 0
 · by_cases h2 : σ.at_ = ts.length
   · rw [peek_end h2] at h; simp [Tok.zero] at h
   · exact ⟨h1, by omega⟩
 · rw [peek_err h1] at h; simp [Tok.zero] at h
theorem has_in {σ : PS} {t : List UInt8} (hw : σ.at_ ≤ ts.length) (h : hasP ts σ t = true) (ht : t ≠ []) : σ.err = 0 ∧ σ.at_ < ts.length := by
 unfold hasP at h
 have := of_decide_eq_true h
 exact peek_in hw (Or.inl (by rw [this]; exact ht))
theorem next_le {σ : PS} (h : σ.err = 0 ∧ σ.at_ < ts.length) : Le ts σ (nextP σ) := ⟨Nat.le_succ _, h.2, fun e => absurd h.1 e⟩
theorem next_lt {σ : PS} : Lt σ (nextP σ) := fun _ => Nat.lt_succ_self _
theorem fail_le {σ : PS} (h : σ.at_ ≤ ts.length) (off e : Int) : Le ts σ (failP σ off e) := by
 unfold failP
 split
 · rename_i h0; exact ⟨Nat.le_refl _, h, fun e => absurd h0 e⟩
 · exact Le.refl h
theorem fail_err {σ : PS} {off e : Int} (he : e ≠ 0) : (failP σ off e).err ≠ 0 := by
 unfold failP
 split
 · exact he
 · assumption
theorem unexp_le {σ : PS} (h : σ.at_ ≤ ts.length) : Le ts σ (unexpP ts n σ) := by
 unfold unexpP; split <;> exact fail_le h _ _
theorem unexp_err {σ : PS} : (unexpP ts n σ).err ≠ 0 := by
 unfold unexpP; split <;> exact fail_err (by decide)
theorem unexp_lt {σ : PS} : Lt σ (unexpP ts n σ) := fun e => absurd e unexp_err
theorem expect_le {σ : PS} {t : List UInt8} (h : σ.at_ ≤ ts.length) (ht : t ≠ []) : Le ts σ (expectP ts n σ t) := by
 unfold expectP
 split
 · rename_i hh; exact next_le (has_in h hh ht)
 · exact unexp_le h
theorem expect_lt {σ : PS} {t : List UInt8} : Lt σ (expectP ts n σ t) := by
 unfold expectP
 split
 · exact next_lt
 · exact unexp_lt
theorem isName_ne {s : List UInt8} (h : isName s = true) : s ≠ [] := by
 intro e; subst e; simp [isName] at h
theorem name_le {σ : PS} (h : σ.at_ ≤ ts.length) : Le ts σ (nameP ts n σ).2 := by
 unfold nameP
 split
 · rename_i hh; exact next_le (peek_in h (Or.inl (isName_ne hh)))
 · exact unexp_le h
theorem name_lt {σ : PS} : Lt σ (nameP ts n σ).2 := by
 unfold nameP
 split
 · exact next_lt
 · exact unexp_lt
theorem number_le {σ : PS} {a b : Int} (h : σ.at_ ≤ ts.length) : Le ts σ (numberP ts n a b σ).2 := by
 unfold numberP
 split
 · rename_i hh
   have hn := peek_in h (Or.inr (by rw [hh]; decide))
   split
   · exact next_le hn
   · exact (next_le hn).trans (fail_le (next_le hn).wf _ _)
 · exact unexp_le h
theorem number_lt {σ : PS} {a b : Int} : Lt σ (numberP ts n a b σ).2 := by
 unfold numberP
 split
 · split
   · exact next_lt
   · exact fun e => absurd e (fail_err (by decide))
 · exact unexp_lt
theorem binOf_ne {t : List UInt8} {op : Int} (h : binOf t = some op) : t ≠ [] ∧ 8 ≤ op ∧ op ≤ 23 ∧ symbol op = t := by
 unfold binOf at h
 have h1 := List.find?_some h; have h2 := List.mem_of_find?_eq_some h; have h3 := of_decide_eq_true h1; simp only [List.mem_cons, List.not_mem_nil, or_false] at h2; refine ⟨?_, by omega, by omega, h3⟩; rintro rfl
 rcases h2 with rfl | rfl | rfl | rfl | rfl | rfl | rfl | rfl | rfl | rfl | rfl | rfl | rfl | rfl | rfl | rfl <;> exact absurd h3 (by decide)
theorem expr_inv (k : Nat) : (∀ lv σ, σ.at_ ≤ ts.length → Le ts σ (exprP ts n k lv σ).2 ∧ (4 ≤ k → Lt σ (exprP ts n k lv σ).2)) ∧ (∀ lv x σ, σ.at_ ≤ ts.length → Le ts σ (climbP ts n k lv x σ).2) ∧
 (∀ σ, σ.at_ ≤ ts.length → Le ts σ (unaryP ts n k σ).2 ∧ (3 ≤ k → Lt σ (unaryP ts n k σ).2)) ∧ (∀ σ, σ.at_ ≤ ts.length → Le ts σ (primaryP ts n k σ).2 ∧ (2 ≤ k → Lt σ (primaryP ts n k σ).2)) ∧
 (∀ σ, σ.at_ ≤ ts.length → Le ts σ (placeP ts n k σ).2 ∧ (1 ≤ k → Lt σ (placeP ts n k σ).2)) := by
 induction k with
 | zero =>
  refine ⟨fun lv σ h => ⟨?_, fun h => by omega⟩, fun lv x σ h => ?_, fun σ h => ⟨?_, fun h => by omega⟩, fun σ h => ⟨?_, fun h => by omega⟩, fun σ h => ⟨?_, fun h => by omega⟩⟩
  · rw [exprP]; exact Le.refl h
  · rw [climbP]; exact Le.refl h
  · rw [unaryP]; exact Le.refl h
  · rw [primaryP]; exact Le.refl h
  · rw [placeP]; exact Le.refl h
 | succ k ih =>
  obtain ⟨iE, iC, iU, iP, iL⟩ := ih; refine ⟨fun lv σ h => ?_, fun lv x σ h => ?_, fun σ h => ?_, fun σ h => ?_, fun σ h => ?_⟩
  · rw [exprP]
    have hu := iU σ h; have hc := iC lv (unaryP ts n k σ).1 (unaryP ts n k σ).2 hu.1.wf
    exact ⟨hu.1.trans hc, fun hk => (hu.2 (by omega)).of_lt hc⟩
  · rw [climbP]
    split
    · exact Le.refl h
    · rename_i op hop
      obtain ⟨hne, -⟩ := binOf_ne hop; have hn := peek_in h (Or.inl hne)
      split
      · exact Le.refl h
      · have h1 := next_le hn
        have h2 := iE (level op + 1) (nextP σ) h1.wf
        exact (h1.trans h2.1).trans (iC _ _ _ h2.1.wf)
  · rw [unaryP]
    split
    · rename_i hh
      have hn := has_in h hh (by decide); have h1 := next_le hn; have h2 := iU (nextP σ) h1.wf
      exact ⟨h1.trans h2.1, fun _ => next_lt.of_lt h2.1⟩
    · split
      · rename_i hh
        have hn := has_in h hh (by decide); have h1 := next_le hn; have h2 := iU (nextP σ) h1.wf
        exact ⟨h1.trans h2.1, fun _ => next_lt.of_lt h2.1⟩
      · exact ⟨(iP σ h).1, fun hk => (iP σ h).2 (by omega)⟩
  · rw [primaryP]
    split
    · exact ⟨number_le h, fun _ => number_lt⟩
    · split
      · rename_i hh
        have hn := has_in h hh (by decide); have h1 := next_le hn; have h2 := h1.trans (expect_le (n := n) (t := [40]) h1.wf (by decide)); have h3 := h2.trans (name_le (n := n) h2.wf); have h4 := h3.trans (expect_le (n := n) (t := [41]) h3.wf (by decide))
        exact ⟨h4, fun _ => Lt.of_le (ts := ts) h3 expect_lt⟩
      · split
        · rename_i hh
          have hn := has_in h hh (by decide); have h1 := next_le hn; have h2 := h1.trans (expect_le (n := n) (t := [40]) h1.wf (by decide)); have h3 := h2.trans (name_le (n := n) h2.wf); have h4 := h3.trans (expect_le (n := n) (t := [41]) h3.wf (by decide))
          exact ⟨h4, fun _ => Lt.of_le (ts := ts) h3 expect_lt⟩
        · split
          · rename_i hh
            have hn := has_in h hh (by decide); have h1 := next_le hn; have h2 := h1.trans (iE 1 (nextP σ) h1.wf).1
            exact ⟨h2.trans (expect_le h2.wf (by decide)), fun _ => Lt.of_le (ts := ts) h2 expect_lt⟩
          · exact ⟨(iL σ h).1, fun hk => (iL σ h).2 (by omega)⟩
  · rw [placeP]
    have h0 := name_le (n := n) h
    split
    · rename_i hh
      have hn := has_in h0.wf hh (by decide); have h1 := h0.trans (next_le hn); have h2 := h1.trans (iE 1 _ h1.wf).1
      exact ⟨h2.trans (expect_le h2.wf (by decide)), fun _ => Lt.of_le (ts := ts) h2 expect_lt⟩
    · exact ⟨h0, fun _ => name_lt⟩
end
end Bk
namespace Bk
open Go Go.RowKit Go.Proofs
attribute [local irreducible] Go.Calls
structure PC where
 pb : Nat
 B : Nat
 ts : List Tok
 n : Int
 a : Option Addr
 cap : Nat
 r : Nat
abbrev Tok.cells (t : Tok) : List Value := [.int .u8 t.kind, str t.text, .int .i64 t.pos]
abbrev Tok.val (t : Tok) : Value := .agg #[.int .u8 t.kind, str t.text, .int .i64 t.pos]
def TokAt (w : World) (b o : Nat) (t : Tok) : Prop := Row w ⟨b, o, none⟩ t.cells
def binMap : List (List UInt8 × Value) := [8, 9, 10, 11, 12, 13, 14, 15, 16, 17, 18, 19, 20, 21, 22, 23].map fun k => (symbol k, .int .u8 k)
abbrev PC.cells (c : PC) (σ : PS) : List Value := [.slice c.a c.ts.length c.cap, .int .i64 σ.at_, .int .i64 c.n, .map (some c.r), .int .i64 σ.off, .int .i64 σ.err]
structure Errs (w : World) : Prop where
 ex : ∃ te pe, w.cell? ⟨3, 0, none⟩ = some (.iface te pe)
theorem Errs.ext {w w' : World} (h : Errs w) (x : Ext w w') : Errs w' := by
 obtain ⟨te, pe, h⟩ := h.ex
 exact ⟨te, pe, x.keep h⟩
theorem Errs.fr {S : Nat → Prop} {w w' : World} (h : Errs w) (x : Fr S w w') (hs : ¬ S 3) : Errs w' := by
 obtain ⟨te, pe, h⟩ := h.ex
 exact ⟨te, pe, x.keep hs h⟩
structure PP (c : PC) (σ : PS) (w : World) : Prop where
 blk : Blk w c.pb (c.cells σ)
 toks : Arr (fun b => b < c.B ∧ b ≠ c.pb) 3 TokAt w c.ts c.a
 map : MapIs w c.r binMap
 pbB : c.pb < c.B
 rB : c.r < c.B
 rne : c.r ≠ c.pb
 B : c.B ≤ w.heap.size
 at_ : σ.at_ ≤ c.ts.length
 len : c.ts.length ≤ 1000000
 tok : ∀ t ∈ c.ts, t.text.length ≤ 1000000
 num : ∀ t ∈ c.ts, t.kind = 2 → t.text ≠ [] ∧ ∀ x ∈ t.text, digit x = true
 errs : Errs w
 gl : 3 < c.pb
theorem PP.ext {c : PC} {σ : PS} {w w' : World} (h : PP c σ w) (x : Ext w w') : PP c σ w' :=
 ⟨h.blk.ext x, h.toks.mono (fun _ h => h) (fun _ _ _ _ _ h => Row.ext h x), h.map.ext x, h.pbB, h.rB, h.rne, Nat.le_trans h.B x.size, h.at_, h.len, h.tok, h.num, h.errs.ext x, h.gl⟩
theorem PP.fr {c : PC} {σ : PS} {S : Nat → Prop} {w w' : World} (h : PP c σ w) (x : Fr S w w') (hs : ∀ k, S k → c.B ≤ k) : PP c σ w' :=
 ⟨h.blk.fr x (fun e => by have := hs _ e; have := h.pbB; omega), h.toks.mono (fun _ h => h) (fun b _ _ _ hb h => Row.fr h x (fun e => by have h1 := hs _ e; have h2 := hb.1; have h3 : c.B ≤ b := h1; omega)), h.map.fr x (fun e => by have := hs _ e; have := h.rB; omega), h.pbB, h.rB, h.rne, Nat.le_trans h.B x.size, h.at_, h.len, h.tok, h.num, h.errs.fr x (fun e => by have := hs _ e; have := h.gl; have := h.pbB; omega), h.gl⟩
theorem PP.put {c : PC} {σ σ' : PS} {w w' : World} (h : PP c σ w) (p : Put w w' c.pb (c.cells σ')) (ha : σ'.at_ ≤ c.ts.length) : PP c σ' w' :=
 ⟨p.blk, h.toks.mono (fun _ h => h) (fun b _ _ _ hb h => Row.fr h p.fr (fun e => hb.2 e)), h.map.fr p.fr (fun e => h.rne e), h.pbB, h.rB, h.rne, Nat.le_trans h.B p.fr.size, ha, h.len, h.tok, h.num, h.errs.fr p.fr (fun e => by have := h.gl; have e' : 3 = c.pb := e; omega), h.gl⟩
section
variable {P : Program} {n : Nat} {ops : Array Oper} {Q : Exit → Act → World → Prop} {rest : List Oper} {l : Sl} {w : World} {tab : Tab} {ty : TypeId} {pos : String} {after : Array Edge}
theorem lw_pp {c : PC} {σ σ' : PS} {x y : Operand} {t sz o : Nat} {s : Sk} {v : Value} (T : TabOk P tab) (ht : lookT tab t = some (s, sz)) (hsz : sz = 1) (hx : ev l x = some (.pointer (some ⟨c.pb, o, none⟩))) (hy : ev l y = some v) (hv : v.cells = #[v]) (h1 : Value.one v = true) (hP : PP c σ w) (ho : Nat.ble (o + 1) 6 = true)
 (he : (c.cells σ).set o v = c.cells σ') (ha : σ'.at_ ≤ c.ts.length) (k : ∀ w1, PP c σ' w1 → Fr (· = c.pb) w w1 → LW P n ops Q rest l w1) : LW P n ops Q (⟨none, .store t x y, ty, pos, after, none⟩ :: rest) l w :=
 lw_store T ht hx hy (us := [v]) hv (by simp [hsz]) (by simp [h1]) hP.blk (by simpa using ho) (fun w1 p => by
  have e : setMany (c.cells σ) o [v] = c.cells σ' := by simp only [setMany]; exact he
  rw [e] at p
  exact k w1 (hP.put p ha) p.fr)
theorem lw_pp_at {c : PC} {σ : PS} {x y : Operand} {t sz : Nat} {s : Sk} (T : TabOk P tab) (ht : lookT tab t = some (s, sz)) (hsz : sz = 1) (hx : ev l x = some (.pointer (some ⟨c.pb, 1, none⟩))) (hy : ev l y = some (.int .i64 ((σ.at_ : Int) + 1))) (hP : PP c σ w) (ha : σ.at_ < c.ts.length)
 (k : ∀ w1, PP c (nextP σ) w1 → Fr (· = c.pb) w w1 → LW P n ops Q rest l w1) : LW P n ops Q (⟨none, .store t x y, ty, pos, after, none⟩ :: rest) l w :=
 lw_pp (σ' := nextP σ) T ht hsz hx hy rfl rfl hP rfl rfl ha k
theorem lw_pp_off {c : PC} {σ : PS} {x y : Operand} {t sz : Nat} {s : Sk} {v : Int} (T : TabOk P tab) (ht : lookT tab t = some (s, sz)) (hsz : sz = 1) (hx : ev l x = some (.pointer (some ⟨c.pb, 4, none⟩))) (hy : ev l y = some (.int .i64 v)) (hP : PP c σ w)
 (k : ∀ w1, PP c ⟨σ.at_, v, σ.err⟩ w1 → Fr (· = c.pb) w w1 → LW P n ops Q rest l w1) : LW P n ops Q (⟨none, .store t x y, ty, pos, after, none⟩ :: rest) l w :=
 lw_pp (σ' := ⟨σ.at_, v, σ.err⟩) T ht hsz hx hy rfl rfl hP rfl rfl hP.at_ k
theorem lw_pp_err {c : PC} {σ : PS} {x y : Operand} {t sz : Nat} {s : Sk} {v : Int} (T : TabOk P tab) (ht : lookT tab t = some (s, sz)) (hsz : sz = 1) (hx : ev l x = some (.pointer (some ⟨c.pb, 5, none⟩))) (hy : ev l y = some (.int .i64 v)) (hP : PP c σ w)
 (k : ∀ w1, PP c ⟨σ.at_, σ.off, v⟩ w1 → Fr (· = c.pb) w w1 → LW P n ops Q rest l w1) : LW P n ops Q (⟨none, .store t x y, ty, pos, after, none⟩ :: rest) l w :=
 lw_pp (σ' := ⟨σ.at_, σ.off, v⟩) T ht hsz hx hy rfl rfl hP rfl rfl hP.at_ k
end
theorem peek_off {ts : List Tok} {σ : PS} (h : σ.err ≠ 0 ∨ σ.at_ = ts.length) : peekP ts σ = Tok.zero := by unfold peekP; rw [if_pos h]
theorem peek_is {ts : List Tok} {σ : PS} (h : ¬ (σ.err ≠ 0 ∨ σ.at_ = ts.length)) (hl : σ.at_ < ts.length) : peekP ts σ = ts[σ.at_] := by unfold peekP; rw [if_neg h]; simp [hl]
set_option maxRecDepth 100000 in
set_option maxHeartbeats 1000000 in
theorem peek_c (c : PC) (σ : PS) (w : World) (hP : PP c σ w) :
 Calls Tryz.prog 58 #[.pointer (some ⟨c.pb, 0, none⟩)] w fun e w' => e = .returned (peekP c.ts σ).val ∧ Ext w w' := by
 have hat := hP.at_; have X := Ext.refl w
 by_cases h : σ.err ≠ 0 ∨ σ.at_ = c.ts.length
 · rw [peek_off h]
   by_cases he : σ.err = 0
   · have ha : σ.at_ = c.ts.length := h.resolve_left (fun e => e he)
     refine calls_in Tryz.func58 Tryz.ntmps58 rfl rfl ?_
     focus
      refine cS ?_; (refine lw_alloc' [_, _, _] zOk rfl rfl ?_; intro b1 w2 n3); have h5 := n3.blk; have x6 := n3.ext; have p7 := n3.pos; have z8 := n3.size; clear n3; replace hP := hP.ext x6; replace X := X.ext x6; clear x6; refine cT (cw_seq (cw_seq ?_)); (refine cw_tdraw (fun wz => Ext w2 wz) 15 (.pure 0 (.pure 1 (.pure 2 (.pure 3 (.pure 4 (.pure 5 (.pure 6 (.pure 7 (.pure 8 (.pure 9 (.pure 10 (.pure 11 (.pure 12 (.pure 13 (.pure 14 .tail))))))))))))))) mixed (by kernel_rfl) (panicOk_then (panicOk_then panicOk_body)) ?_; intro w9 x10 _); have qs11 : (fun wz => Ext w2 wz) w9 := x10; simp only at qs11; have d_h5 := h5; have d_hP := hP; have z12 := x10.size; replace h5 := h5.ext x10; replace hP := hP.ext x10; replace X := X.ext x10; clear x10; refine ⟨qs11, ?_⟩; refine tw_pure rfl (pur_move rfl) rfl (tw_pure rfl (pur_nilCheck rfl) rfl (tw_pure rfl (pur_fieldAddr tabOk rfl rfl rfl) rfl (tw_pure rfl (pur_load tabOk rfl rfl rfl (fun wz hz => Blk.cell (Blk.ext (PP.blk d_hP) hz) rfl)) rfl (tw_pure rfl (pur_neq rfl rfl) rfl (tw_pure rfl (pur_move rfl) rfl ?_))))); refine tw_on rfl rfl rfl rfl (gd_ff (by omega)) (pur_move rfl) rfl ?_; refine tw_on rfl rfl rfl rfl (gd_ff (by omega)) (pur_nilCheck rfl) rfl ?_; refine tw_on rfl rfl rfl rfl (gd_ff (by omega)) (pur_fieldAddr tabOk rfl rfl rfl) rfl ?_; refine tw_on rfl rfl rfl rfl (gd_ff (by omega)) (pur_load tabOk rfl rfl rfl (fun wz hz => Blk.cell (Blk.ext (PP.blk d_hP) hz) rfl)) rfl ?_; refine tw_on rfl rfl rfl rfl (gd_ff (by omega)) (pur_move rfl) rfl ?_
      refine tw_on rfl rfl rfl rfl (gd_ff (by omega)) (pur_nilCheck rfl) rfl ?_; refine tw_on rfl rfl rfl rfl (gd_ff (by omega)) (pur_fieldAddr0 tabOk rfl rfl rfl) rfl ?_; refine tw_on rfl rfl rfl rfl (gd_ff (by omega)) (pur_load tabOk rfl rfl rfl (fun wz hz => Blk.cell (Blk.ext (PP.blk d_hP) hz) rfl)) rfl ?_; refine tw_on rfl rfl rfl rfl (gd_ff (by omega)) (pur_len_slice tabOk rfl rfl) rfl ?_; clear qs11 d_h5 d_hP; refine tw_tail rfl ?_; refine lw_on rfl rfl rfl (gd_ff (by omega)) ?_; refine lw_pure (pur_eql rfl rfl) rfl ?_; refine lw_pure (pur_pick_no rfl rfl (by omega)) rfl ?_; refine cT ?_; refine cw_yes rfl (by omega) ?_; refine cS (lw_pure (pur_build' [_, _, _] tabOk zOk rfl rfl rfl rfl) rfl ?_); (refine lw_store' [_, _, _] [_, _, _] tabOk rfl rfl rfl rfl rfl rfl h5 rfl rfl ?_; intro w13 n14); have h17 := n14.blk; have f15 := n14.fr; have z16 := n14.size; clear n14 h5 hP; replace X := X.fr f15 (by omega); clear f15; refine cT (cw_ret (qw_then_ret (qw_retc rfl tabOk rfl rfl rfl h17 rfl ?_))); rotate_left 1
     exact ⟨rfl, X⟩
   · refine calls_in Tryz.func58 Tryz.ntmps58 rfl rfl ?_
     focus
      refine cS ?_; (refine lw_alloc' [_, _, _] zOk rfl rfl ?_; intro ba1 wa2 na3); have ha5 := na3.blk; have xa6 := na3.ext; have pa7 := na3.pos; have za8 := na3.size; clear na3; replace hP := hP.ext xa6; replace X := X.ext xa6; clear xa6; refine cT (cw_seq (cw_seq ?_)); (refine cw_tdraw (fun wz => Ext wa2 wz) 15 (.pure 0 (.pure 1 (.pure 2 (.pure 3 (.pure 4 (.pure 5 (.pure 6 (.pure 7 (.pure 8 (.pure 9 (.pure 10 (.pure 11 (.pure 12 (.pure 13 (.pure 14 .tail))))))))))))))) mixed (by kernel_rfl) (panicOk_then (panicOk_then panicOk_body)) ?_; intro wa9 xa10 _); have qsa11 : (fun wz => Ext wa2 wz) wa9 := xa10; simp only at qsa11; have d_ha5 := ha5; have d_hP := hP; have za12 := xa10.size; replace ha5 := ha5.ext xa10; replace hP := hP.ext xa10; replace X := X.ext xa10; clear xa10; refine ⟨qsa11, ?_⟩; refine tw_pure rfl (pur_move rfl) rfl (tw_pure rfl (pur_nilCheck rfl) rfl (tw_pure rfl (pur_fieldAddr tabOk rfl rfl rfl) rfl (tw_pure rfl (pur_load tabOk rfl rfl rfl (fun wz hz => Blk.cell (Blk.ext (PP.blk d_hP) hz) rfl)) rfl (tw_pure rfl (pur_neq rfl rfl) rfl (tw_pure rfl (pur_move rfl) rfl ?_))))); refine tw_off rfl rfl rfl rfl (gd_ft (by assumption)) rfl ?_; refine tw_off rfl rfl rfl rfl (gd_ft (by assumption)) rfl ?_; refine tw_off rfl rfl rfl rfl (gd_ft (by assumption)) rfl ?_; refine tw_off rfl rfl rfl rfl (gd_ft (by assumption)) rfl ?_; refine tw_off rfl rfl rfl rfl (gd_ft (by assumption)) rfl ?_; refine tw_off rfl rfl rfl rfl (gd_ft (by assumption)) rfl ?_; refine tw_off rfl rfl rfl rfl (gd_ft (by assumption)) rfl ?_
      refine tw_off rfl rfl rfl rfl (gd_ft (by assumption)) rfl ?_; refine tw_off rfl rfl rfl rfl (gd_ft (by assumption)) rfl ?_; clear qsa11 d_ha5 d_hP; refine tw_tail rfl ?_; refine lw_off rfl rfl rfl (gd_ft (by assumption)) rfl ?_; refine lw_pure (pur_pick_yes rfl rfl (by assumption)) rfl ?_; refine cT (cw_cond_t rfl (cS (lw_pure (pur_build' [_, _, _] tabOk zOk rfl rfl rfl rfl) rfl ?_))); (refine lw_store' [_, _, _] [_, _, _] tabOk rfl rfl rfl rfl rfl rfl ha5 rfl rfl ?_; intro wa13 na14); have ha17 := na14.blk; have fa15 := na14.fr; have za16 := na14.size; clear na14 ha5 hP; replace X := X.fr fa15 (by omega); clear fa15; refine cT (cw_ret (qw_then_ret (qw_retc rfl tabOk rfl rfl rfl ha17 rfl ?_))); rotate_left 1
     exact ⟨rfl, X⟩
 · have he : σ.err = 0 := Decidable.byContradiction fun e => h (Or.inl e)
   have hlt : σ.at_ < c.ts.length := by have : σ.at_ ≠ c.ts.length := fun e => h (Or.inr e); omega
   rw [peek_is h hlt]; obtain ⟨tb, tof, hta, -, hrow⟩ := hP.toks.get (by omega); have hr : Row w ⟨tb, tof + σ.at_ * 3, none⟩ c.ts[σ.at_].cells := hrow σ.at_ _ (List.getElem?_eq_getElem hlt); clear hrow; refine calls_in Tryz.func58 Tryz.ntmps58 rfl rfl ?_
   focus
    refine cS ?_; (refine lw_alloc' [_, _, _] zOk rfl rfl ?_; intro bb1 wb2 nb3); have hb5 := nb3.blk; have xb6 := nb3.ext; have pb7 := nb3.pos; have zb8 := nb3.size; clear nb3; replace hP := hP.ext xb6; replace X := X.ext xb6; replace hr := hr.ext xb6; clear xb6; refine cT (cw_seq (cw_seq ?_)); (refine cw_tdraw (fun wz => Ext wb2 wz) 15 (.pure 0 (.pure 1 (.pure 2 (.pure 3 (.pure 4 (.pure 5 (.pure 6 (.pure 7 (.pure 8 (.pure 9 (.pure 10 (.pure 11 (.pure 12 (.pure 13 (.pure 14 .tail))))))))))))))) mixed (by kernel_rfl) (panicOk_then (panicOk_then panicOk_body)) ?_; intro wb9 xb10 _); have qsb11 : (fun wz => Ext wb2 wz) wb9 := xb10; simp only at qsb11; have d_hb5 := hb5; have d_hP := hP; have d_hr := hr; have zb12 := xb10.size; replace hb5 := hb5.ext xb10; replace hP := hP.ext xb10; replace X := X.ext xb10; replace hr := hr.ext xb10; clear xb10; refine ⟨qsb11, ?_⟩; refine tw_pure rfl (pur_move rfl) rfl (tw_pure rfl (pur_nilCheck rfl) rfl (tw_pure rfl (pur_fieldAddr tabOk rfl rfl rfl) rfl (tw_pure rfl (pur_load tabOk rfl rfl rfl (fun wz hz => Blk.cell (Blk.ext (PP.blk d_hP) hz) rfl)) rfl (tw_pure rfl (pur_neq rfl rfl) rfl (tw_pure rfl (pur_move rfl) rfl ?_))))); refine tw_on rfl rfl rfl rfl (gd_ff (by omega)) (pur_move rfl) rfl ?_; refine tw_on rfl rfl rfl rfl (gd_ff (by omega)) (pur_nilCheck rfl) rfl ?_; refine tw_on rfl rfl rfl rfl (gd_ff (by omega)) (pur_fieldAddr tabOk rfl rfl rfl) rfl ?_; refine tw_on rfl rfl rfl rfl (gd_ff (by omega)) (pur_load tabOk rfl rfl rfl (fun wz hz => Blk.cell (Blk.ext (PP.blk d_hP) hz) rfl)) rfl ?_
    refine tw_on rfl rfl rfl rfl (gd_ff (by omega)) (pur_move rfl) rfl ?_; refine tw_on rfl rfl rfl rfl (gd_ff (by omega)) (pur_nilCheck rfl) rfl ?_; refine tw_on rfl rfl rfl rfl (gd_ff (by omega)) (pur_fieldAddr0 tabOk rfl rfl rfl) rfl ?_; refine tw_on rfl rfl rfl rfl (gd_ff (by omega)) (pur_load tabOk rfl rfl rfl (fun wz hz => Blk.cell (Blk.ext (PP.blk d_hP) hz) rfl)) rfl ?_; refine tw_on rfl rfl rfl rfl (gd_ff (by omega)) (pur_len_slice tabOk rfl rfl) rfl ?_; clear qsb11 d_hb5 d_hP d_hr; refine tw_tail rfl ?_; refine lw_on rfl rfl rfl (gd_ff (by omega)) ?_; refine lw_pure (pur_eql rfl rfl) rfl ?_; refine lw_pure (pur_pick_no rfl rfl (by omega)) rfl ?_; refine cT ?_; refine cw_no rfl (by omega) ?_; refine cw_skip (qw_then (cw_seq ?_)); (refine cw_tdraw (fun wz => Ext wb9 wz) 8 (.pure 0 (.pure 1 (.pure 2 (.pure 3 (.pure 4 (.pure 5 (.pure 6 (.pure 7 .tail)))))))) mixed (by kernel_rfl) (panicOk_then panicOk_body) ?_; intro wb13 xb14 _); have qsb15 : (fun wz => Ext wb9 wz) wb13 := xb14; simp only at qsb15; have d_hb5 := hb5; have d_hP := hP; have d_hr := hr; have zb16 := xb14.size; replace hb5 := hb5.ext xb14; replace hP := hP.ext xb14; replace X := X.ext xb14; replace hr := hr.ext xb14; clear xb14; refine ⟨qsb15, ?_⟩; refine tw_pure rfl (pur_move rfl) rfl (tw_pure rfl (pur_nilCheck rfl) rfl (tw_pure rfl (pur_fieldAddr0 tabOk rfl rfl rfl) rfl (tw_pure rfl (pur_load tabOk rfl rfl rfl (fun wz hz => Blk.cell (Blk.ext (PP.blk d_hP) hz) rfl)) rfl (tw_pure rfl (pur_move rfl) rfl (tw_pure rfl (pur_nilCheck rfl) rfl (tw_pure rfl (pur_fieldAddr tabOk rfl rfl rfl) rfl (tw_pure rfl (pur_load tabOk rfl rfl rfl (fun wz hz => Blk.cell (Blk.ext (PP.blk d_hP) hz) rfl)) rfl ?_)))))))
    clear qsb15 d_hb5 d_hP d_hr; refine tw_tail rfl ?_; refine lw_pure (pur_indexAddr_eq tabOk rfl rfl rfl (by assumption) rfl (by omega) (by omega)) rfl ?_; refine lw_loads_r0 tabOk rfl rfl rfl hr rfl rfl ?_; (refine lw_store' [_, _, _] [_, _, _] tabOk rfl rfl rfl rfl rfl rfl hb5 rfl rfl ?_; intro wb17 nb18); have hb21 := nb18.blk; have fb19 := nb18.fr; have zb20 := nb18.size; clear nb18 hb5 hP; replace X := X.fr fb19 (by omega); clear hr fb19; refine cT (cw_ret (qw_retc rfl tabOk rfl rfl rfl hb21 rfl ?_)); rotate_left 1
   exact ⟨rfl, X⟩
set_option maxRecDepth 100000 in
set_option maxHeartbeats 1000000 in
theorem fail_c (c : PC) (σ : PS) (off e : Int) (w : World) (hP : PP c σ w) :
 Calls Tryz.prog 78 #[.pointer (some ⟨c.pb, 0, none⟩), .int .i64 off, .int .i64 e] w fun r w' => r = .returned (.tuple #[]) ∧ PP c (failP σ off e) w' ∧ Fr (· = c.pb) w w' := by
 have X := Fr.refl (· = c.pb) w
 by_cases he : σ.err = 0
 · rw [show failP σ off e = ⟨σ.at_, off, e⟩ from by simp [failP, he]]
   refine calls_in Tryz.func78 Tryz.ntmps78 rfl rfl ?_
   focus
    refine cS (cM rfl rfl (lw_pure (pur_nilCheck rfl) rfl (lw_pure (pur_fieldAddr tabOk rfl rfl rfl) rfl (lw_load_b tabOk rfl rfl rfl (PP.blk hP) rfl rfl (lw_pure (pur_eql rfl rfl) rfl (cT ?_)))))); refine cw_yes rfl (by assumption) ?_; refine cw_region (cM rfl rfl (cM rfl rfl (cM rfl rfl (cM rfl rfl (lw_pure (pur_nilCheck rfl) rfl (lw_pure (pur_fieldAddr tabOk rfl rfl rfl) rfl (lw_pp_off tabOk rfl rfl rfl rfl hP ?_))))))); rintro w1 h2 f3; have z4 := f3.size; clear hP; replace X := X.fr f3 (by omega); clear f3; refine lw_pure (pur_nilCheck rfl) rfl (lw_pure (pur_fieldAddr tabOk rfl rfl rfl) rfl ?_); refine lw_pp_err tabOk rfl rfl rfl rfl (by assumption) ?_; rintro w5 h6 f7; have z8 := f7.size; clear h2; replace X := X.fr f7 (by omega); clear f7; refine lw_nil (qw_end0 rfl ?_); rotate_left 1
   exact ⟨rfl, by assumption, X⟩
 · rw [show failP σ off e = σ from by simp [failP, he]]
   refine calls_in Tryz.func78 Tryz.ntmps78 rfl rfl ?_
   focus
    refine cS (cM rfl rfl (lw_pure (pur_nilCheck rfl) rfl (lw_pure (pur_fieldAddr tabOk rfl rfl rfl) rfl (lw_load_b tabOk rfl rfl rfl (PP.blk hP) rfl rfl (lw_pure (pur_eql rfl rfl) rfl (cT ?_)))))); refine cw_no rfl (by assumption) ?_; refine cw_skip (qw_end0 rfl ?_); rotate_left 1
   exact ⟨rfl, hP, X⟩
set_option maxRecDepth 100000 in
set_option maxHeartbeats 1000000 in
theorem unexpected_c (c : PC) (σ : PS) (w : World) (hP : PP c σ w) :
 Calls Tryz.prog 66 #[.pointer (some ⟨c.pb, 0, none⟩)] w fun r w' => r = .returned (.tuple #[]) ∧ PP c (unexpP c.ts c.n σ) w' ∧ Fr (· = c.pb) w w' := by
 have X := Fr.refl (· = c.pb) w
 by_cases hlt : σ.at_ < c.ts.length
 · rw [show unexpP c.ts c.n σ = failP σ (c.ts[σ.at_]).pos 3 from by simp [unexpP, hlt]]
   obtain ⟨tb, tof, hta, -, hrow⟩ := hP.toks.get (by omega); have hr : Row w ⟨tb, tof + σ.at_ * 3, none⟩ c.ts[σ.at_].cells := hrow σ.at_ _ (List.getElem?_eq_getElem hlt); clear hrow; refine calls_in Tryz.func66 Tryz.ntmps66 rfl rfl ?_
   focus
    refine cw_seq ?_; (refine cw_tdraw (fun wz => Ext w wz) 9 (.pure 0 (.pure 1 (.pure 2 (.pure 3 (.pure 4 (.pure 5 (.pure 6 (.pure 7 (.pure 8 .tail))))))))) mixed (by kernel_rfl) (panicOk_then panicOk_body) ?_; intro w1 x2 _); have qs3 : (fun wz => Ext w wz) w1 := x2; simp only at qs3; have d_hP := hP; have d_hr := hr; have z4 := x2.size; replace hP := hP.ext x2; replace X := X.ext x2; replace hr := hr.ext x2; clear x2; refine ⟨qs3, ?_⟩; refine tw_pure rfl (pur_move rfl) rfl (tw_pure rfl (pur_nilCheck rfl) rfl (tw_pure rfl (pur_fieldAddr tabOk rfl rfl rfl) rfl (tw_pure rfl (pur_load tabOk rfl rfl rfl (fun wz hz => Blk.cell (Blk.ext (PP.blk d_hP) hz) rfl)) rfl (tw_pure rfl (pur_move rfl) rfl (tw_pure rfl (pur_nilCheck rfl) rfl (tw_pure rfl (pur_fieldAddr0 tabOk rfl rfl rfl) rfl (tw_pure rfl (pur_load tabOk rfl rfl rfl (fun wz hz => Blk.cell (Blk.ext (PP.blk d_hP) hz) rfl)) rfl (tw_pure rfl (pur_len_slice tabOk rfl rfl) rfl ?_)))))))); clear qs3 d_hP d_hr; refine tw_tail rfl (lw_pure (pur_lss rfl rfl) rfl (cT ?_)); refine cw_yes rfl (by omega) ?_; (refine cw_tdraw (fun wz => Ext w1 wz) 12 (.pure 0 (.pure 1 (.pure 2 (.pure 3 (.pure 4 (.pure 5 (.pure 6 (.pure 7 (.pure 8 (.pure 9 (.pure 10 (.pure 11 .tail)))))))))))) mixed (by kernel_rfl) panicOk_body ?_; intro w5 x6 _); have qs7 : (fun wz => Ext w1 wz) w5 := x6; simp only at qs7; have d_hP := hP; have d_hr := hr; have z8 := x6.size; replace hP := hP.ext x6; replace X := X.ext x6; replace hr := hr.ext x6; clear x6; refine ⟨qs7, ?_⟩
    refine tw_pure rfl (pur_move rfl) rfl (tw_pure rfl (pur_move rfl) rfl (tw_pure rfl (pur_nilCheck rfl) rfl (tw_pure rfl (pur_fieldAddr0 tabOk rfl rfl rfl) rfl (tw_pure rfl (pur_load tabOk rfl rfl rfl (fun wz hz => Blk.cell (Blk.ext (PP.blk d_hP) hz) rfl)) rfl (tw_pure rfl (pur_move rfl) rfl (tw_pure rfl (pur_nilCheck rfl) rfl (tw_pure rfl (pur_fieldAddr tabOk rfl rfl rfl) rfl (tw_pure rfl (pur_load tabOk rfl rfl rfl (fun wz hz => Blk.cell (Blk.ext (PP.blk d_hP) hz) rfl)) rfl ?_)))))))); refine tw_pure rfl (pur_indexAddr_eq tabOk rfl rfl rfl (by assumption) rfl (by omega) (by omega)) rfl ?_; refine tw_pure rfl (pur_fieldAddr tabOk rfl rfl rfl) rfl (tw_pure rfl (pur_load tabOk rfl rfl rfl (fun wz hz => Row.at (Row.ext d_hr hz) rfl)) rfl ?_); clear qs7 d_hP d_hr; refine tw_tail rfl ?_; refine cC (by kernel_rfl) rfl (fail_c _ _ _ _ _ (by assumption)) rfl ?_; rintro _ w11 ⟨⟨⟩, ⟨h9, f10⟩⟩; have z12 := f10.size; clear hP; replace X := X.fr f10 (by omega); clear hr f10; refine lw_nil (qw_end0 rfl ?_); rotate_left 1
   exact ⟨rfl, by assumption, X⟩
 · rw [show unexpP c.ts c.n σ = failP σ c.n 4 from by simp [unexpP, hlt]]
   refine calls_in Tryz.func66 Tryz.ntmps66 rfl rfl ?_
   focus
    refine cw_seq ?_; (refine cw_tdraw (fun wz => Ext w wz) 9 (.pure 0 (.pure 1 (.pure 2 (.pure 3 (.pure 4 (.pure 5 (.pure 6 (.pure 7 (.pure 8 .tail))))))))) mixed (by kernel_rfl) (panicOk_then panicOk_body) ?_; intro wa1 xa2 _); have qsa3 : (fun wz => Ext w wz) wa1 := xa2; simp only at qsa3; have d_hP := hP; have za4 := xa2.size; replace hP := hP.ext xa2; replace X := X.ext xa2; clear xa2; refine ⟨qsa3, ?_⟩; refine tw_pure rfl (pur_move rfl) rfl (tw_pure rfl (pur_nilCheck rfl) rfl (tw_pure rfl (pur_fieldAddr tabOk rfl rfl rfl) rfl (tw_pure rfl (pur_load tabOk rfl rfl rfl (fun wz hz => Blk.cell (Blk.ext (PP.blk d_hP) hz) rfl)) rfl (tw_pure rfl (pur_move rfl) rfl (tw_pure rfl (pur_nilCheck rfl) rfl (tw_pure rfl (pur_fieldAddr0 tabOk rfl rfl rfl) rfl (tw_pure rfl (pur_load tabOk rfl rfl rfl (fun wz hz => Blk.cell (Blk.ext (PP.blk d_hP) hz) rfl)) rfl (tw_pure rfl (pur_len_slice tabOk rfl rfl) rfl ?_)))))))); clear qsa3 d_hP; refine tw_tail rfl (lw_pure (pur_lss rfl rfl) rfl (cT ?_)); refine cw_no rfl (by omega) ?_; refine cw_region (cM rfl rfl (cM rfl rfl (lw_pure (pur_nilCheck rfl) rfl (lw_pure (pur_fieldAddr tabOk rfl rfl rfl) rfl (lw_load_b tabOk rfl rfl rfl (PP.blk hP) rfl rfl ?_))))); refine cC (by kernel_rfl) rfl (fail_c _ _ _ _ _ (by assumption)) rfl ?_; rintro _ wa7 ⟨⟨⟩, ⟨ha5, fa6⟩⟩; have za8 := fa6.size; clear hP; replace X := X.fr fa6 (by omega); clear fa6; refine lw_nil (qw_end0 rfl ?_); rotate_left 1
   exact ⟨rfl, by assumption, X⟩
set_option maxRecDepth 100000 in
set_option maxHeartbeats 1000000 in
theorem accept_c (c : PC) (σ : PS) (t : List UInt8) (w : World) (hP : PP c σ w) (ht : t ≠ []) :
 Calls Tryz.prog 65 #[.pointer (some ⟨c.pb, 0, none⟩), str t] w fun r w' => r = .returned (.bool (hasP c.ts σ t)) ∧ PP c (acceptP c.ts σ t) w' ∧ Fr (· = c.pb) w w' := by
 have X := Fr.refl (· = c.pb) w; have hl := hP.len
 by_cases h : (peekP c.ts σ).text = t
 · have h1 : hasP c.ts σ t = true := by simp [hasP, h]
   rw [show acceptP c.ts σ t = nextP σ from by simp [acceptP, h1], h1]; obtain ⟨h2, h3⟩ := has_in hP.at_ h1 ht; refine calls_in Tryz.func65 Tryz.ntmps65 rfl rfl ?_
   focus
    refine cS (cA rfl rfl (cT (cw_seq (cS (cM rfl rfl ?_))))); refine cC (by kernel_rfl) rfl (peek_c _ _ _ (by assumption)) rfl ?_; rintro _ w2 ⟨⟨⟩, x1⟩; have z3 := x1.size; replace hP := hP.ext x1; replace X := X.ext x1; clear x1; refine lw_pure (pur_field tabOk rfl rfl rfl rfl rfl rfl) rfl (cM rfl rfl (lw_pure (pur_sneq rfl rfl) rfl (cT ?_))); refine cw_no rfl (not_not_intro (by assumption)) ?_; refine cw_skip (qw_then (cS (cM rfl rfl (lw_pure (pur_nilCheck rfl) rfl (lw_pure (pur_fieldAddr tabOk rfl rfl rfl) rfl (lw_load_b tabOk rfl rfl rfl (PP.blk hP) rfl rfl ?_)))))); refine lw_pure (pur_add rfl rfl (IntWalk.i64_in _ (by omega))) rfl ?_; refine lw_pure (pur_nilCheck rfl) rfl (lw_pure (pur_fieldAddr tabOk rfl rfl rfl) rfl ?_); refine lw_pp_at tabOk rfl rfl rfl rfl (by assumption) h3 ?_; rintro w4 h5 f6; have z7 := f6.size; clear hP; replace X := X.fr f6 (by omega); clear f6; refine cN (cA rfl rfl (cT (cw_ret (qw_ret1 rfl rfl ?_)))); rotate_left 1
   exact ⟨rfl, by assumption, X⟩
 · have h1 : hasP c.ts σ t = false := by simp [hasP, h]
   rw [show acceptP c.ts σ t = σ from by simp [acceptP, h1], h1]; refine calls_in Tryz.func65 Tryz.ntmps65 rfl rfl ?_
   focus
    refine cS (cA rfl rfl (cT (cw_seq (cS (cM rfl rfl ?_))))); refine cC (by kernel_rfl) rfl (peek_c _ _ _ (by assumption)) rfl ?_; rintro _ wa2 ⟨⟨⟩, xa1⟩; have za3 := xa1.size; replace hP := hP.ext xa1; replace X := X.ext xa1; clear xa1; refine lw_pure (pur_field tabOk rfl rfl rfl rfl rfl rfl) rfl (cM rfl rfl (lw_pure (pur_sneq rfl rfl) rfl (cT ?_))); refine cw_yes rfl (by assumption) ?_; refine cS (cA rfl rfl (cT (cw_ret (qw_then_ret (qw_ret1 rfl rfl ?_))))); rotate_left 1
   exact ⟨rfl, by assumption, X⟩
theorem accept_t (c : PC) (σ : PS) (t : List UInt8) (w : World) (hP : PP c σ w) (ht : t ≠ []) (h : hasP c.ts σ t = true) :
 Calls Tryz.prog 65 #[.pointer (some ⟨c.pb, 0, none⟩), str t] w fun r w' => r = .returned (.bool true) ∧ PP c (nextP σ) w' ∧ Fr (· = c.pb) w w' := by
 have := accept_c c σ t w hP ht; rw [show acceptP c.ts σ t = nextP σ from by simp [acceptP, h], h] at this
 exact this
theorem accept_f (c : PC) (σ : PS) (t : List UInt8) (w : World) (hP : PP c σ w) (ht : t ≠ []) (h : hasP c.ts σ t = false) :
 Calls Tryz.prog 65 #[.pointer (some ⟨c.pb, 0, none⟩), str t] w fun r w' => r = .returned (.bool false) ∧ PP c σ w' ∧ Fr (· = c.pb) w w' := by
 have := accept_c c σ t w hP ht; rw [show acceptP c.ts σ t = σ from by simp [acceptP, h], h] at this
 exact this
set_option maxRecDepth 100000 in
set_option maxHeartbeats 1000000 in
theorem expect_c (c : PC) (σ : PS) (t : List UInt8) (w : World) (hP : PP c σ w) (ht : t ≠ []) :
 Calls Tryz.prog 45 #[.pointer (some ⟨c.pb, 0, none⟩), str t] w fun r w' => r = .returned (.tuple #[]) ∧ PP c (expectP c.ts c.n σ t) w' ∧ Fr (· = c.pb) w w' := by
 have X := Fr.refl (· = c.pb) w
 cases h : hasP c.ts σ t
 · have e1 : acceptP c.ts σ t = σ := by simp [acceptP, h]
   have e2 : expectP c.ts c.n σ t = unexpP c.ts c.n σ := by simp [expectP, h]
   rw [e2]; refine calls_in Tryz.func45 Tryz.ntmps45 rfl rfl ?_
   focus
    refine cS (cM rfl rfl (cM rfl rfl ?_)); refine cC (by kernel_rfl) rfl (accept_c _ _ _ _ (by assumption) (by assumption)) rfl ?_; rintro _ w3 ⟨⟨⟩, ⟨h1, f2⟩⟩; have z4 := f2.size; clear hP; replace X := X.fr f2 (by omega); clear f2; refine lw_pure (pur_not rfl) rfl (cT ?_); refine cw_nt rfl (by assumption) ?_; refine cw_region (cM rfl rfl ?_); refine cC (by kernel_rfl) rfl (unexpected_c _ _ _ (by assumption)) rfl ?_; rintro _ w7 ⟨⟨⟩, ⟨h5, f6⟩⟩; have z8 := f6.size; clear h1; replace X := X.fr f6 (by omega); clear f6; refine lw_nil (qw_end0 rfl ?_); rotate_left 1
   exact ⟨rfl, by rw [e1] at *; assumption, X⟩
 · have e1 : acceptP c.ts σ t = nextP σ := by simp [acceptP, h]
   have e2 : expectP c.ts c.n σ t = nextP σ := by simp [expectP, h]
   rw [e2]; refine calls_in Tryz.func45 Tryz.ntmps45 rfl rfl ?_
   focus
    refine cS (cM rfl rfl (cM rfl rfl ?_)); refine cC (by kernel_rfl) rfl (accept_c _ _ _ _ (by assumption) (by assumption)) rfl ?_; rintro _ wa3 ⟨⟨⟩, ⟨ha1, fa2⟩⟩; have za4 := fa2.size; clear hP; replace X := X.fr fa2 (by omega); clear fa2; refine lw_pure (pur_not rfl) rfl (cT ?_); refine cw_nf rfl (by assumption) ?_; refine cw_skip (qw_end0 rfl ?_); rotate_left 1
   exact ⟨rfl, by rw [e1] at *; assumption, X⟩
end Bk
namespace Go.Proofs
open Go.Shelf
def Tryz.lays137_ren : Go.Shelf.Ren := ⟨fun | 137 => 84 | 217 => 88 | 266 => 90 | n => n, fun | 9 => 9 | 5 => 5 | 3 => 3 | n => n, fun | n => n⟩
theorem Tryz.lays137 : Go.Proofs.Lays.n137 Tryz.prog Tryz.lays137_ren := {
 mixed := by kernel_rfl
 f137 := Tryz.func84.trans (congrArg some (by kernel_rfl))
 f217 := Tryz.func88.trans (congrArg some (by kernel_rfl))
 f266 := Tryz.func90.trans (congrArg some (by kernel_rfl))
 t3 := Tryz.underlying3
 a3 := Tryz.isAgg3
 z3 := Tryz.sizeOf3
 v3 := Tryz.zeroValue3
 t5 := Tryz.underlying5
 a5 := Tryz.isAgg5
 z5 := Tryz.sizeOf5
 v5 := Tryz.zeroValue5
 t9 := Tryz.underlying9
 a9 := Tryz.isAgg9
 z9 := Tryz.sizeOf9
 v9 := Tryz.zeroValue9 }
open Go.RowKit in
theorem Tryz.strings_IndexByte (s : ByteArray) (c : Int) (w : World) :
 Calls Tryz.prog 84 #[.string s, .int .u8 c] w fun e w' => e = .returned (.int .i64 (Lib.indexByte s.data.toList c.toNat.toUInt8)) ∧ w' = w := Any.strings_IndexByte Tryz.lays137 s c w
def Tryz.lays244_ren : Go.Shelf.Ren := ⟨fun | 244 => 94 | 247 => 96 | 287 => 101 | 321 => 105 | 322 => 106 | n => n, fun | 9 => 9 | 3 => 3 | 75 => 103 | 4 => 4 | 5 => 5 | 167 => 107 | 37 => 79 | 0 => 0 | 85 => 108 | 2 => 2 | 53 => 113 | 175 => 114 | 46 => 116 | 21 => 21 | 80 => 93 | n => n, fun | n => n⟩
theorem Tryz.lays244 : Go.Proofs.Lays.n244 Tryz.prog Tryz.lays244_ren := {
 mixed := by kernel_rfl
 f244 := Tryz.func94.trans (congrArg some (by kernel_rfl))
 f247 := Tryz.func96.trans (congrArg some (by kernel_rfl))
 f287 := Tryz.func101.trans (congrArg some (by kernel_rfl))
 f321 := Tryz.func105.trans (congrArg some (by kernel_rfl))
 f322 := Tryz.func106.trans (congrArg some (by kernel_rfl))
 t0 := Tryz.underlying0
 a0 := Tryz.isAgg0
 z0 := Tryz.sizeOf0
 v0 := Tryz.zeroValue0
 t2 := Tryz.underlying2
 a2 := Tryz.isAgg2
 z2 := Tryz.sizeOf2
 v2 := Tryz.zeroValue2
 t3 := Tryz.underlying3
 a3 := Tryz.isAgg3
 z3 := Tryz.sizeOf3
 v3 := Tryz.zeroValue3
 t4 := Tryz.underlying4
 a4 := Tryz.isAgg4
 z4 := Tryz.sizeOf4
 v4 := Tryz.zeroValue4
 t5 := Tryz.underlying5
 a5 := Tryz.isAgg5
 z5 := Tryz.sizeOf5
 v5 := Tryz.zeroValue5
 t9 := Tryz.underlying9
 a9 := Tryz.isAgg9
 z9 := Tryz.sizeOf9
 v9 := Tryz.zeroValue9
 t21 := Tryz.underlying21
 a21 := Tryz.isAgg21
 z21 := Tryz.sizeOf21
 v21 := Tryz.zeroValue21
 t37 := Tryz.underlying79
 a37 := Tryz.isAgg79
 z37 := Tryz.sizeOf79
 v37 := Tryz.zeroValue79
 t46 := Tryz.underlying116
 a46 := Tryz.isAgg116
 z46 := Tryz.sizeOf116
 v46 := Tryz.zeroValue116
 t53 := Tryz.underlying113
 a53 := Tryz.isAgg113
 z53 := Tryz.sizeOf113
 v53 := Tryz.zeroValue113
 t75 := Tryz.underlying103
 a75 := Tryz.isAgg103
 z75 := Tryz.sizeOf103
 v75 := Tryz.zeroValue103
 t85 := Tryz.underlying108
 a85 := Tryz.isAgg108
 z85 := Tryz.sizeOf108
 v85 := Tryz.zeroValue108
 t167 := Tryz.underlying107
 a167 := Tryz.isAgg107
 z167 := Tryz.sizeOf107
 v167 := Tryz.zeroValue107
 t175 := Tryz.underlying114
 a175 := Tryz.isAgg114
 z175 := Tryz.sizeOf114
 v175 := Tryz.zeroValue114 }
open Go.RowKit in
theorem Tryz.internal_strconv_Atoi (s : ByteArray) (n : Int) (hl : s.size ≤ 18) (h : Lib.atoi s.data.toList = some n) (w : World) :
 Calls Tryz.prog 94 #[.string s] w fun e w' => e = .returned (.tuple #[.int .i64 n, .nilIface]) ∧ ∃ t, w' = Lib.bytesWorld w 5 t := Any.internal_strconv_Atoi Tryz.lays244 s n hl h w
def Tryz.lays172_ren : Go.Shelf.Ren := ⟨fun | 172 => 93 | 244 => 94 | 245 => 95 | 247 => 96 | 279 => 97 | 280 => 98 | 281 => 99 | 282 => 100 | 287 => 101 | 316 => 102 | 171 => 104 | 205 => 103 | 321 => 105 | 322 => 106 | 243 => 107 | 246 => 108 | 283 => 109 | 284 => 110 | 285 => 111 | 286 => 112 | 129 => 114 | 317 => 113 | 318 => 115 | 319 => 116 | 320 => 117 | 337 => 118 | 338 => 119 | n => n, fun | 9 => 9 | 3 => 3 | 75 => 103 | 76 => 104 | 4 => 4 | 5 => 5 | 167 => 107 | 37 => 79 | 0 => 0 | 85 => 108 | 2 => 2 | 168 => 110 | 53 => 113 | 175 => 114 | 46 => 116 | 210 => 119 | 127 => 122 | 145 => 125 | 143 => 123 | 21 => 21 | 171 => 127 | 173 => 130 | 212 => 134 | 51 => 135 | 20 => 20 | 213 => 136 | 232 => 140 | 233 => 141 | 80 => 93 | n => n, fun | 15 => 2 | 16 => 3 | 17 => 4 | 18 => 5 | 19 => 6 | n => n⟩
theorem Tryz.lays172 : Go.Proofs.Lays.n172 Tryz.prog Tryz.lays172_ren := {
 mixed := by kernel_rfl
 f129 := Tryz.func114.trans (congrArg some (by kernel_rfl))
 f171 := Tryz.func104.trans (congrArg some (by kernel_rfl))
 f172 := Tryz.func93.trans (congrArg some (by kernel_rfl))
 f205 := Tryz.func103.trans (congrArg some (by kernel_rfl))
 f243 := Tryz.func107.trans (congrArg some (by kernel_rfl))
 f244 := Tryz.func94.trans (congrArg some (by kernel_rfl))
 f245 := Tryz.func95.trans (congrArg some (by kernel_rfl))
 f246 := Tryz.func108.trans (congrArg some (by kernel_rfl))
 f247 := Tryz.func96.trans (congrArg some (by kernel_rfl))
 f279 := Tryz.func97.trans (congrArg some (by kernel_rfl))
 f280 := Tryz.func98.trans (congrArg some (by kernel_rfl))
 f281 := Tryz.func99.trans (congrArg some (by kernel_rfl))
 f282 := Tryz.func100.trans (congrArg some (by kernel_rfl))
 f283 := Tryz.func109.trans (congrArg some (by kernel_rfl))
 f284 := Tryz.func110.trans (congrArg some (by kernel_rfl))
 f285 := Tryz.func111.trans (congrArg some (by kernel_rfl))
 f286 := Tryz.func112.trans (congrArg some (by kernel_rfl))
 f287 := Tryz.func101.trans (congrArg some (by kernel_rfl))
 f316 := Tryz.func102.trans (congrArg some (by kernel_rfl))
 f317 := Tryz.func113.trans (congrArg some (by kernel_rfl))
 f318 := Tryz.func115.trans (congrArg some (by kernel_rfl))
 f319 := Tryz.func116.trans (congrArg some (by kernel_rfl))
 f320 := Tryz.func117.trans (congrArg some (by kernel_rfl))
 f321 := Tryz.func105.trans (congrArg some (by kernel_rfl))
 f322 := Tryz.func106.trans (congrArg some (by kernel_rfl))
 f337 := Tryz.func118.trans (congrArg some (by kernel_rfl))
 f338 := Tryz.func119.trans (congrArg some (by kernel_rfl))
 t0 := Tryz.underlying0
 a0 := Tryz.isAgg0
 z0 := Tryz.sizeOf0
 v0 := Tryz.zeroValue0
 t2 := Tryz.underlying2
 a2 := Tryz.isAgg2
 z2 := Tryz.sizeOf2
 v2 := Tryz.zeroValue2
 t3 := Tryz.underlying3
 a3 := Tryz.isAgg3
 z3 := Tryz.sizeOf3
 v3 := Tryz.zeroValue3
 t4 := Tryz.underlying4
 a4 := Tryz.isAgg4
 z4 := Tryz.sizeOf4
 v4 := Tryz.zeroValue4
 t5 := Tryz.underlying5
 a5 := Tryz.isAgg5
 z5 := Tryz.sizeOf5
 v5 := Tryz.zeroValue5
 t9 := Tryz.underlying9
 a9 := Tryz.isAgg9
 z9 := Tryz.sizeOf9
 v9 := Tryz.zeroValue9
 t20 := Tryz.underlying20
 a20 := Tryz.isAgg20
 z20 := Tryz.sizeOf20
 v20 := Tryz.zeroValue20
 t21 := Tryz.underlying21
 a21 := Tryz.isAgg21
 z21 := Tryz.sizeOf21
 v21 := Tryz.zeroValue21
 t37 := Tryz.underlying79
 a37 := Tryz.isAgg79
 z37 := Tryz.sizeOf79
 v37 := Tryz.zeroValue79
 t46 := Tryz.underlying116
 a46 := Tryz.isAgg116
 z46 := Tryz.sizeOf116
 v46 := Tryz.zeroValue116
 t51 := Tryz.underlying135
 a51 := Tryz.isAgg135
 z51 := Tryz.sizeOf135
 v51 := Tryz.zeroValue135
 t53 := Tryz.underlying113
 a53 := Tryz.isAgg113
 z53 := Tryz.sizeOf113
 v53 := Tryz.zeroValue113
 t75 := Tryz.underlying103
 a75 := Tryz.isAgg103
 z75 := Tryz.sizeOf103
 v75 := Tryz.zeroValue103
 t76 := Tryz.underlying104
 a76 := Tryz.isAgg104
 z76 := Tryz.sizeOf104
 v76 := Tryz.zeroValue104
 t85 := Tryz.underlying108
 a85 := Tryz.isAgg108
 z85 := Tryz.sizeOf108
 v85 := Tryz.zeroValue108
 t127 := Tryz.underlying122
 a127 := Tryz.isAgg122
 z127 := Tryz.sizeOf122
 v127 := Tryz.zeroValue122
 t143 := Tryz.underlying123
 a143 := Tryz.isAgg123
 z143 := Tryz.sizeOf123
 v143 := Tryz.zeroValue123
 t145 := Tryz.underlying125
 a145 := Tryz.isAgg125
 z145 := Tryz.sizeOf125
 v145 := Tryz.zeroValue125
 t167 := Tryz.underlying107
 a167 := Tryz.isAgg107
 z167 := Tryz.sizeOf107
 v167 := Tryz.zeroValue107
 t168 := Tryz.underlying110
 a168 := Tryz.isAgg110
 z168 := Tryz.sizeOf110
 v168 := Tryz.zeroValue110
 t171 := Tryz.underlying127
 a171 := Tryz.isAgg127
 z171 := Tryz.sizeOf127
 v171 := Tryz.zeroValue127
 t173 := Tryz.underlying130
 a173 := Tryz.isAgg130
 z173 := Tryz.sizeOf130
 v173 := Tryz.zeroValue130
 t175 := Tryz.underlying114
 a175 := Tryz.isAgg114
 z175 := Tryz.sizeOf114
 v175 := Tryz.zeroValue114
 t210 := Tryz.underlying119
 a210 := Tryz.isAgg119
 z210 := Tryz.sizeOf119
 v210 := Tryz.zeroValue119
 t212 := Tryz.underlying134
 a212 := Tryz.isAgg134
 z212 := Tryz.sizeOf134
 v212 := Tryz.zeroValue134
 t213 := Tryz.underlying136
 a213 := Tryz.isAgg136
 z213 := Tryz.sizeOf136
 t232 := Tryz.underlying140
 a232 := Tryz.isAgg140
 z232 := Tryz.sizeOf140
 v232 := Tryz.zeroValue140
 t233 := Tryz.underlying141
 a233 := Tryz.isAgg141
 z233 := Tryz.sizeOf141
 v233 := Tryz.zeroValue141
 g15 := by kernel_rfl
 g16 := by kernel_rfl
 g17 := by kernel_rfl
 g18 := by kernel_rfl
 g19 := by kernel_rfl }
open Go.RowKit in
theorem Tryz.strconv_Atoi (s : ByteArray) (n : Int) (hl : s.size ≤ 18) (h : Lib.atoi s.data.toList = some n) (w : World) :
 Calls Tryz.prog 93 #[.string s] w fun e w' => e = .returned (.tuple #[.int .i64 n, .nilIface]) ∧ ∃ t, w' = Lib.bytesWorld w 5 t := Any.strconv_Atoi Tryz.lays172 s n hl h w
def Tryz.lays129_ren : Go.Shelf.Ren := ⟨fun | 129 => 114 | n => n, fun | 53 => 113 | 3 => 3 | 4 => 4 | 46 => 116 | 5 => 5 | 9 => 9 | n => n, fun | n => n⟩
def Tryz.lays317_ren : Go.Shelf.Ren := ⟨fun | 317 => 113 | n => n, fun | 3 => 3 | 46 => 116 | n => n, fun | n => n⟩
theorem Tryz.lays317 : Go.Proofs.Lays.n317 Tryz.prog Tryz.lays317_ren := {
 mixed := by kernel_rfl
 f317 := Tryz.func113.trans (congrArg some (by kernel_rfl))
 t3 := Tryz.underlying3
 a3 := Tryz.isAgg3
 z3 := Tryz.sizeOf3
 v3 := Tryz.zeroValue3
 t46 := Tryz.underlying116
 a46 := Tryz.isAgg116
 z46 := Tryz.sizeOf116
 v46 := Tryz.zeroValue116 }
open Go.Lib in
theorem Tryz.internal_strconv_log10Pow2 (x : Nat) (h : x ≤ 64) (w : World) :
 Calls Tryz.prog 113 #[.int .i64 x] w fun e w' => e = .returned (.int .i64 (Lib.l10 x)) ∧ w' = w := Any.internal_strconv_log10Pow2 Tryz.lays317 x h w
def Tryz.lays318_ren : Go.Shelf.Ren := ⟨fun | 318 => 115 | n => n, fun | 3 => 3 | 4 => 4 | n => n, fun | n => n⟩
theorem Tryz.lays318 : Go.Proofs.Lays.n318 Tryz.prog Tryz.lays318_ren := {
 mixed := by kernel_rfl
 f318 := Tryz.func115.trans (congrArg some (by kernel_rfl))
 t3 := Tryz.underlying3
 a3 := Tryz.isAgg3
 z3 := Tryz.sizeOf3
 v3 := Tryz.zeroValue3
 t4 := Tryz.underlying4
 a4 := Tryz.isAgg4
 z4 := Tryz.sizeOf4
 v4 := Tryz.zeroValue4 }
open Go.Lib in
theorem Tryz.internal_strconv_bool2_int (b : Bool) (w : World) :
 Calls Tryz.prog 115 #[.bool b] w fun e w' => e = .returned (.int .i64 (if b then 1 else 0)) ∧ w' = w := Any.internal_strconv_bool2_int Tryz.lays318 b w
def Tryz.lays283_ren : Go.Shelf.Ren := ⟨fun | 283 => 109 | n => n, fun | 3 => 3 | 9 => 9 | 4 => 4 | n => n, fun | n => n⟩
theorem Tryz.lays283 : Go.Proofs.Lays.n283 Tryz.prog Tryz.lays283_ren := {
 mixed := by kernel_rfl
 f283 := Tryz.func109.trans (congrArg some (by kernel_rfl))
 t3 := Tryz.underlying3
 a3 := Tryz.isAgg3
 z3 := Tryz.sizeOf3
 v3 := Tryz.zeroValue3
 t4 := Tryz.underlying4
 a4 := Tryz.isAgg4
 z4 := Tryz.sizeOf4
 v4 := Tryz.zeroValue4
 t9 := Tryz.underlying9
 a9 := Tryz.isAgg9
 z9 := Tryz.sizeOf9
 v9 := Tryz.zeroValue9 }
open Go.Lib in
theorem Tryz.internal_strconv_small (i : Nat) (h : i < 100) (w : World) :
 Calls Tryz.prog 109 #[.int .i64 i] w fun e w' => e = .returned (.string ⟨(Lib.decDigits i).toArray⟩) ∧ w' = w := Any.internal_strconv_small Tryz.lays283 i h w
def Tryz.laysM284_ren : Go.Shelf.Ren := ⟨fun | 284 => 110 | 129 => 114 | 317 => 113 | 318 => 115 | n => n, fun | 53 => 113 | 3 => 3 | 212 => 134 | 0 => 0 | 4 => 4 | 46 => 116 | 5 => 5 | 9 => 9 | n => n, fun | 17 => 4 | n => n⟩
theorem Tryz.laysM284 : Go.Proofs.LaysM.n284 Tryz.prog Tryz.laysM284_ren := {
 mixed := by kernel_rfl
 f129 := Tryz.func114.trans (congrArg some (by kernel_rfl))
 f284 := Tryz.func110.trans (congrArg some (by kernel_rfl))
 f317 := Tryz.func113.trans (congrArg some (by kernel_rfl))
 f318 := Tryz.func115.trans (congrArg some (by kernel_rfl))
 t0 := Tryz.underlying0
 a0 := Tryz.isAgg0
 z0 := Tryz.sizeOf0
 v0 := Tryz.zeroValue0
 t3 := Tryz.underlying3
 a3 := Tryz.isAgg3
 z3 := Tryz.sizeOf3
 v3 := Tryz.zeroValue3
 t4 := Tryz.underlying4
 a4 := Tryz.isAgg4
 z4 := Tryz.sizeOf4
 v4 := Tryz.zeroValue4
 t5 := Tryz.underlying5
 a5 := Tryz.isAgg5
 z5 := Tryz.sizeOf5
 v5 := Tryz.zeroValue5
 t9 := Tryz.underlying9
 a9 := Tryz.isAgg9
 z9 := Tryz.sizeOf9
 v9 := Tryz.zeroValue9
 t46 := Tryz.underlying116
 a46 := Tryz.isAgg116
 z46 := Tryz.sizeOf116
 v46 := Tryz.zeroValue116
 t53 := Tryz.underlying113
 a53 := Tryz.isAgg113
 z53 := Tryz.sizeOf113
 v53 := Tryz.zeroValue113
 t212 := Tryz.underlying134
 a212 := Tryz.isAgg134
 z212 := Tryz.sizeOf134
 v212 := Tryz.zeroValue134
 g17 := by kernel_rfl
 i0 := by kernel_rfl
 i3 := by kernel_rfl
 i4 := by kernel_rfl
 i5 := by kernel_rfl
 i9 := by kernel_rfl
 i46 := by kernel_rfl
 i53 := by kernel_rfl
 i212 := by kernel_rfl
 m17 := by kernel_rfl }
open Go.Lib in
theorem Tryz.internal_strconv_numDigits (u : Nat) (h1 : 1 ≤ u) (h2 : u < 18446744073709551616) (w : World) (htab : Lib.TabIs Tryz.prog w "internal/strconv.uint64pow10" .u64 Lib.pow10Tab) :
 Calls Tryz.prog 110 #[.int .u64 u] w fun e w' => e = .returned (.int .i64 (Lib.nDigits u)) ∧ w' = w := Any.internal_strconv_numDigits Tryz.laysM284 u h1 h2 w htab
def Tryz.lays285_ren : Go.Shelf.Ren := ⟨fun | 285 => 111 | n => n, fun | 37 => 79 | 53 => 113 | 3 => 3 | 4 => 4 | 51 => 135 | 9 => 9 | 5 => 5 | 0 => 0 | n => n, fun | n => n⟩
theorem Tryz.lays285 : Go.Proofs.Lays.n285 Tryz.prog Tryz.lays285_ren := {
 mixed := by kernel_rfl
 f285 := Tryz.func111.trans (congrArg some (by kernel_rfl))
 t0 := Tryz.underlying0
 a0 := Tryz.isAgg0
 z0 := Tryz.sizeOf0
 v0 := Tryz.zeroValue0
 t3 := Tryz.underlying3
 a3 := Tryz.isAgg3
 z3 := Tryz.sizeOf3
 v3 := Tryz.zeroValue3
 t4 := Tryz.underlying4
 a4 := Tryz.isAgg4
 z4 := Tryz.sizeOf4
 v4 := Tryz.zeroValue4
 t5 := Tryz.underlying5
 a5 := Tryz.isAgg5
 z5 := Tryz.sizeOf5
 v5 := Tryz.zeroValue5
 t9 := Tryz.underlying9
 a9 := Tryz.isAgg9
 z9 := Tryz.sizeOf9
 v9 := Tryz.zeroValue9
 t37 := Tryz.underlying79
 a37 := Tryz.isAgg79
 z37 := Tryz.sizeOf79
 v37 := Tryz.zeroValue79
 t51 := Tryz.underlying135
 a51 := Tryz.isAgg135
 z51 := Tryz.sizeOf135
 v51 := Tryz.zeroValue135
 t53 := Tryz.underlying113
 a53 := Tryz.isAgg113
 z53 := Tryz.sizeOf113
 v53 := Tryz.zeroValue113 }
open Go.RowKit Go.Sort Go.Lib in
theorem Tryz.internal_strconv_formatBase10 (blk off cap : Nat) (u : Nat) (d : Array UInt8) (w : World) (hH : Holds (fun (b : UInt8) => Value.int .u8 (b.toNat : Int)) w blk off d) (hu : u < 10 ^ d.size) (hu64 : u < 18446744073709551616) (hsz : d.size < 4611686018427387904) :
 Calls Tryz.prog 111 #[.slice (some ⟨blk, off, none⟩) d.size cap, .int .u64 u] w fun e w' =>
  e = .returned (.tuple #[]) ∧ ∃ (n v' : Nat) (dk : Array UInt8), w' = (putRow (fun (b : UInt8) => Value.int .u8 (b.toNat : Int)) w blk off dk).drewN n ∧ FmtInv d.size u 0 v' dk := Any.internal_strconv_formatBase10 Tryz.lays285 blk off cap u d w hH hu hu64 hsz
def Tryz.laysM246_ren : Go.Shelf.Ren := ⟨fun | 246 => 108 | 283 => 109 | 284 => 110 | 285 => 111 | 286 => 112 | 129 => 114 | 317 => 113 | 318 => 115 | 319 => 116 | 320 => 117 | 337 => 118 | 338 => 119 | n => n, fun | 2 => 2 | 3 => 3 | 9 => 9 | 4 => 4 | 171 => 127 | 0 => 0 | 53 => 113 | 37 => 79 | 5 => 5 | 173 => 130 | 212 => 134 | 51 => 135 | 20 => 20 | 213 => 136 | 46 => 116 | 232 => 140 | 233 => 141 | n => n, fun | 17 => 4 | 18 => 5 | 19 => 6 | n => n⟩
theorem Tryz.laysM246 : Go.Proofs.LaysM.n246 Tryz.prog Tryz.laysM246_ren := {
 mixed := by kernel_rfl
 f129 := Tryz.func114.trans (congrArg some (by kernel_rfl))
 f246 := Tryz.func108.trans (congrArg some (by kernel_rfl))
 f283 := Tryz.func109.trans (congrArg some (by kernel_rfl))
 f284 := Tryz.func110.trans (congrArg some (by kernel_rfl))
 f285 := Tryz.func111.trans (congrArg some (by kernel_rfl))
 f286 := Tryz.func112.trans (congrArg some (by kernel_rfl))
 f317 := Tryz.func113.trans (congrArg some (by kernel_rfl))
 f318 := Tryz.func115.trans (congrArg some (by kernel_rfl))
 f319 := Tryz.func116.trans (congrArg some (by kernel_rfl))
 f320 := Tryz.func117.trans (congrArg some (by kernel_rfl))
 f337 := Tryz.func118.trans (congrArg some (by kernel_rfl))
 f338 := Tryz.func119.trans (congrArg some (by kernel_rfl))
 t0 := Tryz.underlying0
 a0 := Tryz.isAgg0
 z0 := Tryz.sizeOf0
 v0 := Tryz.zeroValue0
 t2 := Tryz.underlying2
 a2 := Tryz.isAgg2
 z2 := Tryz.sizeOf2
 v2 := Tryz.zeroValue2
 t3 := Tryz.underlying3
 a3 := Tryz.isAgg3
 z3 := Tryz.sizeOf3
 v3 := Tryz.zeroValue3
 t4 := Tryz.underlying4
 a4 := Tryz.isAgg4
 z4 := Tryz.sizeOf4
 v4 := Tryz.zeroValue4
 t5 := Tryz.underlying5
 a5 := Tryz.isAgg5
 z5 := Tryz.sizeOf5
 v5 := Tryz.zeroValue5
 t9 := Tryz.underlying9
 a9 := Tryz.isAgg9
 z9 := Tryz.sizeOf9
 v9 := Tryz.zeroValue9
 t20 := Tryz.underlying20
 a20 := Tryz.isAgg20
 z20 := Tryz.sizeOf20
 v20 := Tryz.zeroValue20
 t37 := Tryz.underlying79
 a37 := Tryz.isAgg79
 z37 := Tryz.sizeOf79
 v37 := Tryz.zeroValue79
 t46 := Tryz.underlying116
 a46 := Tryz.isAgg116
 z46 := Tryz.sizeOf116
 v46 := Tryz.zeroValue116
 t51 := Tryz.underlying135
 a51 := Tryz.isAgg135
 z51 := Tryz.sizeOf135
 v51 := Tryz.zeroValue135
 t53 := Tryz.underlying113
 a53 := Tryz.isAgg113
 z53 := Tryz.sizeOf113
 v53 := Tryz.zeroValue113
 t171 := Tryz.underlying127
 a171 := Tryz.isAgg127
 z171 := Tryz.sizeOf127
 v171 := Tryz.zeroValue127
 t173 := Tryz.underlying130
 a173 := Tryz.isAgg130
 z173 := Tryz.sizeOf130
 v173 := Tryz.zeroValue130
 t212 := Tryz.underlying134
 a212 := Tryz.isAgg134
 z212 := Tryz.sizeOf134
 v212 := Tryz.zeroValue134
 t213 := Tryz.underlying136
 a213 := Tryz.isAgg136
 z213 := Tryz.sizeOf136
 t232 := Tryz.underlying140
 a232 := Tryz.isAgg140
 z232 := Tryz.sizeOf140
 v232 := Tryz.zeroValue140
 t233 := Tryz.underlying141
 a233 := Tryz.isAgg141
 z233 := Tryz.sizeOf141
 v233 := Tryz.zeroValue141
 g17 := by kernel_rfl
 g18 := by kernel_rfl
 g19 := by kernel_rfl
 i0 := by kernel_rfl
 i2 := by kernel_rfl
 i3 := by kernel_rfl
 i4 := by kernel_rfl
 i5 := by kernel_rfl
 i9 := by kernel_rfl
 i20 := by kernel_rfl
 i37 := by kernel_rfl
 i46 := by kernel_rfl
 i51 := by kernel_rfl
 i53 := by kernel_rfl
 i171 := by kernel_rfl
 i173 := by kernel_rfl
 i212 := by kernel_rfl
 i232 := by kernel_rfl
 i233 := by kernel_rfl
 m17 := by kernel_rfl
 m18 := by kernel_rfl
 m19 := by kernel_rfl }
open Go.RowKit Go.Sort Go.Lib in
theorem Tryz.internal_strconv_FormatInt_10 (n : Int) (h0 : -9223372036854775808 ≤ n) (h1 : n ≤ 9223372036854775807) (w : World) (htab : Lib.TabIs Tryz.prog w "internal/strconv.uint64pow10" .u64 Lib.pow10Tab) :
 Calls Tryz.prog 108 #[.int .i64 n, .int .i64 10] w fun e w' => e = .returned (.string ⟨(Lib.itoa n).toArray⟩) ∧ ∃ k os, w' = grow (w.drewN k) os := Any.internal_strconv_FormatInt_10 Tryz.laysM246 n h0 h1 w htab
def Tryz.lays246_ren : Go.Shelf.Ren := ⟨fun | 246 => 108 | 283 => 109 | 284 => 110 | 285 => 111 | 286 => 112 | 129 => 114 | 317 => 113 | 318 => 115 | 319 => 116 | 320 => 117 | 337 => 118 | 338 => 119 | n => n, fun | 2 => 2 | 3 => 3 | 9 => 9 | 4 => 4 | 171 => 127 | 0 => 0 | 53 => 113 | 37 => 79 | 5 => 5 | 173 => 130 | 212 => 134 | 51 => 135 | 20 => 20 | 213 => 136 | 46 => 116 | 232 => 140 | 233 => 141 | n => n, fun | 17 => 4 | 18 => 5 | 19 => 6 | n => n⟩
theorem Tryz.lays246 : Go.Proofs.Lays.n246 Tryz.prog Tryz.lays246_ren := {
 mixed := by kernel_rfl
 f129 := Tryz.func114.trans (congrArg some (by kernel_rfl))
 f246 := Tryz.func108.trans (congrArg some (by kernel_rfl))
 f283 := Tryz.func109.trans (congrArg some (by kernel_rfl))
 f284 := Tryz.func110.trans (congrArg some (by kernel_rfl))
 f285 := Tryz.func111.trans (congrArg some (by kernel_rfl))
 f286 := Tryz.func112.trans (congrArg some (by kernel_rfl))
 f317 := Tryz.func113.trans (congrArg some (by kernel_rfl))
 f318 := Tryz.func115.trans (congrArg some (by kernel_rfl))
 f319 := Tryz.func116.trans (congrArg some (by kernel_rfl))
 f320 := Tryz.func117.trans (congrArg some (by kernel_rfl))
 f337 := Tryz.func118.trans (congrArg some (by kernel_rfl))
 f338 := Tryz.func119.trans (congrArg some (by kernel_rfl))
 t0 := Tryz.underlying0
 a0 := Tryz.isAgg0
 z0 := Tryz.sizeOf0
 v0 := Tryz.zeroValue0
 t2 := Tryz.underlying2
 a2 := Tryz.isAgg2
 z2 := Tryz.sizeOf2
 v2 := Tryz.zeroValue2
 t3 := Tryz.underlying3
 a3 := Tryz.isAgg3
 z3 := Tryz.sizeOf3
 v3 := Tryz.zeroValue3
 t4 := Tryz.underlying4
 a4 := Tryz.isAgg4
 z4 := Tryz.sizeOf4
 v4 := Tryz.zeroValue4
 t5 := Tryz.underlying5
 a5 := Tryz.isAgg5
 z5 := Tryz.sizeOf5
 v5 := Tryz.zeroValue5
 t9 := Tryz.underlying9
 a9 := Tryz.isAgg9
 z9 := Tryz.sizeOf9
 v9 := Tryz.zeroValue9
 t20 := Tryz.underlying20
 a20 := Tryz.isAgg20
 z20 := Tryz.sizeOf20
 v20 := Tryz.zeroValue20
 t37 := Tryz.underlying79
 a37 := Tryz.isAgg79
 z37 := Tryz.sizeOf79
 v37 := Tryz.zeroValue79
 t46 := Tryz.underlying116
 a46 := Tryz.isAgg116
 z46 := Tryz.sizeOf116
 v46 := Tryz.zeroValue116
 t51 := Tryz.underlying135
 a51 := Tryz.isAgg135
 z51 := Tryz.sizeOf135
 v51 := Tryz.zeroValue135
 t53 := Tryz.underlying113
 a53 := Tryz.isAgg113
 z53 := Tryz.sizeOf113
 v53 := Tryz.zeroValue113
 t171 := Tryz.underlying127
 a171 := Tryz.isAgg127
 z171 := Tryz.sizeOf127
 v171 := Tryz.zeroValue127
 t173 := Tryz.underlying130
 a173 := Tryz.isAgg130
 z173 := Tryz.sizeOf130
 v173 := Tryz.zeroValue130
 t212 := Tryz.underlying134
 a212 := Tryz.isAgg134
 z212 := Tryz.sizeOf134
 v212 := Tryz.zeroValue134
 t213 := Tryz.underlying136
 a213 := Tryz.isAgg136
 z213 := Tryz.sizeOf136
 t232 := Tryz.underlying140
 a232 := Tryz.isAgg140
 z232 := Tryz.sizeOf140
 v232 := Tryz.zeroValue140
 t233 := Tryz.underlying141
 a233 := Tryz.isAgg141
 z233 := Tryz.sizeOf141
 v233 := Tryz.zeroValue141
 g17 := by kernel_rfl
 g18 := by kernel_rfl
 g19 := by kernel_rfl }
open Go.RowKit Go.Sort Go.Lib in
theorem Tryz.internal_strconv_FormatInt_10_small (i : Nat) (hi : i < 100) (w : World) :
 Calls Tryz.prog 108 #[.int .i64 i, .int .i64 10] w fun e w' => e = .returned (.string ⟨(Lib.decDigits i).toArray⟩) ∧ w' = w := Any.internal_strconv_FormatInt_10_small Tryz.lays246 i hi w
def Tryz.laysM243_ren : Go.Shelf.Ren := ⟨fun | 243 => 107 | 246 => 108 | 283 => 109 | 284 => 110 | 285 => 111 | 286 => 112 | 129 => 114 | 317 => 113 | 318 => 115 | 319 => 116 | 320 => 117 | 337 => 118 | 338 => 119 | n => n, fun | 3 => 3 | 9 => 9 | 2 => 2 | 4 => 4 | 171 => 127 | 0 => 0 | 53 => 113 | 37 => 79 | 5 => 5 | 173 => 130 | 212 => 134 | 51 => 135 | 20 => 20 | 213 => 136 | 46 => 116 | 232 => 140 | 233 => 141 | n => n, fun | 17 => 4 | 18 => 5 | 19 => 6 | n => n⟩
theorem Tryz.laysM243 : Go.Proofs.LaysM.n243 Tryz.prog Tryz.laysM243_ren := {
 mixed := by kernel_rfl
 f129 := Tryz.func114.trans (congrArg some (by kernel_rfl))
 f243 := Tryz.func107.trans (congrArg some (by kernel_rfl))
 f246 := Tryz.func108.trans (congrArg some (by kernel_rfl))
 f283 := Tryz.func109.trans (congrArg some (by kernel_rfl))
 f284 := Tryz.func110.trans (congrArg some (by kernel_rfl))
 f285 := Tryz.func111.trans (congrArg some (by kernel_rfl))
 f286 := Tryz.func112.trans (congrArg some (by kernel_rfl))
 f317 := Tryz.func113.trans (congrArg some (by kernel_rfl))
 f318 := Tryz.func115.trans (congrArg some (by kernel_rfl))
 f319 := Tryz.func116.trans (congrArg some (by kernel_rfl))
 f320 := Tryz.func117.trans (congrArg some (by kernel_rfl))
 f337 := Tryz.func118.trans (congrArg some (by kernel_rfl))
 f338 := Tryz.func119.trans (congrArg some (by kernel_rfl))
 t0 := Tryz.underlying0
 a0 := Tryz.isAgg0
 z0 := Tryz.sizeOf0
 v0 := Tryz.zeroValue0
 t2 := Tryz.underlying2
 a2 := Tryz.isAgg2
 z2 := Tryz.sizeOf2
 v2 := Tryz.zeroValue2
 t3 := Tryz.underlying3
 a3 := Tryz.isAgg3
 z3 := Tryz.sizeOf3
 v3 := Tryz.zeroValue3
 t4 := Tryz.underlying4
 a4 := Tryz.isAgg4
 z4 := Tryz.sizeOf4
 v4 := Tryz.zeroValue4
 t5 := Tryz.underlying5
 a5 := Tryz.isAgg5
 z5 := Tryz.sizeOf5
 v5 := Tryz.zeroValue5
 t9 := Tryz.underlying9
 a9 := Tryz.isAgg9
 z9 := Tryz.sizeOf9
 v9 := Tryz.zeroValue9
 t20 := Tryz.underlying20
 a20 := Tryz.isAgg20
 z20 := Tryz.sizeOf20
 v20 := Tryz.zeroValue20
 t37 := Tryz.underlying79
 a37 := Tryz.isAgg79
 z37 := Tryz.sizeOf79
 v37 := Tryz.zeroValue79
 t46 := Tryz.underlying116
 a46 := Tryz.isAgg116
 z46 := Tryz.sizeOf116
 v46 := Tryz.zeroValue116
 t51 := Tryz.underlying135
 a51 := Tryz.isAgg135
 z51 := Tryz.sizeOf135
 v51 := Tryz.zeroValue135
 t53 := Tryz.underlying113
 a53 := Tryz.isAgg113
 z53 := Tryz.sizeOf113
 v53 := Tryz.zeroValue113
 t171 := Tryz.underlying127
 a171 := Tryz.isAgg127
 z171 := Tryz.sizeOf127
 v171 := Tryz.zeroValue127
 t173 := Tryz.underlying130
 a173 := Tryz.isAgg130
 z173 := Tryz.sizeOf130
 v173 := Tryz.zeroValue130
 t212 := Tryz.underlying134
 a212 := Tryz.isAgg134
 z212 := Tryz.sizeOf134
 v212 := Tryz.zeroValue134
 t213 := Tryz.underlying136
 a213 := Tryz.isAgg136
 z213 := Tryz.sizeOf136
 t232 := Tryz.underlying140
 a232 := Tryz.isAgg140
 z232 := Tryz.sizeOf140
 v232 := Tryz.zeroValue140
 t233 := Tryz.underlying141
 a233 := Tryz.isAgg141
 z233 := Tryz.sizeOf141
 v233 := Tryz.zeroValue141
 g17 := by kernel_rfl
 g18 := by kernel_rfl
 g19 := by kernel_rfl
 i0 := by kernel_rfl
 i2 := by kernel_rfl
 i3 := by kernel_rfl
 i4 := by kernel_rfl
 i5 := by kernel_rfl
 i9 := by kernel_rfl
 i20 := by kernel_rfl
 i37 := by kernel_rfl
 i46 := by kernel_rfl
 i51 := by kernel_rfl
 i53 := by kernel_rfl
 i171 := by kernel_rfl
 i173 := by kernel_rfl
 i212 := by kernel_rfl
 i232 := by kernel_rfl
 i233 := by kernel_rfl
 m17 := by kernel_rfl
 m18 := by kernel_rfl
 m19 := by kernel_rfl }
open Go.RowKit Go.Sort Go.Lib in
theorem Tryz.internal_strconv_Itoa (n : Int) (h0 : -9223372036854775808 ≤ n) (h1 : n ≤ 9223372036854775807) (w : World) (htab : Lib.TabIs Tryz.prog w "internal/strconv.uint64pow10" .u64 Lib.pow10Tab) :
 Calls Tryz.prog 107 #[.int .i64 n] w fun e w' => e = .returned (.string ⟨(Lib.itoa n).toArray⟩) ∧ ∃ k os, w' = grow (w.drewN k) os := Any.internal_strconv_Itoa Tryz.laysM243 n h0 h1 w htab
def Tryz.lays243_ren : Go.Shelf.Ren := ⟨fun | 243 => 107 | 246 => 108 | 283 => 109 | 284 => 110 | 285 => 111 | 286 => 112 | 129 => 114 | 317 => 113 | 318 => 115 | 319 => 116 | 320 => 117 | 337 => 118 | 338 => 119 | n => n, fun | 3 => 3 | 9 => 9 | 2 => 2 | 4 => 4 | 171 => 127 | 0 => 0 | 53 => 113 | 37 => 79 | 5 => 5 | 173 => 130 | 212 => 134 | 51 => 135 | 20 => 20 | 213 => 136 | 46 => 116 | 232 => 140 | 233 => 141 | n => n, fun | 17 => 4 | 18 => 5 | 19 => 6 | n => n⟩
theorem Tryz.lays243 : Go.Proofs.Lays.n243 Tryz.prog Tryz.lays243_ren := {
 mixed := by kernel_rfl
 f129 := Tryz.func114.trans (congrArg some (by kernel_rfl))
 f243 := Tryz.func107.trans (congrArg some (by kernel_rfl))
 f246 := Tryz.func108.trans (congrArg some (by kernel_rfl))
 f283 := Tryz.func109.trans (congrArg some (by kernel_rfl))
 f284 := Tryz.func110.trans (congrArg some (by kernel_rfl))
 f285 := Tryz.func111.trans (congrArg some (by kernel_rfl))
 f286 := Tryz.func112.trans (congrArg some (by kernel_rfl))
 f317 := Tryz.func113.trans (congrArg some (by kernel_rfl))
 f318 := Tryz.func115.trans (congrArg some (by kernel_rfl))
 f319 := Tryz.func116.trans (congrArg some (by kernel_rfl))
 f320 := Tryz.func117.trans (congrArg some (by kernel_rfl))
 f337 := Tryz.func118.trans (congrArg some (by kernel_rfl))
 f338 := Tryz.func119.trans (congrArg some (by kernel_rfl))
 t0 := Tryz.underlying0
 a0 := Tryz.isAgg0
 z0 := Tryz.sizeOf0
 v0 := Tryz.zeroValue0
 t2 := Tryz.underlying2
 a2 := Tryz.isAgg2
 z2 := Tryz.sizeOf2
 v2 := Tryz.zeroValue2
 t3 := Tryz.underlying3
 a3 := Tryz.isAgg3
 z3 := Tryz.sizeOf3
 v3 := Tryz.zeroValue3
 t4 := Tryz.underlying4
 a4 := Tryz.isAgg4
 z4 := Tryz.sizeOf4
 v4 := Tryz.zeroValue4
 t5 := Tryz.underlying5
 a5 := Tryz.isAgg5
 z5 := Tryz.sizeOf5
 v5 := Tryz.zeroValue5
 t9 := Tryz.underlying9
 a9 := Tryz.isAgg9
 z9 := Tryz.sizeOf9
 v9 := Tryz.zeroValue9
 t20 := Tryz.underlying20
 a20 := Tryz.isAgg20
 z20 := Tryz.sizeOf20
 v20 := Tryz.zeroValue20
 t37 := Tryz.underlying79
 a37 := Tryz.isAgg79
 z37 := Tryz.sizeOf79
 v37 := Tryz.zeroValue79
 t46 := Tryz.underlying116
 a46 := Tryz.isAgg116
 z46 := Tryz.sizeOf116
 v46 := Tryz.zeroValue116
 t51 := Tryz.underlying135
 a51 := Tryz.isAgg135
 z51 := Tryz.sizeOf135
 v51 := Tryz.zeroValue135
 t53 := Tryz.underlying113
 a53 := Tryz.isAgg113
 z53 := Tryz.sizeOf113
 v53 := Tryz.zeroValue113
 t171 := Tryz.underlying127
 a171 := Tryz.isAgg127
 z171 := Tryz.sizeOf127
 v171 := Tryz.zeroValue127
 t173 := Tryz.underlying130
 a173 := Tryz.isAgg130
 z173 := Tryz.sizeOf130
 v173 := Tryz.zeroValue130
 t212 := Tryz.underlying134
 a212 := Tryz.isAgg134
 z212 := Tryz.sizeOf134
 v212 := Tryz.zeroValue134
 t213 := Tryz.underlying136
 a213 := Tryz.isAgg136
 z213 := Tryz.sizeOf136
 t232 := Tryz.underlying140
 a232 := Tryz.isAgg140
 z232 := Tryz.sizeOf140
 v232 := Tryz.zeroValue140
 t233 := Tryz.underlying141
 a233 := Tryz.isAgg141
 z233 := Tryz.sizeOf141
 v233 := Tryz.zeroValue141
 g17 := by kernel_rfl
 g18 := by kernel_rfl
 g19 := by kernel_rfl }
open Go.RowKit Go.Sort Go.Lib in
theorem Tryz.internal_strconv_Itoa_small (i : Nat) (hi : i < 100) (w : World) :
 Calls Tryz.prog 107 #[.int .i64 i] w fun e w' => e = .returned (.string ⟨(Lib.decDigits i).toArray⟩) ∧ w' = w := Any.internal_strconv_Itoa_small Tryz.lays243 i hi w
def Tryz.laysM171_ren : Go.Shelf.Ren := ⟨fun | 171 => 104 | 243 => 107 | 246 => 108 | 283 => 109 | 284 => 110 | 285 => 111 | 286 => 112 | 129 => 114 | 317 => 113 | 318 => 115 | 319 => 116 | 320 => 117 | 337 => 118 | 338 => 119 | n => n, fun | 3 => 3 | 9 => 9 | 2 => 2 | 4 => 4 | 171 => 127 | 0 => 0 | 53 => 113 | 37 => 79 | 5 => 5 | 173 => 130 | 212 => 134 | 51 => 135 | 20 => 20 | 213 => 136 | 46 => 116 | 232 => 140 | 233 => 141 | n => n, fun | 17 => 4 | 18 => 5 | 19 => 6 | n => n⟩
theorem Tryz.laysM171 : Go.Proofs.LaysM.n171 Tryz.prog Tryz.laysM171_ren := {
 mixed := by kernel_rfl
 f129 := Tryz.func114.trans (congrArg some (by kernel_rfl))
 f171 := Tryz.func104.trans (congrArg some (by kernel_rfl))
 f243 := Tryz.func107.trans (congrArg some (by kernel_rfl))
 f246 := Tryz.func108.trans (congrArg some (by kernel_rfl))
 f283 := Tryz.func109.trans (congrArg some (by kernel_rfl))
 f284 := Tryz.func110.trans (congrArg some (by kernel_rfl))
 f285 := Tryz.func111.trans (congrArg some (by kernel_rfl))
 f286 := Tryz.func112.trans (congrArg some (by kernel_rfl))
 f317 := Tryz.func113.trans (congrArg some (by kernel_rfl))
 f318 := Tryz.func115.trans (congrArg some (by kernel_rfl))
 f319 := Tryz.func116.trans (congrArg some (by kernel_rfl))
 f320 := Tryz.func117.trans (congrArg some (by kernel_rfl))
 f337 := Tryz.func118.trans (congrArg some (by kernel_rfl))
 f338 := Tryz.func119.trans (congrArg some (by kernel_rfl))
 t0 := Tryz.underlying0
 a0 := Tryz.isAgg0
 z0 := Tryz.sizeOf0
 v0 := Tryz.zeroValue0
 t2 := Tryz.underlying2
 a2 := Tryz.isAgg2
 z2 := Tryz.sizeOf2
 v2 := Tryz.zeroValue2
 t3 := Tryz.underlying3
 a3 := Tryz.isAgg3
 z3 := Tryz.sizeOf3
 v3 := Tryz.zeroValue3
 t4 := Tryz.underlying4
 a4 := Tryz.isAgg4
 z4 := Tryz.sizeOf4
 v4 := Tryz.zeroValue4
 t5 := Tryz.underlying5
 a5 := Tryz.isAgg5
 z5 := Tryz.sizeOf5
 v5 := Tryz.zeroValue5
 t9 := Tryz.underlying9
 a9 := Tryz.isAgg9
 z9 := Tryz.sizeOf9
 v9 := Tryz.zeroValue9
 t20 := Tryz.underlying20
 a20 := Tryz.isAgg20
 z20 := Tryz.sizeOf20
 v20 := Tryz.zeroValue20
 t37 := Tryz.underlying79
 a37 := Tryz.isAgg79
 z37 := Tryz.sizeOf79
 v37 := Tryz.zeroValue79
 t46 := Tryz.underlying116
 a46 := Tryz.isAgg116
 z46 := Tryz.sizeOf116
 v46 := Tryz.zeroValue116
 t51 := Tryz.underlying135
 a51 := Tryz.isAgg135
 z51 := Tryz.sizeOf135
 v51 := Tryz.zeroValue135
 t53 := Tryz.underlying113
 a53 := Tryz.isAgg113
 z53 := Tryz.sizeOf113
 v53 := Tryz.zeroValue113
 t171 := Tryz.underlying127
 a171 := Tryz.isAgg127
 z171 := Tryz.sizeOf127
 v171 := Tryz.zeroValue127
 t173 := Tryz.underlying130
 a173 := Tryz.isAgg130
 z173 := Tryz.sizeOf130
 v173 := Tryz.zeroValue130
 t212 := Tryz.underlying134
 a212 := Tryz.isAgg134
 z212 := Tryz.sizeOf134
 v212 := Tryz.zeroValue134
 t213 := Tryz.underlying136
 a213 := Tryz.isAgg136
 z213 := Tryz.sizeOf136
 t232 := Tryz.underlying140
 a232 := Tryz.isAgg140
 z232 := Tryz.sizeOf140
 v232 := Tryz.zeroValue140
 t233 := Tryz.underlying141
 a233 := Tryz.isAgg141
 z233 := Tryz.sizeOf141
 v233 := Tryz.zeroValue141
 g17 := by kernel_rfl
 g18 := by kernel_rfl
 g19 := by kernel_rfl
 i0 := by kernel_rfl
 i2 := by kernel_rfl
 i3 := by kernel_rfl
 i4 := by kernel_rfl
 i5 := by kernel_rfl
 i9 := by kernel_rfl
 i20 := by kernel_rfl
 i37 := by kernel_rfl
 i46 := by kernel_rfl
 i51 := by kernel_rfl
 i53 := by kernel_rfl
 i171 := by kernel_rfl
 i173 := by kernel_rfl
 i212 := by kernel_rfl
 i232 := by kernel_rfl
 i233 := by kernel_rfl
 m17 := by kernel_rfl
 m18 := by kernel_rfl
 m19 := by kernel_rfl }
open Go.RowKit Go.Sort Go.Lib in
theorem Tryz.strconv_Itoa (n : Int) (h0 : -9223372036854775808 ≤ n) (h1 : n ≤ 9223372036854775807) (w : World) (htab : Lib.TabIs Tryz.prog w "internal/strconv.uint64pow10" .u64 Lib.pow10Tab) :
 Calls Tryz.prog 104 #[.int .i64 n] w fun e w' => e = .returned (.string ⟨(Lib.itoa n).toArray⟩) ∧ ∃ k os, w' = grow (w.drewN k) os := Any.strconv_Itoa Tryz.laysM171 n h0 h1 w htab
def Tryz.lays171_ren : Go.Shelf.Ren := ⟨fun | 171 => 104 | 243 => 107 | 246 => 108 | 283 => 109 | 284 => 110 | 285 => 111 | 286 => 112 | 129 => 114 | 317 => 113 | 318 => 115 | 319 => 116 | 320 => 117 | 337 => 118 | 338 => 119 | n => n, fun | 3 => 3 | 9 => 9 | 2 => 2 | 4 => 4 | 171 => 127 | 0 => 0 | 53 => 113 | 37 => 79 | 5 => 5 | 173 => 130 | 212 => 134 | 51 => 135 | 20 => 20 | 213 => 136 | 46 => 116 | 232 => 140 | 233 => 141 | n => n, fun | 17 => 4 | 18 => 5 | 19 => 6 | n => n⟩
theorem Tryz.lays171 : Go.Proofs.Lays.n171 Tryz.prog Tryz.lays171_ren := {
 mixed := by kernel_rfl
 f129 := Tryz.func114.trans (congrArg some (by kernel_rfl))
 f171 := Tryz.func104.trans (congrArg some (by kernel_rfl))
 f243 := Tryz.func107.trans (congrArg some (by kernel_rfl))
 f246 := Tryz.func108.trans (congrArg some (by kernel_rfl))
 f283 := Tryz.func109.trans (congrArg some (by kernel_rfl))
 f284 := Tryz.func110.trans (congrArg some (by kernel_rfl))
 f285 := Tryz.func111.trans (congrArg some (by kernel_rfl))
 f286 := Tryz.func112.trans (congrArg some (by kernel_rfl))
 f317 := Tryz.func113.trans (congrArg some (by kernel_rfl))
 f318 := Tryz.func115.trans (congrArg some (by kernel_rfl))
 f319 := Tryz.func116.trans (congrArg some (by kernel_rfl))
 f320 := Tryz.func117.trans (congrArg some (by kernel_rfl))
 f337 := Tryz.func118.trans (congrArg some (by kernel_rfl))
 f338 := Tryz.func119.trans (congrArg some (by kernel_rfl))
 t0 := Tryz.underlying0
 a0 := Tryz.isAgg0
 z0 := Tryz.sizeOf0
 v0 := Tryz.zeroValue0
 t2 := Tryz.underlying2
 a2 := Tryz.isAgg2
 z2 := Tryz.sizeOf2
 v2 := Tryz.zeroValue2
 t3 := Tryz.underlying3
 a3 := Tryz.isAgg3
 z3 := Tryz.sizeOf3
 v3 := Tryz.zeroValue3
 t4 := Tryz.underlying4
 a4 := Tryz.isAgg4
 z4 := Tryz.sizeOf4
 v4 := Tryz.zeroValue4
 t5 := Tryz.underlying5
 a5 := Tryz.isAgg5
 z5 := Tryz.sizeOf5
 v5 := Tryz.zeroValue5
 t9 := Tryz.underlying9
 a9 := Tryz.isAgg9
 z9 := Tryz.sizeOf9
 v9 := Tryz.zeroValue9
 t20 := Tryz.underlying20
 a20 := Tryz.isAgg20
 z20 := Tryz.sizeOf20
 v20 := Tryz.zeroValue20
 t37 := Tryz.underlying79
 a37 := Tryz.isAgg79
 z37 := Tryz.sizeOf79
 v37 := Tryz.zeroValue79
 t46 := Tryz.underlying116
 a46 := Tryz.isAgg116
 z46 := Tryz.sizeOf116
 v46 := Tryz.zeroValue116
 t51 := Tryz.underlying135
 a51 := Tryz.isAgg135
 z51 := Tryz.sizeOf135
 v51 := Tryz.zeroValue135
 t53 := Tryz.underlying113
 a53 := Tryz.isAgg113
 z53 := Tryz.sizeOf113
 v53 := Tryz.zeroValue113
 t171 := Tryz.underlying127
 a171 := Tryz.isAgg127
 z171 := Tryz.sizeOf127
 v171 := Tryz.zeroValue127
 t173 := Tryz.underlying130
 a173 := Tryz.isAgg130
 z173 := Tryz.sizeOf130
 v173 := Tryz.zeroValue130
 t212 := Tryz.underlying134
 a212 := Tryz.isAgg134
 z212 := Tryz.sizeOf134
 v212 := Tryz.zeroValue134
 t213 := Tryz.underlying136
 a213 := Tryz.isAgg136
 z213 := Tryz.sizeOf136
 t232 := Tryz.underlying140
 a232 := Tryz.isAgg140
 z232 := Tryz.sizeOf140
 v232 := Tryz.zeroValue140
 t233 := Tryz.underlying141
 a233 := Tryz.isAgg141
 z233 := Tryz.sizeOf141
 v233 := Tryz.zeroValue141
 g17 := by kernel_rfl
 g18 := by kernel_rfl
 g19 := by kernel_rfl }
open Go.RowKit Go.Sort Go.Lib in
theorem Tryz.strconv_Itoa_small (i : Nat) (hi : i < 100) (w : World) :
 Calls Tryz.prog 104 #[.int .i64 i] w fun e w' => e = .returned (.string ⟨(Lib.decDigits i).toArray⟩) ∧ w' = w := Any.strconv_Itoa_small Tryz.lays171 i hi w
open Go.RowKit in
theorem Tryz.internal_strconv_Atoi_err (s : ByteArray) (hl0 : 1 ≤ s.size) (hl : s.size ≤ 18) (h : Lib.atoi s.data.toList = none) (w : World) :
 Calls Tryz.prog 94 #[.string s] w fun e w' => e = .returned (.tuple #[.int .i64 0, (.iface 107 (.int .i64 2))]) ∧ (w' = w ∨ ∃ t, w' = Lib.bytesWorld w 5 t) := Any.internal_strconv_Atoi_err Tryz.lays244 s hl0 hl h w
def Tryz.lays247_ren : Go.Shelf.Ren := ⟨fun | 247 => 96 | 287 => 101 | 321 => 105 | 322 => 106 | n => n, fun | 9 => 9 | 3 => 3 | 2 => 2 | 75 => 103 | 4 => 4 | 167 => 107 | 5 => 5 | 53 => 113 | 175 => 114 | 46 => 116 | 37 => 79 | 0 => 0 | 21 => 21 | 80 => 93 | n => n, fun | n => n⟩
theorem Tryz.lays247 : Go.Proofs.Lays.n247 Tryz.prog Tryz.lays247_ren := {
 mixed := by kernel_rfl
 f247 := Tryz.func96.trans (congrArg some (by kernel_rfl))
 f287 := Tryz.func101.trans (congrArg some (by kernel_rfl))
 f321 := Tryz.func105.trans (congrArg some (by kernel_rfl))
 f322 := Tryz.func106.trans (congrArg some (by kernel_rfl))
 t0 := Tryz.underlying0
 a0 := Tryz.isAgg0
 z0 := Tryz.sizeOf0
 v0 := Tryz.zeroValue0
 t2 := Tryz.underlying2
 a2 := Tryz.isAgg2
 z2 := Tryz.sizeOf2
 v2 := Tryz.zeroValue2
 t3 := Tryz.underlying3
 a3 := Tryz.isAgg3
 z3 := Tryz.sizeOf3
 v3 := Tryz.zeroValue3
 t4 := Tryz.underlying4
 a4 := Tryz.isAgg4
 z4 := Tryz.sizeOf4
 v4 := Tryz.zeroValue4
 t5 := Tryz.underlying5
 a5 := Tryz.isAgg5
 z5 := Tryz.sizeOf5
 v5 := Tryz.zeroValue5
 t9 := Tryz.underlying9
 a9 := Tryz.isAgg9
 z9 := Tryz.sizeOf9
 v9 := Tryz.zeroValue9
 t21 := Tryz.underlying21
 a21 := Tryz.isAgg21
 z21 := Tryz.sizeOf21
 v21 := Tryz.zeroValue21
 t37 := Tryz.underlying79
 a37 := Tryz.isAgg79
 z37 := Tryz.sizeOf79
 v37 := Tryz.zeroValue79
 t46 := Tryz.underlying116
 a46 := Tryz.isAgg116
 z46 := Tryz.sizeOf116
 v46 := Tryz.zeroValue116
 t53 := Tryz.underlying113
 a53 := Tryz.isAgg113
 z53 := Tryz.sizeOf113
 v53 := Tryz.zeroValue113
 t75 := Tryz.underlying103
 a75 := Tryz.isAgg103
 z75 := Tryz.sizeOf103
 v75 := Tryz.zeroValue103
 t167 := Tryz.underlying107
 a167 := Tryz.isAgg107
 z167 := Tryz.sizeOf107
 v167 := Tryz.zeroValue107
 t175 := Tryz.underlying114
 a175 := Tryz.isAgg114
 z175 := Tryz.sizeOf114
 v175 := Tryz.zeroValue114 }
open Go.RowKit in
theorem Tryz.internal_strconv_ParseInt_empty (base bits : Int) (w : World) :
 Calls Tryz.prog 96 #[.string ⟨#[]⟩, .int .i64 base, .int .i64 bits] w fun e w' => e = .returned (.tuple #[.int .i64 0, (.iface 107 (.int .i64 2))]) ∧ w' = w := Any.internal_strconv_ParseInt_empty Tryz.lays247 base bits w
open Go.RowKit in
theorem Tryz.internal_strconv_Atoi_empty (w : World) :
 Calls Tryz.prog 94 #[.string ⟨#[]⟩] w fun e w' => e = .returned (.tuple #[.int .i64 0, (.iface 107 (.int .i64 2))]) ∧ w' = w := Any.internal_strconv_Atoi_empty Tryz.lays244 w
open Go.RowKit in
theorem Tryz.internal_strconv_Atoi_fail (s : ByteArray) (hl : s.size ≤ 18) (h : Lib.atoi s.data.toList = none) (w : World) :
 Calls Tryz.prog 94 #[.string s] w fun e w' => e = .returned (.tuple #[.int .i64 0, (.iface 107 (.int .i64 2))]) ∧ (w' = w ∨ ∃ t, w' = Lib.bytesWorld w 5 t) := Any.internal_strconv_Atoi_fail Tryz.lays244 s hl h w
def Tryz.laysM316_ren : Go.Shelf.Ren := ⟨fun | 316 => 102 | n => n, fun | 9 => 9 | 3 => 3 | 4 => 4 | 37 => 79 | 0 => 0 | 127 => 122 | 5 => 5 | n => n, fun | n => n⟩
theorem Tryz.laysM316 : Go.Proofs.LaysM.n316 Tryz.prog Tryz.laysM316_ren := {
 mixed := by kernel_rfl
 f316 := Tryz.func102.trans (congrArg some (by kernel_rfl))
 t0 := Tryz.underlying0
 a0 := Tryz.isAgg0
 z0 := Tryz.sizeOf0
 v0 := Tryz.zeroValue0
 t3 := Tryz.underlying3
 a3 := Tryz.isAgg3
 z3 := Tryz.sizeOf3
 v3 := Tryz.zeroValue3
 t4 := Tryz.underlying4
 a4 := Tryz.isAgg4
 z4 := Tryz.sizeOf4
 v4 := Tryz.zeroValue4
 t9 := Tryz.underlying9
 a9 := Tryz.isAgg9
 z9 := Tryz.sizeOf9
 v9 := Tryz.zeroValue9
 t37 := Tryz.underlying79
 a37 := Tryz.isAgg79
 z37 := Tryz.sizeOf79
 v37 := Tryz.zeroValue79
 t127 := Tryz.underlying122
 a127 := Tryz.isAgg122
 z127 := Tryz.sizeOf122
 v127 := Tryz.zeroValue122
 t5 := Tryz.underlying5
 a5 := Tryz.isAgg5
 z5 := Tryz.sizeOf5
 v5 := Tryz.zeroValue5
 i0 := by kernel_rfl
 i3 := by kernel_rfl
 i4 := by kernel_rfl
 i5 := by kernel_rfl
 i9 := by kernel_rfl
 i37 := by kernel_rfl
 i127 := by kernel_rfl }
open Go.RowKit in
theorem Tryz.stringslite_Clone (s : ByteArray) (w : World) (hlim : s.size ≤ 281474976710656) :
 Calls Tryz.prog 102 #[.string s] w fun e w' => e = .returned (.string s) ∧ Below w.heap.size w w' := Any.stringslite_Clone Tryz.laysM316 s w hlim
def Tryz.laysM279_ren : Go.Shelf.Ren := ⟨fun | 279 => 97 | 316 => 102 | n => n, fun | 9 => 9 | 168 => 110 | 75 => 103 | 210 => 119 | 3 => 3 | 4 => 4 | 37 => 79 | 0 => 0 | 127 => 122 | 80 => 93 | 5 => 5 | n => n, fun | 15 => 2 | n => n⟩
theorem Tryz.laysM279 : Go.Proofs.LaysM.n279 Tryz.prog Tryz.laysM279_ren := {
 mixed := by kernel_rfl
 f279 := Tryz.func97.trans (congrArg some (by kernel_rfl))
 f316 := Tryz.func102.trans (congrArg some (by kernel_rfl))
 t0 := Tryz.underlying0
 a0 := Tryz.isAgg0
 z0 := Tryz.sizeOf0
 v0 := Tryz.zeroValue0
 t3 := Tryz.underlying3
 a3 := Tryz.isAgg3
 z3 := Tryz.sizeOf3
 v3 := Tryz.zeroValue3
 t4 := Tryz.underlying4
 a4 := Tryz.isAgg4
 z4 := Tryz.sizeOf4
 v4 := Tryz.zeroValue4
 t9 := Tryz.underlying9
 a9 := Tryz.isAgg9
 z9 := Tryz.sizeOf9
 v9 := Tryz.zeroValue9
 t37 := Tryz.underlying79
 a37 := Tryz.isAgg79
 z37 := Tryz.sizeOf79
 v37 := Tryz.zeroValue79
 t75 := Tryz.underlying103
 a75 := Tryz.isAgg103
 z75 := Tryz.sizeOf103
 v75 := Tryz.zeroValue103
 t127 := Tryz.underlying122
 a127 := Tryz.isAgg122
 z127 := Tryz.sizeOf122
 v127 := Tryz.zeroValue122
 t168 := Tryz.underlying110
 a168 := Tryz.isAgg110
 z168 := Tryz.sizeOf110
 v168 := Tryz.zeroValue110
 t210 := Tryz.underlying119
 a210 := Tryz.isAgg119
 z210 := Tryz.sizeOf119
 v210 := Tryz.zeroValue119
 g15 := by kernel_rfl
 t5 := Tryz.underlying5
 a5 := Tryz.isAgg5
 z5 := Tryz.sizeOf5
 v5 := Tryz.zeroValue5
 t80 := Tryz.underlying93
 a80 := Tryz.isAgg93
 z80 := Tryz.sizeOf93
 v80 := Tryz.zeroValue93
 i0 := by kernel_rfl
 i3 := by kernel_rfl
 i4 := by kernel_rfl
 i5 := by kernel_rfl
 i9 := by kernel_rfl
 i37 := by kernel_rfl
 i75 := by kernel_rfl
 i80 := by kernel_rfl
 i127 := by kernel_rfl
 i168 := by kernel_rfl
 i210 := by kernel_rfl
 m15 := by kernel_rfl }
open Go.RowKit in
theorem Tryz.strconv_syntaxError (fn s : ByteArray) (ev : Value) (w : World) (hlim : s.size ≤ 281474976710656) (hv : w.cell? ⟨2, 0, none⟩ = some ev) (hev : ev = .nilIface ∨ ∃ te pe, ev = .iface te pe) :
 Calls Tryz.prog 97 #[.string fn, .string s] w fun e w' => ∃ N, e = .returned (.pointer (some ⟨N, 0, none⟩)) ∧ w.heap.size ≤ N ∧ w'.heap[N]? = some (.cells #[.string fn, .string s, ev] 119 (0, 0)) ∧ Below w.heap.size w w' := Any.strconv_syntaxError Tryz.laysM279 fn s ev w hlim hv hev
def Tryz.laysC245_ren : Go.Shelf.Ren := ⟨fun | 245 => 95 | 279 => 97 | 280 => 98 | 281 => 99 | 282 => 100 | 316 => 102 | 171 => 104 | 205 => 103 | 243 => 107 | 246 => 108 | 283 => 109 | 284 => 110 | 285 => 111 | 286 => 112 | 129 => 114 | 317 => 113 | 318 => 115 | 319 => 116 | 320 => 117 | 337 => 118 | 338 => 119 | n => n, fun | 9 => 9 | 3 => 3 | 75 => 103 | 167 => 107 | 4 => 4 | 168 => 110 | 210 => 119 | 37 => 79 | 0 => 0 | 127 => 122 | 145 => 125 | 143 => 123 | 2 => 2 | 171 => 127 | 53 => 113 | 5 => 5 | 173 => 130 | 212 => 134 | 51 => 135 | 20 => 20 | 213 => 136 | 46 => 116 | 232 => 140 | 233 => 141 | 80 => 93 | n => n, fun | 15 => 2 | 16 => 3 | 17 => 4 | 18 => 5 | 19 => 6 | n => n⟩
theorem Tryz.laysC245 : Go.Proofs.LaysC.n245 Tryz.prog Tryz.laysC245_ren := {
 mixed := by kernel_rfl
 f129 := Tryz.func114.trans (congrArg some (by kernel_rfl))
 f171 := Tryz.func104.trans (congrArg some (by kernel_rfl))
 f205 := Tryz.func103.trans (congrArg some (by kernel_rfl))
 f243 := Tryz.func107.trans (congrArg some (by kernel_rfl))
 f245 := Tryz.func95.trans (congrArg some (by kernel_rfl))
 f246 := Tryz.func108.trans (congrArg some (by kernel_rfl))
 f279 := Tryz.func97.trans (congrArg some (by kernel_rfl))
 f280 := Tryz.func98.trans (congrArg some (by kernel_rfl))
 f281 := Tryz.func99.trans (congrArg some (by kernel_rfl))
 f282 := Tryz.func100.trans (congrArg some (by kernel_rfl))
 f283 := Tryz.func109.trans (congrArg some (by kernel_rfl))
 f284 := Tryz.func110.trans (congrArg some (by kernel_rfl))
 f285 := Tryz.func111.trans (congrArg some (by kernel_rfl))
 f286 := Tryz.func112.trans (congrArg some (by kernel_rfl))
 f316 := Tryz.func102.trans (congrArg some (by kernel_rfl))
 f317 := Tryz.func113.trans (congrArg some (by kernel_rfl))
 f318 := Tryz.func115.trans (congrArg some (by kernel_rfl))
 f319 := Tryz.func116.trans (congrArg some (by kernel_rfl))
 f320 := Tryz.func117.trans (congrArg some (by kernel_rfl))
 f337 := Tryz.func118.trans (congrArg some (by kernel_rfl))
 f338 := Tryz.func119.trans (congrArg some (by kernel_rfl))
 t0 := Tryz.underlying0
 a0 := Tryz.isAgg0
 z0 := Tryz.sizeOf0
 v0 := Tryz.zeroValue0
 t2 := Tryz.underlying2
 a2 := Tryz.isAgg2
 z2 := Tryz.sizeOf2
 v2 := Tryz.zeroValue2
 t3 := Tryz.underlying3
 a3 := Tryz.isAgg3
 z3 := Tryz.sizeOf3
 v3 := Tryz.zeroValue3
 t4 := Tryz.underlying4
 a4 := Tryz.isAgg4
 z4 := Tryz.sizeOf4
 v4 := Tryz.zeroValue4
 t5 := Tryz.underlying5
 a5 := Tryz.isAgg5
 z5 := Tryz.sizeOf5
 v5 := Tryz.zeroValue5
 t9 := Tryz.underlying9
 a9 := Tryz.isAgg9
 z9 := Tryz.sizeOf9
 v9 := Tryz.zeroValue9
 t20 := Tryz.underlying20
 a20 := Tryz.isAgg20
 z20 := Tryz.sizeOf20
 v20 := Tryz.zeroValue20
 t37 := Tryz.underlying79
 a37 := Tryz.isAgg79
 z37 := Tryz.sizeOf79
 v37 := Tryz.zeroValue79
 t46 := Tryz.underlying116
 a46 := Tryz.isAgg116
 z46 := Tryz.sizeOf116
 v46 := Tryz.zeroValue116
 t51 := Tryz.underlying135
 a51 := Tryz.isAgg135
 z51 := Tryz.sizeOf135
 v51 := Tryz.zeroValue135
 t53 := Tryz.underlying113
 a53 := Tryz.isAgg113
 z53 := Tryz.sizeOf113
 v53 := Tryz.zeroValue113
 t75 := Tryz.underlying103
 a75 := Tryz.isAgg103
 z75 := Tryz.sizeOf103
 v75 := Tryz.zeroValue103
 t127 := Tryz.underlying122
 a127 := Tryz.isAgg122
 z127 := Tryz.sizeOf122
 v127 := Tryz.zeroValue122
 t143 := Tryz.underlying123
 a143 := Tryz.isAgg123
 z143 := Tryz.sizeOf123
 v143 := Tryz.zeroValue123
 t145 := Tryz.underlying125
 a145 := Tryz.isAgg125
 z145 := Tryz.sizeOf125
 v145 := Tryz.zeroValue125
 t167 := Tryz.underlying107
 a167 := Tryz.isAgg107
 z167 := Tryz.sizeOf107
 v167 := Tryz.zeroValue107
 t168 := Tryz.underlying110
 a168 := Tryz.isAgg110
 z168 := Tryz.sizeOf110
 v168 := Tryz.zeroValue110
 t171 := Tryz.underlying127
 a171 := Tryz.isAgg127
 z171 := Tryz.sizeOf127
 v171 := Tryz.zeroValue127
 t173 := Tryz.underlying130
 a173 := Tryz.isAgg130
 z173 := Tryz.sizeOf130
 v173 := Tryz.zeroValue130
 t210 := Tryz.underlying119
 a210 := Tryz.isAgg119
 z210 := Tryz.sizeOf119
 v210 := Tryz.zeroValue119
 t212 := Tryz.underlying134
 a212 := Tryz.isAgg134
 z212 := Tryz.sizeOf134
 v212 := Tryz.zeroValue134
 t213 := Tryz.underlying136
 a213 := Tryz.isAgg136
 z213 := Tryz.sizeOf136
 t232 := Tryz.underlying140
 a232 := Tryz.isAgg140
 z232 := Tryz.sizeOf140
 v232 := Tryz.zeroValue140
 t233 := Tryz.underlying141
 a233 := Tryz.isAgg141
 z233 := Tryz.sizeOf141
 v233 := Tryz.zeroValue141
 g15 := by kernel_rfl
 g16 := by kernel_rfl
 g17 := by kernel_rfl
 g18 := by kernel_rfl
 g19 := by kernel_rfl
 t80 := Tryz.underlying93
 a80 := Tryz.isAgg93
 z80 := Tryz.sizeOf93
 v80 := Tryz.zeroValue93
 i0 := by kernel_rfl
 i2 := by kernel_rfl
 i3 := by kernel_rfl
 i4 := by kernel_rfl
 i5 := by kernel_rfl
 i9 := by kernel_rfl
 i20 := by kernel_rfl
 i37 := by kernel_rfl
 i46 := by kernel_rfl
 i51 := by kernel_rfl
 i53 := by kernel_rfl
 i75 := by kernel_rfl
 i80 := by kernel_rfl
 i127 := by kernel_rfl
 i143 := by kernel_rfl
 i145 := by kernel_rfl
 i167 := by kernel_rfl
 i168 := by kernel_rfl
 i171 := by kernel_rfl
 i173 := by kernel_rfl
 i210 := by kernel_rfl
 i212 := by kernel_rfl
 i232 := by kernel_rfl
 i233 := by kernel_rfl
 m15 := by kernel_rfl
 m16 := by kernel_rfl
 m17 := by kernel_rfl
 m18 := by kernel_rfl
 m19 := by kernel_rfl
 c0 := by kernel_rfl
 c2 := by kernel_rfl
 c3 := by kernel_rfl
 c4 := by kernel_rfl
 c5 := by kernel_rfl
 c9 := by kernel_rfl
 c20 := by kernel_rfl
 c37 := by kernel_rfl
 c46 := by kernel_rfl
 c51 := by kernel_rfl
 c53 := by kernel_rfl
 c75 := by kernel_rfl
 c80 := by kernel_rfl
 c127 := by kernel_rfl
 c143 := by kernel_rfl
 c145 := by kernel_rfl
 c167 := by kernel_rfl
 c168 := by kernel_rfl
 c171 := by kernel_rfl
 c173 := by kernel_rfl
 c210 := by kernel_rfl
 c212 := by kernel_rfl
 c213 := by kernel_rfl
 c232 := by kernel_rfl
 c233 := by kernel_rfl }
open Go.RowKit in
theorem Tryz.strconv_toError_syntax (fn s : ByteArray) (base bits : Int) (ev : Value) (w : World) (hlim : s.size ≤ 281474976710656) (hv : w.cell? ⟨2, 0, none⟩ = some ev) (hev : ev = .nilIface ∨ ∃ te pe, ev = .iface te pe) :
 Calls Tryz.prog 95 #[.string fn, .string s, .int .i64 base, .int .i64 bits, .iface 107 (.int .i64 2)] w fun e w' => ∃ N, e = .returned (.iface 110 (.pointer (some ⟨N, 0, none⟩))) ∧ w.heap.size ≤ N ∧ w'.heap[N]? = some (.cells #[.string fn, .string s, ev] 119 (0, 0)) ∧ Below w.heap.size w w' := Any.strconv_toError_syntax Tryz.laysC245 fn s base bits ev w hlim hv hev
def Tryz.lays321_ren : Go.Shelf.Ren := ⟨fun | 321 => 105 | n => n, fun | 5 => 5 | n => n, fun | n => n⟩
theorem Tryz.lays321 : Go.Proofs.Lays.n321 Tryz.prog Tryz.lays321_ren := {
 mixed := by kernel_rfl
 f321 := Tryz.func105.trans (congrArg some (by kernel_rfl))
 t5 := Tryz.underlying5
 a5 := Tryz.isAgg5
 z5 := Tryz.sizeOf5
 v5 := Tryz.zeroValue5 }
open Go.RowKit in
theorem Tryz.internal_strconv_lower (c : Int) (w : World) :
 Calls Tryz.prog 105 #[.int .u8 c] w fun e w' => e = .returned (.int .u8 (bits .or .u8 c 32)) ∧ w' = w := Any.internal_strconv_lower Tryz.lays321 c w
def Tryz.lays287_ren : Go.Shelf.Ren := ⟨fun | 287 => 101 | 321 => 105 | 322 => 106 | n => n, fun | 9 => 9 | 3 => 3 | 53 => 113 | 75 => 103 | 4 => 4 | 167 => 107 | 5 => 5 | 46 => 116 | 37 => 79 | 0 => 0 | 21 => 21 | 80 => 93 | n => n, fun | n => n⟩
theorem Tryz.lays287 : Go.Proofs.Lays.n287 Tryz.prog Tryz.lays287_ren := {
 mixed := by kernel_rfl
 f287 := Tryz.func101.trans (congrArg some (by kernel_rfl))
 f321 := Tryz.func105.trans (congrArg some (by kernel_rfl))
 f322 := Tryz.func106.trans (congrArg some (by kernel_rfl))
 t0 := Tryz.underlying0
 a0 := Tryz.isAgg0
 z0 := Tryz.sizeOf0
 v0 := Tryz.zeroValue0
 t3 := Tryz.underlying3
 a3 := Tryz.isAgg3
 z3 := Tryz.sizeOf3
 v3 := Tryz.zeroValue3
 t4 := Tryz.underlying4
 a4 := Tryz.isAgg4
 z4 := Tryz.sizeOf4
 v4 := Tryz.zeroValue4
 t5 := Tryz.underlying5
 a5 := Tryz.isAgg5
 z5 := Tryz.sizeOf5
 v5 := Tryz.zeroValue5
 t9 := Tryz.underlying9
 a9 := Tryz.isAgg9
 z9 := Tryz.sizeOf9
 v9 := Tryz.zeroValue9
 t21 := Tryz.underlying21
 a21 := Tryz.isAgg21
 z21 := Tryz.sizeOf21
 v21 := Tryz.zeroValue21
 t37 := Tryz.underlying79
 a37 := Tryz.isAgg79
 z37 := Tryz.sizeOf79
 v37 := Tryz.zeroValue79
 t46 := Tryz.underlying116
 a46 := Tryz.isAgg116
 z46 := Tryz.sizeOf116
 v46 := Tryz.zeroValue116
 t53 := Tryz.underlying113
 a53 := Tryz.isAgg113
 z53 := Tryz.sizeOf113
 v53 := Tryz.zeroValue113
 t75 := Tryz.underlying103
 a75 := Tryz.isAgg103
 z75 := Tryz.sizeOf103
 v75 := Tryz.zeroValue103
 t167 := Tryz.underlying107
 a167 := Tryz.isAgg107
 z167 := Tryz.sizeOf107
 v167 := Tryz.zeroValue107 }
open Go.RowKit in
theorem Tryz.internal_strconv_ParseUint_10 (t : ByteArray) (hne : t.size ≠ 0) (hmax : t.size ≤ 9223372036854775806) (w : World) :
 Calls Tryz.prog 101 #[.string t, .int .i64 10, .int .i64 0] w fun e w' => e = .returned (Lib.uintTuple 107 (Lib.parseUint10 0 t.data.toList)) ∧ w' = Lib.bytesWorld w 5 t := Any.internal_strconv_ParseUint_10 Tryz.lays287 t hne hmax w
open Go.RowKit in
theorem Tryz.internal_strconv_ParseUint_10_empty (w : World) :
 Calls Tryz.prog 101 #[.string ⟨#[]⟩, .int .i64 10, .int .i64 0] w fun e w' => e = .returned (Lib.uintTuple 107 .syntax) ∧ w' = w := Any.internal_strconv_ParseUint_10_empty Tryz.lays287 w
open Go.RowKit in
theorem Tryz.internal_strconv_ParseUint_10_any (t : ByteArray) (hmax : t.size ≤ 9223372036854775806) (w : World) :
 Calls Tryz.prog 101 #[.string t, .int .i64 10, .int .i64 0] w fun e w' => e = .returned (Lib.uintTuple 107 (Lib.parseMag t.data.toList)) ∧ (w' = w ∨ w' = Lib.bytesWorld w 5 t) := Any.internal_strconv_ParseUint_10_any Tryz.lays287 t hmax w
def Tryz.laysC247_ren : Go.Shelf.Ren := ⟨fun | 247 => 96 | 287 => 101 | 321 => 105 | 322 => 106 | n => n, fun | 9 => 9 | 3 => 3 | 2 => 2 | 75 => 103 | 4 => 4 | 167 => 107 | 5 => 5 | 53 => 113 | 175 => 114 | 46 => 116 | 37 => 79 | 0 => 0 | 21 => 21 | 80 => 93 | n => n, fun | n => n⟩
theorem Tryz.laysC247 : Go.Proofs.LaysC.n247 Tryz.prog Tryz.laysC247_ren := {
 mixed := by kernel_rfl
 f247 := Tryz.func96.trans (congrArg some (by kernel_rfl))
 f287 := Tryz.func101.trans (congrArg some (by kernel_rfl))
 f321 := Tryz.func105.trans (congrArg some (by kernel_rfl))
 f322 := Tryz.func106.trans (congrArg some (by kernel_rfl))
 t0 := Tryz.underlying0
 a0 := Tryz.isAgg0
 z0 := Tryz.sizeOf0
 v0 := Tryz.zeroValue0
 t2 := Tryz.underlying2
 a2 := Tryz.isAgg2
 z2 := Tryz.sizeOf2
 v2 := Tryz.zeroValue2
 t3 := Tryz.underlying3
 a3 := Tryz.isAgg3
 z3 := Tryz.sizeOf3
 v3 := Tryz.zeroValue3
 t4 := Tryz.underlying4
 a4 := Tryz.isAgg4
 z4 := Tryz.sizeOf4
 v4 := Tryz.zeroValue4
 t5 := Tryz.underlying5
 a5 := Tryz.isAgg5
 z5 := Tryz.sizeOf5
 v5 := Tryz.zeroValue5
 t9 := Tryz.underlying9
 a9 := Tryz.isAgg9
 z9 := Tryz.sizeOf9
 v9 := Tryz.zeroValue9
 t21 := Tryz.underlying21
 a21 := Tryz.isAgg21
 z21 := Tryz.sizeOf21
 v21 := Tryz.zeroValue21
 t37 := Tryz.underlying79
 a37 := Tryz.isAgg79
 z37 := Tryz.sizeOf79
 v37 := Tryz.zeroValue79
 t46 := Tryz.underlying116
 a46 := Tryz.isAgg116
 z46 := Tryz.sizeOf116
 v46 := Tryz.zeroValue116
 t53 := Tryz.underlying113
 a53 := Tryz.isAgg113
 z53 := Tryz.sizeOf113
 v53 := Tryz.zeroValue113
 t75 := Tryz.underlying103
 a75 := Tryz.isAgg103
 z75 := Tryz.sizeOf103
 v75 := Tryz.zeroValue103
 t167 := Tryz.underlying107
 a167 := Tryz.isAgg107
 z167 := Tryz.sizeOf107
 v167 := Tryz.zeroValue107
 t175 := Tryz.underlying114
 a175 := Tryz.isAgg114
 z175 := Tryz.sizeOf114
 v175 := Tryz.zeroValue114
 t80 := Tryz.underlying93
 a80 := Tryz.isAgg93
 z80 := Tryz.sizeOf93
 v80 := Tryz.zeroValue93
 i0 := by kernel_rfl
 i2 := by kernel_rfl
 i3 := by kernel_rfl
 i4 := by kernel_rfl
 i5 := by kernel_rfl
 i9 := by kernel_rfl
 i21 := by kernel_rfl
 i37 := by kernel_rfl
 i46 := by kernel_rfl
 i53 := by kernel_rfl
 i75 := by kernel_rfl
 i80 := by kernel_rfl
 i167 := by kernel_rfl
 i175 := by kernel_rfl
 c0 := by kernel_rfl
 c2 := by kernel_rfl
 c3 := by kernel_rfl
 c4 := by kernel_rfl
 c5 := by kernel_rfl
 c9 := by kernel_rfl
 c21 := by kernel_rfl
 c37 := by kernel_rfl
 c46 := by kernel_rfl
 c53 := by kernel_rfl
 c75 := by kernel_rfl
 c80 := by kernel_rfl
 c167 := by kernel_rfl
 c175 := by kernel_rfl }
open Go.RowKit in
theorem Tryz.internal_strconv_ParseInt_10 (s : ByteArray) (hne : s.size ≠ 0) (hmax : s.size ≤ 9223372036854775806) (w : World) :
 Calls Tryz.prog 96 #[.string s, .int .i64 10, .int .i64 0] w fun e w' => e = .returned (Lib.intTuple 107 (Lib.atoiSat s.data.toList) (Lib.atoiAll s.data.toList)) ∧ (w' = w ∨ ∃ t, w' = Lib.bytesWorld w 5 t) := Any.internal_strconv_ParseInt_10 Tryz.laysC247 s hne hmax w
def Tryz.laysC244_ren : Go.Shelf.Ren := ⟨fun | 244 => 94 | 247 => 96 | 287 => 101 | 321 => 105 | 322 => 106 | n => n, fun | 9 => 9 | 3 => 3 | 75 => 103 | 4 => 4 | 5 => 5 | 167 => 107 | 37 => 79 | 0 => 0 | 85 => 108 | 2 => 2 | 53 => 113 | 175 => 114 | 46 => 116 | 21 => 21 | 80 => 93 | n => n, fun | n => n⟩
theorem Tryz.laysC244 : Go.Proofs.LaysC.n244 Tryz.prog Tryz.laysC244_ren := {
 mixed := by kernel_rfl
 f244 := Tryz.func94.trans (congrArg some (by kernel_rfl))
 f247 := Tryz.func96.trans (congrArg some (by kernel_rfl))
 f287 := Tryz.func101.trans (congrArg some (by kernel_rfl))
 f321 := Tryz.func105.trans (congrArg some (by kernel_rfl))
 f322 := Tryz.func106.trans (congrArg some (by kernel_rfl))
 t0 := Tryz.underlying0
 a0 := Tryz.isAgg0
 z0 := Tryz.sizeOf0
 v0 := Tryz.zeroValue0
 t2 := Tryz.underlying2
 a2 := Tryz.isAgg2
 z2 := Tryz.sizeOf2
 v2 := Tryz.zeroValue2
 t3 := Tryz.underlying3
 a3 := Tryz.isAgg3
 z3 := Tryz.sizeOf3
 v3 := Tryz.zeroValue3
 t4 := Tryz.underlying4
 a4 := Tryz.isAgg4
 z4 := Tryz.sizeOf4
 v4 := Tryz.zeroValue4
 t5 := Tryz.underlying5
 a5 := Tryz.isAgg5
 z5 := Tryz.sizeOf5
 v5 := Tryz.zeroValue5
 t9 := Tryz.underlying9
 a9 := Tryz.isAgg9
 z9 := Tryz.sizeOf9
 v9 := Tryz.zeroValue9
 t21 := Tryz.underlying21
 a21 := Tryz.isAgg21
 z21 := Tryz.sizeOf21
 v21 := Tryz.zeroValue21
 t37 := Tryz.underlying79
 a37 := Tryz.isAgg79
 z37 := Tryz.sizeOf79
 v37 := Tryz.zeroValue79
 t46 := Tryz.underlying116
 a46 := Tryz.isAgg116
 z46 := Tryz.sizeOf116
 v46 := Tryz.zeroValue116
 t53 := Tryz.underlying113
 a53 := Tryz.isAgg113
 z53 := Tryz.sizeOf113
 v53 := Tryz.zeroValue113
 t75 := Tryz.underlying103
 a75 := Tryz.isAgg103
 z75 := Tryz.sizeOf103
 v75 := Tryz.zeroValue103
 t85 := Tryz.underlying108
 a85 := Tryz.isAgg108
 z85 := Tryz.sizeOf108
 v85 := Tryz.zeroValue108
 t167 := Tryz.underlying107
 a167 := Tryz.isAgg107
 z167 := Tryz.sizeOf107
 v167 := Tryz.zeroValue107
 t175 := Tryz.underlying114
 a175 := Tryz.isAgg114
 z175 := Tryz.sizeOf114
 v175 := Tryz.zeroValue114
 t80 := Tryz.underlying93
 a80 := Tryz.isAgg93
 z80 := Tryz.sizeOf93
 v80 := Tryz.zeroValue93
 i0 := by kernel_rfl
 i2 := by kernel_rfl
 i3 := by kernel_rfl
 i4 := by kernel_rfl
 i5 := by kernel_rfl
 i9 := by kernel_rfl
 i21 := by kernel_rfl
 i37 := by kernel_rfl
 i46 := by kernel_rfl
 i53 := by kernel_rfl
 i75 := by kernel_rfl
 i80 := by kernel_rfl
 i85 := by kernel_rfl
 i167 := by kernel_rfl
 i175 := by kernel_rfl
 c0 := by kernel_rfl
 c2 := by kernel_rfl
 c3 := by kernel_rfl
 c4 := by kernel_rfl
 c5 := by kernel_rfl
 c9 := by kernel_rfl
 c21 := by kernel_rfl
 c37 := by kernel_rfl
 c46 := by kernel_rfl
 c53 := by kernel_rfl
 c75 := by kernel_rfl
 c80 := by kernel_rfl
 c85 := by kernel_rfl
 c167 := by kernel_rfl
 c175 := by kernel_rfl }
open Go.RowKit in
theorem Tryz.internal_strconv_Atoi_long (s : ByteArray) (h19 : 19 ≤ s.size) (hmax : s.size ≤ 9223372036854775806) (w : World) :
 Calls Tryz.prog 94 #[.string s] w fun e w' => e = .returned (Lib.intTuple 107 (Lib.atoiSat s.data.toList) (Lib.atoiAll s.data.toList)) ∧ (w' = w ∨ ∃ t, w' = Lib.bytesWorld w 5 t) := Any.internal_strconv_Atoi_long Tryz.laysC244 s h19 hmax w
open Go.RowKit in
theorem Tryz.internal_strconv_Atoi_all (s : ByteArray) (hmax : s.size ≤ 9223372036854775806) (w : World) :
 Calls Tryz.prog 94 #[.string s] w fun e w' => e = .returned (Lib.intTuple 107 (Lib.atoiSat s.data.toList) (Lib.atoiAll s.data.toList)) ∧ (w' = w ∨ ∃ t, w' = Lib.bytesWorld w 5 t) := Any.internal_strconv_Atoi_all Tryz.laysC244 s hmax w
def Tryz.laysM280_ren : Go.Shelf.Ren := ⟨fun | 280 => 98 | 316 => 102 | n => n, fun | 9 => 9 | 168 => 110 | 75 => 103 | 210 => 119 | 3 => 3 | 4 => 4 | 37 => 79 | 0 => 0 | 127 => 122 | 80 => 93 | 5 => 5 | n => n, fun | 16 => 3 | n => n⟩
theorem Tryz.laysM280 : Go.Proofs.LaysM.n280 Tryz.prog Tryz.laysM280_ren := {
 mixed := by kernel_rfl
 f280 := Tryz.func98.trans (congrArg some (by kernel_rfl))
 f316 := Tryz.func102.trans (congrArg some (by kernel_rfl))
 t0 := Tryz.underlying0
 a0 := Tryz.isAgg0
 z0 := Tryz.sizeOf0
 v0 := Tryz.zeroValue0
 t3 := Tryz.underlying3
 a3 := Tryz.isAgg3
 z3 := Tryz.sizeOf3
 v3 := Tryz.zeroValue3
 t4 := Tryz.underlying4
 a4 := Tryz.isAgg4
 z4 := Tryz.sizeOf4
 v4 := Tryz.zeroValue4
 t9 := Tryz.underlying9
 a9 := Tryz.isAgg9
 z9 := Tryz.sizeOf9
 v9 := Tryz.zeroValue9
 t37 := Tryz.underlying79
 a37 := Tryz.isAgg79
 z37 := Tryz.sizeOf79
 v37 := Tryz.zeroValue79
 t75 := Tryz.underlying103
 a75 := Tryz.isAgg103
 z75 := Tryz.sizeOf103
 v75 := Tryz.zeroValue103
 t127 := Tryz.underlying122
 a127 := Tryz.isAgg122
 z127 := Tryz.sizeOf122
 v127 := Tryz.zeroValue122
 t168 := Tryz.underlying110
 a168 := Tryz.isAgg110
 z168 := Tryz.sizeOf110
 v168 := Tryz.zeroValue110
 t210 := Tryz.underlying119
 a210 := Tryz.isAgg119
 z210 := Tryz.sizeOf119
 v210 := Tryz.zeroValue119
 g16 := by kernel_rfl
 t5 := Tryz.underlying5
 a5 := Tryz.isAgg5
 z5 := Tryz.sizeOf5
 v5 := Tryz.zeroValue5
 t80 := Tryz.underlying93
 a80 := Tryz.isAgg93
 z80 := Tryz.sizeOf93
 v80 := Tryz.zeroValue93
 i0 := by kernel_rfl
 i3 := by kernel_rfl
 i4 := by kernel_rfl
 i5 := by kernel_rfl
 i9 := by kernel_rfl
 i37 := by kernel_rfl
 i75 := by kernel_rfl
 i80 := by kernel_rfl
 i127 := by kernel_rfl
 i168 := by kernel_rfl
 i210 := by kernel_rfl
 m16 := by kernel_rfl }
open Go.RowKit in
theorem Tryz.strconv_rangeError (fn s : ByteArray) (ev : Value) (w : World) (hlim : s.size ≤ 281474976710656) (hv : w.cell? ⟨3, 0, none⟩ = some ev) (hev : ev = .nilIface ∨ ∃ te pe, ev = .iface te pe) :
 Calls Tryz.prog 98 #[.string fn, .string s] w fun e w' => ∃ N, e = .returned (.pointer (some ⟨N, 0, none⟩)) ∧ w.heap.size ≤ N ∧ w'.heap[N]? = some (.cells #[.string fn, .string s, ev] 119 (0, 0)) ∧ Below w.heap.size w w' := Any.strconv_rangeError Tryz.laysM280 fn s ev w hlim hv hev
open Go.RowKit in
theorem Tryz.strconv_toError_range (fn s : ByteArray) (base bits : Int) (ev : Value) (w : World) (hlim : s.size ≤ 281474976710656) (hv : w.cell? ⟨3, 0, none⟩ = some ev) (hev : ev = .nilIface ∨ ∃ te pe, ev = .iface te pe) :
 Calls Tryz.prog 95 #[.string fn, .string s, .int .i64 base, .int .i64 bits, .iface 107 (.int .i64 1)] w fun e w' => ∃ N, e = .returned (.iface 110 (.pointer (some ⟨N, 0, none⟩))) ∧ w.heap.size ≤ N ∧ w'.heap[N]? = some (.cells #[.string fn, .string s, ev] 119 (0, 0)) ∧ Below w.heap.size w w' := Any.strconv_toError_range Tryz.laysC245 fn s base bits ev w hlim hv hev
def Tryz.laysC172_ren : Go.Shelf.Ren := ⟨fun | 172 => 93 | 244 => 94 | 245 => 95 | 247 => 96 | 279 => 97 | 280 => 98 | 281 => 99 | 282 => 100 | 287 => 101 | 316 => 102 | 171 => 104 | 205 => 103 | 321 => 105 | 322 => 106 | 243 => 107 | 246 => 108 | 283 => 109 | 284 => 110 | 285 => 111 | 286 => 112 | 129 => 114 | 317 => 113 | 318 => 115 | 319 => 116 | 320 => 117 | 337 => 118 | 338 => 119 | n => n, fun | 9 => 9 | 3 => 3 | 75 => 103 | 76 => 104 | 4 => 4 | 5 => 5 | 167 => 107 | 37 => 79 | 0 => 0 | 85 => 108 | 2 => 2 | 168 => 110 | 53 => 113 | 175 => 114 | 46 => 116 | 210 => 119 | 127 => 122 | 145 => 125 | 143 => 123 | 21 => 21 | 171 => 127 | 173 => 130 | 212 => 134 | 51 => 135 | 20 => 20 | 213 => 136 | 232 => 140 | 233 => 141 | 80 => 93 | n => n, fun | 15 => 2 | 16 => 3 | 17 => 4 | 18 => 5 | 19 => 6 | n => n⟩
theorem Tryz.laysC172 : Go.Proofs.LaysC.n172 Tryz.prog Tryz.laysC172_ren := {
 mixed := by kernel_rfl
 f129 := Tryz.func114.trans (congrArg some (by kernel_rfl))
 f171 := Tryz.func104.trans (congrArg some (by kernel_rfl))
 f172 := Tryz.func93.trans (congrArg some (by kernel_rfl))
 f205 := Tryz.func103.trans (congrArg some (by kernel_rfl))
 f243 := Tryz.func107.trans (congrArg some (by kernel_rfl))
 f244 := Tryz.func94.trans (congrArg some (by kernel_rfl))
 f245 := Tryz.func95.trans (congrArg some (by kernel_rfl))
 f246 := Tryz.func108.trans (congrArg some (by kernel_rfl))
 f247 := Tryz.func96.trans (congrArg some (by kernel_rfl))
 f279 := Tryz.func97.trans (congrArg some (by kernel_rfl))
 f280 := Tryz.func98.trans (congrArg some (by kernel_rfl))
 f281 := Tryz.func99.trans (congrArg some (by kernel_rfl))
 f282 := Tryz.func100.trans (congrArg some (by kernel_rfl))
 f283 := Tryz.func109.trans (congrArg some (by kernel_rfl))
 f284 := Tryz.func110.trans (congrArg some (by kernel_rfl))
 f285 := Tryz.func111.trans (congrArg some (by kernel_rfl))
 f286 := Tryz.func112.trans (congrArg some (by kernel_rfl))
 f287 := Tryz.func101.trans (congrArg some (by kernel_rfl))
 f316 := Tryz.func102.trans (congrArg some (by kernel_rfl))
 f317 := Tryz.func113.trans (congrArg some (by kernel_rfl))
 f318 := Tryz.func115.trans (congrArg some (by kernel_rfl))
 f319 := Tryz.func116.trans (congrArg some (by kernel_rfl))
 f320 := Tryz.func117.trans (congrArg some (by kernel_rfl))
 f321 := Tryz.func105.trans (congrArg some (by kernel_rfl))
 f322 := Tryz.func106.trans (congrArg some (by kernel_rfl))
 f337 := Tryz.func118.trans (congrArg some (by kernel_rfl))
 f338 := Tryz.func119.trans (congrArg some (by kernel_rfl))
 t0 := Tryz.underlying0
 a0 := Tryz.isAgg0
 z0 := Tryz.sizeOf0
 v0 := Tryz.zeroValue0
 t2 := Tryz.underlying2
 a2 := Tryz.isAgg2
 z2 := Tryz.sizeOf2
 v2 := Tryz.zeroValue2
 t3 := Tryz.underlying3
 a3 := Tryz.isAgg3
 z3 := Tryz.sizeOf3
 v3 := Tryz.zeroValue3
 t4 := Tryz.underlying4
 a4 := Tryz.isAgg4
 z4 := Tryz.sizeOf4
 v4 := Tryz.zeroValue4
 t5 := Tryz.underlying5
 a5 := Tryz.isAgg5
 z5 := Tryz.sizeOf5
 v5 := Tryz.zeroValue5
 t9 := Tryz.underlying9
 a9 := Tryz.isAgg9
 z9 := Tryz.sizeOf9
 v9 := Tryz.zeroValue9
 t20 := Tryz.underlying20
 a20 := Tryz.isAgg20
 z20 := Tryz.sizeOf20
 v20 := Tryz.zeroValue20
 t21 := Tryz.underlying21
 a21 := Tryz.isAgg21
 z21 := Tryz.sizeOf21
 v21 := Tryz.zeroValue21
 t37 := Tryz.underlying79
 a37 := Tryz.isAgg79
 z37 := Tryz.sizeOf79
 v37 := Tryz.zeroValue79
 t46 := Tryz.underlying116
 a46 := Tryz.isAgg116
 z46 := Tryz.sizeOf116
 v46 := Tryz.zeroValue116
 t51 := Tryz.underlying135
 a51 := Tryz.isAgg135
 z51 := Tryz.sizeOf135
 v51 := Tryz.zeroValue135
 t53 := Tryz.underlying113
 a53 := Tryz.isAgg113
 z53 := Tryz.sizeOf113
 v53 := Tryz.zeroValue113
 t75 := Tryz.underlying103
 a75 := Tryz.isAgg103
 z75 := Tryz.sizeOf103
 v75 := Tryz.zeroValue103
 t76 := Tryz.underlying104
 a76 := Tryz.isAgg104
 z76 := Tryz.sizeOf104
 v76 := Tryz.zeroValue104
 t85 := Tryz.underlying108
 a85 := Tryz.isAgg108
 z85 := Tryz.sizeOf108
 v85 := Tryz.zeroValue108
 t127 := Tryz.underlying122
 a127 := Tryz.isAgg122
 z127 := Tryz.sizeOf122
 v127 := Tryz.zeroValue122
 t143 := Tryz.underlying123
 a143 := Tryz.isAgg123
 z143 := Tryz.sizeOf123
 v143 := Tryz.zeroValue123
 t145 := Tryz.underlying125
 a145 := Tryz.isAgg125
 z145 := Tryz.sizeOf125
 v145 := Tryz.zeroValue125
 t167 := Tryz.underlying107
 a167 := Tryz.isAgg107
 z167 := Tryz.sizeOf107
 v167 := Tryz.zeroValue107
 t168 := Tryz.underlying110
 a168 := Tryz.isAgg110
 z168 := Tryz.sizeOf110
 v168 := Tryz.zeroValue110
 t171 := Tryz.underlying127
 a171 := Tryz.isAgg127
 z171 := Tryz.sizeOf127
 v171 := Tryz.zeroValue127
 t173 := Tryz.underlying130
 a173 := Tryz.isAgg130
 z173 := Tryz.sizeOf130
 v173 := Tryz.zeroValue130
 t175 := Tryz.underlying114
 a175 := Tryz.isAgg114
 z175 := Tryz.sizeOf114
 v175 := Tryz.zeroValue114
 t210 := Tryz.underlying119
 a210 := Tryz.isAgg119
 z210 := Tryz.sizeOf119
 v210 := Tryz.zeroValue119
 t212 := Tryz.underlying134
 a212 := Tryz.isAgg134
 z212 := Tryz.sizeOf134
 v212 := Tryz.zeroValue134
 t213 := Tryz.underlying136
 a213 := Tryz.isAgg136
 z213 := Tryz.sizeOf136
 t232 := Tryz.underlying140
 a232 := Tryz.isAgg140
 z232 := Tryz.sizeOf140
 v232 := Tryz.zeroValue140
 t233 := Tryz.underlying141
 a233 := Tryz.isAgg141
 z233 := Tryz.sizeOf141
 v233 := Tryz.zeroValue141
 g15 := by kernel_rfl
 g16 := by kernel_rfl
 g17 := by kernel_rfl
 g18 := by kernel_rfl
 g19 := by kernel_rfl
 t80 := Tryz.underlying93
 a80 := Tryz.isAgg93
 z80 := Tryz.sizeOf93
 v80 := Tryz.zeroValue93
 i0 := by kernel_rfl
 i2 := by kernel_rfl
 i3 := by kernel_rfl
 i4 := by kernel_rfl
 i5 := by kernel_rfl
 i9 := by kernel_rfl
 i20 := by kernel_rfl
 i21 := by kernel_rfl
 i37 := by kernel_rfl
 i46 := by kernel_rfl
 i51 := by kernel_rfl
 i53 := by kernel_rfl
 i75 := by kernel_rfl
 i76 := by kernel_rfl
 i80 := by kernel_rfl
 i85 := by kernel_rfl
 i127 := by kernel_rfl
 i143 := by kernel_rfl
 i145 := by kernel_rfl
 i167 := by kernel_rfl
 i168 := by kernel_rfl
 i171 := by kernel_rfl
 i173 := by kernel_rfl
 i175 := by kernel_rfl
 i210 := by kernel_rfl
 i212 := by kernel_rfl
 i232 := by kernel_rfl
 i233 := by kernel_rfl
 m15 := by kernel_rfl
 m16 := by kernel_rfl
 m17 := by kernel_rfl
 m18 := by kernel_rfl
 m19 := by kernel_rfl
 c0 := by kernel_rfl
 c2 := by kernel_rfl
 c3 := by kernel_rfl
 c4 := by kernel_rfl
 c5 := by kernel_rfl
 c9 := by kernel_rfl
 c20 := by kernel_rfl
 c21 := by kernel_rfl
 c37 := by kernel_rfl
 c46 := by kernel_rfl
 c51 := by kernel_rfl
 c53 := by kernel_rfl
 c75 := by kernel_rfl
 c76 := by kernel_rfl
 c80 := by kernel_rfl
 c85 := by kernel_rfl
 c127 := by kernel_rfl
 c143 := by kernel_rfl
 c145 := by kernel_rfl
 c167 := by kernel_rfl
 c168 := by kernel_rfl
 c171 := by kernel_rfl
 c173 := by kernel_rfl
 c175 := by kernel_rfl
 c210 := by kernel_rfl
 c212 := by kernel_rfl
 c213 := by kernel_rfl
 c232 := by kernel_rfl
 c233 := by kernel_rfl }
open Go.RowKit in
theorem Tryz.strconv_Atoi_ok (s : ByteArray) (hmax : s.size ≤ 9223372036854775806) (v : Int) (h : Lib.atoiAll s.data.toList = .ok v) (w : World) :
 Calls Tryz.prog 93 #[.string s] w fun e w' => e = .returned (.tuple #[.int .i64 v, .nilIface]) ∧ (w' = w ∨ ∃ t, w' = Lib.bytesWorld w 5 t) := Any.strconv_Atoi_ok Tryz.laysC172 s hmax v h w
open Go.RowKit in
theorem Tryz.strconv_Atoi_syntax (s : ByteArray) (hlim : s.size ≤ 281474976710656) (h : Lib.atoiAll s.data.toList = .«syntax») (ev : Value) (w : World) (hv : w.cell? ⟨2, 0, none⟩ = some ev) (hev : ev = .nilIface ∨ ∃ te pe, ev = .iface te pe) :
 Calls Tryz.prog 93 #[.string s] w fun e w' => ∃ N, e = .returned (.tuple #[.int .i64 (0), .iface 110 (.pointer (some ⟨N, 0, none⟩))]) ∧ w.heap.size ≤ N ∧ w'.heap[N]? = some (.cells #[.string ⟨#[65, 116, 111, 105]⟩, .string s, ev] 119 (0, 0)) ∧ Below w.heap.size w w' := Any.strconv_Atoi_syntax Tryz.laysC172 s hlim h ev w hv hev
open Go.RowKit in
theorem Tryz.strconv_Atoi_range (s : ByteArray) (hlim : s.size ≤ 281474976710656) (h : Lib.atoiAll s.data.toList = .range) (ev : Value) (w : World) (hv : w.cell? ⟨3, 0, none⟩ = some ev) (hev : ev = .nilIface ∨ ∃ te pe, ev = .iface te pe) :
 Calls Tryz.prog 93 #[.string s] w fun e w' => ∃ N, e = .returned (.tuple #[.int .i64 (Lib.atoiSat s.data.toList), .iface 110 (.pointer (some ⟨N, 0, none⟩))]) ∧ w.heap.size ≤ N ∧ w'.heap[N]? = some (.cells #[.string ⟨#[65, 116, 111, 105]⟩, .string s, ev] 119 (0, 0)) ∧ Below w.heap.size w w' := Any.strconv_Atoi_range Tryz.laysC172 s hlim h ev w hv hev
open Go.RowKit in
theorem Tryz.strconv_Atoi_syntax_var (s : ByteArray) (hlim : s.size ≤ 281474976710656) (h : Lib.atoiAll s.data.toList = .«syntax») (tp : TypeId) (p : Value) (w : World) (hvar : w.var? Tryz.prog "strconv.ErrSyntax" = some #[.iface tp p]) :
 Calls Tryz.prog 93 #[.string s] w fun e w' => ∃ N, e = .returned (.tuple #[.int .i64 0, .iface 110 (.pointer (some ⟨N, 0, none⟩))]) ∧ w.heap.size ≤ N ∧ w'.heap[N]? = some (.cells #[.string ⟨#[65, 116, 111, 105]⟩, .string s, .iface tp p] 119 (0, 0)) ∧ Below w.heap.size w w' := Any.strconv_Atoi_syntax_var Tryz.laysC172 s hlim h tp p w hvar
open Go.RowKit in
theorem Tryz.strconv_Atoi_range_var (s : ByteArray) (hlim : s.size ≤ 281474976710656) (h : Lib.atoiAll s.data.toList = .range) (tp : TypeId) (p : Value) (w : World) (hvar : w.var? Tryz.prog "strconv.ErrRange" = some #[.iface tp p]) :
 Calls Tryz.prog 93 #[.string s] w fun e w' => ∃ N, e = .returned (.tuple #[.int .i64 (Lib.atoiSat s.data.toList), .iface 110 (.pointer (some ⟨N, 0, none⟩))]) ∧ w.heap.size ≤ N ∧ w'.heap[N]? = some (.cells #[.string ⟨#[65, 116, 111, 105]⟩, .string s, .iface tp p] 119 (0, 0)) ∧ Below w.heap.size w w' := Any.strconv_Atoi_range_var Tryz.laysC172 s hlim h tp p w hvar
def Tryz.lays217_ren : Go.Shelf.Ren := ⟨fun | 217 => 88 | 266 => 90 | n => n, fun | 9 => 9 | 5 => 5 | 3 => 3 | n => n, fun | n => n⟩
theorem Tryz.lays217 : Go.Proofs.Lays.n217 Tryz.prog Tryz.lays217_ren := {
 mixed := by kernel_rfl
 f217 := Tryz.func88.trans (congrArg some (by kernel_rfl))
 f266 := Tryz.func90.trans (congrArg some (by kernel_rfl))
 t3 := Tryz.underlying3
 a3 := Tryz.isAgg3
 z3 := Tryz.sizeOf3
 v3 := Tryz.zeroValue3
 t5 := Tryz.underlying5
 a5 := Tryz.isAgg5
 z5 := Tryz.sizeOf5
 v5 := Tryz.zeroValue5
 t9 := Tryz.underlying9
 a9 := Tryz.isAgg9
 z9 := Tryz.sizeOf9
 v9 := Tryz.zeroValue9 }
open Go.RowKit Go.Lib in
theorem Tryz.stringslite_IndexByte (s : ByteArray) (c : Int) (w : World) :
 Calls Tryz.prog 88 #[.string s, .int .u8 c] w fun e w' => e = .returned (.int .i64 (Lib.indexByte s.data.toList c.toNat.toUInt8)) ∧ w' = w := Any.stringslite_IndexByte Tryz.lays217 s c w
def Tryz.lays206_ren : Go.Shelf.Ren := ⟨fun | 206 => 87 | n => n, fun | 9 => 9 | 4 => 4 | 3 => 3 | n => n, fun | n => n⟩
theorem Tryz.lays206 : Go.Proofs.Lays.n206 Tryz.prog Tryz.lays206_ren := {
 mixed := by kernel_rfl
 f206 := Tryz.func87.trans (congrArg some (by kernel_rfl))
 t3 := Tryz.underlying3
 a3 := Tryz.isAgg3
 z3 := Tryz.sizeOf3
 v3 := Tryz.zeroValue3
 t4 := Tryz.underlying4
 a4 := Tryz.isAgg4
 z4 := Tryz.sizeOf4
 v4 := Tryz.zeroValue4
 t9 := Tryz.underlying9
 a9 := Tryz.isAgg9
 z9 := Tryz.sizeOf9
 v9 := Tryz.zeroValue9 }
open Go.RowKit Go.Lib in
theorem Tryz.stringslite_HasPrefix (s p : ByteArray) (w : World) :
 Calls Tryz.prog 87 #[.string s, .string p] w fun e w' => e = .returned (.bool (Lib.hasPrefix s.data.toList p.data.toList)) ∧ w' = w := Any.stringslite_HasPrefix Tryz.lays206 s p w
def Tryz.lays99_ren : Go.Shelf.Ren := ⟨fun | 99 => 83 | 206 => 87 | n => n, fun | 9 => 9 | 4 => 4 | 3 => 3 | n => n, fun | n => n⟩
theorem Tryz.lays99 : Go.Proofs.Lays.n99 Tryz.prog Tryz.lays99_ren := {
 mixed := by kernel_rfl
 f99 := Tryz.func83.trans (congrArg some (by kernel_rfl))
 f206 := Tryz.func87.trans (congrArg some (by kernel_rfl))
 t3 := Tryz.underlying3
 a3 := Tryz.isAgg3
 z3 := Tryz.sizeOf3
 v3 := Tryz.zeroValue3
 t4 := Tryz.underlying4
 a4 := Tryz.isAgg4
 z4 := Tryz.sizeOf4
 v4 := Tryz.zeroValue4
 t9 := Tryz.underlying9
 a9 := Tryz.isAgg9
 z9 := Tryz.sizeOf9
 v9 := Tryz.zeroValue9 }
open Go.RowKit Go.Lib in
theorem Tryz.strings_HasPrefix (s p : ByteArray) (w : World) :
 Calls Tryz.prog 83 #[.string s, .string p] w fun e w' => e = .returned (.bool (Lib.hasPrefix s.data.toList p.data.toList)) ∧ w' = w := Any.strings_HasPrefix Tryz.lays99 s p w
end Go.Proofs
