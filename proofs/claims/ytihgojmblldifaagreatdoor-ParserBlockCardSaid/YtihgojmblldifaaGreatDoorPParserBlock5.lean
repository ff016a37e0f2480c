/- The statement ParserBlock holds: texts that its proof needs. No condition beyond the row's own. (Part 5 of 7.) -/
import Derived.Test.YtihgojmblldifaaGreatDoorPParserBlock4
set_option linter.unusedSimpArgs false
set_option linter.unusedVariables false
namespace Bk
open Go Go.RowKit Go.Proofs
attribute [local irreducible] Go.Calls
theorem RToks.ext {S : Nat → Prop} {w w' : World} {l : List Tok} {a : Option Addr} (h : RToks S w l a) (x : Ext w w') : RToks S w' l a := h.mono (fun _ h => h) (fun _ _ _ _ _ h => Row.ext h x)
theorem RToks.fr {S T : Nat → Prop} {w w' : World} {l : List Tok} {a : Option Addr} (h : RToks S w l a) (x : Fr T w w') (hs : ∀ b, S b → ¬ T b) : RToks S w' l a := h.mono (fun _ h => h) (fun b _ _ _ hb h => Row.fr h x (hs b hb))
theorem RToks.wide {S S' : Nat → Prop} {w : World} {l : List Tok} {a : Option Addr} (h : RToks S w l a) (hs : ∀ b, S b → S' b) : RToks S' w l a := h.mono hs (fun _ _ _ _ _ h => h)
theorem takeWhile_twice (p : UInt8 → Bool) (l : List UInt8) : (l.takeWhile p).takeWhile p = l.takeWhile p := by
 induction l with
 | nil => rfl
 | cons x r ih =>
  rw [List.takeWhile_cons]
  split
  · rename_i h; rw [List.takeWhile_cons, if_pos h, ih]
  · rfl
theorem firstTok_name (s : List UInt8) (hs : s ≠ []) (h0 : (firstTok s).2 ≠ 0) : refName (s.take (firstTok s).2) = isName (s.take (firstTok s).2) := by
 cases s with
 | nil => exact absurd rfl hs
 | cons c r =>
  cases hl : letter c
  · obtain ⟨m, hm⟩ : ∃ m, (firstTok (c :: r)).2 = m + 1 := ⟨(firstTok (c :: r)).2 - 1, by omega⟩
    rw [hm, List.take_succ_cons]
    have h1 : ((firstTok (c :: r.take m)).1 == 1) = false := by
     simp only [firstTok, hl, Bool.false_eq_true, if_false]
     split
     · rfl
     · split
       · rfl
       · split <;> rfl
    simp [refName, isName, hl, h1]
  · have h1 : firstTok (c :: r) = (1, span wordish (c :: r)) := by simp [firstTok, hl]
    rw [h1]
    simp only [span]
    rw [take_takeWhile]
    have hw : wordish c = true := by simp [wordish, hl]
    have e : (c :: r).takeWhile wordish = c :: r.takeWhile wordish := by rw [List.takeWhile_cons, if_pos hw]
    have h2 : firstTok ((c :: r).takeWhile wordish) = (1, ((c :: r).takeWhile wordish).length) := by
     rw [e]
     simp only [firstTok, hl, if_true, span]
     rw [← e, takeWhile_twice]
    unfold refName isName
    rw [h2, e]
    simp [hl]
theorem lexGo_nm (s : List UInt8) : ∀ (k p : Nat) (acc : List Tok), (∀ t ∈ acc, refName t.text = isName t.text) → ∀ t ∈ (lexGo k s p acc).1, refName t.text = isName t.text
 | 0, p, acc, h => by rw [lexGo]; exact h
 | k + 1, p, acc, h => by
  rw [lexGo]
  split
  · rename_i hp
    split
    · simp
    · rename_i h0
      refine lexGo_nm s k _ _ ?_
      intro t ht
      rcases List.mem_append.1 ht with ht | ht
      · exact h t ht
      · simp only [List.mem_singleton] at ht
        subst ht
        have hne : s.drop p ≠ [] := by
         intro e
         have := congrArg List.length e
         simp at this; omega
        exact firstTok_name _ hne h0
  · exact h
theorem solid_nm (s : List UInt8) : ∀ t ∈ (startP s).1, refName t.text = isName t.text := by
 intro t ht
 have ht : t ∈ (lexT s).1 := (List.mem_filter.1 ht).1
 revert ht
 unfold lexT
 split
 · simp
 · have := lexGo_nm s (s.length + 1) 0 [] (by simp)
   split
   · rename_i l h; rw [h] at this; exact this t
   · simp
theorem start_big {s : List UInt8} (h : 65536 < s.length) : startP s = ([], ⟨0, 0, 5⟩) := by simp [startP, lexT, h, solidT]
theorem start_ok {s : List UInt8} (h : ¬ 65536 < s.length) (h1 : (solidFrom s 0).2 = none) : startP s = ((solidFrom s 0).1, ⟨0, 0, 0⟩) := by
 unfold solidFrom lexFrom at *
 unfold startP lexT
 rw [if_neg h]
 revert h1
 rcases lexGo (s.length + 1) s 0 [] with ⟨l, _ | q⟩ <;> simp [solidR]
theorem start_bad {s : List UInt8} {q : Nat} (h : ¬ 65536 < s.length) (h1 : (solidFrom s 0).2 = some q) : startP s = ([], ⟨0, q, 3⟩) := by
 unfold solidFrom lexFrom at *
 unfold startP lexT
 rw [if_neg h]
 revert h1
 rcases lexGo (s.length + 1) s 0 [] with ⟨l, _ | q⟩
 · simp [solidR]
 · intro h; simp only [solidR, Option.some.injEq] at h; subst h; simp [solidT]
theorem RP.none {b : Nat} {n : Int} {w : World} (h : Blk w b [.slice none 0 0, .int .i64 0, .int .i64 n, .int .i64 0, .int .i64 0]) : RP ⟨b, w.heap.size, [], n, none, 0⟩ ⟨0, 0, 0⟩ w :=
 ⟨h, Or.inl rfl, cell_lt (Row.at0 h.row rfl), Nat.le_refl _, Nat.le_refl _, by simp, by simp, by simp, by simp⟩
def RStartR (s : List UInt8) (w : World) : Ending → World → Prop := fun e w' => ∃ c : RC, e = .returned (.pointer (some ⟨c.pb, 0, none⟩)) ∧ (c.ts = (startP s).1 ∧ c.n = s.length ∧ w.heap.size ≤ c.pb) ∧ RP c (startP s).2 w' ∧ Ext w w'
theorem RStartR.ret {s : List UInt8} {w : World} {e : Ending} {w' : World} (h : RStartR s w e w') : ∃ v, e = .returned v := by
 obtain ⟨_, h, -⟩ := h
 exact ⟨_, h⟩
set_option maxRecDepth 100000 in
set_option maxHeartbeats 4000000 in
theorem rstart_c (s : List UInt8) (w : World) (hs : s.length ≤ 1000000) : Calls Tryz.prog 27 #[str s] w (RStartR s w) := by
 have X := Ext.refl w
 by_cases h0 : 65536 < s.length
 · have e := start_big h0
   refine calls_in Tryz.func27 Tryz.ntmps27 rfl rfl ?_
   focus
    refine cS (cA rfl rfl (cN (cM rfl rfl (lw_pure (pur_len_s tabOk rfl rfl) rfl (lw_pure (pur_build' [_, _, _, _, _] tabOk zOk rfl rfl rfl rfl) rfl ?_)))))
    (refine lw_box' [_, _, _, _, _] rfl rfl rfl ?_; intro b1 w2 n3)
    have h4 := New.blk n3
    have x5 := New.ext n3
    have p6 := New.pos n3
    have z7 := New.size n3
    clear n3
    replace X := Ext.ext X x5
    clear x5
    refine cA rfl rfl (cT (cw_seq (cS (cM rfl rfl (lw_pure (pur_len_s tabOk rfl rfl) rfl (lw_pure (pur_gtr rfl rfl) rfl (cT ?_)))))))
    refine cw_yes rfl (by omega) ?_
    refine cS (cM rfl rfl ?_)
    refine lw_does (does_call (by kernel_rfl) rfl (rfail_c ⟨_, _, [], _, none, 0⟩ ⟨0, 0, 0⟩ _ _ _ (RP.none (by assumption))) (fun _ _ h => ⟨_, h.1⟩)) rfl ?_ (fun _ h => h)
    rintro _ w10 ⟨⟨⟩, ⟨h8, f9⟩⟩
    have z11 := Fr.size f9
    clear h4
    replace X := Ext.fr X f9 (by simp only; omega)
    clear f9
    refine cN (cM rfl rfl (cA rfl rfl (cT (cw_ret (qw_then_ret (qw_ret1 rfl rfl ?_))))))
    rotate_left 1
   exact ⟨⟨b1, w2.heap.size, [], s.length, none, 0⟩, rfl, ⟨by rw [e], rfl, by simp only; omega⟩, by rw [e]; exact h8, X⟩
 · cases h1 : (solidFrom s 0).2 with
   | none =>
    have e := start_ok h0 h1
    have hno : (solidFrom s 0).2.isNone = true := by rw [h1]; rfl
    have hln := start_len s
    have hok := solid_ok s
    have hnm := solid_nm s
    rw [e] at hln hok hnm
    simp only at hln hok hnm
    have HO := Lib.hid hok; clear hok
    have HN := Lib.hid hnm; clear hnm
    refine calls_in Tryz.func27 Tryz.ntmps27 rfl rfl ?_
    focus
     refine cS (cA rfl rfl (cN (cM rfl rfl (lw_pure (pur_len_s tabOk rfl rfl) rfl (lw_pure (pur_build' [_, _, _, _, _] tabOk zOk rfl rfl rfl rfl) rfl ?_)))))
     (refine lw_box' [_, _, _, _, _] rfl rfl rfl ?_; intro ba1 wa2 na3)
     have ha4 := New.blk na3
     have xa5 := New.ext na3
     have pa6 := New.pos na3
     have za7 := New.size na3
     clear na3
     replace X := Ext.ext X xa5
     clear xa5
     refine cA rfl rfl (cT (cw_seq (cS (cM rfl rfl (lw_pure (pur_len_s tabOk rfl rfl) rfl (lw_pure (pur_gtr rfl rfl) rfl (cT ?_)))))))
     refine cw_no rfl (by omega) ?_
     refine cw_skip (qw_then (cS (cM rfl rfl ?_)))
     refine lw_does (does_call (by kernel_rfl) rfl (rTokens_c _ _ (by omega)) (fun _ _ h => h.ret)) rfl ?_ (fun _ h => h)
     rintro _ wa12 ⟨aa8, ⟨ka9, ⟨⟨⟩, ⟨ha10, xa11⟩⟩⟩⟩
     have za13 := Ext.size xa11
     replace ha4 := Blk.ext ha4 xa11
     replace X := Ext.ext X xa11
     clear xa11
     refine cM rfl rfl (lw_pure (pur_extract rfl rfl) rfl (lw_pure (pur_extract rfl rfl) rfl (lw_pure (pur_extract rfl rfl) rfl (cA rfl rfl (cA rfl rfl (cA rfl rfl (cT (cw_seq (cS (cM rfl rfl (lw_pure (pur_not rfl) rfl ?_)))))))))))
     refine cT ?_
     refine cw_nf rfl (by assumption) ?_
     refine cw_skip (qw_then (cS (cM rfl rfl (cM rfl rfl (lw_pure (pur_nilCheck rfl) rfl (lw_pure (pur_fieldAddr0 tabOk rfl rfl rfl) rfl ?_))))))
     (refine lw_store' [_] [_, _, _, _, _] tabOk rfl rfl rfl rfl rfl rfl ha4 rfl rfl ?_; intro wa14 na15)
     have ha18 := Put.blk na15
     have fa16 := Put.fr na15
     have za17 := Put.size na15
     clear na15 ha4
     replace ha10 := RToks.fr ha10 fa16 (by omega)
     replace X := Ext.fr X fa16 (by omega)
     clear fa16
     refine cN (cM rfl rfl (cA rfl rfl (cT (cw_ret (qw_ret1 rfl rfl ?_)))))
     rotate_left 1
    refine ⟨⟨ba1, wa14.heap.size, (solidFrom s 0).1, s.length, aa8, ka9⟩, rfl, ⟨by rw [e], rfl, by simp only; omega⟩, ?_, X⟩
    rw [e]
    refine ⟨ha18, ha10.wide (fun b h => ⟨by simp only; omega, by simp only; omega⟩), by simp only; omega, Nat.le_refl _, Nat.zero_le _, by simp only; omega, fun t ht => ?_, HN.out, fun t ht hd => ?_⟩
    · have := (HO.out t ht).len; omega
    · exact ((HO.out t ht).num ((HO.out t ht).dig.2 hd)).2
   | some q =>
    have hno : (solidFrom s 0).2.isNone = false := by rw [h1]; rfl
    have e := start_bad h0 h1
    refine calls_in Tryz.func27 Tryz.ntmps27 rfl rfl ?_
    focus
     refine cS (cA rfl rfl (cN (cM rfl rfl (lw_pure (pur_len_s tabOk rfl rfl) rfl (lw_pure (pur_build' [_, _, _, _, _] tabOk zOk rfl rfl rfl rfl) rfl ?_)))))
     (refine lw_box' [_, _, _, _, _] rfl rfl rfl ?_; intro bb1 wb2 nb3)
     have hb4 := New.blk nb3
     have xb5 := New.ext nb3
     have pb6 := New.pos nb3
     have zb7 := New.size nb3
     clear nb3
     replace X := Ext.ext X xb5
     clear xb5
     refine cA rfl rfl (cT (cw_seq (cS (cM rfl rfl (lw_pure (pur_len_s tabOk rfl rfl) rfl (lw_pure (pur_gtr rfl rfl) rfl (cT ?_)))))))
     refine cw_no rfl (by omega) ?_
     refine cw_skip (qw_then (cS (cM rfl rfl ?_)))
     refine lw_does (does_call (by kernel_rfl) rfl (rTokens_c _ _ (by omega)) (fun _ _ h => h.ret)) rfl ?_ (fun _ h => h)
     rintro _ wb12 ⟨ab8, ⟨kb9, ⟨⟨⟩, ⟨hb10, xb11⟩⟩⟩⟩
     have zb13 := Ext.size xb11
     replace hb4 := Blk.ext hb4 xb11
     replace X := Ext.ext X xb11
     clear xb11
     refine cM rfl rfl (lw_pure (pur_extract rfl rfl) rfl (lw_pure (pur_extract rfl rfl) rfl (lw_pure (pur_extract rfl rfl) rfl (cA rfl rfl (cA rfl rfl (cA rfl rfl (cT (cw_seq (cS (cM rfl rfl (lw_pure (pur_not rfl) rfl ?_)))))))))))
     refine cT ?_
     refine cw_nt rfl (by assumption) ?_
     refine cS (cM rfl rfl (cM rfl rfl ?_))
     refine lw_does (does_call (by kernel_rfl) rfl (rfail_c ⟨_, _, [], _, none, 0⟩ ⟨0, 0, 0⟩ _ _ _ (RP.none (by assumption))) (fun _ _ h => ⟨_, h.1⟩)) rfl ?_ (fun _ h => h)
     rintro _ wb16 ⟨⟨⟩, ⟨hb14, fb15⟩⟩
     have zb17 := Fr.size fb15
     replace hb10 := RToks.fr hb10 fb15 (by simp only; omega)
     clear hb4
     replace X := Ext.fr X fb15 (by simp only; omega)
     clear fb15
     refine cN (cM rfl rfl (cA rfl rfl (cT (cw_ret (qw_then_ret (qw_ret1 rfl rfl ?_))))))
     rotate_left 1
    rw [h1] at hb14
    exact ⟨⟨bb1, wb12.heap.size, [], s.length, none, 0⟩, rfl, ⟨by rw [e], rfl, by simp only; omega⟩, by rw [e]; exact hb14, X⟩
end Bk
namespace Bk
open Go Go.RowKit Go.Proofs
attribute [local irreducible] Go.Calls
def NodeR (w : World) (S : Nat → Prop) (t : Nd) : Ending → World → Prop := fun e w' => ∃ a k, e = .returned (t.val a k) ∧ t.sits (fun b => S b ∨ (w.heap.size ≤ b ∧ b < w'.heap.size)) w' a ∧ Ext w w'
theorem NodeR.ret {w : World} {S : Nat → Prop} {t : Nd} {e : Ending} {w' : World} (h : NodeR w S t e w') : ∃ v, e = .returned v := by
 obtain ⟨_, _, h, -⟩ := h
 exact ⟨_, h⟩
set_option maxRecDepth 100000 in
set_option maxHeartbeats 1000000 in
theorem rnode0 (kind : Int) (name : List UInt8) (w : World) :
 Calls Tryz.prog 84 #[.int .u8 kind, str name, .slice none 0 0] w fun e w' => e = .returned ((Nd.mk kind 0 name []).val none 0) ∧ Ext w w' := by
 have X := Ext.refl w
 refine calls_in Tryz.func84 Tryz.ntmps84 rfl rfl ?_
 focus
  refine cS ?_
  (refine lw_alloc' [_, _, _, _] zOk rfl rfl ?_; intro b1 w2 n3)
  have h5 := New.blk n3
  have x6 := New.ext n3
  have p7 := New.pos n3
  have z8 := New.size n3
  clear n3
  replace X := Ext.ext X x6
  clear x6
  refine cN (cM rfl rfl (cM rfl rfl (lw_pure (pur_build' [_, _, _, _] tabOk zOk rfl rfl rfl rfl) rfl ?_)))
  (refine lw_alloc' [_, _, _, _] zOk rfl rfl ?_; intro b9 w10 n11)
  (refine lw_init' [_, _, _, _] tabOk rfl rfl rfl rfl rfl rfl n11 rfl ?_; clear n11; clear w10; intro w12 n11)
  have h13 := New.blk n11
  have x14 := New.ext n11
  have p15 := New.pos n11
  have z16 := New.size n11
  clear n11
  replace h5 := Blk.ext h5 x14
  replace X := Ext.ext X x14
  clear x14
  refine cN (lw_pure (pur_fieldAddr tabOk rfl rfl rfl) rfl (lw_load_b tabOk rfl rfl rfl h13 rfl rfl (cM rfl rfl (lw_pure (pur_append0 tabOk rfl rfl rfl rfl) rfl (lw_pure (pur_fieldAddr tabOk rfl rfl rfl) rfl ?_)))))
  (refine lw_store' [_] [_, _, _, _] tabOk rfl rfl rfl rfl rfl rfl h13 rfl rfl ?_; intro w17 n18)
  have h21 := Put.blk n18
  have f19 := Put.fr n18
  have z20 := Put.size n18
  clear n18 h13
  replace h5 := Blk.fr h5 f19 (by omega)
  replace X := Ext.fr X f19 (by omega)
  clear f19
  refine cN (lw_loads_b' [_, _, _, _] tabOk rfl rfl rfl h21 rfl rfl rfl ?_)
  (refine lw_store' [_, _, _, _] [_, _, _, _] tabOk rfl rfl rfl rfl rfl rfl h5 rfl rfl ?_; intro w22 n23)
  have h26 := Put.blk n23
  have f24 := Put.fr n23
  have z25 := Put.size n23
  clear n23 h5
  replace h21 := Blk.fr h21 f24 (by omega)
  replace X := Ext.fr X f24 (by omega)
  clear f24
  refine cT (cw_ret (qw_retc rfl tabOk rfl rfl rfl h26 rfl ?_))
  rotate_left 1
 exact ⟨rfl, X⟩
set_option maxRecDepth 100000 in
set_option maxHeartbeats 1000000 in
theorem rnode_c (kind : Int) (name : List UInt8) (l : List Nd) (cs : List Value) (p : Addr) (cap : Nat) (w : World) (S : Nat → Prop) (hl : 0 < l.length) (hlen : l.length ≤ 1000) (hr : Row w p cs) (hc : cs.length = l.length * 4) (ho : cs.all Value.one = true)
 (hk : ∀ (i : Nat) (t : Nd), l[i]? = some t → ∃ a c, (cs.drop (i * 4)).take 4 = t.cells a c ∧ t.sits S w a) :
 Calls Tryz.prog 84 #[.int .u8 kind, str name, .slice (some p) l.length cap] w (NodeR w S (.mk kind 0 name l)) := by
 have X := Ext.refl w
 refine calls_in Tryz.func84 Tryz.ntmps84 rfl rfl ?_
 focus
  refine cS ?_
  (refine lw_alloc' [_, _, _, _] zOk rfl rfl ?_; intro b1 w2 n3)
  have h5 := New.blk n3
  have x6 := New.ext n3
  have p7 := New.pos n3
  have z8 := New.size n3
  clear n3
  replace hr := Row.ext hr x6
  replace X := Ext.ext X x6
  clear x6
  refine cN (cM rfl rfl (cM rfl rfl (lw_pure (pur_build' [_, _, _, _] tabOk zOk rfl rfl rfl rfl) rfl ?_)))
  (refine lw_alloc' [_, _, _, _] zOk rfl rfl ?_; intro b9 w10 n11)
  (refine lw_init' [_, _, _, _] tabOk rfl rfl rfl rfl rfl rfl n11 rfl ?_; clear n11; clear w10; intro w12 n11)
  have h13 := New.blk n11
  have x14 := New.ext n11
  have p15 := New.pos n11
  have z16 := New.size n11
  clear n11
  replace h5 := Blk.ext h5 x14
  replace hr := Row.ext hr x14
  replace X := Ext.ext X x14
  clear x14
  refine cN (lw_pure (pur_fieldAddr tabOk rfl rfl rfl) rfl (lw_load_b tabOk rfl rfl rfl h13 rfl rfl (cM rfl rfl ?_)))
  refine lw_append_nil tabOk zOk rfl rfl rfl rfl (by kernel_rfl) rfl rfl rfl hr hc ho (by omega) hl rfl ?_
  rintro g17 cap'18 w19 h20 h21 h22 x23
  have z24 := Ext.size x23
  replace h13 := Blk.ext h13 x23
  replace h5 := Blk.ext h5 x23
  replace hr := Row.ext hr x23
  replace X := Ext.ext X x23
  clear x23
  refine lw_pure (pur_fieldAddr tabOk rfl rfl rfl) rfl ?_
  (refine lw_store' [_] [_, _, _, _] tabOk rfl rfl rfl rfl rfl rfl h13 rfl rfl ?_; intro w25 n26)
  have h29 := Put.blk n26
  have f27 := Put.fr n26
  have z28 := Put.size n26
  clear n26 h13
  replace h20 := Row.fr h20 f27 (by simp only; omega)
  replace h5 := Blk.fr h5 f27 (by omega)
  clear hr
  replace X := Ext.fr X f27 (by omega)
  clear f27
  refine cN (lw_loads_b' [_, _, _, _] tabOk rfl rfl rfl h29 rfl rfl rfl ?_)
  (refine lw_store' [_, _, _, _] [_, _, _, _] tabOk rfl rfl rfl rfl rfl rfl h5 rfl rfl ?_; intro w30 n31)
  have h34 := Put.blk n31
  have f32 := Put.fr n31
  have z33 := Put.size n31
  clear n31 h5
  replace h29 := Blk.fr h29 f32 (by omega)
  replace h20 := Row.fr h20 f32 (by simp only; omega)
  replace X := Ext.fr X f32 (by omega)
  clear f32
  refine cT (cw_ret (qw_retc rfl tabOk rfl rfl rfl h34 rfl ?_))
  rotate_left 1
 refine ⟨_, _, rfl, sits_mk (rowSits_of (Or.inr ⟨by omega, by omega⟩) l 0 (fun i x hx => ?_)), X⟩
 obtain ⟨a, c, h1, h2⟩ := hk i x hx
 refine ⟨a, c, ?_, (h2.ext X).wide (fun b hb => Or.inl hb)⟩
 have := h20.sub (i * 4) 4
 rw [h1] at this
 exact this
theorem rnode1 (kind : Int) (name : List UInt8) (x : Nd) (xa : Option Addr) (xc : Nat) (S1 : Nat → Prop) (b0 cap : Nat) (w : World) (h : Blk w b0 (x.cells xa xc)) (hx : x.sits S1 w xa) :
 Calls Tryz.prog 84 #[.int .u8 kind, str name, .slice (some ⟨b0, 0, none⟩) 1 cap] w (NodeR w (fun b => S1 b) (.mk kind 0 name [x])) := by
 refine rnode_c kind name [x] (x.cells xa xc) ⟨b0, 0, none⟩ cap w _ (by simp) (by simp) h.row rfl rfl (fun i t ht => ?_)
 match i, ht with
 | 0, ht => simp at ht; subst ht; exact ⟨xa, xc, rfl, hx.wide (fun b hb => hb)⟩
theorem rnode2 (kind : Int) (name : List UInt8) (x y : Nd) (xa ya : Option Addr) (xc yc : Nat) (S1 S2 : Nat → Prop) (b0 cap : Nat) (w : World) (h : Blk w b0 (x.cells xa xc ++ y.cells ya yc)) (hx : x.sits S1 w xa) (hy : y.sits S2 w ya) :
 Calls Tryz.prog 84 #[.int .u8 kind, str name, .slice (some ⟨b0, 0, none⟩) 2 cap] w (NodeR w (fun b => S1 b ∨ S2 b) (.mk kind 0 name [x, y])) := by
 refine rnode_c kind name [x, y] (x.cells xa xc ++ y.cells ya yc) ⟨b0, 0, none⟩ cap w _ (by simp) (by simp) h.row rfl rfl (fun i t ht => ?_)
 match i, ht with
 | 0, ht => simp at ht; subst ht; exact ⟨xa, xc, rfl, hx.wide (fun b hb => Or.inl hb)⟩
 | 1, ht => simp at ht; subst ht; exact ⟨ya, yc, rfl, hy.wide (fun b hb => Or.inr (hb))⟩
theorem rnode3 (kind : Int) (name : List UInt8) (x y z : Nd) (xa ya za : Option Addr) (xc yc zc : Nat) (S1 S2 S3 : Nat → Prop) (b0 cap : Nat) (w : World) (h : Blk w b0 (x.cells xa xc ++ y.cells ya yc ++ z.cells za zc)) (hx : x.sits S1 w xa) (hy : y.sits S2 w ya) (hz : z.sits S3 w za) :
 Calls Tryz.prog 84 #[.int .u8 kind, str name, .slice (some ⟨b0, 0, none⟩) 3 cap] w (NodeR w (fun b => S1 b ∨ S2 b ∨ S3 b) (.mk kind 0 name [x, y, z])) := by
 refine rnode_c kind name [x, y, z] (x.cells xa xc ++ y.cells ya yc ++ z.cells za zc) ⟨b0, 0, none⟩ cap w _ (by simp) (by simp) h.row rfl rfl (fun i t ht => ?_)
 match i, ht with
 | 0, ht => simp at ht; subst ht; exact ⟨xa, xc, rfl, hx.wide (fun b hb => Or.inl hb)⟩
 | 1, ht => simp at ht; subst ht; exact ⟨ya, yc, rfl, hy.wide (fun b hb => Or.inr (Or.inl hb))⟩
 | 2, ht => simp at ht; subst ht; exact ⟨za, zc, rfl, hz.wide (fun b hb => Or.inr (Or.inr (hb)))⟩
theorem rnode4 (kind : Int) (name : List UInt8) (x y z u : Nd) (xa ya za ua : Option Addr) (xc yc zc uc : Nat) (S1 S2 S3 S4 : Nat → Prop) (b0 cap : Nat) (w : World) (h : Blk w b0 (x.cells xa xc ++ y.cells ya yc ++ z.cells za zc ++ u.cells ua uc)) (hx : x.sits S1 w xa) (hy : y.sits S2 w ya) (hz : z.sits S3 w za) (hu : u.sits S4 w ua) :
 Calls Tryz.prog 84 #[.int .u8 kind, str name, .slice (some ⟨b0, 0, none⟩) 4 cap] w (NodeR w (fun b => S1 b ∨ S2 b ∨ S3 b ∨ S4 b) (.mk kind 0 name [x, y, z, u])) := by
 refine rnode_c kind name [x, y, z, u] (x.cells xa xc ++ y.cells ya yc ++ z.cells za zc ++ u.cells ua uc) ⟨b0, 0, none⟩ cap w _ (by simp) (by simp) h.row rfl rfl (fun i t ht => ?_)
 match i, ht with
 | 0, ht => simp at ht; subst ht; exact ⟨xa, xc, rfl, hx.wide (fun b hb => Or.inl hb)⟩
 | 1, ht => simp at ht; subst ht; exact ⟨ya, yc, rfl, hy.wide (fun b hb => Or.inr (Or.inl hb))⟩
 | 2, ht => simp at ht; subst ht; exact ⟨za, zc, rfl, hz.wide (fun b hb => Or.inr (Or.inr (Or.inl hb)))⟩
 | 3, ht => simp at ht; subst ht; exact ⟨ua, uc, rfl, hu.wide (fun b hb => Or.inr (Or.inr (Or.inr (hb))))⟩
theorem startsDigit_cons {s : List UInt8} (h : startsDigit s = true) : ∃ c r, s = c :: r ∧ digit c = true := by
 cases s with
 | nil => simp [startsDigit] at h
 | cons c r => exact ⟨c, r, rfl, h⟩
set_option maxRecDepth 100000 in
set_option maxHeartbeats 1000000 in
theorem rnumber_c (c : RC) (σ : PS) (w : World) (hP : RP c σ w) :
 Calls Tryz.prog 76 #[.pointer (some ⟨c.pb, 0, none⟩)] w fun r w' => r = .returned (.int .i64 (numberR c.ts c.n σ).1) ∧ RP c (numberR c.ts c.n σ).2 w' ∧ Fr (· = c.pb) w w' := by
 have X := Fr.refl (· = c.pb) w
 have hl := hP.len
 have hpl := rpeek_len hP
 have hpb := hP.pbB
 have hB := hP.B
 have hnum := rpeek_num hP
 cases hs : startsDigit (peekP c.ts σ).text
 · rw [show numberR c.ts c.n σ = (0, unexpP c.ts c.n σ) from by simp [numberR, hs]]
   by_cases h0 : σ.err = 0
   · cases ht : (peekP c.ts σ).text with
     | nil =>
      have hlen0 : (peekP c.ts σ).text.length = 0 := by rw [ht]; rfl
      refine calls_in Tryz.func76 Tryz.ntmps76 rfl rfl ?_
      focus
       refine cS (cA rfl rfl (cN (cM rfl rfl ?_)))
       refine lw_does (does_call (by kernel_rfl) rfl (rpeek_c _ _ _ (by assumption)) (fun _ _ h => ⟨_, h.1⟩)) rfl ?_ (fun _ h => h)
       rintro _ w2 ⟨⟨⟩, x1⟩
       have z3 := Ext.size x1
       replace hP := RP.ext hP x1
       replace X := Fr.ext X x1
       clear x1
       refine cA rfl rfl (cT (cw_seq (cS (cM rfl rfl (lw_pure (pur_nilCheck rfl) rfl (lw_pure (pur_fieldAddr tabOk rfl rfl rfl) rfl (lw_load_b tabOk rfl rfl rfl (RP.blk hP) rfl rfl (lw_pure (pur_neq rfl rfl) rfl (cM rfl rfl ?_)))))))))
       refine lw_on rfl rfl rfl (gd_ff (by omega)) ?_
       refine cM rfl rfl ?_
       refine lw_on rfl rfl rfl (gd_ff (by omega)) ?_
       refine lw_pure (pur_len_s tabOk rfl rfl) rfl ?_
       refine lw_on rfl rfl rfl (gd_ff (by omega)) ?_
       refine lw_pure (pur_eql rfl rfl) rfl ?_
       refine lw_pure (pur_pick_no rfl rfl (by omega)) rfl ?_
       refine cM rfl rfl ?_
       refine lw_off rfl rfl rfl (gd_ft (by omega)) rfl ?_
       refine lw_off rfl rfl rfl (gd_ft (by omega)) rfl ?_
       refine lw_off rfl rfl rfl (gd_ft (by omega)) rfl ?_
       refine lw_off rfl rfl rfl (gd_ft (by omega)) rfl ?_
       refine lw_pure (pur_pick_yes rfl rfl (by omega)) rfl ?_
       refine cT (cw_cond_t rfl (cS (cM rfl rfl ?_)))
       refine lw_does (does_call (by kernel_rfl) rfl (rwrong_c _ _ _ (by assumption)) (fun _ _ h => ⟨_, h.1⟩)) rfl ?_ (fun _ h => h)
       rintro _ w6 ⟨⟨⟩, ⟨h4, f5⟩⟩
       have z7 := Fr.size f5
       clear hP
       replace X := Fr.fr X f5 (by omega)
       clear f5
       refine cN (cA rfl rfl (cT (cw_ret (qw_then_ret (qw_ret1 rfl rfl ?_)))))
       rotate_left 1
      exact ⟨rfl, by assumption, X⟩
     | cons x r =>
      have hlen0 : (peekP c.ts σ).text.length ≠ 0 := by rw [ht]; simp
      have hx : (peekP c.ts σ).text[(0 : Int).toNat]? = some x := by rw [ht]; rfl
      have hd : digit x = false := by rw [ht] at hs; exact hs
      refine calls_in Tryz.func76 Tryz.ntmps76 rfl rfl ?_
      focus
       refine cS (cA rfl rfl (cN (cM rfl rfl ?_)))
       refine lw_does (does_call (by kernel_rfl) rfl (rpeek_c _ _ _ (by assumption)) (fun _ _ h => ⟨_, h.1⟩)) rfl ?_ (fun _ h => h)
       rintro _ wa2 ⟨⟨⟩, xa1⟩
       have za3 := Ext.size xa1
       replace hP := RP.ext hP xa1
       replace X := Fr.ext X xa1
       clear xa1
       refine cA rfl rfl (cT (cw_seq (cS (cM rfl rfl (lw_pure (pur_nilCheck rfl) rfl (lw_pure (pur_fieldAddr tabOk rfl rfl rfl) rfl (lw_load_b tabOk rfl rfl rfl (RP.blk hP) rfl rfl (lw_pure (pur_neq rfl rfl) rfl (cM rfl rfl ?_)))))))))
       refine lw_on rfl rfl rfl (gd_ff (by omega)) ?_
       refine cM rfl rfl ?_
       refine lw_on rfl rfl rfl (gd_ff (by omega)) ?_
       refine lw_pure (pur_len_s tabOk rfl rfl) rfl ?_
       refine lw_on rfl rfl rfl (gd_ff (by omega)) ?_
       refine lw_pure (pur_eql rfl rfl) rfl ?_
       refine lw_pure (pur_pick_no rfl rfl (by omega)) rfl ?_
       refine cM rfl rfl ?_
       refine lw_on rfl rfl rfl (gd_ff (by omega)) ?_
       refine cM rfl rfl ?_
       refine lw_on rfl rfl rfl (gd_ff (by omega)) ?_
       refine lw_pure (pur_sindex tabOk rfl rfl rfl (by omega) (by assumption)) rfl ?_
       refine lw_on rfl rfl rfl (gd_ff (by omega)) ?_
       refine lw_does (does_call (by kernel_rfl) rfl (rdigit_c _ _) (fun _ _ h => ⟨_, h.1⟩)) rfl ?_ (fun _ h => h)
       rintro _ wa4 ⟨⟨⟩, rfl⟩
       refine lw_on rfl rfl rfl (gd_ff (by omega)) ?_
       refine lw_pure (pur_not rfl) rfl ?_
       refine lw_pure (pur_pick_no rfl rfl (by omega)) rfl ?_
       refine cT ?_
       refine cw_nt rfl (by assumption) ?_
       refine cS (cM rfl rfl ?_)
       refine lw_does (does_call (by kernel_rfl) rfl (rwrong_c _ _ _ (by assumption)) (fun _ _ h => ⟨_, h.1⟩)) rfl ?_ (fun _ h => h)
       rintro _ wa7 ⟨⟨⟩, ⟨ha5, fa6⟩⟩
       have za8 := Fr.size fa6
       clear hP
       replace X := Fr.fr X fa6 (by omega)
       clear fa6
       refine cN (cA rfl rfl (cT (cw_ret (qw_then_ret (qw_ret1 rfl rfl ?_)))))
       rotate_left 1
      exact ⟨rfl, by assumption, X⟩
   · refine calls_in Tryz.func76 Tryz.ntmps76 rfl rfl ?_
     focus
      refine cS (cA rfl rfl (cN (cM rfl rfl ?_)))
      refine lw_does (does_call (by kernel_rfl) rfl (rpeek_c _ _ _ (by assumption)) (fun _ _ h => ⟨_, h.1⟩)) rfl ?_ (fun _ h => h)
      rintro _ wb2 ⟨⟨⟩, xb1⟩
      have zb3 := Ext.size xb1
      replace hP := RP.ext hP xb1
      replace X := Fr.ext X xb1
      clear xb1
      refine cA rfl rfl (cT (cw_seq (cS (cM rfl rfl (lw_pure (pur_nilCheck rfl) rfl (lw_pure (pur_fieldAddr tabOk rfl rfl rfl) rfl (lw_load_b tabOk rfl rfl rfl (RP.blk hP) rfl rfl (lw_pure (pur_neq rfl rfl) rfl (cM rfl rfl ?_)))))))))
      refine lw_off rfl rfl rfl (gd_ft (by assumption)) rfl ?_
      refine lw_off rfl rfl rfl (gd_ft (by assumption)) rfl ?_
      refine lw_off rfl rfl rfl (gd_ft (by assumption)) rfl ?_
      refine lw_pure (pur_pick_yes rfl rfl (by assumption)) rfl ?_
      refine cM rfl rfl (lw_off rfl rfl rfl (rfl) rfl (lw_off rfl rfl rfl (rfl) rfl (lw_off rfl rfl rfl (rfl) rfl (lw_off rfl rfl rfl (rfl) rfl (lw_pure (pur_pick_t rfl rfl rfl) rfl (cT (cw_cond_t rfl (cS (cM rfl rfl ?_)))))))))
      refine lw_does (does_call (by kernel_rfl) rfl (rwrong_c _ _ _ (by assumption)) (fun _ _ h => ⟨_, h.1⟩)) rfl ?_ (fun _ h => h)
      rintro _ wb6 ⟨⟨⟩, ⟨hb4, fb5⟩⟩
      have zb7 := Fr.size fb5
      clear hP
      replace X := Fr.fr X fb5 (by omega)
      clear fb5
      refine cN (cA rfl rfl (cT (cw_ret (qw_then_ret (qw_ret1 rfl rfl ?_)))))
      rotate_left 1
     exact ⟨rfl, by assumption, X⟩
 · replace hnum := hnum hs
   obtain ⟨x0, r0, hx0, hd0⟩ := startsDigit_cons hs
   obtain ⟨h0, h3⟩ := peek_in hP.at_ (Or.inl (startsDigit_ne hs))
   have hpos : posR c.ts c.n σ = (peekP c.ts σ).pos := by
    rw [rpeek_is (fun h => by rcases h with h | h; exact h h0; omega) h3]
    unfold posR; rw [if_neg (by omega)]; simp [h3]
   have hlen0 : (peekP c.ts σ).text.length ≠ 0 := by rw [hx0]; simp
   have hx : (peekP c.ts σ).text[(0 : Int).toNat]? = some x0 := by rw [hx0]; rfl
   have hE : ∀ v, digitsVal (peekP c.ts σ).text = v → numberR c.ts c.n σ = if (v : Int) ≤ 9223372036854775807 then ((v : Int), nextP σ) else (0, failP σ (posR c.ts c.n σ) 2) := fun v hv => by
    simp [numberR, hs, hv, hpos]
   have HE := Lib.hid hE; clear hE hpos
   refine calls_in Tryz.func76 Tryz.ntmps76 rfl rfl ?_
   focus
    refine cS (cA rfl rfl (cN (cM rfl rfl ?_)))
    refine lw_does (does_call (by kernel_rfl) rfl (rpeek_c _ _ _ (by assumption)) (fun _ _ h => ⟨_, h.1⟩)) rfl ?_ (fun _ h => h)
    rintro _ wc2 ⟨⟨⟩, xc1⟩
    have zc3 := Ext.size xc1
    replace hP := RP.ext hP xc1
    replace X := Fr.ext X xc1
    clear xc1
    refine cA rfl rfl (cT (cw_seq (cS (cM rfl rfl (lw_pure (pur_nilCheck rfl) rfl (lw_pure (pur_fieldAddr tabOk rfl rfl rfl) rfl (lw_load_b tabOk rfl rfl rfl (RP.blk hP) rfl rfl (lw_pure (pur_neq rfl rfl) rfl (cM rfl rfl ?_)))))))))
    refine lw_on rfl rfl rfl (gd_ff (by omega)) ?_
    refine cM rfl rfl ?_
    refine lw_on rfl rfl rfl (gd_ff (by omega)) ?_
    refine lw_pure (pur_len_s tabOk rfl rfl) rfl ?_
    refine lw_on rfl rfl rfl (gd_ff (by omega)) ?_
    refine lw_pure (pur_eql rfl rfl) rfl ?_
    refine lw_pure (pur_pick_no rfl rfl (by omega)) rfl ?_
    refine cM rfl rfl ?_
    refine lw_on rfl rfl rfl (gd_ff (by omega)) ?_
    refine cM rfl rfl ?_
    refine lw_on rfl rfl rfl (gd_ff (by omega)) ?_
    refine lw_pure (pur_sindex tabOk rfl rfl rfl (by omega) (by assumption)) rfl ?_
    refine lw_on rfl rfl rfl (gd_ff (by omega)) ?_
    refine lw_does (does_call (by kernel_rfl) rfl (rdigit_c _ _) (fun _ _ h => ⟨_, h.1⟩)) rfl ?_ (fun _ h => h)
    rintro _ wc4 ⟨⟨⟩, rfl⟩
    refine lw_on rfl rfl rfl (gd_ff (by omega)) ?_
    refine lw_pure (pur_not rfl) rfl ?_
    refine lw_pure (pur_pick_no rfl rfl (by omega)) rfl ?_
    refine cT ?_
    refine cw_nf rfl (by assumption) ?_
    refine cw_skip (qw_then (cS (cA rfl rfl (cT (cw_seq (cS (cA rfl rfl (cT (cw_block ?_)))))))))
    rotate_left 1
   clear hx hx0 hlen0 hs
   generalize (peekP c.ts σ).text = T at *
   refine cw_loop (ι := Nat) (fun j => [(0, .pointer (some ⟨c.pb, 0, none⟩)), (3, str T), (4, .int .u64 (digitsFrom 0 (T.take j))), (5, .int .i64 j)]) (fun j w' => wc2 = w' ∧ j ≤ T.length ∧ (digitsFrom 0 (T.take j) : Int) ≤ 9223372036854775807) (fun j => T.length - j) 0 (by (refine sub_cons rfl ?_; refine sub_cons rfl ?_; refine sub_cons rfl ?_; refine sub_cons rfl ?_; exact sub_nil)) ⟨rfl, Nat.zero_le _, by simp [digitsFrom]⟩ ?_
   rintro j _ ⟨rfl, hj, hle⟩
   by_cases hlt : j < T.length
   · have hxj : T[((j : Nat) : Int).toNat]? = some T[j] := List.getElem?_eq_getElem hlt
     have hdj := hnum T[j] (List.getElem_mem hlt)
     have htk : T.take (j + 1) = T.take j ++ [T[j]] := by rw [List.take_add_one, List.getElem?_eq_getElem hlt]; rfl
     have hsn := digitsFrom_snoc 0 (T.take j) T[j]
     rw [← htk] at hsn
     have hall : digitsFrom 0 (T.take (j + 1)) ≤ digitsVal T := by
      have h1 : digitsVal T = digitsFrom (digitsFrom 0 (T.take (j + 1))) (T.drop (j + 1)) := by
       rw [← digitsFrom_append, List.take_append_drop]; rfl
      rw [h1]; exact digitsFrom_le _ _
     generalize T[j] = x at *
     simp only [digit, Bool.and_eq_true, decide_eq_true_eq] at hdj
     obtain ⟨hx0, hx1⟩ := hdj
     by_cases hov : (9223372036854775807 : Int) < digitsFrom 0 (T.take (j + 1))
     · rw [HE.out _ rfl, if_neg (by omega)]
       focus
        refine cw_seq (cS (cM rfl rfl (cM rfl rfl (lw_pure (pur_len_s tabOk rfl rfl) rfl (lw_pure (pur_lss rfl rfl) rfl (cT ?_))))))
        refine cw_yes rfl (by omega) ?_
        refine cw_skip (qw_then (cw_seq (cw_block (cS (cM rfl rfl (cM rfl rfl ?_))))))
        refine lw_pure (pur_sindex tabOk rfl rfl rfl (by omega) (by assumption)) rfl ?_
        refine lw_pure (pur_sub rfl rfl (u8_wrap _ (by omega) (by omega))) rfl ?_
        refine lw_pure (pur_conv tabOk rfl rfl rfl (u64_wrap _ (by omega) (by omega))) rfl ?_
        refine cA rfl rfl (cT (cw_seq (cS (cM rfl rfl (cM rfl rfl ?_)))))
        refine lw_pure (pur_sub rfl rfl (u64_wrap _ (by omega) (by omega))) rfl ?_
        refine lw_pure (pur_quo rfl rfl (by omega) (quo_u64 (by omega) (by omega) (by omega))) rfl ?_
        refine lw_pure (pur_gtr rfl rfl) rfl (cT ?_)
        refine cw_yes rfl (by omega) ?_
        refine cS (cM rfl rfl (cM rfl rfl ?_))
        refine lw_does (does_call (by kernel_rfl) rfl (rpos_c _ _ _ (by assumption)) (fun _ _ h => ⟨_, h.1⟩)) rfl ?_ (fun _ h => h)
        rintro _ wd2 ⟨⟨⟩, xd1⟩
        have zd3 := Ext.size xd1
        replace hP := RP.ext hP xd1
        replace X := Fr.ext X xd1
        clear xd1
        refine lw_does (does_call (by kernel_rfl) rfl (rfail_c _ _ _ _ _ (by assumption)) (fun _ _ h => ⟨_, h.1⟩)) rfl ?_ (fun _ h => h)
        rintro _ wd6 ⟨⟨⟩, ⟨hd4, fd5⟩⟩
        have zd7 := Fr.size fd5
        clear hP
        replace X := Fr.fr X fd5 (by omega)
        clear fd5
        refine cN (cA rfl rfl (cT (cw_ret (qw_then_ret (qw_block_ret (qw_then_ret (qw_then_ret (qw_block_ret (qw_then_ret (qw_ret1 rfl rfl ?_))))))))))
        rotate_left 1
       exact ⟨rfl, by assumption, X⟩
     · focus
        refine cw_seq (cS (cM rfl rfl (cM rfl rfl (lw_pure (pur_len_s tabOk rfl rfl) rfl (lw_pure (pur_lss rfl rfl) rfl (cT ?_))))))
        refine cw_yes rfl (by omega) ?_
        refine cw_skip (qw_then (cw_seq (cw_block (cS (cM rfl rfl (cM rfl rfl ?_))))))
        refine lw_pure (pur_sindex tabOk rfl rfl rfl (by omega) (by assumption)) rfl ?_
        refine lw_pure (pur_sub rfl rfl (u8_wrap _ (by omega) (by omega))) rfl ?_
        refine lw_pure (pur_conv tabOk rfl rfl rfl (u64_wrap _ (by omega) (by omega))) rfl ?_
        refine cA rfl rfl (cT (cw_seq (cS (cM rfl rfl (cM rfl rfl ?_)))))
        refine lw_pure (pur_sub rfl rfl (u64_wrap _ (by omega) (by omega))) rfl ?_
        refine lw_pure (pur_quo rfl rfl (by omega) (quo_u64 (by omega) (by omega) (by omega))) rfl ?_
        refine lw_pure (pur_gtr rfl rfl) rfl (cT ?_)
        refine cw_no rfl (by omega) ?_
        refine cw_skip (qw_then (cw_region (cM rfl rfl ?_)))
        refine lw_pure (pur_mul rfl rfl (u64_wrap _ (by omega) (by omega))) rfl ?_
        refine cM rfl rfl ?_
        refine lw_pure (pur_add rfl rfl (u64_wrap _ (by omega) (by omega))) rfl ?_
        refine cA rfl rfl (lw_nil (qw_block_norm (qw_then (cw_region (cM rfl rfl ?_)))))
        refine lw_pure (pur_add rfl rfl (IntWalk.i64_in _ (by omega))) rfl ?_
        refine cA rfl rfl (lw_nil ?_)
        rotate_left 1
       refine qw_round (j + 1) ?_ ⟨rfl, by omega, by omega⟩ (by omega)
       refine sub_cons rfl (sub_cons rfl (sub_cons' rfl ?_ (sub_cons rfl sub_nil)))
       simp only [Value.int.injEq, true_and]; omega
   · have hjl : j = T.length := by omega
     subst hjl
     rw [List.take_length] at hle ⊢
     have hv : digitsVal T = digitsFrom 0 T := rfl
     rw [HE.out _ hv, if_pos hle]
     focus
      refine cw_seq (cS (cM rfl rfl (cM rfl rfl (lw_pure (pur_len_s tabOk rfl rfl) rfl (lw_pure (pur_lss rfl rfl) rfl (cT ?_))))))
      refine cw_no rfl (by omega) ?_
      refine cw_exit (qw_then_exit (qw_then_exit (qw_block_exit (qw_then (cS (cM rfl rfl (cM rfl rfl (lw_pure (pur_nilCheck rfl) rfl (lw_pure (pur_fieldAddr tabOk rfl rfl rfl) rfl (lw_load_b tabOk rfl rfl rfl (RP.blk hP) rfl rfl ?_))))))))))
      refine lw_pure (pur_add rfl rfl (IntWalk.i64_in _ (by omega))) rfl ?_
      refine lw_pure (pur_nilCheck rfl) rfl (lw_pure (pur_fieldAddr tabOk rfl rfl rfl) rfl ?_)
      refine lw_rp_at tabOk rfl rfl rfl rfl (by assumption) h3 ?_
      rintro wf1 hf2 ff3
      have zf4 := Fr.size ff3
      clear hP
      replace X := Fr.fr X ff3 (by omega)
      clear ff3
      refine cN (cM rfl rfl ?_)
      refine lw_pure (pur_conv tabOk rfl rfl rfl (IntWalk.i64_in _ (by omega))) rfl ?_
      refine cA rfl rfl (cT (cw_ret (qw_ret1 rfl rfl ?_)))
      rotate_left 1
     exact ⟨rfl, by assumption, X⟩
end Bk
namespace Bk
open Go Go.RowKit Go.Proofs
attribute [local irreducible] Go.Calls
def RTreeR (c : RC) (w : World) (r : Nd × PS) : Ending → World → Prop := fun e w' => ∃ a k, e = .returned (r.1.val a k) ∧ r.1.sits (fun b => w.heap.size ≤ b ∧ b < w'.heap.size) w' a ∧ RP c r.2 w' ∧ Fr (· = c.pb) w w'
theorem rtree_ret {c : RC} {w w' : World} {r : Nd × PS} {a : Option Addr} {k : Nat} (hs : r.1.sits (w.heap.size ≤ ·) w' a) (hP : RP c r.2 w') (X : Fr (· = c.pb) w w') : RTreeR c w r (.returned (r.1.val a k)) w' :=
 ⟨a, k, rfl, sits_lt2 _ _ hs, hP, X⟩
theorem RTreeR.ret {c : RC} {w : World} {r : Nd × PS} {e : Ending} {w' : World} (h : RTreeR c w r e w') : ∃ v, e = .returned v := by
 obtain ⟨_, _, h, -⟩ := h
 exact ⟨_, h⟩
structure RExprsC (c : RC) (k : Nat) : Prop where
 expr : ∀ (lv : Int) (σ : PS) (w : World), RP c σ w → 1 ≤ lv → lv ≤ 9 → (12 * mS c.ts σ : Int) + 12 ≤ k + lv → Calls Tryz.prog 41 #[.pointer (some ⟨c.pb, 0, none⟩), .int .i64 lv] w (RTreeR c w (exprR c.ts c.n k lv σ))
 unary : ∀ (σ : PS) (w : World), RP c σ w → 12 * mS c.ts σ + 2 ≤ k → Calls Tryz.prog 82 #[.pointer (some ⟨c.pb, 0, none⟩)] w (RTreeR c w (unaryR c.ts c.n k σ))
 place : ∀ (σ : PS) (w : World), RP c σ w → 12 * mS c.ts σ + 1 ≤ k → Calls Tryz.prog 116 #[.pointer (some ⟨c.pb, 0, none⟩)] w (RTreeR c w (placeR c.ts c.n k σ))
set_option maxRecDepth 100000 in
set_option maxHeartbeats 1000000 in
theorem rplace_w (c : RC) (k : Nat) (IH : ∀ j, j ≤ k → RExprsC c j) (σ : PS) (w : World) (hP : RP c σ w) (hk : 12 * mS c.ts σ + 1 ≤ k + 1) : Calls Tryz.prog 116 #[.pointer (some ⟨c.pb, 0, none⟩)] w (RTreeR c w (placeR c.ts c.n (k + 1) σ)) := by
 have X := Fr.refl (· = c.pb) w
 have hpb := hP.pbB
 have hB := hP.B
 have hn := name_le (n := c.n) hP.at_
 cases hh : hasP c.ts (nameP c.ts c.n σ).2 [91]
 · rw [show placeR c.ts c.n (k + 1) σ = (.mk 2 0 (nameP c.ts c.n σ).1 [], (nameP c.ts c.n σ).2) from by rw [placeR]; simp [hh]]
   refine calls_in Tryz.func116 Tryz.ntmps116 rfl rfl ?_
   focus
    refine cS ?_
    (refine lw_alloc' [_, _, _, _] zOk rfl rfl ?_; intro b1 w2 n3)
    have h5 := New.blk n3
    have x6 := New.ext n3
    have p7 := New.pos n3
    have z8 := New.size n3
    clear n3
    replace hP := RP.ext hP x6
    replace X := Fr.ext X x6
    clear x6
    refine cN (cM rfl rfl ?_)
    refine lw_does (does_call (by kernel_rfl) rfl (rname_c _ _ _ (by assumption)) (fun _ _ h => ⟨_, h.1⟩)) rfl ?_ (fun _ h => h)
    rintro _ w11 ⟨⟨⟩, ⟨h9, f10⟩⟩
    have z12 := Fr.size f10
    replace h5 := Blk.fr h5 f10 (by omega)
    clear hP
    replace X := Fr.fr X f10 (by omega)
    clear f10
    refine cA rfl rfl (cT (cw_seq (cS (cM rfl rfl ?_))))
    refine lw_does (does_call (by kernel_rfl) rfl (rhas_f _ _ _ _ (by assumption) (by decide) (by assumption)) (fun _ _ h => ⟨_, h.1⟩)) rfl ?_ (fun _ h => h)
    rintro _ w15 ⟨⟨⟩, ⟨h13, f14⟩⟩
    have z16 := Fr.size f14
    clear h9
    replace h5 := Blk.fr h5 f14 (by omega)
    replace X := Fr.fr X f14 (by omega)
    clear f14
    refine cT (cw_cond_f rfl (cw_skip (qw_then (cS (cM rfl rfl ?_)))))
    refine lw_does (does_call (by kernel_rfl) rfl (rnode0 _ _ _) (fun _ _ h => ⟨_, h.1⟩)) rfl ?_ (fun _ h => h)
    rintro _ w18 ⟨⟨⟩, x17⟩
    have z19 := Ext.size x17
    replace h13 := RP.ext h13 x17
    replace h5 := Blk.ext h5 x17
    replace X := Fr.ext X x17
    clear x17
    (refine lw_store' [_, _, _, _] [_, _, _, _] tabOk rfl rfl rfl rfl rfl rfl h5 rfl rfl ?_; intro w20 n21)
    have h24 := Put.blk n21
    have f22 := Put.fr n21
    have z23 := Put.size n21
    clear n21 h5
    replace h13 := RP.fr h13 f22 (by omega)
    replace X := Fr.fr X f22 (by omega)
    clear f22
    refine cT (cw_ret (qw_retc rfl tabOk rfl rfl rfl h24 rfl ?_))
    rotate_left 1
   exact rtree_ret sits_nil (by assumption) X
 · rw [show placeR c.ts c.n (k + 1) σ = (.mk 3 0 (nameP c.ts c.n σ).1 [(exprR c.ts c.n k 1 (nextP (nameP c.ts c.n σ).2)).1], expectP c.ts c.n (exprR c.ts c.n k 1 (nextP (nameP c.ts c.n σ).2)).2 [93]) from by rw [placeR]; simp [hh]]
   have hm := mS_next (has_in hn.wf hh (by decide))
   have hm2 := mS_le hn
   have hf : (12 * mS c.ts (nextP (nameP c.ts c.n σ).2) : Int) + 12 ≤ k + 1 := by omega
   refine calls_in Tryz.func116 Tryz.ntmps116 rfl rfl ?_
   focus
    refine cS ?_
    (refine lw_alloc' [_, _, _, _] zOk rfl rfl ?_; intro ba1 wa2 na3)
    have ha5 := New.blk na3
    have xa6 := New.ext na3
    have pa7 := New.pos na3
    have za8 := New.size na3
    clear na3
    replace hP := RP.ext hP xa6
    replace X := Fr.ext X xa6
    clear xa6
    refine cN (cM rfl rfl ?_)
    refine lw_does (does_call (by kernel_rfl) rfl (rname_c _ _ _ (by assumption)) (fun _ _ h => ⟨_, h.1⟩)) rfl ?_ (fun _ h => h)
    rintro _ wa11 ⟨⟨⟩, ⟨ha9, fa10⟩⟩
    have za12 := Fr.size fa10
    replace ha5 := Blk.fr ha5 fa10 (by omega)
    clear hP
    replace X := Fr.fr X fa10 (by omega)
    clear fa10
    refine cA rfl rfl (cT (cw_seq (cS (cM rfl rfl ?_))))
    refine lw_does (does_call (by kernel_rfl) rfl (rhas_t _ _ _ _ (by assumption) (by decide) (by assumption)) (fun _ _ h => ⟨_, h.1⟩)) rfl ?_ (fun _ h => h)
    rintro _ wa15 ⟨⟨⟩, ⟨ha13, fa14⟩⟩
    have za16 := Fr.size fa14
    clear ha9
    replace ha5 := Blk.fr ha5 fa14 (by omega)
    replace X := Fr.fr X fa14 (by omega)
    clear fa14
    refine cT (cw_cond_t rfl (cS (cM rfl rfl (cM rfl rfl ?_))))
    refine lw_does (does_call (by kernel_rfl) rfl ((IH k (Nat.le_refl _)).expr _ _ _ (by assumption) (by decide) (by decide) hf) (fun _ _ h => h.ret)) rfl ?_ (fun _ h => h)
    rintro _ wa22 ⟨aa17, ⟨ka18, ⟨⟨⟩, ⟨ha19, ⟨ha20, fa21⟩⟩⟩⟩⟩
    have za23 := Fr.size fa21
    clear ha13
    replace ha5 := Blk.fr ha5 fa21 (by omega)
    replace X := Fr.fr X fa21 (by omega)
    clear fa21
    (refine lw_does (does_slice' [_, _, _, _] tabOk zOk rfl rfl rfl rfl rfl rfl rfl rfl rfl) rfl ?_ (fun _ h => h); rintro _ wa25 ⟨ba24, rfl, na26, ta27⟩)
    clear ta27
    have ha28 := New.blk na26
    have xa29 := New.ext na26
    have pa30 := New.pos na26
    have za31 := New.size na26
    clear na26
    replace ha19 := Nd.sits.ext ha19 xa29
    replace ha20 := RP.ext ha20 xa29
    replace ha5 := Blk.ext ha5 xa29
    replace X := Fr.ext X xa29
    clear xa29
    refine lw_does (does_call (by kernel_rfl) rfl (rnode1 _ _ _ _ _ _ _ _ _ (by assumption) (by assumption)) (fun _ _ h => h.ret)) rfl ?_ (fun _ h => h)
    rintro _ wa36 ⟨aa32, ⟨ka33, ⟨⟨⟩, ⟨ha34, xa35⟩⟩⟩⟩
    have za37 := Ext.size xa35
    replace ha28 := Blk.ext ha28 xa35
    replace ha19 := Nd.sits.ext ha19 xa35
    replace ha20 := RP.ext ha20 xa35
    replace ha5 := Blk.ext ha5 xa35
    replace X := Fr.ext X xa35
    clear xa35
    (refine lw_alloc' [_, _, _, _] zOk rfl rfl ?_; intro ba38 wa39 na40)
    (refine lw_init' [_, _, _, _] tabOk rfl rfl rfl rfl rfl rfl na40 rfl ?_; clear na40; clear wa39; intro wa41 na40)
    have ha42 := New.blk na40
    have xa43 := New.ext na40
    have pa44 := New.pos na40
    have za45 := New.size na40
    clear na40
    replace ha34 := Nd.sits.ext ha34 xa43
    replace ha28 := Blk.ext ha28 xa43
    replace ha19 := Nd.sits.ext ha19 xa43
    replace ha20 := RP.ext ha20 xa43
    replace ha5 := Blk.ext ha5 xa43
    replace X := Fr.ext X xa43
    clear xa43
    refine cN (cM rfl rfl ?_)
    refine lw_does (does_call (by kernel_rfl) rfl (rtake_c _ _ _ _ (by assumption) (by decide)) (fun _ _ h => ⟨_, h.1⟩)) rfl ?_ (fun _ h => h)
    rintro _ wa48 ⟨⟨⟩, ⟨ha46, fa47⟩⟩
    have za49 := Fr.size fa47
    replace ha42 := Blk.fr ha42 fa47 (by omega)
    replace ha34 := Nd.sits.fr ha34 fa47 (by omega)
    replace ha28 := Blk.fr ha28 fa47 (by omega)
    replace ha19 := Nd.sits.fr ha19 fa47 (by omega)
    clear ha20
    replace ha5 := Blk.fr ha5 fa47 (by omega)
    replace X := Fr.fr X fa47 (by omega)
    clear fa47
    refine cN (lw_loads_b' [_, _, _, _] tabOk rfl rfl rfl ha42 rfl rfl rfl ?_)
    (refine lw_store' [_, _, _, _] [_, _, _, _] tabOk rfl rfl rfl rfl rfl rfl ha5 rfl rfl ?_; intro wa50 na51)
    have ha54 := Put.blk na51
    have fa52 := Put.fr na51
    have za53 := Put.size na51
    clear na51 ha5
    replace ha46 := RP.fr ha46 fa52 (by omega)
    replace ha42 := Blk.fr ha42 fa52 (by omega)
    replace ha34 := Nd.sits.fr ha34 fa52 (by omega)
    replace ha28 := Blk.fr ha28 fa52 (by omega)
    replace ha19 := Nd.sits.fr ha19 fa52 (by omega)
    replace X := Fr.fr X fa52 (by omega)
    clear fa52
    refine cT (cw_ret (qw_then_ret (qw_retc rfl tabOk rfl rfl rfl ha54 rfl ?_)))
    rotate_left 1
   exact rtree_ret (Nd.sits.wide (by assumption) (fun b h => by omega)) (by assumption) X
set_option maxRecDepth 100000 in
set_option maxHeartbeats 8000000 in
theorem runary_w (c : RC) (k : Nat) (IH : ∀ j, j ≤ k → RExprsC c j) (σ : PS) (w : World) (hP : RP c σ w) (hk : 12 * mS c.ts σ + 2 ≤ k + 1) : Calls Tryz.prog 82 #[.pointer (some ⟨c.pb, 0, none⟩)] w (RTreeR c w (unaryR c.ts c.n (k + 1) σ)) := by
 have X := Fr.refl (· = c.pb) w
 have hpb := hP.pbB
 have hB := hP.B
 have hlen := hP.len
 rw [unaryR]
 cases h1 : hasP c.ts σ [45]
 case true =>
  simp only [if_true]
  have hm := mS_next (has_in hP.at_ h1 (by decide))
  refine calls_in Tryz.func82 Tryz.ntmps82 rfl rfl ?_
  focus
   refine cS ?_
   (refine lw_alloc' [_, _, _, _] zOk rfl rfl ?_; intro b1 w2 n3)
   have h5 := New.blk n3
   have x6 := New.ext n3
   have p7 := New.pos n3
   have z8 := New.size n3
   clear n3
   replace hP := RP.ext hP x6
   replace X := Fr.ext X x6
   clear x6
   refine cT (cw_seq (cS (cM rfl rfl ?_)))
   refine lw_does (does_call (by kernel_rfl) rfl (rhas_t _ _ _ _ (by assumption) (by decide) (by assumption)) (fun _ _ h => ⟨_, h.1⟩)) rfl ?_ (fun _ h => h)
   rintro _ w11 ⟨⟨⟩, ⟨h9, f10⟩⟩
   have z12 := Fr.size f10
   replace h5 := Blk.fr h5 f10 (by omega)
   clear hP
   replace X := Fr.fr X f10 (by omega)
   clear f10
   refine cT (cw_cond_t rfl (cS (cM rfl rfl ?_)))
   refine lw_does (does_call (by kernel_rfl) rfl ((IH k (Nat.le_refl _)).unary _ _ (by assumption) (by omega)) (fun _ _ h => h.ret)) rfl ?_ (fun _ h => h)
   rintro _ w18 ⟨a13, ⟨k14, ⟨⟨⟩, ⟨h15, ⟨h16, f17⟩⟩⟩⟩⟩
   have z19 := Fr.size f17
   clear h9
   replace h5 := Blk.fr h5 f17 (by omega)
   replace X := Fr.fr X f17 (by omega)
   clear f17
   (refine lw_does (does_slice' [_, _, _, _] tabOk zOk rfl rfl rfl rfl rfl rfl rfl rfl rfl) rfl ?_ (fun _ h => h); rintro _ w21 ⟨b20, rfl, n22, t23⟩)
   clear t23
   have h24 := New.blk n22
   have x25 := New.ext n22
   have p26 := New.pos n22
   have z27 := New.size n22
   clear n22
   replace h15 := Nd.sits.ext h15 x25
   replace h16 := RP.ext h16 x25
   replace h5 := Blk.ext h5 x25
   replace X := Fr.ext X x25
   clear x25
   refine lw_does (does_call (by kernel_rfl) rfl (rnode1 _ _ _ _ _ _ _ _ _ (by assumption) (by assumption)) (fun _ _ h => h.ret)) rfl ?_ (fun _ h => h)
   rintro _ w32 ⟨a28, ⟨k29, ⟨⟨⟩, ⟨h30, x31⟩⟩⟩⟩
   have z33 := Ext.size x31
   replace h24 := Blk.ext h24 x31
   replace h15 := Nd.sits.ext h15 x31
   replace h16 := RP.ext h16 x31
   replace h5 := Blk.ext h5 x31
   replace X := Fr.ext X x31
   clear x31
   (refine lw_store' [_, _, _, _] [_, _, _, _] tabOk rfl rfl rfl rfl rfl rfl h5 rfl rfl ?_; intro w34 n35)
   have h38 := Put.blk n35
   have f36 := Put.fr n35
   have z37 := Put.size n35
   clear n35 h5
   replace h30 := Nd.sits.fr h30 f36 (by omega)
   replace h24 := Blk.fr h24 f36 (by omega)
   replace h15 := Nd.sits.fr h15 f36 (by omega)
   replace h16 := RP.fr h16 f36 (by omega)
   replace X := Fr.fr X f36 (by omega)
   clear f36
   refine cT (cw_ret (qw_then_ret (qw_retc rfl tabOk rfl rfl rfl h38 rfl ?_)))
   rotate_left 1
  exact rtree_ret (Nd.sits.wide (by assumption) (fun b h => by omega)) (by assumption) X
 simp only [Bool.false_eq_true, if_false]
 cases h2 : hasP c.ts σ [33]
 case true =>
  simp only [if_true]
  have hm := mS_next (has_in hP.at_ h2 (by decide))
  refine calls_in Tryz.func82 Tryz.ntmps82 rfl rfl ?_
  focus
   refine cS ?_
   (refine lw_alloc' [_, _, _, _] zOk rfl rfl ?_; intro ba1 wa2 na3)
   have ha5 := New.blk na3
   have xa6 := New.ext na3
   have pa7 := New.pos na3
   have za8 := New.size na3
   clear na3
   replace hP := RP.ext hP xa6
   replace X := Fr.ext X xa6
   clear xa6
   refine cT (cw_seq (cS (cM rfl rfl ?_)))
   refine lw_does (does_call (by kernel_rfl) rfl (rhas_f _ _ _ _ (by assumption) (by decide) (by assumption)) (fun _ _ h => ⟨_, h.1⟩)) rfl ?_ (fun _ h => h)
   rintro _ wa11 ⟨⟨⟩, ⟨ha9, fa10⟩⟩
   have za12 := Fr.size fa10
   replace ha5 := Blk.fr ha5 fa10 (by omega)
   clear hP
   replace X := Fr.fr X fa10 (by omega)
   clear fa10
   refine cT (cw_cond_f rfl (cw_skip (qw_then (cw_seq (cS (cM rfl rfl ?_))))))
   refine lw_does (does_call (by kernel_rfl) rfl (rhas_t _ _ _ _ (by assumption) (by decide) (by assumption)) (fun _ _ h => ⟨_, h.1⟩)) rfl ?_ (fun _ h => h)
   rintro _ wa15 ⟨⟨⟩, ⟨ha13, fa14⟩⟩
   have za16 := Fr.size fa14
   clear ha9
   replace ha5 := Blk.fr ha5 fa14 (by omega)
   replace X := Fr.fr X fa14 (by omega)
   clear fa14
   refine cT (cw_cond_t rfl (cS (cM rfl rfl ?_)))
   refine lw_does (does_call (by kernel_rfl) rfl ((IH k (Nat.le_refl _)).unary _ _ (by assumption) (by omega)) (fun _ _ h => h.ret)) rfl ?_ (fun _ h => h)
   rintro _ wa22 ⟨aa17, ⟨ka18, ⟨⟨⟩, ⟨ha19, ⟨ha20, fa21⟩⟩⟩⟩⟩
   have za23 := Fr.size fa21
   clear ha13
   replace ha5 := Blk.fr ha5 fa21 (by omega)
   replace X := Fr.fr X fa21 (by omega)
   clear fa21
   (refine lw_does (does_slice' [_, _, _, _] tabOk zOk rfl rfl rfl rfl rfl rfl rfl rfl rfl) rfl ?_ (fun _ h => h); rintro _ wa25 ⟨ba24, rfl, na26, ta27⟩)
   clear ta27
   have ha28 := New.blk na26
   have xa29 := New.ext na26
   have pa30 := New.pos na26
   have za31 := New.size na26
   clear na26
   replace ha19 := Nd.sits.ext ha19 xa29
   replace ha20 := RP.ext ha20 xa29
   replace ha5 := Blk.ext ha5 xa29
   replace X := Fr.ext X xa29
   clear xa29
   refine lw_does (does_call (by kernel_rfl) rfl (rnode1 _ _ _ _ _ _ _ _ _ (by assumption) (by assumption)) (fun _ _ h => h.ret)) rfl ?_ (fun _ h => h)
   rintro _ wa36 ⟨aa32, ⟨ka33, ⟨⟨⟩, ⟨ha34, xa35⟩⟩⟩⟩
   have za37 := Ext.size xa35
   replace ha28 := Blk.ext ha28 xa35
   replace ha19 := Nd.sits.ext ha19 xa35
   replace ha20 := RP.ext ha20 xa35
   replace ha5 := Blk.ext ha5 xa35
   replace X := Fr.ext X xa35
   clear xa35
   (refine lw_store' [_, _, _, _] [_, _, _, _] tabOk rfl rfl rfl rfl rfl rfl ha5 rfl rfl ?_; intro wa38 na39)
   have ha42 := Put.blk na39
   have fa40 := Put.fr na39
   have za41 := Put.size na39
   clear na39 ha5
   replace ha34 := Nd.sits.fr ha34 fa40 (by omega)
   replace ha28 := Blk.fr ha28 fa40 (by omega)
   replace ha19 := Nd.sits.fr ha19 fa40 (by omega)
   replace ha20 := RP.fr ha20 fa40 (by omega)
   replace X := Fr.fr X fa40 (by omega)
   clear fa40
   refine cT (cw_ret (qw_then_ret (qw_retc rfl tabOk rfl rfl rfl ha42 rfl ?_)))
   rotate_left 1
  exact rtree_ret (Nd.sits.wide (by assumption) (fun b h => by omega)) (by assumption) X
 simp only [Bool.false_eq_true, if_false]
 cases h3 : hasP c.ts σ [40]
 case true =>
  simp only [if_true]
  have hm := mS_next (has_in hP.at_ h3 (by decide))
  refine calls_in Tryz.func82 Tryz.ntmps82 rfl rfl ?_
  focus
   refine cS ?_
   (refine lw_alloc' [_, _, _, _] zOk rfl rfl ?_; intro bb1 wb2 nb3)
   have hb5 := New.blk nb3
   have xb6 := New.ext nb3
   have pb7 := New.pos nb3
   have zb8 := New.size nb3
   clear nb3
   replace hP := RP.ext hP xb6
   replace X := Fr.ext X xb6
   clear xb6
   refine cT (cw_seq (cS (cM rfl rfl ?_)))
   refine lw_does (does_call (by kernel_rfl) rfl (rhas_f _ _ _ _ (by assumption) (by decide) (by assumption)) (fun _ _ h => ⟨_, h.1⟩)) rfl ?_ (fun _ h => h)
   rintro _ wb11 ⟨⟨⟩, ⟨hb9, fb10⟩⟩
   have zb12 := Fr.size fb10
   replace hb5 := Blk.fr hb5 fb10 (by omega)
   clear hP
   replace X := Fr.fr X fb10 (by omega)
   clear fb10
   refine cT (cw_cond_f rfl (cw_skip (qw_then (cw_seq (cS (cM rfl rfl ?_))))))
   refine lw_does (does_call (by kernel_rfl) rfl (rhas_f _ _ _ _ (by assumption) (by decide) (by assumption)) (fun _ _ h => ⟨_, h.1⟩)) rfl ?_ (fun _ h => h)
   rintro _ wb15 ⟨⟨⟩, ⟨hb13, fb14⟩⟩
   have zb16 := Fr.size fb14
   clear hb9
   replace hb5 := Blk.fr hb5 fb14 (by omega)
   replace X := Fr.fr X fb14 (by omega)
   clear fb14
   refine cT (cw_cond_f rfl (cw_skip (qw_then (cS (cM rfl rfl ?_)))))
   refine lw_does (does_call (by kernel_rfl) rfl (rpeek_c _ _ _ (by assumption)) (fun _ _ h => ⟨_, h.1⟩)) rfl ?_ (fun _ h => h)
   rintro _ wb18 ⟨⟨⟩, xb17⟩
   have zb19 := Ext.size xb17
   replace hb13 := RP.ext hb13 xb17
   replace hb5 := Blk.ext hb5 xb17
   replace X := Fr.ext X xb17
   clear xb17
   refine cA rfl rfl (cT (cw_seq (cS (cM rfl rfl ?_))))
   refine lw_does (does_call (by kernel_rfl) rfl (rhas_t _ _ _ _ (by assumption) (by decide) (by assumption)) (fun _ _ h => ⟨_, h.1⟩)) rfl ?_ (fun _ h => h)
   rintro _ wb22 ⟨⟨⟩, ⟨hb20, fb21⟩⟩
   have zb23 := Fr.size fb21
   clear hb13
   replace hb5 := Blk.fr hb5 fb21 (by omega)
   replace X := Fr.fr X fb21 (by omega)
   clear fb21
   refine cT (cw_cond_t rfl (cS (cM rfl rfl ?_)))
   refine lw_does (does_call (by kernel_rfl) rfl ((IH k (Nat.le_refl _)).expr _ _ _ (by assumption) (by decide) (by decide) (by omega)) (fun _ _ h => h.ret)) rfl ?_ (fun _ h => h)
   rintro _ wb29 ⟨ab24, ⟨kb25, ⟨⟨⟩, ⟨hb26, ⟨hb27, fb28⟩⟩⟩⟩⟩
   have zb30 := Fr.size fb28
   clear hb20
   replace hb5 := Blk.fr hb5 fb28 (by omega)
   replace X := Fr.fr X fb28 (by omega)
   clear fb28
   (refine lw_alloc' [_, _, _, _] zOk rfl rfl ?_; intro bb31 wb32 nb33)
   (refine lw_init' [_, _, _, _] tabOk rfl rfl rfl rfl rfl rfl nb33 rfl ?_; clear nb33; clear wb32; intro wb34 nb33)
   have hb35 := New.blk nb33
   have xb36 := New.ext nb33
   have pb37 := New.pos nb33
   have zb38 := New.size nb33
   clear nb33
   replace hb26 := Nd.sits.ext hb26 xb36
   replace hb27 := RP.ext hb27 xb36
   replace hb5 := Blk.ext hb5 xb36
   replace X := Fr.ext X xb36
   clear xb36
   refine cN (cM rfl rfl ?_)
   refine lw_does (does_call (by kernel_rfl) rfl (rtake_c _ _ _ _ (by assumption) (by decide)) (fun _ _ h => ⟨_, h.1⟩)) rfl ?_ (fun _ h => h)
   rintro _ wb41 ⟨⟨⟩, ⟨hb39, fb40⟩⟩
   have zb42 := Fr.size fb40
   replace hb35 := Blk.fr hb35 fb40 (by omega)
   replace hb26 := Nd.sits.fr hb26 fb40 (by omega)
   clear hb27
   replace hb5 := Blk.fr hb5 fb40 (by omega)
   replace X := Fr.fr X fb40 (by omega)
   clear fb40
   refine cN (lw_loads_b' [_, _, _, _] tabOk rfl rfl rfl hb35 rfl rfl rfl ?_)
   (refine lw_store' [_, _, _, _] [_, _, _, _] tabOk rfl rfl rfl rfl rfl rfl hb5 rfl rfl ?_; intro wb43 nb44)
   have hb47 := Put.blk nb44
   have fb45 := Put.fr nb44
   have zb46 := Put.size nb44
   clear nb44 hb5
   replace hb39 := RP.fr hb39 fb45 (by omega)
   replace hb35 := Blk.fr hb35 fb45 (by omega)
   replace hb26 := Nd.sits.fr hb26 fb45 (by omega)
   replace X := Fr.fr X fb45 (by omega)
   clear fb45
   refine cT (cw_ret (qw_then_ret (qw_retc rfl tabOk rfl rfl rfl hb47 rfl ?_)))
   rotate_left 1
  exact rtree_ret (Nd.sits.wide (by assumption) (fun b h => by omega)) (by assumption) X
 simp only [Bool.false_eq_true, if_false]
 cases h4 : hasP c.ts σ [116, 111, 112]
 case true =>
  simp only [if_true]
  have e4 : (peekP c.ts σ).text = [116, 111, 112] := of_decide_eq_true h4
  obtain ⟨i1, i2⟩ := has_in hP.at_ h4 (by decide)
  refine calls_in Tryz.func82 Tryz.ntmps82 rfl rfl ?_
  focus
   refine cS ?_
   (refine lw_alloc' [_, _, _, _] zOk rfl rfl ?_; intro bc1 wc2 nc3)
   have hc5 := New.blk nc3
   have xc6 := New.ext nc3
   have pc7 := New.pos nc3
   have zc8 := New.size nc3
   clear nc3
   replace hP := RP.ext hP xc6
   replace X := Fr.ext X xc6
   clear xc6
   refine cT (cw_seq (cS (cM rfl rfl ?_)))
   refine lw_does (does_call (by kernel_rfl) rfl (rhas_f _ _ _ _ (by assumption) (by decide) (by assumption)) (fun _ _ h => ⟨_, h.1⟩)) rfl ?_ (fun _ h => h)
   rintro _ wc11 ⟨⟨⟩, ⟨hc9, fc10⟩⟩
   have zc12 := Fr.size fc10
   replace hc5 := Blk.fr hc5 fc10 (by omega)
   clear hP
   replace X := Fr.fr X fc10 (by omega)
   clear fc10
   refine cT (cw_cond_f rfl (cw_skip (qw_then (cw_seq (cS (cM rfl rfl ?_))))))
   refine lw_does (does_call (by kernel_rfl) rfl (rhas_f _ _ _ _ (by assumption) (by decide) (by assumption)) (fun _ _ h => ⟨_, h.1⟩)) rfl ?_ (fun _ h => h)
   rintro _ wc15 ⟨⟨⟩, ⟨hc13, fc14⟩⟩
   have zc16 := Fr.size fc14
   clear hc9
   replace hc5 := Blk.fr hc5 fc14 (by omega)
   replace X := Fr.fr X fc14 (by omega)
   clear fc14
   refine cT (cw_cond_f rfl (cw_skip (qw_then (cS (cM rfl rfl ?_)))))
   refine lw_does (does_call (by kernel_rfl) rfl (rpeek_c _ _ _ (by assumption)) (fun _ _ h => ⟨_, h.1⟩)) rfl ?_ (fun _ h => h)
   rintro _ wc18 ⟨⟨⟩, xc17⟩
   have zc19 := Ext.size xc17
   replace hc13 := RP.ext hc13 xc17
   replace hc5 := Blk.ext hc5 xc17
   replace X := Fr.ext X xc17
   clear xc17
   refine cA rfl rfl (cT (cw_seq (cS (cM rfl rfl ?_))))
   refine lw_does (does_call (by kernel_rfl) rfl (rhas_f _ _ _ _ (by assumption) (by decide) (by assumption)) (fun _ _ h => ⟨_, h.1⟩)) rfl ?_ (fun _ h => h)
   rintro _ wc22 ⟨⟨⟩, ⟨hc20, fc21⟩⟩
   have zc23 := Fr.size fc21
   clear hc13
   replace hc5 := Blk.fr hc5 fc21 (by omega)
   replace X := Fr.fr X fc21 (by omega)
   clear fc21
   refine cT (cw_cond_f rfl (cw_skip (qw_then (cw_seq (cS (cM rfl rfl (lw_pure (pur_seql rfl rfl) rfl (cM rfl rfl ?_))))))))
   refine lw_off rfl rfl rfl (gd_ft (by assumption)) rfl ?_
   refine lw_off rfl rfl rfl (gd_ft (by assumption)) rfl ?_
   refine lw_pure (pur_pick_yes rfl rfl (by assumption)) rfl ?_
   refine cT (cw_cond_t rfl (cS (cM rfl rfl (cM rfl rfl (lw_pure (pur_nilCheck rfl) rfl (lw_pure (pur_fieldAddr tabOk rfl rfl rfl) rfl (lw_load_b tabOk rfl rfl rfl (RP.blk hc20) rfl rfl ?_)))))))
   refine lw_pure (pur_add rfl rfl (IntWalk.i64_in _ (by omega))) rfl ?_
   refine lw_pure (pur_nilCheck rfl) rfl (lw_pure (pur_fieldAddr tabOk rfl rfl rfl) rfl ?_)
   refine lw_rp_at tabOk rfl rfl rfl rfl (by assumption) i2 ?_
   rintro wc24 hc25 fc26
   have zc27 := Fr.size fc26
   clear hc20
   replace hc5 := Blk.fr hc5 fc26 (by omega)
   replace X := Fr.fr X fc26 (by omega)
   clear fc26
   refine cN (cM rfl rfl ?_)
   refine lw_does (does_call (by kernel_rfl) rfl (rtake_c _ _ _ _ (by assumption) (by decide)) (fun _ _ h => ⟨_, h.1⟩)) rfl ?_ (fun _ h => h)
   rintro _ wc30 ⟨⟨⟩, ⟨hc28, fc29⟩⟩
   have zc31 := Fr.size fc29
   clear hc25
   replace hc5 := Blk.fr hc5 fc29 (by omega)
   replace X := Fr.fr X fc29 (by omega)
   clear fc29
   refine cN (cM rfl rfl ?_)
   refine lw_does (does_call (by kernel_rfl) rfl (rname_c _ _ _ (by assumption)) (fun _ _ h => ⟨_, h.1⟩)) rfl ?_ (fun _ h => h)
   rintro _ wc34 ⟨⟨⟩, ⟨hc32, fc33⟩⟩
   have zc35 := Fr.size fc33
   clear hc28
   replace hc5 := Blk.fr hc5 fc33 (by omega)
   replace X := Fr.fr X fc33 (by omega)
   clear fc33
   refine lw_does (does_call (by kernel_rfl) rfl (rnode0 _ _ _) (fun _ _ h => ⟨_, h.1⟩)) rfl ?_ (fun _ h => h)
   rintro _ wc37 ⟨⟨⟩, xc36⟩
   have zc38 := Ext.size xc36
   replace hc32 := RP.ext hc32 xc36
   replace hc5 := Blk.ext hc5 xc36
   replace X := Fr.ext X xc36
   clear xc36
   (refine lw_alloc' [_, _, _, _] zOk rfl rfl ?_; intro bc39 wc40 nc41)
   (refine lw_init' [_, _, _, _] tabOk rfl rfl rfl rfl rfl rfl nc41 rfl ?_; clear nc41; clear wc40; intro wc42 nc41)
   have hc43 := New.blk nc41
   have xc44 := New.ext nc41
   have pc45 := New.pos nc41
   have zc46 := New.size nc41
   clear nc41
   replace hc32 := RP.ext hc32 xc44
   replace hc5 := Blk.ext hc5 xc44
   replace X := Fr.ext X xc44
   clear xc44
   refine cT (cw_seq (cS (cM rfl rfl (lw_pure (pur_seql rfl rfl) rfl (cT ?_)))))
   refine cw_no rfl (fun hq9 => absurd (e4.symm.trans hq9) (by decide)) ?_
   refine cw_skip (qw_then (cS (cM rfl rfl ?_)))
   refine lw_does (does_call (by kernel_rfl) rfl (rtake_c _ _ _ _ (by assumption) (by decide)) (fun _ _ h => ⟨_, h.1⟩)) rfl ?_ (fun _ h => h)
   rintro _ wc49 ⟨⟨⟩, ⟨hc47, fc48⟩⟩
   have zc50 := Fr.size fc48
   replace hc43 := Blk.fr hc43 fc48 (by omega)
   clear hc32
   replace hc5 := Blk.fr hc5 fc48 (by omega)
   replace X := Fr.fr X fc48 (by omega)
   clear fc48
   refine cN (lw_loads_b' [_, _, _, _] tabOk rfl rfl rfl hc43 rfl rfl rfl ?_)
   (refine lw_store' [_, _, _, _] [_, _, _, _] tabOk rfl rfl rfl rfl rfl rfl hc5 rfl rfl ?_; intro wc51 nc52)
   have hc55 := Put.blk nc52
   have fc53 := Put.fr nc52
   have zc54 := Put.size nc52
   clear nc52 hc5
   replace hc47 := RP.fr hc47 fc53 (by omega)
   replace hc43 := Blk.fr hc43 fc53 (by omega)
   replace X := Fr.fr X fc53 (by omega)
   clear fc53
   refine cT (cw_ret (qw_then_ret (qw_retc rfl tabOk rfl rfl rfl hc55 rfl ?_)))
   rotate_left 1
  exact rtree_ret sits_nil (by assumption) X
 simp only [Bool.false_eq_true, if_false]
 cases h5 : hasP c.ts σ [115, 105, 122, 101]
 case true =>
  simp only [if_true]
  have e5 : (peekP c.ts σ).text = [115, 105, 122, 101] := of_decide_eq_true h5
  obtain ⟨i1, i2⟩ := has_in hP.at_ h5 (by decide)
  refine calls_in Tryz.func82 Tryz.ntmps82 rfl rfl ?_
  focus
   refine cS ?_
   (refine lw_alloc' [_, _, _, _] zOk rfl rfl ?_; intro bd1 wd2 nd3)
   have hd5 := New.blk nd3
   have xd6 := New.ext nd3
   have pd7 := New.pos nd3
   have zd8 := New.size nd3
   clear nd3
   replace hP := RP.ext hP xd6
   replace X := Fr.ext X xd6
   clear xd6
   refine cT (cw_seq (cS (cM rfl rfl ?_)))
   refine lw_does (does_call (by kernel_rfl) rfl (rhas_f _ _ _ _ (by assumption) (by decide) (by assumption)) (fun _ _ h => ⟨_, h.1⟩)) rfl ?_ (fun _ h => h)
   rintro _ wd11 ⟨⟨⟩, ⟨hd9, fd10⟩⟩
   have zd12 := Fr.size fd10
   replace hd5 := Blk.fr hd5 fd10 (by omega)
   clear hP
   replace X := Fr.fr X fd10 (by omega)
   clear fd10
   refine cT (cw_cond_f rfl (cw_skip (qw_then (cw_seq (cS (cM rfl rfl ?_))))))
   refine lw_does (does_call (by kernel_rfl) rfl (rhas_f _ _ _ _ (by assumption) (by decide) (by assumption)) (fun _ _ h => ⟨_, h.1⟩)) rfl ?_ (fun _ h => h)
   rintro _ wd15 ⟨⟨⟩, ⟨hd13, fd14⟩⟩
   have zd16 := Fr.size fd14
   clear hd9
   replace hd5 := Blk.fr hd5 fd14 (by omega)
   replace X := Fr.fr X fd14 (by omega)
   clear fd14
   refine cT (cw_cond_f rfl (cw_skip (qw_then (cS (cM rfl rfl ?_)))))
   refine lw_does (does_call (by kernel_rfl) rfl (rpeek_c _ _ _ (by assumption)) (fun _ _ h => ⟨_, h.1⟩)) rfl ?_ (fun _ h => h)
   rintro _ wd18 ⟨⟨⟩, xd17⟩
   have zd19 := Ext.size xd17
   replace hd13 := RP.ext hd13 xd17
   replace hd5 := Blk.ext hd5 xd17
   replace X := Fr.ext X xd17
   clear xd17
   refine cA rfl rfl (cT (cw_seq (cS (cM rfl rfl ?_))))
   refine lw_does (does_call (by kernel_rfl) rfl (rhas_f _ _ _ _ (by assumption) (by decide) (by assumption)) (fun _ _ h => ⟨_, h.1⟩)) rfl ?_ (fun _ h => h)
   rintro _ wd22 ⟨⟨⟩, ⟨hd20, fd21⟩⟩
   have zd23 := Fr.size fd21
   clear hd13
   replace hd5 := Blk.fr hd5 fd21 (by omega)
   replace X := Fr.fr X fd21 (by omega)
   clear fd21
   refine cT (cw_cond_f rfl (cw_skip (qw_then (cw_seq (cS (cM rfl rfl (lw_pure (pur_seql rfl rfl) rfl (cM rfl rfl ?_))))))))
   refine lw_on rfl rfl rfl (gd_ff (fun hq9 => absurd (e5.symm.trans hq9) (by decide))) ?_
   refine cM rfl rfl ?_
   refine lw_on rfl rfl rfl (gd_ff (fun hq9 => absurd (e5.symm.trans hq9) (by decide))) ?_
   refine lw_pure (pur_seql rfl rfl) rfl ?_
   refine lw_pure (pur_pick_no rfl rfl (fun hq9 => absurd (e5.symm.trans hq9) (by decide))) rfl ?_
   refine cT ?_
   refine cw_yes rfl (by assumption) ?_
   refine cS (cM rfl rfl (cM rfl rfl (lw_pure (pur_nilCheck rfl) rfl (lw_pure (pur_fieldAddr tabOk rfl rfl rfl) rfl (lw_load_b tabOk rfl rfl rfl (RP.blk hd20) rfl rfl ?_)))))
   refine lw_pure (pur_add rfl rfl (IntWalk.i64_in _ (by omega))) rfl ?_
   refine lw_pure (pur_nilCheck rfl) rfl (lw_pure (pur_fieldAddr tabOk rfl rfl rfl) rfl ?_)
   refine lw_rp_at tabOk rfl rfl rfl rfl (by assumption) i2 ?_
   rintro wd24 hd25 fd26
   have zd27 := Fr.size fd26
   clear hd20
   replace hd5 := Blk.fr hd5 fd26 (by omega)
   replace X := Fr.fr X fd26 (by omega)
   clear fd26
   refine cN (cM rfl rfl ?_)
   refine lw_does (does_call (by kernel_rfl) rfl (rtake_c _ _ _ _ (by assumption) (by decide)) (fun _ _ h => ⟨_, h.1⟩)) rfl ?_ (fun _ h => h)
   rintro _ wd30 ⟨⟨⟩, ⟨hd28, fd29⟩⟩
   have zd31 := Fr.size fd29
   clear hd25
   replace hd5 := Blk.fr hd5 fd29 (by omega)
   replace X := Fr.fr X fd29 (by omega)
   clear fd29
   refine cN (cM rfl rfl ?_)
   refine lw_does (does_call (by kernel_rfl) rfl (rname_c _ _ _ (by assumption)) (fun _ _ h => ⟨_, h.1⟩)) rfl ?_ (fun _ h => h)
   rintro _ wd34 ⟨⟨⟩, ⟨hd32, fd33⟩⟩
   have zd35 := Fr.size fd33
   clear hd28
   replace hd5 := Blk.fr hd5 fd33 (by omega)
   replace X := Fr.fr X fd33 (by omega)
   clear fd33
   refine lw_does (does_call (by kernel_rfl) rfl (rnode0 _ _ _) (fun _ _ h => ⟨_, h.1⟩)) rfl ?_ (fun _ h => h)
   rintro _ wd37 ⟨⟨⟩, xd36⟩
   have zd38 := Ext.size xd36
   replace hd32 := RP.ext hd32 xd36
   replace hd5 := Blk.ext hd5 xd36
   replace X := Fr.ext X xd36
   clear xd36
   (refine lw_alloc' [_, _, _, _] zOk rfl rfl ?_; intro bd39 wd40 nd41)
   (refine lw_init' [_, _, _, _] tabOk rfl rfl rfl rfl rfl rfl nd41 rfl ?_; clear nd41; clear wd40; intro wd42 nd41)
   have hd43 := New.blk nd41
   have xd44 := New.ext nd41
   have pd45 := New.pos nd41
   have zd46 := New.size nd41
   clear nd41
   replace hd32 := RP.ext hd32 xd44
   replace hd5 := Blk.ext hd5 xd44
   replace X := Fr.ext X xd44
   clear xd44
   refine cT (cw_seq (cS (cM rfl rfl (lw_pure (pur_seql rfl rfl) rfl (cT ?_)))))
   refine cw_yes rfl (by assumption) ?_
   refine cw_region (lw_pure (pur_fieldAddr0 tabOk rfl rfl rfl) rfl ?_)
   (refine lw_store' [_] [_, _, _, _] tabOk rfl rfl rfl rfl rfl rfl hd43 rfl rfl ?_; intro wd47 nd48)
   have hd51 := Put.blk nd48
   have fd49 := Put.fr nd48
   have zd50 := Put.size nd48
   clear nd48 hd43
   replace hd32 := RP.fr hd32 fd49 (by omega)
   replace hd5 := Blk.fr hd5 fd49 (by omega)
   replace X := Fr.fr X fd49 (by omega)
   clear fd49
   refine cN (cM rfl rfl ?_)
   refine lw_does (does_call (by kernel_rfl) rfl (rtake_c _ _ _ _ (by assumption) (by decide)) (fun _ _ h => ⟨_, h.1⟩)) rfl ?_ (fun _ h => h)
   rintro _ wd54 ⟨⟨⟩, ⟨hd52, fd53⟩⟩
   have zd55 := Fr.size fd53
   replace hd51 := Blk.fr hd51 fd53 (by omega)
   clear hd32
   replace hd5 := Blk.fr hd5 fd53 (by omega)
   replace X := Fr.fr X fd53 (by omega)
   clear fd53
   refine cN (lw_loads_b' [_, _, _, _] tabOk rfl rfl rfl hd51 rfl rfl rfl ?_)
   (refine lw_store' [_, _, _, _] [_, _, _, _] tabOk rfl rfl rfl rfl rfl rfl hd5 rfl rfl ?_; intro wd56 nd57)
   have hd60 := Put.blk nd57
   have fd58 := Put.fr nd57
   have zd59 := Put.size nd57
   clear nd57 hd5
   replace hd52 := RP.fr hd52 fd58 (by omega)
   replace hd51 := Blk.fr hd51 fd58 (by omega)
   replace X := Fr.fr X fd58 (by omega)
   clear fd58
   refine cT (cw_ret (qw_then_ret (qw_retc rfl tabOk rfl rfl rfl hd60 rfl ?_)))
   rotate_left 1
  exact rtree_ret sits_nil (by assumption) X
 simp only [Bool.false_eq_true, if_false]
 have n4 : (peekP c.ts σ).text ≠ [116, 111, 112] := of_decide_eq_false h4
 have n5 : (peekP c.ts σ).text ≠ [115, 105, 122, 101] := of_decide_eq_false h5
 have hpl := rpeek_len hP
 cases h6 : startsDigit (peekP c.ts σ).text
 case true =>
  simp only [if_true]
  obtain ⟨x0, r0, hx0, hd0⟩ := startsDigit_cons h6
  have hlen0 : 0 < (peekP c.ts σ).text.length := by rw [hx0]; simp
  have hx : (peekP c.ts σ).text[(0 : Int).toNat]? = some x0 := by rw [hx0]; rfl
  clear hx0
  refine calls_in Tryz.func82 Tryz.ntmps82 rfl rfl ?_
  focus
   refine cS ?_
   (refine lw_alloc' [_, _, _, _] zOk rfl rfl ?_; intro be1 we2 ne3)
   have he5 := New.blk ne3
   have xe6 := New.ext ne3
   have pe7 := New.pos ne3
   have ze8 := New.size ne3
   clear ne3
   replace hP := RP.ext hP xe6
   replace X := Fr.ext X xe6
   clear xe6
   refine cT (cw_seq (cS (cM rfl rfl ?_)))
   refine lw_does (does_call (by kernel_rfl) rfl (rhas_f _ _ _ _ (by assumption) (by decide) (by assumption)) (fun _ _ h => ⟨_, h.1⟩)) rfl ?_ (fun _ h => h)
   rintro _ we11 ⟨⟨⟩, ⟨he9, fe10⟩⟩
   have ze12 := Fr.size fe10
   replace he5 := Blk.fr he5 fe10 (by omega)
   clear hP
   replace X := Fr.fr X fe10 (by omega)
   clear fe10
   refine cT (cw_cond_f rfl (cw_skip (qw_then (cw_seq (cS (cM rfl rfl ?_))))))
   refine lw_does (does_call (by kernel_rfl) rfl (rhas_f _ _ _ _ (by assumption) (by decide) (by assumption)) (fun _ _ h => ⟨_, h.1⟩)) rfl ?_ (fun _ h => h)
   rintro _ we15 ⟨⟨⟩, ⟨he13, fe14⟩⟩
   have ze16 := Fr.size fe14
   clear he9
   replace he5 := Blk.fr he5 fe14 (by omega)
   replace X := Fr.fr X fe14 (by omega)
   clear fe14
   refine cT (cw_cond_f rfl (cw_skip (qw_then (cS (cM rfl rfl ?_)))))
   refine lw_does (does_call (by kernel_rfl) rfl (rpeek_c _ _ _ (by assumption)) (fun _ _ h => ⟨_, h.1⟩)) rfl ?_ (fun _ h => h)
   rintro _ we18 ⟨⟨⟩, xe17⟩
   have ze19 := Ext.size xe17
   replace he13 := RP.ext he13 xe17
   replace he5 := Blk.ext he5 xe17
   replace X := Fr.ext X xe17
   clear xe17
   refine cA rfl rfl (cT (cw_seq (cS (cM rfl rfl ?_))))
   refine lw_does (does_call (by kernel_rfl) rfl (rhas_f _ _ _ _ (by assumption) (by decide) (by assumption)) (fun _ _ h => ⟨_, h.1⟩)) rfl ?_ (fun _ h => h)
   rintro _ we22 ⟨⟨⟩, ⟨he20, fe21⟩⟩
   have ze23 := Fr.size fe21
   clear he13
   replace he5 := Blk.fr he5 fe21 (by omega)
   replace X := Fr.fr X fe21 (by omega)
   clear fe21
   refine cT (cw_cond_f rfl (cw_skip (qw_then (cw_seq (cS (cM rfl rfl (lw_pure (pur_seql rfl rfl) rfl (cM rfl rfl ?_))))))))
   refine lw_on rfl rfl rfl (gd_ff (by assumption)) ?_
   refine cM rfl rfl ?_
   refine lw_on rfl rfl rfl (gd_ff (by assumption)) ?_
   refine lw_pure (pur_seql rfl rfl) rfl ?_
   refine lw_pure (pur_pick_no rfl rfl (by assumption)) rfl ?_
   refine cT ?_
   refine cw_no rfl (by assumption) ?_
   refine cw_skip (qw_then (cw_seq (cS (cM rfl rfl (lw_pure (pur_len_s tabOk rfl rfl) rfl (lw_pure (pur_gtr rfl rfl) rfl (cM rfl rfl ?_)))))))
   refine lw_on rfl rfl rfl (gd_tt (by omega)) ?_
   refine cM rfl rfl ?_
   refine lw_on rfl rfl rfl (gd_tt (by omega)) ?_
   refine lw_pure (pur_sindex tabOk rfl rfl rfl (by omega) (by assumption)) rfl ?_
   refine lw_on rfl rfl rfl (gd_tt (by omega)) ?_
   refine lw_does (does_call (by kernel_rfl) rfl (rdigit_c _ _) (fun _ _ h => ⟨_, h.1⟩)) rfl ?_ (fun _ h => h)
   rintro _ we24 ⟨⟨⟩, rfl⟩
   refine lw_pure (pur_pick_yes rfl rfl (by omega)) rfl ?_
   refine cT ?_
   refine cw_bt rfl (by assumption) ?_
   refine cS (cM rfl rfl ?_)
   refine lw_does (does_call (by kernel_rfl) rfl (rnumber_c _ _ _ (by assumption)) (fun _ _ h => ⟨_, h.1⟩)) rfl ?_ (fun _ h => h)
   rintro _ we27 ⟨⟨⟩, ⟨he25, fe26⟩⟩
   have ze28 := Fr.size fe26
   clear he20
   replace he5 := Blk.fr he5 fe26 (by omega)
   replace X := Fr.fr X fe26 (by omega)
   clear fe26
   refine lw_pure (pur_build' [_, _, _, _] tabOk zOk rfl rfl rfl rfl) rfl ?_
   (refine lw_store' [_, _, _, _] [_, _, _, _] tabOk rfl rfl rfl rfl rfl rfl he5 rfl rfl ?_; intro we29 ne30)
   have he33 := Put.blk ne30
   have fe31 := Put.fr ne30
   have ze32 := Put.size ne30
   clear ne30 he5
   replace he25 := RP.fr he25 fe31 (by omega)
   replace X := Fr.fr X fe31 (by omega)
   clear fe31
   refine cT (cw_ret (qw_then_ret (qw_retc rfl tabOk rfl rfl rfl he33 rfl ?_)))
   rotate_left 1
  exact rtree_ret sits_nil (by assumption) X
 simp only [Bool.false_eq_true, if_false]
 cases ht : (peekP c.ts σ).text with
 | nil =>
  have hlen0 : (peekP c.ts σ).text.length = 0 := by rw [ht]; rfl
  clear ht
  refine calls_in Tryz.func82 Tryz.ntmps82 rfl rfl ?_
  focus
   refine cS ?_
   (refine lw_alloc' [_, _, _, _] zOk rfl rfl ?_; intro bf1 wf2 nf3)
   have hf5 := New.blk nf3
   have xf6 := New.ext nf3
   have pf7 := New.pos nf3
   have zf8 := New.size nf3
   clear nf3
   replace hP := RP.ext hP xf6
   replace X := Fr.ext X xf6
   clear xf6
   refine cT (cw_seq (cS (cM rfl rfl ?_)))
   refine lw_does (does_call (by kernel_rfl) rfl (rhas_f _ _ _ _ (by assumption) (by decide) (by assumption)) (fun _ _ h => ⟨_, h.1⟩)) rfl ?_ (fun _ h => h)
   rintro _ wf11 ⟨⟨⟩, ⟨hf9, ff10⟩⟩
   have zf12 := Fr.size ff10
   replace hf5 := Blk.fr hf5 ff10 (by omega)
   clear hP
   replace X := Fr.fr X ff10 (by omega)
   clear ff10
   refine cT (cw_cond_f rfl (cw_skip (qw_then (cw_seq (cS (cM rfl rfl ?_))))))
   refine lw_does (does_call (by kernel_rfl) rfl (rhas_f _ _ _ _ (by assumption) (by decide) (by assumption)) (fun _ _ h => ⟨_, h.1⟩)) rfl ?_ (fun _ h => h)
   rintro _ wf15 ⟨⟨⟩, ⟨hf13, ff14⟩⟩
   have zf16 := Fr.size ff14
   clear hf9
   replace hf5 := Blk.fr hf5 ff14 (by omega)
   replace X := Fr.fr X ff14 (by omega)
   clear ff14
   refine cT (cw_cond_f rfl (cw_skip (qw_then (cS (cM rfl rfl ?_)))))
   refine lw_does (does_call (by kernel_rfl) rfl (rpeek_c _ _ _ (by assumption)) (fun _ _ h => ⟨_, h.1⟩)) rfl ?_ (fun _ h => h)
   rintro _ wf18 ⟨⟨⟩, xf17⟩
   have zf19 := Ext.size xf17
   replace hf13 := RP.ext hf13 xf17
   replace hf5 := Blk.ext hf5 xf17
   replace X := Fr.ext X xf17
   clear xf17
   refine cA rfl rfl (cT (cw_seq (cS (cM rfl rfl ?_))))
   refine lw_does (does_call (by kernel_rfl) rfl (rhas_f _ _ _ _ (by assumption) (by decide) (by assumption)) (fun _ _ h => ⟨_, h.1⟩)) rfl ?_ (fun _ h => h)
   rintro _ wf22 ⟨⟨⟩, ⟨hf20, ff21⟩⟩
   have zf23 := Fr.size ff21
   clear hf13
   replace hf5 := Blk.fr hf5 ff21 (by omega)
   replace X := Fr.fr X ff21 (by omega)
   clear ff21
   refine cT (cw_cond_f rfl (cw_skip (qw_then (cw_seq (cS (cM rfl rfl (lw_pure (pur_seql rfl rfl) rfl (cM rfl rfl ?_))))))))
   refine lw_on rfl rfl rfl (gd_ff (by assumption)) ?_
   refine cM rfl rfl ?_
   refine lw_on rfl rfl rfl (gd_ff (by assumption)) ?_
   refine lw_pure (pur_seql rfl rfl) rfl ?_
   refine lw_pure (pur_pick_no rfl rfl (by assumption)) rfl ?_
   refine cT ?_
   refine cw_no rfl (by assumption) ?_
   refine cw_skip (qw_then (cw_seq (cS (cM rfl rfl (lw_pure (pur_len_s tabOk rfl rfl) rfl (lw_pure (pur_gtr rfl rfl) rfl (cM rfl rfl ?_)))))))
   refine lw_off rfl rfl rfl (gd_tf (by omega)) rfl ?_
   refine lw_off rfl rfl rfl (gd_tf (by omega)) rfl ?_
   refine lw_off rfl rfl rfl (gd_tf (by omega)) rfl ?_
   refine lw_pure (pur_pick_no rfl rfl (by omega)) rfl ?_
   refine cT (cw_cond_f rfl (cw_skip (qw_then (cS (cM rfl rfl ?_)))))
   refine lw_does (does_call (by kernel_rfl) rfl ((IH k (Nat.le_refl _)).place _ _ (by assumption) (by omega)) (fun _ _ h => h.ret)) rfl ?_ (fun _ h => h)
   rintro _ wf29 ⟨af24, ⟨kf25, ⟨⟨⟩, ⟨hf26, ⟨hf27, ff28⟩⟩⟩⟩⟩
   have zf30 := Fr.size ff28
   clear hf20
   replace hf5 := Blk.fr hf5 ff28 (by omega)
   replace X := Fr.fr X ff28 (by omega)
   clear ff28
   (refine lw_store' [_, _, _, _] [_, _, _, _] tabOk rfl rfl rfl rfl rfl rfl hf5 rfl rfl ?_; intro wf31 nf32)
   have hf35 := Put.blk nf32
   have ff33 := Put.fr nf32
   have zf34 := Put.size nf32
   clear nf32 hf5
   replace hf26 := Nd.sits.fr hf26 ff33 (by omega)
   replace hf27 := RP.fr hf27 ff33 (by omega)
   replace X := Fr.fr X ff33 (by omega)
   clear ff33
   refine cT (cw_ret (qw_retc rfl tabOk rfl rfl rfl hf35 rfl ?_))
   rotate_left 1
  exact rtree_ret (Nd.sits.wide (by assumption) (fun b h => by omega)) (by assumption) X
 | cons x r =>
  have hlen0 : 0 < (peekP c.ts σ).text.length := by rw [ht]; simp
  have hx : (peekP c.ts σ).text[(0 : Int).toNat]? = some x := by rw [ht]; rfl
  have hd : digit x = false := by rw [ht] at h6; exact h6
  clear ht
  refine calls_in Tryz.func82 Tryz.ntmps82 rfl rfl ?_
  focus
   refine cS ?_
   (refine lw_alloc' [_, _, _, _] zOk rfl rfl ?_; intro bg1 wg2 ng3)
   have hg5 := New.blk ng3
   have xg6 := New.ext ng3
   have pg7 := New.pos ng3
   have zg8 := New.size ng3
   clear ng3
   replace hP := RP.ext hP xg6
   replace X := Fr.ext X xg6
   clear xg6
   refine cT (cw_seq (cS (cM rfl rfl ?_)))
   refine lw_does (does_call (by kernel_rfl) rfl (rhas_f _ _ _ _ (by assumption) (by decide) (by assumption)) (fun _ _ h => ⟨_, h.1⟩)) rfl ?_ (fun _ h => h)
   rintro _ wg11 ⟨⟨⟩, ⟨hg9, fg10⟩⟩
   have zg12 := Fr.size fg10
   replace hg5 := Blk.fr hg5 fg10 (by omega)
   clear hP
   replace X := Fr.fr X fg10 (by omega)
   clear fg10
   refine cT (cw_cond_f rfl (cw_skip (qw_then (cw_seq (cS (cM rfl rfl ?_))))))
   refine lw_does (does_call (by kernel_rfl) rfl (rhas_f _ _ _ _ (by assumption) (by decide) (by assumption)) (fun _ _ h => ⟨_, h.1⟩)) rfl ?_ (fun _ h => h)
   rintro _ wg15 ⟨⟨⟩, ⟨hg13, fg14⟩⟩
   have zg16 := Fr.size fg14
   clear hg9
   replace hg5 := Blk.fr hg5 fg14 (by omega)
   replace X := Fr.fr X fg14 (by omega)
   clear fg14
   refine cT (cw_cond_f rfl (cw_skip (qw_then (cS (cM rfl rfl ?_)))))
   refine lw_does (does_call (by kernel_rfl) rfl (rpeek_c _ _ _ (by assumption)) (fun _ _ h => ⟨_, h.1⟩)) rfl ?_ (fun _ h => h)
   rintro _ wg18 ⟨⟨⟩, xg17⟩
   have zg19 := Ext.size xg17
   replace hg13 := RP.ext hg13 xg17
   replace hg5 := Blk.ext hg5 xg17
   replace X := Fr.ext X xg17
   clear xg17
   refine cA rfl rfl (cT (cw_seq (cS (cM rfl rfl ?_))))
   refine lw_does (does_call (by kernel_rfl) rfl (rhas_f _ _ _ _ (by assumption) (by decide) (by assumption)) (fun _ _ h => ⟨_, h.1⟩)) rfl ?_ (fun _ h => h)
   rintro _ wg22 ⟨⟨⟩, ⟨hg20, fg21⟩⟩
   have zg23 := Fr.size fg21
   clear hg13
   replace hg5 := Blk.fr hg5 fg21 (by omega)
   replace X := Fr.fr X fg21 (by omega)
   clear fg21
   refine cT (cw_cond_f rfl (cw_skip (qw_then (cw_seq (cS (cM rfl rfl (lw_pure (pur_seql rfl rfl) rfl (cM rfl rfl ?_))))))))
   refine lw_on rfl rfl rfl (gd_ff (by assumption)) ?_
   refine cM rfl rfl ?_
   refine lw_on rfl rfl rfl (gd_ff (by assumption)) ?_
   refine lw_pure (pur_seql rfl rfl) rfl ?_
   refine lw_pure (pur_pick_no rfl rfl (by assumption)) rfl ?_
   refine cT ?_
   refine cw_no rfl (by assumption) ?_
   refine cw_skip (qw_then (cw_seq (cS (cM rfl rfl (lw_pure (pur_len_s tabOk rfl rfl) rfl (lw_pure (pur_gtr rfl rfl) rfl (cM rfl rfl ?_)))))))
   refine lw_on rfl rfl rfl (gd_tt (by omega)) ?_
   refine cM rfl rfl ?_
   refine lw_on rfl rfl rfl (gd_tt (by omega)) ?_
   refine lw_pure (pur_sindex tabOk rfl rfl rfl (by omega) (by assumption)) rfl ?_
   refine lw_on rfl rfl rfl (gd_tt (by omega)) ?_
   refine lw_does (does_call (by kernel_rfl) rfl (rdigit_c _ _) (fun _ _ h => ⟨_, h.1⟩)) rfl ?_ (fun _ h => h)
   rintro _ wg24 ⟨⟨⟩, rfl⟩
   refine lw_pure (pur_pick_yes rfl rfl (by omega)) rfl ?_
   refine cT ?_
   refine cw_bf rfl (by assumption) ?_
   refine cw_skip (qw_then (cS (cM rfl rfl ?_)))
   refine lw_does (does_call (by kernel_rfl) rfl ((IH k (Nat.le_refl _)).place _ _ (by assumption) (by omega)) (fun _ _ h => h.ret)) rfl ?_ (fun _ h => h)
   rintro _ wg30 ⟨ag25, ⟨kg26, ⟨⟨⟩, ⟨hg27, ⟨hg28, fg29⟩⟩⟩⟩⟩
   have zg31 := Fr.size fg29
   clear hg20
   replace hg5 := Blk.fr hg5 fg29 (by omega)
   replace X := Fr.fr X fg29 (by omega)
   clear fg29
   (refine lw_store' [_, _, _, _] [_, _, _, _] tabOk rfl rfl rfl rfl rfl rfl hg5 rfl rfl ?_; intro wg32 ng33)
   have hg36 := Put.blk ng33
   have fg34 := Put.fr ng33
   have zg35 := Put.size ng33
   clear ng33 hg5
   replace hg27 := Nd.sits.fr hg27 fg34 (by omega)
   replace hg28 := RP.fr hg28 fg34 (by omega)
   replace X := Fr.fr X fg34 (by omega)
   clear fg34
   refine cT (cw_ret (qw_retc rfl tabOk rfl rfl rfl hg36 rfl ?_))
   rotate_left 1
  exact rtree_ret (Nd.sits.wide (by assumption) (fun b h => by omega)) (by assumption) X
end Bk
namespace Bk
open Go Go.RowKit Go.Proofs
attribute [local irreducible] Go.Calls
set_option maxRecDepth 100000 in
set_option maxHeartbeats 4000000 in
theorem rexpr_w (c : RC) (k : Nat) (IH : ∀ j, j ≤ k → RExprsC c j) (lv : Int) (σ : PS) (w : World) (hP : RP c σ w) (hl0 : 1 ≤ lv) (hl1 : lv ≤ 9) (hk : (12 * mS c.ts σ : Int) + 12 ≤ (k + 1 : Nat) + lv) : Calls Tryz.prog 41 #[.pointer (some ⟨c.pb, 0, none⟩), .int .i64 lv] w (RTreeR c w (exprR c.ts c.n (k + 1) lv σ)) := by
 have X := Fr.refl (· = c.pb) w
 have hpb := hP.pbB
 have hB := hP.B
 have hlen := hP.len
 by_cases h9 : 8 < lv
 · rw [show exprR c.ts c.n (k + 1) lv σ = unaryR c.ts c.n k σ from by rw [exprR]; simp [h9]]
   refine calls_in Tryz.func41 Tryz.ntmps41 rfl rfl ?_
   focus
    refine cS ?_
    (refine lw_alloc' [_, _, _, _] zOk rfl rfl ?_; intro b1 w2 n3)
    have h5 := New.blk n3
    have x6 := New.ext n3
    have p7 := New.pos n3
    have z8 := New.size n3
    clear n3
    replace hP := RP.ext hP x6
    replace X := Fr.ext X x6
    clear x6
    refine cT (cw_seq (cS (cM rfl rfl (lw_pure (pur_gtr rfl rfl) rfl (cT ?_)))))
    refine cw_yes rfl (by assumption) ?_
    refine cS (cM rfl rfl ?_)
    refine lw_does (does_call (by kernel_rfl) rfl ((IH k (Nat.le_refl _)).unary _ _ (by assumption) (by omega)) (fun _ _ h => h.ret)) rfl ?_ (fun _ h => h)
    rintro _ w14 ⟨a9, ⟨k10, ⟨⟨⟩, ⟨h11, ⟨h12, f13⟩⟩⟩⟩⟩
    have z15 := Fr.size f13
    replace h5 := Blk.fr h5 f13 (by omega)
    clear hP
    replace X := Fr.fr X f13 (by omega)
    clear f13
    (refine lw_store' [_, _, _, _] [_, _, _, _] tabOk rfl rfl rfl rfl rfl rfl h5 rfl rfl ?_; intro w16 n17)
    have h20 := Put.blk n17
    have f18 := Put.fr n17
    have z19 := Put.size n17
    clear n17 h5
    replace h11 := Nd.sits.fr h11 f18 (by omega)
    replace h12 := RP.fr h12 f18 (by omega)
    replace X := Fr.fr X f18 (by omega)
    clear f18
    refine cT (cw_ret (qw_then_ret (qw_retc rfl tabOk rfl rfl rfl h20 rfl ?_)))
    rotate_left 1
   exact rtree_ret (Nd.sits.wide (by assumption) (fun b h => by omega)) (by assumption) X
 rw [show exprR c.ts c.n (k + 1) lv σ = loopR c.ts c.n k lv (exprR c.ts c.n k (lv + 1) σ).1 (exprR c.ts c.n k (lv + 1) σ).2 from by rw [exprR]; simp [h9]]
 have hu := (exprR_inv (ts := c.ts) (n := c.n) k).1 (lv + 1) σ hP.at_
 have hum := mS_le hu
 refine calls_in Tryz.func41 Tryz.ntmps41 rfl rfl ?_
 focus
  refine cS ?_
  (refine lw_alloc' [_, _, _, _] zOk rfl rfl ?_; intro ba1 wa2 na3)
  have ha5 := New.blk na3
  have xa6 := New.ext na3
  have pa7 := New.pos na3
  have za8 := New.size na3
  clear na3
  replace hP := RP.ext hP xa6
  replace X := Fr.ext X xa6
  clear xa6
  refine cT (cw_seq (cS (cM rfl rfl (lw_pure (pur_gtr rfl rfl) rfl (cT ?_)))))
  refine cw_no rfl (by assumption) ?_
  refine cw_skip (qw_then (cS (cM rfl rfl (cM rfl rfl ?_))))
  refine lw_pure (pur_add rfl rfl (IntWalk.i64_in _ (by omega))) rfl ?_
  refine lw_does (does_call (by kernel_rfl) rfl ((IH k (Nat.le_refl _)).expr _ _ _ (by assumption) (by omega) (by omega) (by omega)) (fun _ _ h => h.ret)) rfl ?_ (fun _ h => h)
  rintro _ wa14 ⟨aa9, ⟨ka10, ⟨⟨⟩, ⟨ha11, ⟨ha12, fa13⟩⟩⟩⟩⟩
  have za15 := Fr.size fa13
  replace ha5 := Blk.fr ha5 fa13 (by omega)
  clear hP
  replace X := Fr.fr X fa13 (by omega)
  clear fa13
  (refine lw_alloc' [_, _, _, _] zOk rfl rfl ?_; intro ba16 wa17 na18)
  (refine lw_init' [_, _, _, _] tabOk rfl rfl rfl rfl rfl rfl na18 rfl ?_; clear na18; clear wa17; intro wa19 na18)
  have ha20 := New.blk na18
  have xa21 := New.ext na18
  have pa22 := New.pos na18
  have za23 := New.size na18
  clear na18
  replace ha11 := Nd.sits.ext ha11 xa21
  replace ha12 := RP.ext ha12 xa21
  replace ha5 := Blk.ext ha5 xa21
  replace X := Fr.ext X xa21
  clear xa21
  refine cT (cw_seq (cw_block ?_))
  rotate_left 1
 refine cw_loop (ι := Nat × Nd × Option Addr × Nat × PS) (fun _ => [(0, .pointer (some ⟨c.pb, 0, none⟩)), (1, .int .i64 lv), (4, .pointer (some ⟨ba1, 0, none⟩)), (5, .pointer (some ⟨ba16, 0, none⟩))])
  (fun x w' => RP c x.2.2.2.2 w' ∧ Blk w' ba16 (x.2.1.cells x.2.2.1 x.2.2.2.1) ∧ x.2.1.sits (fun b => w.heap.size ≤ b ∧ b ≠ ba1 ∧ b ≠ ba16) w' x.2.2.1 ∧ Blk w' ba1 [.int .u8 0, .int .i64 0, .string ⟨#[]⟩, .slice none 0 0] ∧ Fr (· = c.pb) w w' ∧ wa19.heap.size ≤ w'.heap.size ∧
   loopR c.ts c.n k lv (exprR c.ts c.n k (lv + 1) σ).1 (exprR c.ts c.n k (lv + 1) σ).2 = loopR c.ts c.n x.1 lv x.2.1 x.2.2.2.2 ∧ 12 * mS c.ts x.2.2.2.2 + 1 ≤ x.1 ∧ x.1 ≤ k) (fun x => x.1) (k, (exprR c.ts c.n k (lv + 1) σ).1, aa9, ka10, (exprR c.ts c.n k (lv + 1) σ).2) (by (refine sub_cons rfl ?_; refine sub_cons rfl ?_; refine sub_cons rfl ?_; refine sub_cons rfl ?_; exact sub_nil))
  ⟨by assumption, by assumption, Nd.sits.wide (by assumption) (fun b h => ⟨by omega, by omega, by omega⟩), by assumption, X, Nat.le_refl _, rfl, by simp only; omega, Nat.le_refl _⟩ ?_
 rintro ⟨j, x, xa, xc, σ'⟩ w1 ⟨hP, h5, hs, h4, X, hz, he, hfj, hjk⟩
 simp only at hP h5 hs he hfj hjk
 rw [he]
 clear he hu hum
 obtain ⟨j, rfl⟩ : ∃ i, j = i + 1 := ⟨j - 1, by omega⟩
 by_cases h0 : σ'.err = 0
 case neg =>
  rw [show loopR c.ts c.n (j + 1) lv x σ' = (x, σ') from by rw [loopR]; simp [h0]]
  focus
   refine cw_seq (cS (cM rfl rfl (lw_pure (pur_nilCheck rfl) rfl (lw_pure (pur_fieldAddr tabOk rfl rfl rfl) rfl (lw_load_b tabOk rfl rfl rfl (RP.blk hP) rfl rfl (lw_pure (pur_eql rfl rfl) rfl (cT ?_)))))))
   refine cw_no rfl (by assumption) ?_
   refine cw_exit (qw_then_exit (qw_then_exit (qw_block_exit (qw_then (cS (lw_loads_b' [_, _, _, _] tabOk rfl rfl rfl h5 rfl rfl rfl ?_))))))
   (refine lw_store' [_, _, _, _] [_, _, _, _] tabOk rfl rfl rfl rfl rfl rfl h4 rfl rfl ?_; intro wb1 nb2)
   have hb5 := Put.blk nb2
   have fb3 := Put.fr nb2
   have zb4 := Put.size nb2
   clear nb2 h4
   replace hP := RP.fr hP fb3 (by omega)
   replace h5 := Blk.fr h5 fb3 (by omega)
   replace hs := Nd.sits.fr hs fb3 (by omega)
   replace X := Fr.fr X fb3 (by omega)
   clear fb3
   refine cT (cw_ret (qw_retc rfl tabOk rfl rfl rfl hb5 rfl ?_))
   rotate_left 1
  exact rtree_ret (Nd.sits.wide hs (fun b h => h.1)) (by assumption) X
 cases hb : binOf (peekP c.ts σ').text with
 | none =>
  rw [show loopR c.ts c.n (j + 1) lv x σ' = (x, σ') from by rw [loopR]; simp [h0, hb]]
  have hop : (opPair (peekP c.ts σ').text).2 = 0 := by simp [opPair, hb]
  focus
   refine cw_seq (cS (cM rfl rfl (lw_pure (pur_nilCheck rfl) rfl (lw_pure (pur_fieldAddr tabOk rfl rfl rfl) rfl (lw_load_b tabOk rfl rfl rfl (RP.blk hP) rfl rfl (lw_pure (pur_eql rfl rfl) rfl (cT ?_)))))))
   refine cw_yes rfl (by assumption) ?_
   refine cw_skip (qw_then (cw_block (cS (cM rfl rfl ?_))))
   refine lw_does (does_call (by kernel_rfl) rfl (rpeek_c _ _ _ (by assumption)) (fun _ _ h => ⟨_, h.1⟩)) rfl ?_ (fun _ h => h)
   rintro _ wc2 ⟨⟨⟩, xc1⟩
   have zc3 := Ext.size xc1
   replace hP := RP.ext hP xc1
   replace h5 := Blk.ext h5 xc1
   replace hs := Nd.sits.ext hs xc1
   replace h4 := Blk.ext h4 xc1
   replace X := Fr.ext X xc1
   clear xc1
   refine lw_does (does_call (by kernel_rfl) rfl (roperator_c _ _) (fun _ _ h => ⟨_, h.1⟩)) rfl ?_ (fun _ h => h)
   rintro _ wc5 ⟨⟨⟩, xc4⟩
   have zc6 := Ext.size xc4
   replace hP := RP.ext hP xc4
   replace h5 := Blk.ext h5 xc4
   replace hs := Nd.sits.ext hs xc4
   replace h4 := Blk.ext h4 xc4
   replace X := Fr.ext X xc4
   clear xc4
   refine cM rfl rfl (lw_pure (pur_extract rfl rfl) rfl (lw_pure (pur_extract rfl rfl) rfl (cA rfl rfl (cA rfl rfl (cT (cw_seq (cS (cM rfl rfl (cM rfl rfl (lw_pure (pur_neq rfl rfl) rfl (cT ?_)))))))))))
   refine cw_yes rfl (by omega) ?_
   refine cw_exit (qw_then_exit (qw_block_pass rfl (qw_then_exit (qw_block_exit (qw_then (cS (lw_loads_b' [_, _, _, _] tabOk rfl rfl rfl h5 rfl rfl rfl ?_)))))))
   (refine lw_store' [_, _, _, _] [_, _, _, _] tabOk rfl rfl rfl rfl rfl rfl h4 rfl rfl ?_; intro wc7 nc8)
   have hc11 := Put.blk nc8
   have fc9 := Put.fr nc8
   have zc10 := Put.size nc8
   clear nc8 h4
   replace hP := RP.fr hP fc9 (by omega)
   replace h5 := Blk.fr h5 fc9 (by omega)
   replace hs := Nd.sits.fr hs fc9 (by omega)
   replace X := Fr.fr X fc9 (by omega)
   clear fc9
   refine cT (cw_ret (qw_retc rfl tabOk rfl rfl rfl hc11 rfl ?_))
   rotate_left 1
  exact rtree_ret (Nd.sits.wide hs (fun b h => h.1)) (by assumption) X
 | some op =>
  obtain ⟨hne, o1, o2, -⟩ := binOf_ne hb
  obtain ⟨hin, hin2⟩ := peek_in hP.at_ (Or.inl hne)
  have hm := mS_next (ts := c.ts) (σ := σ') ⟨hin, hin2⟩
  have hop : (opPair (peekP c.ts σ').text).2 = level op := by simp [opPair, hb]
  have hop1 : (opPair (peekP c.ts σ').text).1 = op := by simp [opPair, hb]
  by_cases hl : level op = lv
  · rw [show loopR c.ts c.n (j + 1) lv x σ' = loopR c.ts c.n j lv (.mk op 0 [] [x, (exprR c.ts c.n j (lv + 1) (nextP σ')).1]) (exprR c.ts c.n j (lv + 1) (nextP σ')).2 from by rw [loopR]; simp [h0, hb, hl]]
    have hle := (exprR_inv (ts := c.ts) (n := c.n) j).1 (lv + 1) (nextP σ') hin2
    have hml := mS_le hle
    rw [← hop1]
    focus
     refine cw_seq (cS (cM rfl rfl (lw_pure (pur_nilCheck rfl) rfl (lw_pure (pur_fieldAddr tabOk rfl rfl rfl) rfl (lw_load_b tabOk rfl rfl rfl (RP.blk hP) rfl rfl (lw_pure (pur_eql rfl rfl) rfl (cT ?_)))))))
     refine cw_yes rfl (by assumption) ?_
     refine cw_skip (qw_then (cw_block (cS (cM rfl rfl ?_))))
     refine lw_does (does_call (by kernel_rfl) rfl (rpeek_c _ _ _ (by assumption)) (fun _ _ h => ⟨_, h.1⟩)) rfl ?_ (fun _ h => h)
     rintro _ wd2 ⟨⟨⟩, xd1⟩
     have zd3 := Ext.size xd1
     replace hP := RP.ext hP xd1
     replace h5 := Blk.ext h5 xd1
     replace hs := Nd.sits.ext hs xd1
     replace h4 := Blk.ext h4 xd1
     replace X := Fr.ext X xd1
     clear xd1
     refine lw_does (does_call (by kernel_rfl) rfl (roperator_c _ _) (fun _ _ h => ⟨_, h.1⟩)) rfl ?_ (fun _ h => h)
     rintro _ wd5 ⟨⟨⟩, xd4⟩
     have zd6 := Ext.size xd4
     replace hP := RP.ext hP xd4
     replace h5 := Blk.ext h5 xd4
     replace hs := Nd.sits.ext hs xd4
     replace h4 := Blk.ext h4 xd4
     replace X := Fr.ext X xd4
     clear xd4
     refine cM rfl rfl (lw_pure (pur_extract rfl rfl) rfl (lw_pure (pur_extract rfl rfl) rfl (cA rfl rfl (cA rfl rfl (cT (cw_seq (cS (cM rfl rfl (cM rfl rfl (lw_pure (pur_neq rfl rfl) rfl (cT ?_)))))))))))
     refine cw_no rfl (by omega) ?_
     refine cw_skip (qw_then (cS (cM rfl rfl (cM rfl rfl (lw_pure (pur_nilCheck rfl) rfl (lw_pure (pur_fieldAddr tabOk rfl rfl rfl) rfl (lw_load_b tabOk rfl rfl rfl (RP.blk hP) rfl rfl ?_)))))))
     refine lw_pure (pur_add rfl rfl (IntWalk.i64_in _ (by omega))) rfl ?_
     refine lw_pure (pur_nilCheck rfl) rfl (lw_pure (pur_fieldAddr tabOk rfl rfl rfl) rfl ?_)
     refine lw_rp_at tabOk rfl rfl rfl rfl (by assumption) hin2 ?_
     rintro wd7 hd8 fd9
     have zd10 := Fr.size fd9
     clear hP
     replace h5 := Blk.fr h5 fd9 (by omega)
     replace hs := Nd.sits.fr hs fd9 (by omega)
     replace h4 := Blk.fr h4 fd9 (by omega)
     replace X := Fr.fr X fd9 (by omega)
     clear fd9
     refine cT ?_
     (refine cw_tdraw (fun wz => Fr (· = c.pb) wd7 wz) 7 (.pure 0 (.pure 1 (.pure 2 (.pure 3 (.pure 4 (.fork 5 (.fork 6 .tail .none) .none)))))) mixed (by kernel_rfl) (panicOk_block (panicOk_then (panicOk_block (panicOk_then panicOk_body)))) ?_; intro wd11 xd12 _)
     have qsd13 : (fun wz => Fr (· = c.pb) wd7 wz) wd11 := Fr.of_ext xd12
     simp only at qsd13
     have d_hd8 := hd8
     have d_h5 := h5
     have d_hs := hs
     have d_h4 := h4
     have zd14 := Ext.size xd12
     replace hd8 := RP.ext hd8 xd12
     replace h5 := Blk.ext h5 xd12
     replace hs := Nd.sits.ext hs xd12
     replace h4 := Blk.ext h4 xd12
     replace X := Fr.ext X xd12
     clear xd12
     refine ⟨qsd13, ?_⟩
     refine tw_pure rfl (pur_move rfl) rfl ?_
     refine tw_pure rfl (pur_loads_blk' [_, _, _, _] tabOk rfl rfl rfl (fun wz hz => (Blk.fr d_h5 hz (by omega))) rfl rfl) rfl ?_
     refine tw_pure rfl (pur_move rfl) rfl (tw_pure rfl (pur_move rfl) rfl ?_)
     refine tw_pure rfl (pur_add rfl rfl (IntWalk.i64_in _ (by omega))) rfl ?_
     refine tw_does rfl (does_call (by kernel_rfl) rfl ((IH j (by omega)).expr _ _ _ (by assumption) (by omega) (by omega) (by omega)) (fun _ _ h => h.ret)) rfl ?_ (fun _ h => h) tw_none
     rintro _ wd20 ⟨ad15, ⟨kd16, ⟨⟨⟩, ⟨hd17, ⟨hd18, fd19⟩⟩⟩⟩⟩
     have zd21 := Fr.size fd19
     replace qsd13 := Fr.fr qsd13 fd19 (by omega)
     clear hd8
     replace h5 := Blk.fr h5 fd19 (by omega)
     replace hs := Nd.sits.fr hs fd19 (by omega)
     replace h4 := Blk.fr h4 fd19 (by omega)
     replace X := Fr.fr X fd19 (by omega)
     clear fd19
     refine ⟨qsd13, ?_⟩
     (refine tw_does rfl (does_slice' [_, _, _, _, _, _, _, _] tabOk zOk rfl rfl rfl rfl rfl rfl rfl rfl rfl) rfl ?_ (fun _ h => h) tw_none; rintro _ wd23 ⟨bd22, rfl, nd24, td25⟩)
     clear td25
     have hd26 := New.blk nd24
     have xd27 := New.ext nd24
     have pd28 := New.pos nd24
     have zd29 := New.size nd24
     clear nd24
     replace hd17 := Nd.sits.ext hd17 xd27
     replace hd18 := RP.ext hd18 xd27
     replace qsd13 := Fr.ext qsd13 xd27
     replace h5 := Blk.ext h5 xd27
     replace hs := Nd.sits.ext hs xd27
     replace h4 := Blk.ext h4 xd27
     replace X := Fr.ext X xd27
     clear xd27
     refine ⟨qsd13, ?_⟩
     clear d_hd8 d_h5 d_hs d_h4 qsd13
     refine tw_tail rfl ?_
     refine lw_does (does_call (by kernel_rfl) rfl (rnode2 _ _ _ _ _ _ _ _ _ _ _ _ _ (by assumption) (by assumption) (by assumption)) (fun _ _ h => h.ret)) rfl ?_ (fun _ h => h)
     rintro _ wd34 ⟨ad30, ⟨kd31, ⟨⟨⟩, ⟨hd32, xd33⟩⟩⟩⟩
     have zd35 := Ext.size xd33
     replace hd26 := Blk.ext hd26 xd33
     replace hd17 := Nd.sits.ext hd17 xd33
     replace hd18 := RP.ext hd18 xd33
     replace h5 := Blk.ext h5 xd33
     replace hs := Nd.sits.ext hs xd33
     replace h4 := Blk.ext h4 xd33
     replace X := Fr.ext X xd33
     clear xd33
     (refine lw_store' [_, _, _, _] [_, _, _, _] tabOk rfl rfl rfl rfl rfl rfl h5 rfl rfl ?_; intro wd36 nd37)
     have hd40 := Put.blk nd37
     have fd38 := Put.fr nd37
     have zd39 := Put.size nd37
     clear nd37 h5
     replace hd32 := Nd.sits.fr hd32 fd38 (by omega)
     replace hd26 := Blk.fr hd26 fd38 (by omega)
     replace hd17 := Nd.sits.fr hd17 fd38 (by omega)
     replace hd18 := RP.fr hd18 fd38 (by omega)
     replace hs := Nd.sits.fr hs fd38 (by omega)
     replace h4 := Blk.fr h4 fd38 (by omega)
     replace X := Fr.fr X fd38 (by omega)
     clear fd38
     refine lw_nil (qw_block_norm ?_)
     rotate_left 1
    refine qw_round (j, .mk (opPair (peekP c.ts σ').text).1 0 [] [x, (exprR c.ts c.n j (lv + 1) (nextP σ')).1], _, _, (exprR c.ts c.n j (lv + 1) (nextP σ')).2) (by (refine sub_cons rfl ?_; refine sub_cons rfl ?_; refine sub_cons rfl ?_; refine sub_cons rfl ?_; exact sub_nil)) ⟨by assumption, by assumption, Nd.sits.wide (by assumption) (fun b h => ⟨by omega, by omega, by omega⟩), by assumption, X, by omega, rfl, by simp only; omega, by simp only; omega⟩ (by simp)
  · rw [show loopR c.ts c.n (j + 1) lv x σ' = (x, σ') from by rw [loopR]; simp [h0, hb, hl]]
    focus
     refine cw_seq (cS (cM rfl rfl (lw_pure (pur_nilCheck rfl) rfl (lw_pure (pur_fieldAddr tabOk rfl rfl rfl) rfl (lw_load_b tabOk rfl rfl rfl (RP.blk hP) rfl rfl (lw_pure (pur_eql rfl rfl) rfl (cT ?_)))))))
     refine cw_yes rfl (by assumption) ?_
     refine cw_skip (qw_then (cw_block (cS (cM rfl rfl ?_))))
     refine lw_does (does_call (by kernel_rfl) rfl (rpeek_c _ _ _ (by assumption)) (fun _ _ h => ⟨_, h.1⟩)) rfl ?_ (fun _ h => h)
     rintro _ we2 ⟨⟨⟩, xe1⟩
     have ze3 := Ext.size xe1
     replace hP := RP.ext hP xe1
     replace h5 := Blk.ext h5 xe1
     replace hs := Nd.sits.ext hs xe1
     replace h4 := Blk.ext h4 xe1
     replace X := Fr.ext X xe1
     clear xe1
     refine lw_does (does_call (by kernel_rfl) rfl (roperator_c _ _) (fun _ _ h => ⟨_, h.1⟩)) rfl ?_ (fun _ h => h)
     rintro _ we5 ⟨⟨⟩, xe4⟩
     have ze6 := Ext.size xe4
     replace hP := RP.ext hP xe4
     replace h5 := Blk.ext h5 xe4
     replace hs := Nd.sits.ext hs xe4
     replace h4 := Blk.ext h4 xe4
     replace X := Fr.ext X xe4
     clear xe4
     refine cM rfl rfl (lw_pure (pur_extract rfl rfl) rfl (lw_pure (pur_extract rfl rfl) rfl (cA rfl rfl (cA rfl rfl (cT (cw_seq (cS (cM rfl rfl (cM rfl rfl (lw_pure (pur_neq rfl rfl) rfl (cT ?_)))))))))))
     refine cw_yes rfl (by omega) ?_
     refine cw_exit (qw_then_exit (qw_block_pass rfl (qw_then_exit (qw_block_exit (qw_then (cS (lw_loads_b' [_, _, _, _] tabOk rfl rfl rfl h5 rfl rfl rfl ?_)))))))
     (refine lw_store' [_, _, _, _] [_, _, _, _] tabOk rfl rfl rfl rfl rfl rfl h4 rfl rfl ?_; intro we7 ne8)
     have he11 := Put.blk ne8
     have fe9 := Put.fr ne8
     have ze10 := Put.size ne8
     clear ne8 h4
     replace hP := RP.fr hP fe9 (by omega)
     replace h5 := Blk.fr h5 fe9 (by omega)
     replace hs := Nd.sits.fr hs fe9 (by omega)
     replace X := Fr.fr X fe9 (by omega)
     clear fe9
     refine cT (cw_ret (qw_retc rfl tabOk rfl rfl rfl he11 rfl ?_))
     rotate_left 1
    exact rtree_ret (Nd.sits.wide hs (fun b h => h.1)) (by assumption) X
theorem rexprs_c (c : RC) (k : Nat) : RExprsC c k := by
 induction k using Nat.strongRecOn with
 | _ k ih =>
  cases k with
  | zero => exact ⟨fun _ _ _ _ _ _ h => by omega, fun _ _ _ h => by omega, fun _ _ _ h => by omega⟩
  | succ k =>
   have IH : ∀ j, j ≤ k → RExprsC c j := fun j hj => ih j (by omega)
   exact ⟨rexpr_w c k IH, runary_w c k IH, rplace_w c k IH⟩
end Bk
namespace Bk
open Go Go.RowKit Go.Proofs
attribute [local irreducible] Go.Calls
set_option maxRecDepth 100000 in
set_option maxHeartbeats 8000000 in
theorem rcall_c (c : RC) (k : Nat) (kind : Int) (σ : PS) (w : World) (hi : In c.ts σ) (hP : RP c (nextP σ) w) (hk : mS c.ts σ + 1 ≤ k) :
 Calls Tryz.prog 119 #[.pointer (some ⟨c.pb, 0, none⟩), .int .u8 kind] w (RTreeR c w (callR c.ts c.n k kind σ)) := by
 have X := Fr.refl (· = c.pb) w
 have hpb := hP.pbB
 have hB := hP.B
 have hlen := hP.len
 have hm := mS_next hi
 have hl1 := next_le hi
 have hl2 := hl1.trans (name_le (n := c.n) hl1.wf)
 have hl3 := hl2.trans (expect_le (n := c.n) (t := [40]) hl2.wf (by decide))
 unfold callR
 (try dsimp only)
 generalize hM : nameP c.ts c.n (nextP σ) = M at *
 have hname : ∀ {w' : World}, RP c (nextP σ) w' → Calls Tryz.prog 33 #[.pointer (some ⟨c.pb, 0, none⟩)] w' fun r w'' => r = .returned (str M.1) ∧ RP c M.2 w'' ∧ Fr (· = c.pb) w' w'' := fun h => hM ▸ rname_c c _ _ h
 cases hh : hasP c.ts (expectP c.ts c.n M.2 [40]) [41]
 case true =>
  simp only [if_true]
  refine calls_in Tryz.func119 Tryz.ntmps119 rfl rfl ?_
  focus
   refine cS ?_
   (refine lw_alloc' [_, _, _, _] zOk rfl rfl ?_; intro b1 w2 n3)
   have h5 := New.blk n3
   have x6 := New.ext n3
   have p7 := New.pos n3
   have z8 := New.size n3
   clear n3
   replace hP := RP.ext hP x6
   replace X := Fr.ext X x6
   clear x6
   refine cN (cM rfl rfl (cM rfl rfl ?_))
   refine lw_does (does_call (by kernel_rfl) rfl (hname (by assumption)) (fun _ _ h => ⟨_, h.1⟩)) rfl ?_ (fun _ h => h)
   rintro _ w11 ⟨⟨⟩, ⟨h9, f10⟩⟩
   have z12 := Fr.size f10
   replace h5 := Blk.fr h5 f10 (by omega)
   clear hP
   replace X := Fr.fr X f10 (by omega)
   clear f10
   refine lw_does (does_call (by kernel_rfl) rfl (rnode0 _ _ _) (fun _ _ h => ⟨_, h.1⟩)) rfl ?_ (fun _ h => h)
   rintro _ w14 ⟨⟨⟩, x13⟩
   have z15 := Ext.size x13
   replace h9 := RP.ext h9 x13
   replace h5 := Blk.ext h5 x13
   replace X := Fr.ext X x13
   clear x13
   (refine lw_alloc' [_, _, _, _] zOk rfl rfl ?_; intro b16 w17 n18)
   (refine lw_init' [_, _, _, _] tabOk rfl rfl rfl rfl rfl rfl n18 rfl ?_; clear n18; clear w17; intro w19 n18)
   have h20 := New.blk n18
   have x21 := New.ext n18
   have p22 := New.pos n18
   have z23 := New.size n18
   clear n18
   replace h9 := RP.ext h9 x21
   replace h5 := Blk.ext h5 x21
   replace X := Fr.ext X x21
   clear x21
   refine cN (cM rfl rfl ?_)
   refine lw_does (does_call (by kernel_rfl) rfl (rtake_c _ _ _ _ (by assumption) (by decide)) (fun _ _ h => ⟨_, h.1⟩)) rfl ?_ (fun _ h => h)
   rintro _ w26 ⟨⟨⟩, ⟨h24, f25⟩⟩
   have z27 := Fr.size f25
   replace h20 := Blk.fr h20 f25 (by omega)
   clear h9
   replace h5 := Blk.fr h5 f25 (by omega)
   replace X := Fr.fr X f25 (by omega)
   clear f25
   refine cT (cw_seq (cS (cM rfl rfl ?_)))
   refine lw_does (does_call (by kernel_rfl) rfl (rhas_t _ _ _ _ (by assumption) (by decide) (by assumption)) (fun _ _ h => ⟨_, h.1⟩)) rfl ?_ (fun _ h => h)
   rintro _ w30 ⟨⟨⟩, ⟨h28, f29⟩⟩
   have z31 := Fr.size f29
   clear h24
   replace h20 := Blk.fr h20 f29 (by omega)
   replace h5 := Blk.fr h5 f29 (by omega)
   replace X := Fr.fr X f29 (by omega)
   clear f29
   refine cT (cw_cond_t rfl (cS (lw_loads_b' [_, _, _, _] tabOk rfl rfl rfl h20 rfl rfl rfl ?_)))
   (refine lw_store' [_, _, _, _] [_, _, _, _] tabOk rfl rfl rfl rfl rfl rfl h5 rfl rfl ?_; intro w32 n33)
   have h36 := Put.blk n33
   have f34 := Put.fr n33
   have z35 := Put.size n33
   clear n33 h5
   replace h28 := RP.fr h28 f34 (by omega)
   replace h20 := Blk.fr h20 f34 (by omega)
   replace X := Fr.fr X f34 (by omega)
   clear f34
   refine cT (cw_ret (qw_then_ret (qw_retc rfl tabOk rfl rfl rfl h36 rfl ?_)))
   rotate_left 1
  exact rtree_ret sits_nil (by assumption) X
 simp only [Bool.false_eq_true, if_false]
 have hm3 := mS_le hl3
 have hmt : mS c.ts σ ≤ c.ts.length := by unfold mS; split <;> omega
 refine calls_in Tryz.func119 Tryz.ntmps119 rfl rfl ?_
 focus
  refine cS ?_
  (refine lw_alloc' [_, _, _, _] zOk rfl rfl ?_; intro ba1 wa2 na3)
  have ha5 := New.blk na3
  have xa6 := New.ext na3
  have pa7 := New.pos na3
  have za8 := New.size na3
  clear na3
  replace hP := RP.ext hP xa6
  replace X := Fr.ext X xa6
  clear xa6
  refine cN (cM rfl rfl (cM rfl rfl ?_))
  refine lw_does (does_call (by kernel_rfl) rfl (hname (by assumption)) (fun _ _ h => ⟨_, h.1⟩)) rfl ?_ (fun _ h => h)
  rintro _ wa11 ⟨⟨⟩, ⟨ha9, fa10⟩⟩
  have za12 := Fr.size fa10
  replace ha5 := Blk.fr ha5 fa10 (by omega)
  clear hP
  replace X := Fr.fr X fa10 (by omega)
  clear fa10
  refine lw_does (does_call (by kernel_rfl) rfl (rnode0 _ _ _) (fun _ _ h => ⟨_, h.1⟩)) rfl ?_ (fun _ h => h)
  rintro _ wa14 ⟨⟨⟩, xa13⟩
  have za15 := Ext.size xa13
  replace ha9 := RP.ext ha9 xa13
  replace ha5 := Blk.ext ha5 xa13
  replace X := Fr.ext X xa13
  clear xa13
  (refine lw_alloc' [_, _, _, _] zOk rfl rfl ?_; intro ba16 wa17 na18)
  (refine lw_init' [_, _, _, _] tabOk rfl rfl rfl rfl rfl rfl na18 rfl ?_; clear na18; clear wa17; intro wa19 na18)
  have ha20 := New.blk na18
  have xa21 := New.ext na18
  have pa22 := New.pos na18
  have za23 := New.size na18
  clear na18
  replace ha9 := RP.ext ha9 xa21
  replace ha5 := Blk.ext ha5 xa21
  replace X := Fr.ext X xa21
  clear xa21
  refine cN (cM rfl rfl ?_)
  refine lw_does (does_call (by kernel_rfl) rfl (rtake_c _ _ _ _ (by assumption) (by decide)) (fun _ _ h => ⟨_, h.1⟩)) rfl ?_ (fun _ h => h)
  rintro _ wa26 ⟨⟨⟩, ⟨ha24, fa25⟩⟩
  have za27 := Fr.size fa25
  replace ha20 := Blk.fr ha20 fa25 (by omega)
  clear ha9
  replace ha5 := Blk.fr ha5 fa25 (by omega)
  replace X := Fr.fr X fa25 (by omega)
  clear fa25
  refine cT (cw_seq (cS (cM rfl rfl ?_)))
  refine lw_does (does_call (by kernel_rfl) rfl (rhas_f _ _ _ _ (by assumption) (by decide) (by assumption)) (fun _ _ h => ⟨_, h.1⟩)) rfl ?_ (fun _ h => h)
  rintro _ wa30 ⟨⟨⟩, ⟨ha28, fa29⟩⟩
  have za31 := Fr.size fa29
  clear ha24
  replace ha20 := Blk.fr ha20 fa29 (by omega)
  replace ha5 := Blk.fr ha5 fa29 (by omega)
  replace X := Fr.fr X fa29 (by omega)
  clear fa29
  refine cT (cw_cond_f rfl (cw_skip (qw_then (cw_seq (cw_block ?_)))))
  rotate_left 1
 clear hM hname
 refine cw_loop (ι := Nat × List Nd × Option Addr × Nat × PS) (fun _ => [(0, .pointer (some ⟨c.pb, 0, none⟩)), (4, .pointer (some ⟨ba1, 0, none⟩)), (5, .pointer (some ⟨ba16, 0, none⟩))])
  (fun x w' => RP c x.2.2.2.2 w' ∧ Blk w' ba16 [.int .u8 kind, .int .i64 0, str M.1, .slice x.2.2.1 x.2.1.length x.2.2.2.1] ∧ OwnL ndShape w' (ba16 + 1) 27 (.slice x.2.2.1 x.2.1.length x.2.2.2.1) x.2.1 ∧
   Blk w' ba1 [.int .u8 0, .int .i64 0, .string ⟨#[]⟩, .slice none 0 0] ∧ Fr (· = c.pb) w w' ∧ wa30.heap.size ≤ w'.heap.size ∧
   argsR c.ts c.n k [] (expectP c.ts c.n M.2 [40]) = argsR c.ts c.n x.1 x.2.1 x.2.2.2.2 ∧ (x.2.2.2.2.err = 0 → mS c.ts x.2.2.2.2 + 1 ≤ x.1) ∧ 1 ≤ x.1 ∧ x.2.1.length + mS c.ts x.2.2.2.2 ≤ 1000001) (fun x => x.1) (k, [], none, 0, expectP c.ts c.n M.2 [40]) (by (refine sub_cons rfl ?_; refine sub_cons rfl ?_; refine sub_cons rfl ?_; exact sub_nil))
  ⟨ha28, ha20, OwnL.nil, ha5, X, Nat.le_refl _, rfl, fun _ => by simp only; omega, by simp only; omega, by simp only [List.length_nil]; omega⟩ ?_
 rintro ⟨j, acc, a, cap, σ'⟩ w1 ⟨hP, hbn, hown, hbr, X, hz, he, hfj, hj1, hacc⟩
 simp only at hP hbn hown he hfj hj1 hacc
 rw [he]
 clear he ha20 ha5 ha28
 obtain ⟨j, rfl⟩ : ∃ i, j = i + 1 := ⟨j - 1, by omega⟩
 by_cases h0 : σ'.err = 0
 case neg =>
  rw [show argsR c.ts c.n (j + 1) acc σ' = (acc, σ') from by rw [argsR]; simp [h0]]
  focus
   refine cw_seq (cS (cM rfl rfl (lw_pure (pur_nilCheck rfl) rfl (lw_pure (pur_fieldAddr tabOk rfl rfl rfl) rfl (lw_load_b tabOk rfl rfl rfl (RP.blk hP) rfl rfl (lw_pure (pur_eql rfl rfl) rfl (cT ?_)))))))
   refine cw_no rfl (by assumption) ?_
   refine cw_exit (qw_then_exit (qw_then_exit (qw_block_exit (qw_then (cS (cM rfl rfl ?_))))))
   refine lw_does (does_call (by kernel_rfl) rfl (rtake_c _ _ _ _ (by assumption) (by decide)) (fun _ _ h => ⟨_, h.1⟩)) rfl ?_ (fun _ h => h)
   rintro _ wb3 ⟨⟨⟩, ⟨hb1, fb2⟩⟩
   have zb4 := Fr.size fb2
   clear hP
   replace hbn := Blk.fr hbn fb2 (by omega)
   replace hown := OwnL.fr hown fb2 (by omega)
   replace hbr := Blk.fr hbr fb2 (by omega)
   replace X := Fr.fr X fb2 (by omega)
   clear fb2
   refine cN (lw_loads_b' [_, _, _, _] tabOk rfl rfl rfl hbn rfl rfl rfl ?_)
   (refine lw_store' [_, _, _, _] [_, _, _, _] tabOk rfl rfl rfl rfl rfl rfl hbr rfl rfl ?_; intro wb5 nb6)
   have hb9 := Put.blk nb6
   have fb7 := Put.fr nb6
   have zb8 := Put.size nb6
   clear nb6 hbr
   replace hb1 := RP.fr hb1 fb7 (by omega)
   replace hbn := Blk.fr hbn fb7 (by omega)
   replace hown := OwnL.fr hown fb7 (by omega)
   replace X := Fr.fr X fb7 (by omega)
   clear fb7
   refine cT (cw_ret (qw_retc rfl tabOk rfl rfl rfl hb9 rfl ?_))
   rotate_left 1
  exact rtree_ret (sits_mk (OwnL.sits (by assumption) (fun b h => by omega))) (by assumption) X
 have hf0 := hfj h0
 have hpe : argsR.posR c.ts c.n σ' = posR c.ts c.n σ' := rfl
 have hal := name_le (n := c.n) hP.at_
 have hat : (argP c.ts c.n σ').2 = (nameP c.ts c.n σ').2 := rfl
 by_cases h8 : acc.length = 8
 · have hrl : Le c.ts σ' (failP (argP c.ts c.n σ').2 (posR c.ts c.n σ') 5) := hal.trans (fail_le hal.wf _ _)
   have hml := mS_le hrl
   have hno : hasP c.ts (failP (argP c.ts c.n σ').2 (posR c.ts c.n σ') 5) [44] = false := by
    have he := fail_err (σ := (argP c.ts c.n σ').2) (off := posR c.ts c.n σ') (e := 5) (by decide)
    unfold hasP
    rw [rpeek_off (Or.inl he)]
    decide
   rw [show argsR c.ts c.n (j + 1) acc σ' = (acc ++ [(argP c.ts c.n σ').1], failP (argP c.ts c.n σ').2 (posR c.ts c.n σ') 5) from by rw [argsR]; simp [h0, h8, hpe, hno]]
   focus
    refine cw_seq (cS (cM rfl rfl (lw_pure (pur_nilCheck rfl) rfl (lw_pure (pur_fieldAddr tabOk rfl rfl rfl) rfl (lw_load_b tabOk rfl rfl rfl (RP.blk hP) rfl rfl (lw_pure (pur_eql rfl rfl) rfl (cT ?_)))))))
    refine cw_yes rfl (by assumption) ?_
    refine cw_skip (qw_then (cw_block (cS (cM rfl rfl ?_))))
    refine lw_does (does_call (by kernel_rfl) rfl (rpos_c _ _ _ (by assumption)) (fun _ _ h => ⟨_, h.1⟩)) rfl ?_ (fun _ h => h)
    rintro _ wc2 ⟨⟨⟩, xc1⟩
    have zc3 := Ext.size xc1
    replace hP := RP.ext hP xc1
    replace hbn := Blk.ext hbn xc1
    replace hown := OwnL.ext hown xc1
    replace hbr := Blk.ext hbr xc1
    replace X := Fr.ext X xc1
    clear xc1
    refine cA rfl rfl (cN (cM rfl rfl ?_))
    refine lw_does (does_call (by kernel_rfl) rfl (rname_c _ _ _ (by assumption)) (fun _ _ h => ⟨_, h.1⟩)) rfl ?_ (fun _ h => h)
    rintro _ wc6 ⟨⟨⟩, ⟨hc4, fc5⟩⟩
    have zc7 := Fr.size fc5
    clear hP
    replace hbn := Blk.fr hbn fc5 (by omega)
    replace hown := OwnL.fr hown fc5 (by omega)
    replace hbr := Blk.fr hbr fc5 (by omega)
    replace X := Fr.fr X fc5 (by omega)
    clear fc5
    refine lw_does (does_call (by kernel_rfl) rfl (rnode0 _ _ _) (fun _ _ h => ⟨_, h.1⟩)) rfl ?_ (fun _ h => h)
    rintro _ wc9 ⟨⟨⟩, xc8⟩
    have zc10 := Ext.size xc8
    replace hc4 := RP.ext hc4 xc8
    replace hbn := Blk.ext hbn xc8
    replace hown := OwnL.ext hown xc8
    replace hbr := Blk.ext hbr xc8
    replace X := Fr.ext X xc8
    clear xc8
    (refine lw_alloc' [_, _, _, _] zOk rfl rfl ?_; intro bc11 wc12 nc13)
    (refine lw_init' [_, _, _, _] tabOk rfl rfl rfl rfl rfl rfl nc13 rfl ?_; clear nc13; clear wc12; intro wc14 nc13)
    have hc15 := New.blk nc13
    have xc16 := New.ext nc13
    have pc17 := New.pos nc13
    have zc18 := New.size nc13
    clear nc13
    replace hc4 := RP.ext hc4 xc16
    replace hbn := Blk.ext hbn xc16
    replace hown := OwnL.ext hown xc16
    replace hbr := Blk.ext hbr xc16
    replace X := Fr.ext X xc16
    clear xc16
    refine cT (cw_seq (cS (lw_pure (pur_fieldAddr tabOk rfl rfl rfl) rfl (lw_load_b tabOk rfl rfl rfl hbn rfl rfl (lw_pure (pur_len_slice tabOk rfl rfl) rfl (lw_pure (pur_eql rfl rfl) rfl (cT ?_)))))))
    refine cw_yes rfl (by omega) ?_
    refine cw_region (cM rfl rfl (cM rfl rfl ?_))
    refine lw_does (does_call (by kernel_rfl) rfl (rfail_c _ _ _ _ _ (by assumption)) (fun _ _ h => ⟨_, h.1⟩)) rfl ?_ (fun _ h => h)
    rintro _ wc21 ⟨⟨⟩, ⟨hc19, fc20⟩⟩
    have zc22 := Fr.size fc20
    replace hc15 := Blk.fr hc15 fc20 (by omega)
    clear hc4
    replace hbn := Blk.fr hbn fc20 (by omega)
    replace hown := OwnL.fr hown fc20 (by omega)
    replace hbr := Blk.fr hbr fc20 (by omega)
    replace X := Fr.fr X fc20 (by omega)
    clear fc20
    refine cN (lw_pure (pur_fieldAddr tabOk rfl rfl rfl) rfl (lw_load_b tabOk rfl rfl rfl hbn rfl rfl (lw_loads_b' [_, _, _, _] tabOk rfl rfl rfl hc15 rfl rfl rfl ?_)))
    (refine lw_does (does_slice' [_, _, _, _] tabOk zOk rfl rfl rfl rfl rfl rfl rfl rfl rfl) rfl ?_ (fun _ h => h); rintro _ wc24 ⟨bc23, rfl, nc25, tc26⟩)
    clear tc26
    have hc27 := New.blk nc25
    have xc28 := New.ext nc25
    have pc29 := New.pos nc25
    have zc30 := New.size nc25
    clear nc25
    replace hc19 := RP.ext hc19 xc28
    replace hc15 := Blk.ext hc15 xc28
    replace hbn := Blk.ext hbn xc28
    replace hown := OwnL.ext hown xc28
    replace hbr := Blk.ext hbr xc28
    replace X := Fr.ext X xc28
    clear xc28
    refine lw_appendL (sh := ndShape) tabOk zOk rfl rfl rfl rfl (by kernel_rfl) rfl rfl rfl hown (Blk.row (by assumption)) ⟨_, _, rfl, sits_nil⟩ (by omega) (by omega) rfl ?_
    rintro gc31 cap'c32 wc33 hc34 fc35
    have zc36 := Fr.size fc35
    clear hc27
    replace hc19 := RP.fr hc19 fc35 (by omega)
    clear hc15
    replace hbn := Blk.fr hbn fc35 (by omega)
    clear hown
    replace hbr := Blk.fr hbr fc35 (by omega)
    replace X := Fr.fr X fc35 (by omega)
    clear fc35
    refine lw_pure (pur_fieldAddr tabOk rfl rfl rfl) rfl ?_
    (refine lw_store' [_] [_, _, _, _] tabOk rfl rfl rfl rfl rfl rfl hbn rfl rfl ?_; intro wc37 nc38)
    have hc41 := Put.blk nc38
    have fc39 := Put.fr nc38
    have zc40 := Put.size nc38
    clear nc38 hbn
    replace hc34 := OwnL.fr hc34 fc39 (by omega)
    replace hc19 := RP.fr hc19 fc39 (by omega)
    replace hbr := Blk.fr hbr fc39 (by omega)
    replace X := Fr.fr X fc39 (by omega)
    clear fc39
    refine cN (cM rfl rfl ?_)
    refine lw_does (does_call (by kernel_rfl) rfl (rhas_f _ _ _ _ (by assumption) (by decide) (by assumption)) (fun _ _ h => ⟨_, h.1⟩)) rfl ?_ (fun _ h => h)
    rintro _ wc44 ⟨⟨⟩, ⟨hc42, fc43⟩⟩
    have zc45 := Fr.size fc43
    replace hc41 := Blk.fr hc41 fc43 (by omega)
    replace hc34 := OwnL.fr hc34 fc43 (by omega)
    clear hc19
    replace hbr := Blk.fr hbr fc43 (by omega)
    replace X := Fr.fr X fc43 (by omega)
    clear fc43
    refine lw_pure (pur_not rfl) rfl (cT (cw_cond_t rfl (cw_exit (qw_block_pass rfl (qw_then_exit (qw_block_exit (qw_then (cS (cM rfl rfl ?_)))))))))
    refine lw_does (does_call (by kernel_rfl) rfl (rtake_c _ _ _ _ (by assumption) (by decide)) (fun _ _ h => ⟨_, h.1⟩)) rfl ?_ (fun _ h => h)
    rintro _ wc48 ⟨⟨⟩, ⟨hc46, fc47⟩⟩
    have zc49 := Fr.size fc47
    clear hc42
    replace hc41 := Blk.fr hc41 fc47 (by omega)
    replace hc34 := OwnL.fr hc34 fc47 (by omega)
    replace hbr := Blk.fr hbr fc47 (by omega)
    replace X := Fr.fr X fc47 (by omega)
    clear fc47
    refine cN (lw_loads_b' [_, _, _, _] tabOk rfl rfl rfl hc41 rfl rfl rfl ?_)
    (refine lw_store' [_, _, _, _] [_, _, _, _] tabOk rfl rfl rfl rfl rfl rfl hbr rfl rfl ?_; intro wc50 nc51)
    have hc54 := Put.blk nc51
    have fc52 := Put.fr nc51
    have zc53 := Put.size nc51
    clear nc51 hbr
    replace hc46 := RP.fr hc46 fc52 (by omega)
    replace hc41 := Blk.fr hc41 fc52 (by omega)
    replace hc34 := OwnL.fr hc34 fc52 (by omega)
    replace X := Fr.fr X fc52 (by omega)
    clear fc52
    refine cT (cw_ret (qw_retc rfl tabOk rfl rfl rfl hc54 rfl ?_))
    rotate_left 1
   exact rtree_ret (sits_mk (OwnL.sits (by assumption) (fun b h => by omega))) (by assumption) X
 · have hrl : Le c.ts σ' (argP c.ts c.n σ').2 := hal
   have hml := mS_le hrl
   cases hc : hasP c.ts (argP c.ts c.n σ').2 [44]
   case false =>
    rw [show argsR c.ts c.n (j + 1) acc σ' = (acc ++ [(argP c.ts c.n σ').1], (argP c.ts c.n σ').2) from by rw [argsR]; simp [h0, h8, hpe, hc]]
    focus
     refine cw_seq (cS (cM rfl rfl (lw_pure (pur_nilCheck rfl) rfl (lw_pure (pur_fieldAddr tabOk rfl rfl rfl) rfl (lw_load_b tabOk rfl rfl rfl (RP.blk hP) rfl rfl (lw_pure (pur_eql rfl rfl) rfl (cT ?_)))))))
     refine cw_yes rfl (by assumption) ?_
     refine cw_skip (qw_then (cw_block (cS (cM rfl rfl ?_))))
     refine lw_does (does_call (by kernel_rfl) rfl (rpos_c _ _ _ (by assumption)) (fun _ _ h => ⟨_, h.1⟩)) rfl ?_ (fun _ h => h)
     rintro _ wd2 ⟨⟨⟩, xd1⟩
     have zd3 := Ext.size xd1
     replace hP := RP.ext hP xd1
     replace hbn := Blk.ext hbn xd1
     replace hown := OwnL.ext hown xd1
     replace hbr := Blk.ext hbr xd1
     replace X := Fr.ext X xd1
     clear xd1
     refine cA rfl rfl (cN (cM rfl rfl ?_))
     refine lw_does (does_call (by kernel_rfl) rfl (rname_c _ _ _ (by assumption)) (fun _ _ h => ⟨_, h.1⟩)) rfl ?_ (fun _ h => h)
     rintro _ wd6 ⟨⟨⟩, ⟨hd4, fd5⟩⟩
     have zd7 := Fr.size fd5
     clear hP
     replace hbn := Blk.fr hbn fd5 (by omega)
     replace hown := OwnL.fr hown fd5 (by omega)
     replace hbr := Blk.fr hbr fd5 (by omega)
     replace X := Fr.fr X fd5 (by omega)
     clear fd5
     refine lw_does (does_call (by kernel_rfl) rfl (rnode0 _ _ _) (fun _ _ h => ⟨_, h.1⟩)) rfl ?_ (fun _ h => h)
     rintro _ wd9 ⟨⟨⟩, xd8⟩
     have zd10 := Ext.size xd8
     replace hd4 := RP.ext hd4 xd8
     replace hbn := Blk.ext hbn xd8
     replace hown := OwnL.ext hown xd8
     replace hbr := Blk.ext hbr xd8
     replace X := Fr.ext X xd8
     clear xd8
     (refine lw_alloc' [_, _, _, _] zOk rfl rfl ?_; intro bd11 wd12 nd13)
     (refine lw_init' [_, _, _, _] tabOk rfl rfl rfl rfl rfl rfl nd13 rfl ?_; clear nd13; clear wd12; intro wd14 nd13)
     have hd15 := New.blk nd13
     have xd16 := New.ext nd13
     have pd17 := New.pos nd13
     have zd18 := New.size nd13
     clear nd13
     replace hd4 := RP.ext hd4 xd16
     replace hbn := Blk.ext hbn xd16
     replace hown := OwnL.ext hown xd16
     replace hbr := Blk.ext hbr xd16
     replace X := Fr.ext X xd16
     clear xd16
     refine cT (cw_seq (cS (lw_pure (pur_fieldAddr tabOk rfl rfl rfl) rfl (lw_load_b tabOk rfl rfl rfl hbn rfl rfl (lw_pure (pur_len_slice tabOk rfl rfl) rfl (lw_pure (pur_eql rfl rfl) rfl (cT ?_)))))))
     refine cw_no rfl (by omega) ?_
     refine cw_skip (qw_then (cS (lw_pure (pur_fieldAddr tabOk rfl rfl rfl) rfl (lw_load_b tabOk rfl rfl rfl hbn rfl rfl (lw_loads_b' [_, _, _, _] tabOk rfl rfl rfl hd15 rfl rfl rfl ?_)))))
     (refine lw_does (does_slice' [_, _, _, _] tabOk zOk rfl rfl rfl rfl rfl rfl rfl rfl rfl) rfl ?_ (fun _ h => h); rintro _ wd20 ⟨bd19, rfl, nd21, td22⟩)
     clear td22
     have hd23 := New.blk nd21
     have xd24 := New.ext nd21
     have pd25 := New.pos nd21
     have zd26 := New.size nd21
     clear nd21
     replace hd15 := Blk.ext hd15 xd24
     replace hd4 := RP.ext hd4 xd24
     replace hbn := Blk.ext hbn xd24
     replace hown := OwnL.ext hown xd24
     replace hbr := Blk.ext hbr xd24
     replace X := Fr.ext X xd24
     clear xd24
     refine lw_appendL (sh := ndShape) tabOk zOk rfl rfl rfl rfl (by kernel_rfl) rfl rfl rfl hown (Blk.row (by assumption)) ⟨_, _, rfl, sits_nil⟩ (by omega) (by omega) rfl ?_
     rintro gd27 cap'd28 wd29 hd30 fd31
     have zd32 := Fr.size fd31
     clear hd23 hd15
     replace hd4 := RP.fr hd4 fd31 (by omega)
     replace hbn := Blk.fr hbn fd31 (by omega)
     clear hown
     replace hbr := Blk.fr hbr fd31 (by omega)
     replace X := Fr.fr X fd31 (by omega)
     clear fd31
     refine lw_pure (pur_fieldAddr tabOk rfl rfl rfl) rfl ?_
     (refine lw_store' [_] [_, _, _, _] tabOk rfl rfl rfl rfl rfl rfl hbn rfl rfl ?_; intro wd33 nd34)
     have hd37 := Put.blk nd34
     have fd35 := Put.fr nd34
     have zd36 := Put.size nd34
     clear nd34 hbn
     replace hd30 := OwnL.fr hd30 fd35 (by omega)
     replace hd4 := RP.fr hd4 fd35 (by omega)
     replace hbr := Blk.fr hbr fd35 (by omega)
     replace X := Fr.fr X fd35 (by omega)
     clear fd35
     refine cN (cM rfl rfl ?_)
     refine lw_does (does_call (by kernel_rfl) rfl (rhas_f _ _ _ _ (by assumption) (by decide) (by assumption)) (fun _ _ h => ⟨_, h.1⟩)) rfl ?_ (fun _ h => h)
     rintro _ wd40 ⟨⟨⟩, ⟨hd38, fd39⟩⟩
     have zd41 := Fr.size fd39
     replace hd37 := Blk.fr hd37 fd39 (by omega)
     replace hd30 := OwnL.fr hd30 fd39 (by omega)
     clear hd4
     replace hbr := Blk.fr hbr fd39 (by omega)
     replace X := Fr.fr X fd39 (by omega)
     clear fd39
     refine lw_pure (pur_not rfl) rfl (cT (cw_cond_t rfl (cw_exit (qw_block_pass rfl (qw_then_exit (qw_block_exit (qw_then (cS (cM rfl rfl ?_)))))))))
     refine lw_does (does_call (by kernel_rfl) rfl (rtake_c _ _ _ _ (by assumption) (by decide)) (fun _ _ h => ⟨_, h.1⟩)) rfl ?_ (fun _ h => h)
     rintro _ wd44 ⟨⟨⟩, ⟨hd42, fd43⟩⟩
     have zd45 := Fr.size fd43
     clear hd38
     replace hd37 := Blk.fr hd37 fd43 (by omega)
     replace hd30 := OwnL.fr hd30 fd43 (by omega)
     replace hbr := Blk.fr hbr fd43 (by omega)
     replace X := Fr.fr X fd43 (by omega)
     clear fd43
     refine cN (lw_loads_b' [_, _, _, _] tabOk rfl rfl rfl hd37 rfl rfl rfl ?_)
     (refine lw_store' [_, _, _, _] [_, _, _, _] tabOk rfl rfl rfl rfl rfl rfl hbr rfl rfl ?_; intro wd46 nd47)
     have hd50 := Put.blk nd47
     have fd48 := Put.fr nd47
     have zd49 := Put.size nd47
     clear nd47 hbr
     replace hd42 := RP.fr hd42 fd48 (by omega)
     replace hd37 := Blk.fr hd37 fd48 (by omega)
     replace hd30 := OwnL.fr hd30 fd48 (by omega)
     replace X := Fr.fr X fd48 (by omega)
     clear fd48
     refine cT (cw_ret (qw_retc rfl tabOk rfl rfl rfl hd50 rfl ?_))
     rotate_left 1
    exact rtree_ret (sits_mk (OwnL.sits (by assumption) (fun b h => by omega))) (by assumption) X
   have hin := has_in hrl.wf hc (by decide)
   have hmn := mS_next hin
   rw [show argsR c.ts c.n (j + 1) acc σ' = argsR c.ts c.n j (acc ++ [(argP c.ts c.n σ').1]) (nextP (argP c.ts c.n σ').2) from by rw [argsR]; simp [h0, h8, hpe, hc]]
   focus
    refine cw_seq (cS (cM rfl rfl (lw_pure (pur_nilCheck rfl) rfl (lw_pure (pur_fieldAddr tabOk rfl rfl rfl) rfl (lw_load_b tabOk rfl rfl rfl (RP.blk hP) rfl rfl (lw_pure (pur_eql rfl rfl) rfl (cT ?_)))))))
    refine cw_yes rfl (by assumption) ?_
    refine cw_skip (qw_then (cw_block (cS (cM rfl rfl ?_))))
    refine lw_does (does_call (by kernel_rfl) rfl (rpos_c _ _ _ (by assumption)) (fun _ _ h => ⟨_, h.1⟩)) rfl ?_ (fun _ h => h)
    rintro _ we2 ⟨⟨⟩, xe1⟩
    have ze3 := Ext.size xe1
    replace hP := RP.ext hP xe1
    replace hbn := Blk.ext hbn xe1
    replace hown := OwnL.ext hown xe1
    replace hbr := Blk.ext hbr xe1
    replace X := Fr.ext X xe1
    clear xe1
    refine cA rfl rfl (cN (cM rfl rfl ?_))
    refine lw_does (does_call (by kernel_rfl) rfl (rname_c _ _ _ (by assumption)) (fun _ _ h => ⟨_, h.1⟩)) rfl ?_ (fun _ h => h)
    rintro _ we6 ⟨⟨⟩, ⟨he4, fe5⟩⟩
    have ze7 := Fr.size fe5
    clear hP
    replace hbn := Blk.fr hbn fe5 (by omega)
    replace hown := OwnL.fr hown fe5 (by omega)
    replace hbr := Blk.fr hbr fe5 (by omega)
    replace X := Fr.fr X fe5 (by omega)
    clear fe5
    refine lw_does (does_call (by kernel_rfl) rfl (rnode0 _ _ _) (fun _ _ h => ⟨_, h.1⟩)) rfl ?_ (fun _ h => h)
    rintro _ we9 ⟨⟨⟩, xe8⟩
    have ze10 := Ext.size xe8
    replace he4 := RP.ext he4 xe8
    replace hbn := Blk.ext hbn xe8
    replace hown := OwnL.ext hown xe8
    replace hbr := Blk.ext hbr xe8
    replace X := Fr.ext X xe8
    clear xe8
    (refine lw_alloc' [_, _, _, _] zOk rfl rfl ?_; intro be11 we12 ne13)
    (refine lw_init' [_, _, _, _] tabOk rfl rfl rfl rfl rfl rfl ne13 rfl ?_; clear ne13; clear we12; intro we14 ne13)
    have he15 := New.blk ne13
    have xe16 := New.ext ne13
    have pe17 := New.pos ne13
    have ze18 := New.size ne13
    clear ne13
    replace he4 := RP.ext he4 xe16
    replace hbn := Blk.ext hbn xe16
    replace hown := OwnL.ext hown xe16
    replace hbr := Blk.ext hbr xe16
    replace X := Fr.ext X xe16
    clear xe16
    refine cT (cw_seq (cS (lw_pure (pur_fieldAddr tabOk rfl rfl rfl) rfl (lw_load_b tabOk rfl rfl rfl hbn rfl rfl (lw_pure (pur_len_slice tabOk rfl rfl) rfl (lw_pure (pur_eql rfl rfl) rfl (cT ?_)))))))
    refine cw_no rfl (by omega) ?_
    refine cw_skip (qw_then (cS (lw_pure (pur_fieldAddr tabOk rfl rfl rfl) rfl (lw_load_b tabOk rfl rfl rfl hbn rfl rfl (lw_loads_b' [_, _, _, _] tabOk rfl rfl rfl he15 rfl rfl rfl ?_)))))
    (refine lw_does (does_slice' [_, _, _, _] tabOk zOk rfl rfl rfl rfl rfl rfl rfl rfl rfl) rfl ?_ (fun _ h => h); rintro _ we20 ⟨be19, rfl, ne21, te22⟩)
    clear te22
    have he23 := New.blk ne21
    have xe24 := New.ext ne21
    have pe25 := New.pos ne21
    have ze26 := New.size ne21
    clear ne21
    replace he15 := Blk.ext he15 xe24
    replace he4 := RP.ext he4 xe24
    replace hbn := Blk.ext hbn xe24
    replace hown := OwnL.ext hown xe24
    replace hbr := Blk.ext hbr xe24
    replace X := Fr.ext X xe24
    clear xe24
    refine lw_appendL (sh := ndShape) tabOk zOk rfl rfl rfl rfl (by kernel_rfl) rfl rfl rfl hown (Blk.row (by assumption)) ⟨_, _, rfl, sits_nil⟩ (by omega) (by omega) rfl ?_
    rintro ge27 cap'e28 we29 he30 fe31
    have ze32 := Fr.size fe31
    clear he23 he15
    replace he4 := RP.fr he4 fe31 (by omega)
    replace hbn := Blk.fr hbn fe31 (by omega)
    clear hown
    replace hbr := Blk.fr hbr fe31 (by omega)
    replace X := Fr.fr X fe31 (by omega)
    clear fe31
    refine lw_pure (pur_fieldAddr tabOk rfl rfl rfl) rfl ?_
    (refine lw_store' [_] [_, _, _, _] tabOk rfl rfl rfl rfl rfl rfl hbn rfl rfl ?_; intro we33 ne34)
    have he37 := Put.blk ne34
    have fe35 := Put.fr ne34
    have ze36 := Put.size ne34
    clear ne34 hbn
    replace he30 := OwnL.fr he30 fe35 (by omega)
    replace he4 := RP.fr he4 fe35 (by omega)
    replace hbr := Blk.fr hbr fe35 (by omega)
    replace X := Fr.fr X fe35 (by omega)
    clear fe35
    refine cN (cM rfl rfl ?_)
    refine lw_does (does_call (by kernel_rfl) rfl (rhas_t _ _ _ _ (by assumption) (by decide) (by assumption)) (fun _ _ h => ⟨_, h.1⟩)) rfl ?_ (fun _ h => h)
    rintro _ we40 ⟨⟨⟩, ⟨he38, fe39⟩⟩
    have ze41 := Fr.size fe39
    replace he37 := Blk.fr he37 fe39 (by omega)
    replace he30 := OwnL.fr he30 fe39 (by omega)
    clear he4
    replace hbr := Blk.fr hbr fe39 (by omega)
    replace X := Fr.fr X fe39 (by omega)
    clear fe39
    refine lw_pure (pur_not rfl) rfl (cT (cw_cond_f rfl (cw_skip (qw_block_norm ?_))))
    rotate_left 1
   refine qw_round (j, acc ++ [(argP c.ts c.n σ').1], some ⟨_, 0, none⟩, _, nextP (argP c.ts c.n σ').2) (by (refine sub_cons rfl ?_; refine sub_cons rfl ?_; refine sub_cons rfl ?_; exact sub_nil)) ⟨by assumption, by assumption, by assumption, by assumption, X, by omega, rfl, fun _ => by simp only; omega, by simp only; omega, by simp only [List.length_append, List.length_cons, List.length_nil]; omega⟩ (by simp)
end Bk
namespace Bk
open Go Go.RowKit Go.Proofs
attribute [local irreducible] Go.Calls
structure RStmtsC (c : RC) (k : Nat) : Prop where
 stmt : ∀ (σ : PS) (w : World), RP c σ w → 12 * mS c.ts σ + 14 ≤ k → Calls Tryz.prog 94 #[.pointer (some ⟨c.pb, 0, none⟩)] w (RTreeR c w (stmtR c.ts c.n k σ))
 stmts : ∀ (σ : PS) (w : World), RP c σ w → (σ.err = 0 → 12 * mS c.ts σ + 15 ≤ k) → 1 ≤ k → Calls Tryz.prog 46 #[.pointer (some ⟨c.pb, 0, none⟩)] w (RTreeR c w (.mk 57 0 [] (stmtsR c.ts c.n k [] σ).1, (stmtsR c.ts c.n k [] σ).2))
 body : ∀ (σ : PS) (w : World), RP c σ w → 12 * mS c.ts σ + 16 ≤ k → Calls Tryz.prog 78 #[.pointer (some ⟨c.pb, 0, none⟩)] w (RTreeR c w (bodyR c.ts c.n k σ))
theorem idx2 {a b t : List UInt8} (h1 : t ≠ a) (h2 : t ≠ b) : idxF [a, b] t 0 = -1 := by
 rw [idxF, if_neg (Ne.symm h1), idxF, if_neg (Ne.symm h2), idxF]
theorem idx4 {a b c d t : List UInt8} (h1 : t ≠ a) (h2 : t ≠ b) (h3 : t ≠ c) (h4 : t ≠ d) : idxF [a, b, c, d] t 0 = -1 := by
 rw [idxF, if_neg (Ne.symm h1), idxF, if_neg (Ne.symm h2), idxF, if_neg (Ne.symm h3), idxF, if_neg (Ne.symm h4), idxF]
set_option maxRecDepth 100000 in
set_option maxHeartbeats 1000000 in
theorem rbody_w (c : RC) (k : Nat) (IH : ∀ j, j ≤ k → RStmtsC c j) (σ : PS) (w : World) (hP : RP c σ w) (hk : 12 * mS c.ts σ + 16 ≤ k + 1) : Calls Tryz.prog 78 #[.pointer (some ⟨c.pb, 0, none⟩)] w (RTreeR c w (bodyR c.ts c.n (k + 1) σ)) := by
 have X := Fr.refl (· = c.pb) w
 have hpb := hP.pbB
 have hB := hP.B
 have l1 := expect_le (n := c.n) (t := [123]) hP.at_ (by decide)
 have m1 := mS_le l1
 rw [bodyR]
 (try dsimp only)
 refine calls_in Tryz.func78 Tryz.ntmps78 rfl rfl ?_
 focus
  refine cS ?_
  (refine lw_alloc' [_, _, _, _] zOk rfl rfl ?_; intro b1 w2 n3)
  have h5 := New.blk n3
  have x6 := New.ext n3
  have p7 := New.pos n3
  have z8 := New.size n3
  clear n3
  replace hP := RP.ext hP x6
  replace X := Fr.ext X x6
  clear x6
  refine cN (cM rfl rfl ?_)
  refine lw_does (does_call (by kernel_rfl) rfl (rtake_c _ _ _ _ (by assumption) (by decide)) (fun _ _ h => ⟨_, h.1⟩)) rfl ?_ (fun _ h => h)
  rintro _ w11 ⟨⟨⟩, ⟨h9, f10⟩⟩
  have z12 := Fr.size f10
  replace h5 := Blk.fr h5 f10 (by omega)
  clear hP
  replace X := Fr.fr X f10 (by omega)
  clear f10
  refine cN (cM rfl rfl ?_)
  refine lw_does (does_call (by kernel_rfl) rfl ((IH k (Nat.le_refl _)).stmts _ _ (by assumption) (fun _ => by omega) (by omega)) (fun _ _ h => h.ret)) rfl ?_ (fun _ h => h)
  rintro _ w18 ⟨a13, ⟨k14, ⟨⟨⟩, ⟨h15, ⟨h16, f17⟩⟩⟩⟩⟩
  have z19 := Fr.size f17
  clear h9
  replace h5 := Blk.fr h5 f17 (by omega)
  replace X := Fr.fr X f17 (by omega)
  clear f17
  (refine lw_alloc' [_, _, _, _] zOk rfl rfl ?_; intro b20 w21 n22)
  (refine lw_init' [_, _, _, _] tabOk rfl rfl rfl rfl rfl rfl n22 rfl ?_; clear n22; clear w21; intro w23 n22)
  have h24 := New.blk n22
  dsimp only at h24
  have x25 := New.ext n22
  have p26 := New.pos n22
  have z27 := New.size n22
  clear n22
  replace h15 := Nd.sits.ext h15 x25
  replace h16 := RP.ext h16 x25
  replace h5 := Blk.ext h5 x25
  replace X := Fr.ext X x25
  clear x25
  refine cN (cM rfl rfl ?_)
  refine lw_does (does_call (by kernel_rfl) rfl (rtake_c _ _ _ _ (by assumption) (by decide)) (fun _ _ h => ⟨_, h.1⟩)) rfl ?_ (fun _ h => h)
  rintro _ w30 ⟨⟨⟩, ⟨h28, f29⟩⟩
  have z31 := Fr.size f29
  replace h24 := Blk.fr h24 f29 (by omega)
  replace h15 := Nd.sits.fr h15 f29 (by omega)
  clear h16
  replace h5 := Blk.fr h5 f29 (by omega)
  replace X := Fr.fr X f29 (by omega)
  clear f29
  refine cN (lw_loads_b' [_, _, _, _] tabOk rfl rfl rfl h24 rfl rfl rfl ?_)
  (refine lw_store' [_, _, _, _] [_, _, _, _] tabOk rfl rfl rfl rfl rfl rfl h5 rfl rfl ?_; intro w32 n33)
  have h36 := Put.blk n33
  have f34 := Put.fr n33
  have z35 := Put.size n33
  clear n33 h5
  replace h28 := RP.fr h28 f34 (by omega)
  replace h24 := Blk.fr h24 f34 (by omega)
  replace h15 := Nd.sits.fr h15 f34 (by omega)
  replace X := Fr.fr X f34 (by omega)
  clear f34
  refine cT (cw_ret (qw_retc rfl tabOk rfl rfl rfl h36 rfl ?_))
  rotate_left 1
 exact rtree_ret (Nd.sits.wide (by assumption) (fun b h => by omega)) (by assumption) X
set_option maxRecDepth 100000 in
set_option maxHeartbeats 16000000 in
theorem rstmt_w (c : RC) (k : Nat) (IH : ∀ j, j ≤ k → RStmtsC c j) (σ : PS) (w : World) (hP : RP c σ w) (hk : 12 * mS c.ts σ + 14 ≤ k + 1) : Calls Tryz.prog 94 #[.pointer (some ⟨c.pb, 0, none⟩)] w (RTreeR c w (stmtR c.ts c.n (k + 1) σ)) := by
 have X := Fr.refl (· = c.pb) w
 have hpb := hP.pbB
 have hB := hP.B
 have hlen := hP.len
 have hin : ∀ t : List UInt8, (peekP c.ts σ).text = t → t ≠ [] → In c.ts σ := fun t h ht => peek_in hP.at_ (Or.inl (by rw [h]; exact ht))
 have HIN := Lib.hid hin; clear hin
 obtain ⟨k, rfl⟩ : ∃ i, k = i + 1 := ⟨k - 1, by omega⟩
 rw [stmtR]
 by_cases e0 : (peekP c.ts σ).text = [112, 117, 115, 104]
 · rw [if_pos e0]
   have hin := HIN.out _ e0 (by decide)
   have h2 := hin.2
   have hm := mS_next hin
   have i1 : idxF [[112, 117, 115, 104], [112, 111, 112]] (peekP c.ts σ).text 0 = 0 := by rw [e0]; decide
   rw [show stackR c.ts c.n (k + 1) 44 σ = stackR c.ts c.n (k + 1) (44 + idxF [[112, 117, 115, 104], [112, 111, 112]] (peekP c.ts σ).text 0) σ from by rw [i1]; rfl]
   unfold stackR
   (try dsimp only)
   refine calls_in Tryz.func94 Tryz.ntmps94 rfl rfl ?_
   focus
    refine cS ?_
    (refine lw_alloc' [_, _, _, _] zOk rfl rfl ?_; intro b1 w2 n3)
    have h5 := New.blk n3
    have x6 := New.ext n3
    have p7 := New.pos n3
    have z8 := New.size n3
    clear n3
    replace hP := RP.ext hP x6
    replace X := Fr.ext X x6
    clear x6
    refine cN (cM rfl rfl ?_)
    refine lw_does (does_call (by kernel_rfl) rfl (rpeek_c _ _ _ (by assumption)) (fun _ _ h => ⟨_, h.1⟩)) rfl ?_ (fun _ h => h)
    rintro _ w10 ⟨⟨⟩, x9⟩
    have z11 := Ext.size x9
    replace h5 := Blk.ext h5 x9
    replace hP := RP.ext hP x9
    replace X := Fr.ext X x9
    clear x9
    refine cA rfl rfl (cT (cw_seq (cS ?_)))
    (refine lw_does (does_slice' [_, _] tabOk zOk rfl rfl rfl rfl rfl rfl rfl rfl rfl) rfl ?_ (fun _ h => h); rintro _ w13 ⟨b12, rfl, n14, t15⟩)
    clear t15
    have h16 := New.blk n14
    have x17 := New.ext n14
    have p18 := New.pos n14
    have z19 := New.size n14
    clear n14
    replace h5 := Blk.ext h5 x17
    replace hP := RP.ext hP x17
    replace X := Fr.ext X x17
    clear x17
    refine cM rfl rfl ?_
    refine lw_does (does_call (by kernel_rfl) rfl (rindex_c [[112, 117, 115, 104], [112, 111, 112]] _ _ _ _ (by decide) (Blk.row (by assumption))) (fun _ _ h => ⟨_, h.1⟩)) rfl ?_ (fun _ h => h)
    rintro _ w20 ⟨⟨⟩, rfl⟩
    refine cA rfl rfl (cN (cM rfl rfl (lw_pure (pur_geq rfl rfl) rfl (cT ?_))))
    refine cw_yes rfl (by omega) ?_
    refine cS (cM rfl rfl (cM rfl rfl (lw_pure (pur_nilCheck rfl) rfl (lw_pure (pur_fieldAddr tabOk rfl rfl rfl) rfl (lw_load_b tabOk rfl rfl rfl (RP.blk hP) rfl rfl ?_)))))
    refine lw_pure (pur_add rfl rfl (IntWalk.i64_in _ (by omega))) rfl ?_
    refine lw_pure (pur_nilCheck rfl) rfl (lw_pure (pur_fieldAddr tabOk rfl rfl rfl) rfl ?_)
    refine lw_rp_at tabOk rfl rfl rfl rfl (by assumption) h2 ?_
    rintro w21 h22 f23
    have z24 := Fr.size f23
    replace h16 := Blk.fr h16 f23 (by omega)
    replace h5 := Blk.fr h5 f23 (by omega)
    clear hP
    replace X := Fr.fr X f23 (by omega)
    clear f23
    refine cN (cM rfl rfl ?_)
    refine lw_pure (pur_conv tabOk rfl rfl rfl (u8_wrap _ (by omega) (by omega))) rfl ?_
    refine lw_pure (pur_add rfl rfl (u8_wrap _ (by omega) (by omega))) rfl ?_
    refine cM rfl rfl ?_
    refine lw_does (does_call (by kernel_rfl) rfl ((rexprs_c c (k + 1)).place _ _ (by assumption) (by omega)) (fun _ _ h => h.ret)) rfl ?_ (fun _ h => h)
    rintro _ w30 ⟨a25, ⟨k26, ⟨⟨⟩, ⟨h27, ⟨h28, f29⟩⟩⟩⟩⟩
    have z31 := Fr.size f29
    clear h22
    replace h16 := Blk.fr h16 f29 (by omega)
    replace h5 := Blk.fr h5 f29 (by omega)
    replace X := Fr.fr X f29 (by omega)
    clear f29
    (refine lw_does (does_slice' [_, _, _, _] tabOk zOk rfl rfl rfl rfl rfl rfl rfl rfl rfl) rfl ?_ (fun _ h => h); rintro _ w33 ⟨b32, rfl, n34, t35⟩)
    clear t35
    have h36 := New.blk n34
    have x37 := New.ext n34
    have p38 := New.pos n34
    have z39 := New.size n34
    clear n34
    replace h27 := Nd.sits.ext h27 x37
    replace h28 := RP.ext h28 x37
    replace h16 := Blk.ext h16 x37
    replace h5 := Blk.ext h5 x37
    replace X := Fr.ext X x37
    clear x37
    refine lw_does (does_call (by kernel_rfl) rfl (rnode1 _ _ _ _ _ _ _ _ _ (by assumption) (by assumption)) (fun _ _ h => h.ret)) rfl ?_ (fun _ h => h)
    rintro _ w44 ⟨a40, ⟨k41, ⟨⟨⟩, ⟨h42, x43⟩⟩⟩⟩
    have z45 := Ext.size x43
    replace h36 := Blk.ext h36 x43
    replace h27 := Nd.sits.ext h27 x43
    replace h28 := RP.ext h28 x43
    replace h16 := Blk.ext h16 x43
    replace h5 := Blk.ext h5 x43
    replace X := Fr.ext X x43
    clear x43
    (refine lw_alloc' [_, _, _, _] zOk rfl rfl ?_; intro b46 w47 n48)
    (refine lw_init' [_, _, _, _] tabOk rfl rfl rfl rfl rfl rfl n48 rfl ?_; clear n48; clear w47; intro w49 n48)
    have h50 := New.blk n48
    have x51 := New.ext n48
    have p52 := New.pos n48
    have z53 := New.size n48
    clear n48
    replace h42 := Nd.sits.ext h42 x51
    replace h36 := Blk.ext h36 x51
    replace h27 := Nd.sits.ext h27 x51
    replace h28 := RP.ext h28 x51
    replace h16 := Blk.ext h16 x51
    replace h5 := Blk.ext h5 x51
    replace X := Fr.ext X x51
    clear x51
    refine cN (cM rfl rfl ?_)
    refine lw_does (does_call (by kernel_rfl) rfl (rtake_c _ _ _ _ (by assumption) (by decide)) (fun _ _ h => ⟨_, h.1⟩)) rfl ?_ (fun _ h => h)
    rintro _ w56 ⟨⟨⟩, ⟨h54, f55⟩⟩
    have z57 := Fr.size f55
    replace h50 := Blk.fr h50 f55 (by omega)
    replace h42 := Nd.sits.fr h42 f55 (by omega)
    replace h36 := Blk.fr h36 f55 (by omega)
    replace h27 := Nd.sits.fr h27 f55 (by omega)
    clear h28
    replace h16 := Blk.fr h16 f55 (by omega)
    replace h5 := Blk.fr h5 f55 (by omega)
    replace X := Fr.fr X f55 (by omega)
    clear f55
    refine cN (cM rfl rfl ?_)
    refine lw_does (does_call (by kernel_rfl) rfl (rname_c _ _ _ (by assumption)) (fun _ _ h => ⟨_, h.1⟩)) rfl ?_ (fun _ h => h)
    rintro _ w60 ⟨⟨⟩, ⟨h58, f59⟩⟩
    have z61 := Fr.size f59
    clear h54
    replace h50 := Blk.fr h50 f59 (by omega)
    replace h42 := Nd.sits.fr h42 f59 (by omega)
    replace h36 := Blk.fr h36 f59 (by omega)
    replace h27 := Nd.sits.fr h27 f59 (by omega)
    replace h16 := Blk.fr h16 f59 (by omega)
    replace h5 := Blk.fr h5 f59 (by omega)
    replace X := Fr.fr X f59 (by omega)
    clear f59
    refine lw_pure (pur_fieldAddr tabOk rfl rfl rfl) rfl ?_
    (refine lw_store' [_] [_, _, _, _] tabOk rfl rfl rfl rfl rfl rfl h50 rfl rfl ?_; intro w62 n63)
    have h66 := Put.blk n63
    have f64 := Put.fr n63
    have z65 := Put.size n63
    clear n63 h50
    replace h58 := RP.fr h58 f64 (by omega)
    replace h42 := Nd.sits.fr h42 f64 (by omega)
    replace h36 := Blk.fr h36 f64 (by omega)
    replace h27 := Nd.sits.fr h27 f64 (by omega)
    replace h16 := Blk.fr h16 f64 (by omega)
    replace h5 := Blk.fr h5 f64 (by omega)
    replace X := Fr.fr X f64 (by omega)
    clear f64
    refine cN (lw_loads_b' [_, _, _, _] tabOk rfl rfl rfl h66 rfl rfl rfl ?_)
    (refine lw_store' [_, _, _, _] [_, _, _, _] tabOk rfl rfl rfl rfl rfl rfl h5 rfl rfl ?_; intro w67 n68)
    have h71 := Put.blk n68
    have f69 := Put.fr n68
    have z70 := Put.size n68
    clear n68 h5
    replace h66 := Blk.fr h66 f69 (by omega)
    replace h58 := RP.fr h58 f69 (by omega)
    replace h42 := Nd.sits.fr h42 f69 (by omega)
    replace h36 := Blk.fr h36 f69 (by omega)
    replace h27 := Nd.sits.fr h27 f69 (by omega)
    replace h16 := Blk.fr h16 f69 (by omega)
    replace X := Fr.fr X f69 (by omega)
    clear f69
    refine cT (cw_ret (qw_then_ret (qw_retc rfl tabOk rfl rfl rfl h71 rfl ?_)))
    rotate_left 1
   exact rtree_ret (Nd.sits.wide (by assumption) (fun b h => by omega)) (by assumption) X
 rw [if_neg e0]
 by_cases e1 : (peekP c.ts σ).text = [112, 111, 112]
 · rw [if_pos e1]
   have hin := HIN.out _ e1 (by decide)
   have h2 := hin.2
   have hm := mS_next hin
   have i1 : idxF [[112, 117, 115, 104], [112, 111, 112]] (peekP c.ts σ).text 0 = 1 := by rw [e1]; decide
   rw [show stackR c.ts c.n (k + 1) 45 σ = stackR c.ts c.n (k + 1) (44 + idxF [[112, 117, 115, 104], [112, 111, 112]] (peekP c.ts σ).text 0) σ from by rw [i1]; rfl]
   unfold stackR
   (try dsimp only)
   refine calls_in Tryz.func94 Tryz.ntmps94 rfl rfl ?_
   focus
    refine cS ?_
    (refine lw_alloc' [_, _, _, _] zOk rfl rfl ?_; intro ba1 wa2 na3)
    have ha5 := New.blk na3
    have xa6 := New.ext na3
    have pa7 := New.pos na3
    have za8 := New.size na3
    clear na3
    replace hP := RP.ext hP xa6
    replace X := Fr.ext X xa6
    clear xa6
    refine cN (cM rfl rfl ?_)
    refine lw_does (does_call (by kernel_rfl) rfl (rpeek_c _ _ _ (by assumption)) (fun _ _ h => ⟨_, h.1⟩)) rfl ?_ (fun _ h => h)
    rintro _ wa10 ⟨⟨⟩, xa9⟩
    have za11 := Ext.size xa9
    replace ha5 := Blk.ext ha5 xa9
    replace hP := RP.ext hP xa9
    replace X := Fr.ext X xa9
    clear xa9
    refine cA rfl rfl (cT (cw_seq (cS ?_)))
    (refine lw_does (does_slice' [_, _] tabOk zOk rfl rfl rfl rfl rfl rfl rfl rfl rfl) rfl ?_ (fun _ h => h); rintro _ wa13 ⟨ba12, rfl, na14, ta15⟩)
    clear ta15
    have ha16 := New.blk na14
    have xa17 := New.ext na14
    have pa18 := New.pos na14
    have za19 := New.size na14
    clear na14
    replace ha5 := Blk.ext ha5 xa17
    replace hP := RP.ext hP xa17
    replace X := Fr.ext X xa17
    clear xa17
    refine cM rfl rfl ?_
    refine lw_does (does_call (by kernel_rfl) rfl (rindex_c [[112, 117, 115, 104], [112, 111, 112]] _ _ _ _ (by decide) (Blk.row (by assumption))) (fun _ _ h => ⟨_, h.1⟩)) rfl ?_ (fun _ h => h)
    rintro _ wa20 ⟨⟨⟩, rfl⟩
    refine cA rfl rfl (cN (cM rfl rfl (lw_pure (pur_geq rfl rfl) rfl (cT ?_))))
    refine cw_yes rfl (by omega) ?_
    refine cS (cM rfl rfl (cM rfl rfl (lw_pure (pur_nilCheck rfl) rfl (lw_pure (pur_fieldAddr tabOk rfl rfl rfl) rfl (lw_load_b tabOk rfl rfl rfl (RP.blk hP) rfl rfl ?_)))))
    refine lw_pure (pur_add rfl rfl (IntWalk.i64_in _ (by omega))) rfl ?_
    refine lw_pure (pur_nilCheck rfl) rfl (lw_pure (pur_fieldAddr tabOk rfl rfl rfl) rfl ?_)
    refine lw_rp_at tabOk rfl rfl rfl rfl (by assumption) h2 ?_
    rintro wa21 ha22 fa23
    have za24 := Fr.size fa23
    replace ha16 := Blk.fr ha16 fa23 (by omega)
    replace ha5 := Blk.fr ha5 fa23 (by omega)
    clear hP
    replace X := Fr.fr X fa23 (by omega)
    clear fa23
    refine cN (cM rfl rfl ?_)
    refine lw_pure (pur_conv tabOk rfl rfl rfl (u8_wrap _ (by omega) (by omega))) rfl ?_
    refine lw_pure (pur_add rfl rfl (u8_wrap _ (by omega) (by omega))) rfl ?_
    refine cM rfl rfl ?_
    refine lw_does (does_call (by kernel_rfl) rfl ((rexprs_c c (k + 1)).place _ _ (by assumption) (by omega)) (fun _ _ h => h.ret)) rfl ?_ (fun _ h => h)
    rintro _ wa30 ⟨aa25, ⟨ka26, ⟨⟨⟩, ⟨ha27, ⟨ha28, fa29⟩⟩⟩⟩⟩
    have za31 := Fr.size fa29
    clear ha22
    replace ha16 := Blk.fr ha16 fa29 (by omega)
    replace ha5 := Blk.fr ha5 fa29 (by omega)
    replace X := Fr.fr X fa29 (by omega)
    clear fa29
    (refine lw_does (does_slice' [_, _, _, _] tabOk zOk rfl rfl rfl rfl rfl rfl rfl rfl rfl) rfl ?_ (fun _ h => h); rintro _ wa33 ⟨ba32, rfl, na34, ta35⟩)
    clear ta35
    have ha36 := New.blk na34
    have xa37 := New.ext na34
    have pa38 := New.pos na34
    have za39 := New.size na34
    clear na34
    replace ha27 := Nd.sits.ext ha27 xa37
    replace ha28 := RP.ext ha28 xa37
    replace ha16 := Blk.ext ha16 xa37
    replace ha5 := Blk.ext ha5 xa37
    replace X := Fr.ext X xa37
    clear xa37
    refine lw_does (does_call (by kernel_rfl) rfl (rnode1 _ _ _ _ _ _ _ _ _ (by assumption) (by assumption)) (fun _ _ h => h.ret)) rfl ?_ (fun _ h => h)
    rintro _ wa44 ⟨aa40, ⟨ka41, ⟨⟨⟩, ⟨ha42, xa43⟩⟩⟩⟩
    have za45 := Ext.size xa43
    replace ha36 := Blk.ext ha36 xa43
    replace ha27 := Nd.sits.ext ha27 xa43
    replace ha28 := RP.ext ha28 xa43
    replace ha16 := Blk.ext ha16 xa43
    replace ha5 := Blk.ext ha5 xa43
    replace X := Fr.ext X xa43
    clear xa43
    (refine lw_alloc' [_, _, _, _] zOk rfl rfl ?_; intro ba46 wa47 na48)
    (refine lw_init' [_, _, _, _] tabOk rfl rfl rfl rfl rfl rfl na48 rfl ?_; clear na48; clear wa47; intro wa49 na48)
    have ha50 := New.blk na48
    have xa51 := New.ext na48
    have pa52 := New.pos na48
    have za53 := New.size na48
    clear na48
    replace ha42 := Nd.sits.ext ha42 xa51
    replace ha36 := Blk.ext ha36 xa51
    replace ha27 := Nd.sits.ext ha27 xa51
    replace ha28 := RP.ext ha28 xa51
    replace ha16 := Blk.ext ha16 xa51
    replace ha5 := Blk.ext ha5 xa51
    replace X := Fr.ext X xa51
    clear xa51
    refine cN (cM rfl rfl ?_)
    refine lw_does (does_call (by kernel_rfl) rfl (rtake_c _ _ _ _ (by assumption) (by decide)) (fun _ _ h => ⟨_, h.1⟩)) rfl ?_ (fun _ h => h)
    rintro _ wa56 ⟨⟨⟩, ⟨ha54, fa55⟩⟩
    have za57 := Fr.size fa55
    replace ha50 := Blk.fr ha50 fa55 (by omega)
    replace ha42 := Nd.sits.fr ha42 fa55 (by omega)
    replace ha36 := Blk.fr ha36 fa55 (by omega)
    replace ha27 := Nd.sits.fr ha27 fa55 (by omega)
    clear ha28
    replace ha16 := Blk.fr ha16 fa55 (by omega)
    replace ha5 := Blk.fr ha5 fa55 (by omega)
    replace X := Fr.fr X fa55 (by omega)
    clear fa55
    refine cN (cM rfl rfl ?_)
    refine lw_does (does_call (by kernel_rfl) rfl (rname_c _ _ _ (by assumption)) (fun _ _ h => ⟨_, h.1⟩)) rfl ?_ (fun _ h => h)
    rintro _ wa60 ⟨⟨⟩, ⟨ha58, fa59⟩⟩
    have za61 := Fr.size fa59
    clear ha54
    replace ha50 := Blk.fr ha50 fa59 (by omega)
    replace ha42 := Nd.sits.fr ha42 fa59 (by omega)
    replace ha36 := Blk.fr ha36 fa59 (by omega)
    replace ha27 := Nd.sits.fr ha27 fa59 (by omega)
    replace ha16 := Blk.fr ha16 fa59 (by omega)
    replace ha5 := Blk.fr ha5 fa59 (by omega)
    replace X := Fr.fr X fa59 (by omega)
    clear fa59
    refine lw_pure (pur_fieldAddr tabOk rfl rfl rfl) rfl ?_
    (refine lw_store' [_] [_, _, _, _] tabOk rfl rfl rfl rfl rfl rfl ha50 rfl rfl ?_; intro wa62 na63)
    have ha66 := Put.blk na63
    have fa64 := Put.fr na63
    have za65 := Put.size na63
    clear na63 ha50
    replace ha58 := RP.fr ha58 fa64 (by omega)
    replace ha42 := Nd.sits.fr ha42 fa64 (by omega)
    replace ha36 := Blk.fr ha36 fa64 (by omega)
    replace ha27 := Nd.sits.fr ha27 fa64 (by omega)
    replace ha16 := Blk.fr ha16 fa64 (by omega)
    replace ha5 := Blk.fr ha5 fa64 (by omega)
    replace X := Fr.fr X fa64 (by omega)
    clear fa64
    refine cN (lw_loads_b' [_, _, _, _] tabOk rfl rfl rfl ha66 rfl rfl rfl ?_)
    (refine lw_store' [_, _, _, _] [_, _, _, _] tabOk rfl rfl rfl rfl rfl rfl ha5 rfl rfl ?_; intro wa67 na68)
    have ha71 := Put.blk na68
    have fa69 := Put.fr na68
    have za70 := Put.size na68
    clear na68 ha5
    replace ha66 := Blk.fr ha66 fa69 (by omega)
    replace ha58 := RP.fr ha58 fa69 (by omega)
    replace ha42 := Nd.sits.fr ha42 fa69 (by omega)
    replace ha36 := Blk.fr ha36 fa69 (by omega)
    replace ha27 := Nd.sits.fr ha27 fa69 (by omega)
    replace ha16 := Blk.fr ha16 fa69 (by omega)
    replace X := Fr.fr X fa69 (by omega)
    clear fa69
    refine cT (cw_ret (qw_then_ret (qw_retc rfl tabOk rfl rfl rfl ha71 rfl ?_)))
    rotate_left 1
   exact rtree_ret (Nd.sits.wide (by assumption) (fun b h => by omega)) (by assumption) X
 rw [if_neg e1]
 by_cases e2 : (peekP c.ts σ).text = [114, 101, 97, 100]
 · rw [if_pos e2]
   have hin := HIN.out _ e2 (by decide)
   have h2 := hin.2
   have hm := mS_next hin
   have i1 : idxF [[112, 117, 115, 104], [112, 111, 112]] (peekP c.ts σ).text 0 = -1 := by rw [e2]; decide
   have i2 : idxF [[114, 101, 97, 100], [117, 110, 114, 101, 97, 100], [119, 114, 105, 116, 101], [117, 110, 119, 114, 105, 116, 101]] (peekP c.ts σ).text 0 = 0 := by rw [e2]; decide
   rw [show tapeR c.ts c.n (k + 1) 46 σ = tapeR c.ts c.n (k + 1) (46 + idxF [[114, 101, 97, 100], [117, 110, 114, 101, 97, 100], [119, 114, 105, 116, 101], [117, 110, 119, 114, 105, 116, 101]] (peekP c.ts σ).text 0) σ from by rw [i2]; rfl]
   unfold tapeR
   refine calls_in Tryz.func94 Tryz.ntmps94 rfl rfl ?_
   focus
    refine cS ?_
    (refine lw_alloc' [_, _, _, _] zOk rfl rfl ?_; intro bb1 wb2 nb3)
    have hb5 := New.blk nb3
    have xb6 := New.ext nb3
    have pb7 := New.pos nb3
    have zb8 := New.size nb3
    clear nb3
    replace hP := RP.ext hP xb6
    replace X := Fr.ext X xb6
    clear xb6
    refine cN (cM rfl rfl ?_)
    refine lw_does (does_call (by kernel_rfl) rfl (rpeek_c _ _ _ (by assumption)) (fun _ _ h => ⟨_, h.1⟩)) rfl ?_ (fun _ h => h)
    rintro _ wb10 ⟨⟨⟩, xb9⟩
    have zb11 := Ext.size xb9
    replace hb5 := Blk.ext hb5 xb9
    replace hP := RP.ext hP xb9
    replace X := Fr.ext X xb9
    clear xb9
    refine cA rfl rfl (cT (cw_seq (cS ?_)))
    (refine lw_does (does_slice' [_, _] tabOk zOk rfl rfl rfl rfl rfl rfl rfl rfl rfl) rfl ?_ (fun _ h => h); rintro _ wb13 ⟨bb12, rfl, nb14, tb15⟩)
    clear tb15
    have hb16 := New.blk nb14
    have xb17 := New.ext nb14
    have pb18 := New.pos nb14
    have zb19 := New.size nb14
    clear nb14
    replace hb5 := Blk.ext hb5 xb17
    replace hP := RP.ext hP xb17
    replace X := Fr.ext X xb17
    clear xb17
    refine cM rfl rfl ?_
    refine lw_does (does_call (by kernel_rfl) rfl (rindex_c [[112, 117, 115, 104], [112, 111, 112]] _ _ _ _ (by decide) (Blk.row (by assumption))) (fun _ _ h => ⟨_, h.1⟩)) rfl ?_ (fun _ h => h)
    rintro _ wb20 ⟨⟨⟩, rfl⟩
    refine cA rfl rfl (cN (cM rfl rfl (lw_pure (pur_geq rfl rfl) rfl (cT ?_))))
    refine cw_no rfl (by omega) ?_
    refine cw_skip (qw_then (cw_seq (cS ?_)))
    (refine lw_does (does_slice' [_, _, _, _] tabOk zOk rfl rfl rfl rfl rfl rfl rfl rfl rfl) rfl ?_ (fun _ h => h); rintro _ wb22 ⟨bb21, rfl, nb23, tb24⟩)
    clear tb24
    have hb25 := New.blk nb23
    have xb26 := New.ext nb23
    have pb27 := New.pos nb23
    have zb28 := New.size nb23
    clear nb23
    replace hb16 := Blk.ext hb16 xb26
    replace hb5 := Blk.ext hb5 xb26
    replace hP := RP.ext hP xb26
    replace X := Fr.ext X xb26
    clear xb26
    refine cM rfl rfl ?_
    refine lw_does (does_call (by kernel_rfl) rfl (rindex_c [[114, 101, 97, 100], [117, 110, 114, 101, 97, 100], [119, 114, 105, 116, 101], [117, 110, 119, 114, 105, 116, 101]] _ _ _ _ (by decide) (Blk.row (by assumption))) (fun _ _ h => ⟨_, h.1⟩)) rfl ?_ (fun _ h => h)
    rintro _ wb29 ⟨⟨⟩, rfl⟩
    refine cA rfl rfl (cN (cM rfl rfl (lw_pure (pur_geq rfl rfl) rfl (cT ?_))))
    refine cw_yes rfl (by omega) ?_
    refine cS (cM rfl rfl (cM rfl rfl (lw_pure (pur_nilCheck rfl) rfl (lw_pure (pur_fieldAddr tabOk rfl rfl rfl) rfl (lw_load_b tabOk rfl rfl rfl (RP.blk hP) rfl rfl ?_)))))
    refine lw_pure (pur_add rfl rfl (IntWalk.i64_in _ (by omega))) rfl ?_
    refine lw_pure (pur_nilCheck rfl) rfl (lw_pure (pur_fieldAddr tabOk rfl rfl rfl) rfl ?_)
    refine lw_rp_at tabOk rfl rfl rfl rfl (by assumption) h2 ?_
    rintro wb30 hb31 fb32
    have zb33 := Fr.size fb32
    replace hb25 := Blk.fr hb25 fb32 (by omega)
    replace hb16 := Blk.fr hb16 fb32 (by omega)
    replace hb5 := Blk.fr hb5 fb32 (by omega)
    clear hP
    replace X := Fr.fr X fb32 (by omega)
    clear fb32
    refine cN (cM rfl rfl ?_)
    refine lw_pure (pur_conv tabOk rfl rfl rfl (u8_wrap _ (by omega) (by omega))) rfl ?_
    refine lw_pure (pur_add rfl rfl (u8_wrap _ (by omega) (by omega))) rfl ?_
    refine cM rfl rfl ?_
    refine lw_does (does_call (by kernel_rfl) rfl ((rexprs_c c (k + 1)).place _ _ (by assumption) (by omega)) (fun _ _ h => h.ret)) rfl ?_ (fun _ h => h)
    rintro _ wb39 ⟨ab34, ⟨kb35, ⟨⟨⟩, ⟨hb36, ⟨hb37, fb38⟩⟩⟩⟩⟩
    have zb40 := Fr.size fb38
    clear hb31
    replace hb25 := Blk.fr hb25 fb38 (by omega)
    replace hb16 := Blk.fr hb16 fb38 (by omega)
    replace hb5 := Blk.fr hb5 fb38 (by omega)
    replace X := Fr.fr X fb38 (by omega)
    clear fb38
    (refine lw_does (does_slice' [_, _, _, _] tabOk zOk rfl rfl rfl rfl rfl rfl rfl rfl rfl) rfl ?_ (fun _ h => h); rintro _ wb42 ⟨bb41, rfl, nb43, tb44⟩)
    clear tb44
    have hb45 := New.blk nb43
    have xb46 := New.ext nb43
    have pb47 := New.pos nb43
    have zb48 := New.size nb43
    clear nb43
    replace hb36 := Nd.sits.ext hb36 xb46
    replace hb37 := RP.ext hb37 xb46
    replace hb25 := Blk.ext hb25 xb46
    replace hb16 := Blk.ext hb16 xb46
    replace hb5 := Blk.ext hb5 xb46
    replace X := Fr.ext X xb46
    clear xb46
    refine lw_does (does_call (by kernel_rfl) rfl (rnode1 _ _ _ _ _ _ _ _ _ (by assumption) (by assumption)) (fun _ _ h => h.ret)) rfl ?_ (fun _ h => h)
    rintro _ wb53 ⟨ab49, ⟨kb50, ⟨⟨⟩, ⟨hb51, xb52⟩⟩⟩⟩
    have zb54 := Ext.size xb52
    replace hb45 := Blk.ext hb45 xb52
    replace hb36 := Nd.sits.ext hb36 xb52
    replace hb37 := RP.ext hb37 xb52
    replace hb25 := Blk.ext hb25 xb52
    replace hb16 := Blk.ext hb16 xb52
    replace hb5 := Blk.ext hb5 xb52
    replace X := Fr.ext X xb52
    clear xb52
    (refine lw_store' [_, _, _, _] [_, _, _, _] tabOk rfl rfl rfl rfl rfl rfl hb5 rfl rfl ?_; intro wb55 nb56)
    have hb59 := Put.blk nb56
    have fb57 := Put.fr nb56
    have zb58 := Put.size nb56
    clear nb56 hb5
    replace hb51 := Nd.sits.fr hb51 fb57 (by omega)
    replace hb45 := Blk.fr hb45 fb57 (by omega)
    replace hb36 := Nd.sits.fr hb36 fb57 (by omega)
    replace hb37 := RP.fr hb37 fb57 (by omega)
    replace hb25 := Blk.fr hb25 fb57 (by omega)
    replace hb16 := Blk.fr hb16 fb57 (by omega)
    replace X := Fr.fr X fb57 (by omega)
    clear fb57
    refine cT (cw_ret (qw_then_ret (qw_retc rfl tabOk rfl rfl rfl hb59 rfl ?_)))
    rotate_left 1
   exact rtree_ret (Nd.sits.wide (by assumption) (fun b h => by omega)) (by assumption) X
 rw [if_neg e2]
 by_cases e3 : (peekP c.ts σ).text = [117, 110, 114, 101, 97, 100]
 · rw [if_pos e3]
   have hin := HIN.out _ e3 (by decide)
   have h2 := hin.2
   have hm := mS_next hin
   have i1 : idxF [[112, 117, 115, 104], [112, 111, 112]] (peekP c.ts σ).text 0 = -1 := by rw [e3]; decide
   have i2 : idxF [[114, 101, 97, 100], [117, 110, 114, 101, 97, 100], [119, 114, 105, 116, 101], [117, 110, 119, 114, 105, 116, 101]] (peekP c.ts σ).text 0 = 1 := by rw [e3]; decide
   rw [show tapeR c.ts c.n (k + 1) 47 σ = tapeR c.ts c.n (k + 1) (46 + idxF [[114, 101, 97, 100], [117, 110, 114, 101, 97, 100], [119, 114, 105, 116, 101], [117, 110, 119, 114, 105, 116, 101]] (peekP c.ts σ).text 0) σ from by rw [i2]; rfl]
   unfold tapeR
   refine calls_in Tryz.func94 Tryz.ntmps94 rfl rfl ?_
   focus
    refine cS ?_
    (refine lw_alloc' [_, _, _, _] zOk rfl rfl ?_; intro bc1 wc2 nc3)
    have hc5 := New.blk nc3
    have xc6 := New.ext nc3
    have pc7 := New.pos nc3
    have zc8 := New.size nc3
    clear nc3
    replace hP := RP.ext hP xc6
    replace X := Fr.ext X xc6
    clear xc6
    refine cN (cM rfl rfl ?_)
    refine lw_does (does_call (by kernel_rfl) rfl (rpeek_c _ _ _ (by assumption)) (fun _ _ h => ⟨_, h.1⟩)) rfl ?_ (fun _ h => h)
    rintro _ wc10 ⟨⟨⟩, xc9⟩
    have zc11 := Ext.size xc9
    replace hc5 := Blk.ext hc5 xc9
    replace hP := RP.ext hP xc9
    replace X := Fr.ext X xc9
    clear xc9
    refine cA rfl rfl (cT (cw_seq (cS ?_)))
    (refine lw_does (does_slice' [_, _] tabOk zOk rfl rfl rfl rfl rfl rfl rfl rfl rfl) rfl ?_ (fun _ h => h); rintro _ wc13 ⟨bc12, rfl, nc14, tc15⟩)
    clear tc15
    have hc16 := New.blk nc14
    have xc17 := New.ext nc14
    have pc18 := New.pos nc14
    have zc19 := New.size nc14
    clear nc14
    replace hc5 := Blk.ext hc5 xc17
    replace hP := RP.ext hP xc17
    replace X := Fr.ext X xc17
    clear xc17
    refine cM rfl rfl ?_
    refine lw_does (does_call (by kernel_rfl) rfl (rindex_c [[112, 117, 115, 104], [112, 111, 112]] _ _ _ _ (by decide) (Blk.row (by assumption))) (fun _ _ h => ⟨_, h.1⟩)) rfl ?_ (fun _ h => h)
    rintro _ wc20 ⟨⟨⟩, rfl⟩
    refine cA rfl rfl (cN (cM rfl rfl (lw_pure (pur_geq rfl rfl) rfl (cT ?_))))
    refine cw_no rfl (by omega) ?_
    refine cw_skip (qw_then (cw_seq (cS ?_)))
    (refine lw_does (does_slice' [_, _, _, _] tabOk zOk rfl rfl rfl rfl rfl rfl rfl rfl rfl) rfl ?_ (fun _ h => h); rintro _ wc22 ⟨bc21, rfl, nc23, tc24⟩)
    clear tc24
    have hc25 := New.blk nc23
    have xc26 := New.ext nc23
    have pc27 := New.pos nc23
    have zc28 := New.size nc23
    clear nc23
    replace hc16 := Blk.ext hc16 xc26
    replace hc5 := Blk.ext hc5 xc26
    replace hP := RP.ext hP xc26
    replace X := Fr.ext X xc26
    clear xc26
    refine cM rfl rfl ?_
    refine lw_does (does_call (by kernel_rfl) rfl (rindex_c [[114, 101, 97, 100], [117, 110, 114, 101, 97, 100], [119, 114, 105, 116, 101], [117, 110, 119, 114, 105, 116, 101]] _ _ _ _ (by decide) (Blk.row (by assumption))) (fun _ _ h => ⟨_, h.1⟩)) rfl ?_ (fun _ h => h)
    rintro _ wc29 ⟨⟨⟩, rfl⟩
    refine cA rfl rfl (cN (cM rfl rfl (lw_pure (pur_geq rfl rfl) rfl (cT ?_))))
    refine cw_yes rfl (by omega) ?_
    refine cS (cM rfl rfl (cM rfl rfl (lw_pure (pur_nilCheck rfl) rfl (lw_pure (pur_fieldAddr tabOk rfl rfl rfl) rfl (lw_load_b tabOk rfl rfl rfl (RP.blk hP) rfl rfl ?_)))))
    refine lw_pure (pur_add rfl rfl (IntWalk.i64_in _ (by omega))) rfl ?_
    refine lw_pure (pur_nilCheck rfl) rfl (lw_pure (pur_fieldAddr tabOk rfl rfl rfl) rfl ?_)
    refine lw_rp_at tabOk rfl rfl rfl rfl (by assumption) h2 ?_
    rintro wc30 hc31 fc32
    have zc33 := Fr.size fc32
    replace hc25 := Blk.fr hc25 fc32 (by omega)
    replace hc16 := Blk.fr hc16 fc32 (by omega)
    replace hc5 := Blk.fr hc5 fc32 (by omega)
    clear hP
    replace X := Fr.fr X fc32 (by omega)
    clear fc32
    refine cN (cM rfl rfl ?_)
    refine lw_pure (pur_conv tabOk rfl rfl rfl (u8_wrap _ (by omega) (by omega))) rfl ?_
    refine lw_pure (pur_add rfl rfl (u8_wrap _ (by omega) (by omega))) rfl ?_
    refine cM rfl rfl ?_
    refine lw_does (does_call (by kernel_rfl) rfl ((rexprs_c c (k + 1)).place _ _ (by assumption) (by omega)) (fun _ _ h => h.ret)) rfl ?_ (fun _ h => h)
    rintro _ wc39 ⟨ac34, ⟨kc35, ⟨⟨⟩, ⟨hc36, ⟨hc37, fc38⟩⟩⟩⟩⟩
    have zc40 := Fr.size fc38
    clear hc31
    replace hc25 := Blk.fr hc25 fc38 (by omega)
    replace hc16 := Blk.fr hc16 fc38 (by omega)
    replace hc5 := Blk.fr hc5 fc38 (by omega)
    replace X := Fr.fr X fc38 (by omega)
    clear fc38
    (refine lw_does (does_slice' [_, _, _, _] tabOk zOk rfl rfl rfl rfl rfl rfl rfl rfl rfl) rfl ?_ (fun _ h => h); rintro _ wc42 ⟨bc41, rfl, nc43, tc44⟩)
    clear tc44
    have hc45 := New.blk nc43
    have xc46 := New.ext nc43
    have pc47 := New.pos nc43
    have zc48 := New.size nc43
    clear nc43
    replace hc36 := Nd.sits.ext hc36 xc46
    replace hc37 := RP.ext hc37 xc46
    replace hc25 := Blk.ext hc25 xc46
    replace hc16 := Blk.ext hc16 xc46
    replace hc5 := Blk.ext hc5 xc46
    replace X := Fr.ext X xc46
    clear xc46
    refine lw_does (does_call (by kernel_rfl) rfl (rnode1 _ _ _ _ _ _ _ _ _ (by assumption) (by assumption)) (fun _ _ h => h.ret)) rfl ?_ (fun _ h => h)
    rintro _ wc53 ⟨ac49, ⟨kc50, ⟨⟨⟩, ⟨hc51, xc52⟩⟩⟩⟩
    have zc54 := Ext.size xc52
    replace hc45 := Blk.ext hc45 xc52
    replace hc36 := Nd.sits.ext hc36 xc52
    replace hc37 := RP.ext hc37 xc52
    replace hc25 := Blk.ext hc25 xc52
    replace hc16 := Blk.ext hc16 xc52
    replace hc5 := Blk.ext hc5 xc52
    replace X := Fr.ext X xc52
    clear xc52
    (refine lw_store' [_, _, _, _] [_, _, _, _] tabOk rfl rfl rfl rfl rfl rfl hc5 rfl rfl ?_; intro wc55 nc56)
    have hc59 := Put.blk nc56
    have fc57 := Put.fr nc56
    have zc58 := Put.size nc56
    clear nc56 hc5
    replace hc51 := Nd.sits.fr hc51 fc57 (by omega)
    replace hc45 := Blk.fr hc45 fc57 (by omega)
    replace hc36 := Nd.sits.fr hc36 fc57 (by omega)
    replace hc37 := RP.fr hc37 fc57 (by omega)
    replace hc25 := Blk.fr hc25 fc57 (by omega)
    replace hc16 := Blk.fr hc16 fc57 (by omega)
    replace X := Fr.fr X fc57 (by omega)
    clear fc57
    refine cT (cw_ret (qw_then_ret (qw_retc rfl tabOk rfl rfl rfl hc59 rfl ?_)))
    rotate_left 1
   exact rtree_ret (Nd.sits.wide (by assumption) (fun b h => by omega)) (by assumption) X
 rw [if_neg e3]
 by_cases e4 : (peekP c.ts σ).text = [119, 114, 105, 116, 101]
 · rw [if_pos e4]
   have hin := HIN.out _ e4 (by decide)
   have h2 := hin.2
   have hm := mS_next hin
   have i1 : idxF [[112, 117, 115, 104], [112, 111, 112]] (peekP c.ts σ).text 0 = -1 := by rw [e4]; decide
   have i2 : idxF [[114, 101, 97, 100], [117, 110, 114, 101, 97, 100], [119, 114, 105, 116, 101], [117, 110, 119, 114, 105, 116, 101]] (peekP c.ts σ).text 0 = 2 := by rw [e4]; decide
   rw [show tapeR c.ts c.n (k + 1) 48 σ = tapeR c.ts c.n (k + 1) (46 + idxF [[114, 101, 97, 100], [117, 110, 114, 101, 97, 100], [119, 114, 105, 116, 101], [117, 110, 119, 114, 105, 116, 101]] (peekP c.ts σ).text 0) σ from by rw [i2]; rfl]
   unfold tapeR
   refine calls_in Tryz.func94 Tryz.ntmps94 rfl rfl ?_
   focus
    refine cS ?_
    (refine lw_alloc' [_, _, _, _] zOk rfl rfl ?_; intro bd1 wd2 nd3)
    have hd5 := New.blk nd3
    have xd6 := New.ext nd3
    have pd7 := New.pos nd3
    have zd8 := New.size nd3
    clear nd3
    replace hP := RP.ext hP xd6
    replace X := Fr.ext X xd6
    clear xd6
    refine cN (cM rfl rfl ?_)
    refine lw_does (does_call (by kernel_rfl) rfl (rpeek_c _ _ _ (by assumption)) (fun _ _ h => ⟨_, h.1⟩)) rfl ?_ (fun _ h => h)
    rintro _ wd10 ⟨⟨⟩, xd9⟩
    have zd11 := Ext.size xd9
    replace hd5 := Blk.ext hd5 xd9
    replace hP := RP.ext hP xd9
    replace X := Fr.ext X xd9
    clear xd9
    refine cA rfl rfl (cT (cw_seq (cS ?_)))
    (refine lw_does (does_slice' [_, _] tabOk zOk rfl rfl rfl rfl rfl rfl rfl rfl rfl) rfl ?_ (fun _ h => h); rintro _ wd13 ⟨bd12, rfl, nd14, td15⟩)
    clear td15
    have hd16 := New.blk nd14
    have xd17 := New.ext nd14
    have pd18 := New.pos nd14
    have zd19 := New.size nd14
    clear nd14
    replace hd5 := Blk.ext hd5 xd17
    replace hP := RP.ext hP xd17
    replace X := Fr.ext X xd17
    clear xd17
    refine cM rfl rfl ?_
    refine lw_does (does_call (by kernel_rfl) rfl (rindex_c [[112, 117, 115, 104], [112, 111, 112]] _ _ _ _ (by decide) (Blk.row (by assumption))) (fun _ _ h => ⟨_, h.1⟩)) rfl ?_ (fun _ h => h)
    rintro _ wd20 ⟨⟨⟩, rfl⟩
    refine cA rfl rfl (cN (cM rfl rfl (lw_pure (pur_geq rfl rfl) rfl (cT ?_))))
    refine cw_no rfl (by omega) ?_
    refine cw_skip (qw_then (cw_seq (cS ?_)))
    (refine lw_does (does_slice' [_, _, _, _] tabOk zOk rfl rfl rfl rfl rfl rfl rfl rfl rfl) rfl ?_ (fun _ h => h); rintro _ wd22 ⟨bd21, rfl, nd23, td24⟩)
    clear td24
    have hd25 := New.blk nd23
    have xd26 := New.ext nd23
    have pd27 := New.pos nd23
    have zd28 := New.size nd23
    clear nd23
    replace hd16 := Blk.ext hd16 xd26
    replace hd5 := Blk.ext hd5 xd26
    replace hP := RP.ext hP xd26
    replace X := Fr.ext X xd26
    clear xd26
    refine cM rfl rfl ?_
    refine lw_does (does_call (by kernel_rfl) rfl (rindex_c [[114, 101, 97, 100], [117, 110, 114, 101, 97, 100], [119, 114, 105, 116, 101], [117, 110, 119, 114, 105, 116, 101]] _ _ _ _ (by decide) (Blk.row (by assumption))) (fun _ _ h => ⟨_, h.1⟩)) rfl ?_ (fun _ h => h)
    rintro _ wd29 ⟨⟨⟩, rfl⟩
    refine cA rfl rfl (cN (cM rfl rfl (lw_pure (pur_geq rfl rfl) rfl (cT ?_))))
    refine cw_yes rfl (by omega) ?_
    refine cS (cM rfl rfl (cM rfl rfl (lw_pure (pur_nilCheck rfl) rfl (lw_pure (pur_fieldAddr tabOk rfl rfl rfl) rfl (lw_load_b tabOk rfl rfl rfl (RP.blk hP) rfl rfl ?_)))))
    refine lw_pure (pur_add rfl rfl (IntWalk.i64_in _ (by omega))) rfl ?_
    refine lw_pure (pur_nilCheck rfl) rfl (lw_pure (pur_fieldAddr tabOk rfl rfl rfl) rfl ?_)
    refine lw_rp_at tabOk rfl rfl rfl rfl (by assumption) h2 ?_
    rintro wd30 hd31 fd32
    have zd33 := Fr.size fd32
    replace hd25 := Blk.fr hd25 fd32 (by omega)
    replace hd16 := Blk.fr hd16 fd32 (by omega)
    replace hd5 := Blk.fr hd5 fd32 (by omega)
    clear hP
    replace X := Fr.fr X fd32 (by omega)
    clear fd32
    refine cN (cM rfl rfl ?_)
    refine lw_pure (pur_conv tabOk rfl rfl rfl (u8_wrap _ (by omega) (by omega))) rfl ?_
    refine lw_pure (pur_add rfl rfl (u8_wrap _ (by omega) (by omega))) rfl ?_
    refine cM rfl rfl ?_
    refine lw_does (does_call (by kernel_rfl) rfl ((rexprs_c c (k + 1)).place _ _ (by assumption) (by omega)) (fun _ _ h => h.ret)) rfl ?_ (fun _ h => h)
    rintro _ wd39 ⟨ad34, ⟨kd35, ⟨⟨⟩, ⟨hd36, ⟨hd37, fd38⟩⟩⟩⟩⟩
    have zd40 := Fr.size fd38
    clear hd31
    replace hd25 := Blk.fr hd25 fd38 (by omega)
    replace hd16 := Blk.fr hd16 fd38 (by omega)
    replace hd5 := Blk.fr hd5 fd38 (by omega)
    replace X := Fr.fr X fd38 (by omega)
    clear fd38
    (refine lw_does (does_slice' [_, _, _, _] tabOk zOk rfl rfl rfl rfl rfl rfl rfl rfl rfl) rfl ?_ (fun _ h => h); rintro _ wd42 ⟨bd41, rfl, nd43, td44⟩)
    clear td44
    have hd45 := New.blk nd43
    have xd46 := New.ext nd43
    have pd47 := New.pos nd43
    have zd48 := New.size nd43
    clear nd43
    replace hd36 := Nd.sits.ext hd36 xd46
    replace hd37 := RP.ext hd37 xd46
    replace hd25 := Blk.ext hd25 xd46
    replace hd16 := Blk.ext hd16 xd46
    replace hd5 := Blk.ext hd5 xd46
    replace X := Fr.ext X xd46
    clear xd46
    refine lw_does (does_call (by kernel_rfl) rfl (rnode1 _ _ _ _ _ _ _ _ _ (by assumption) (by assumption)) (fun _ _ h => h.ret)) rfl ?_ (fun _ h => h)
    rintro _ wd53 ⟨ad49, ⟨kd50, ⟨⟨⟩, ⟨hd51, xd52⟩⟩⟩⟩
    have zd54 := Ext.size xd52
    replace hd45 := Blk.ext hd45 xd52
    replace hd36 := Nd.sits.ext hd36 xd52
    replace hd37 := RP.ext hd37 xd52
    replace hd25 := Blk.ext hd25 xd52
    replace hd16 := Blk.ext hd16 xd52
    replace hd5 := Blk.ext hd5 xd52
    replace X := Fr.ext X xd52
    clear xd52
    (refine lw_store' [_, _, _, _] [_, _, _, _] tabOk rfl rfl rfl rfl rfl rfl hd5 rfl rfl ?_; intro wd55 nd56)
    have hd59 := Put.blk nd56
    have fd57 := Put.fr nd56
    have zd58 := Put.size nd56
    clear nd56 hd5
    replace hd51 := Nd.sits.fr hd51 fd57 (by omega)
    replace hd45 := Blk.fr hd45 fd57 (by omega)
    replace hd36 := Nd.sits.fr hd36 fd57 (by omega)
    replace hd37 := RP.fr hd37 fd57 (by omega)
    replace hd25 := Blk.fr hd25 fd57 (by omega)
    replace hd16 := Blk.fr hd16 fd57 (by omega)
    replace X := Fr.fr X fd57 (by omega)
    clear fd57
    refine cT (cw_ret (qw_then_ret (qw_retc rfl tabOk rfl rfl rfl hd59 rfl ?_)))
    rotate_left 1
   exact rtree_ret (Nd.sits.wide (by assumption) (fun b h => by omega)) (by assumption) X
 rw [if_neg e4]
 by_cases e5 : (peekP c.ts σ).text = [117, 110, 119, 114, 105, 116, 101]
 · rw [if_pos e5]
   have hin := HIN.out _ e5 (by decide)
   have h2 := hin.2
   have hm := mS_next hin
   have i1 : idxF [[112, 117, 115, 104], [112, 111, 112]] (peekP c.ts σ).text 0 = -1 := by rw [e5]; decide
   have i2 : idxF [[114, 101, 97, 100], [117, 110, 114, 101, 97, 100], [119, 114, 105, 116, 101], [117, 110, 119, 114, 105, 116, 101]] (peekP c.ts σ).text 0 = 3 := by rw [e5]; decide
   rw [show tapeR c.ts c.n (k + 1) 49 σ = tapeR c.ts c.n (k + 1) (46 + idxF [[114, 101, 97, 100], [117, 110, 114, 101, 97, 100], [119, 114, 105, 116, 101], [117, 110, 119, 114, 105, 116, 101]] (peekP c.ts σ).text 0) σ from by rw [i2]; rfl]
   unfold tapeR
   refine calls_in Tryz.func94 Tryz.ntmps94 rfl rfl ?_
   focus
    refine cS ?_
    (refine lw_alloc' [_, _, _, _] zOk rfl rfl ?_; intro be1 we2 ne3)
    have he5 := New.blk ne3
    have xe6 := New.ext ne3
    have pe7 := New.pos ne3
    have ze8 := New.size ne3
    clear ne3
    replace hP := RP.ext hP xe6
    replace X := Fr.ext X xe6
    clear xe6
    refine cN (cM rfl rfl ?_)
    refine lw_does (does_call (by kernel_rfl) rfl (rpeek_c _ _ _ (by assumption)) (fun _ _ h => ⟨_, h.1⟩)) rfl ?_ (fun _ h => h)
    rintro _ we10 ⟨⟨⟩, xe9⟩
    have ze11 := Ext.size xe9
    replace he5 := Blk.ext he5 xe9
    replace hP := RP.ext hP xe9
    replace X := Fr.ext X xe9
    clear xe9
    refine cA rfl rfl (cT (cw_seq (cS ?_)))
    (refine lw_does (does_slice' [_, _] tabOk zOk rfl rfl rfl rfl rfl rfl rfl rfl rfl) rfl ?_ (fun _ h => h); rintro _ we13 ⟨be12, rfl, ne14, te15⟩)
    clear te15
    have he16 := New.blk ne14
    have xe17 := New.ext ne14
    have pe18 := New.pos ne14
    have ze19 := New.size ne14
    clear ne14
    replace he5 := Blk.ext he5 xe17
    replace hP := RP.ext hP xe17
    replace X := Fr.ext X xe17
    clear xe17
    refine cM rfl rfl ?_
    refine lw_does (does_call (by kernel_rfl) rfl (rindex_c [[112, 117, 115, 104], [112, 111, 112]] _ _ _ _ (by decide) (Blk.row (by assumption))) (fun _ _ h => ⟨_, h.1⟩)) rfl ?_ (fun _ h => h)
    rintro _ we20 ⟨⟨⟩, rfl⟩
    refine cA rfl rfl (cN (cM rfl rfl (lw_pure (pur_geq rfl rfl) rfl (cT ?_))))
    refine cw_no rfl (by omega) ?_
    refine cw_skip (qw_then (cw_seq (cS ?_)))
    (refine lw_does (does_slice' [_, _, _, _] tabOk zOk rfl rfl rfl rfl rfl rfl rfl rfl rfl) rfl ?_ (fun _ h => h); rintro _ we22 ⟨be21, rfl, ne23, te24⟩)
    clear te24
    have he25 := New.blk ne23
    have xe26 := New.ext ne23
    have pe27 := New.pos ne23
    have ze28 := New.size ne23
    clear ne23
    replace he16 := Blk.ext he16 xe26
    replace he5 := Blk.ext he5 xe26
    replace hP := RP.ext hP xe26
    replace X := Fr.ext X xe26
    clear xe26
    refine cM rfl rfl ?_
    refine lw_does (does_call (by kernel_rfl) rfl (rindex_c [[114, 101, 97, 100], [117, 110, 114, 101, 97, 100], [119, 114, 105, 116, 101], [117, 110, 119, 114, 105, 116, 101]] _ _ _ _ (by decide) (Blk.row (by assumption))) (fun _ _ h => ⟨_, h.1⟩)) rfl ?_ (fun _ h => h)
    rintro _ we29 ⟨⟨⟩, rfl⟩
    refine cA rfl rfl (cN (cM rfl rfl (lw_pure (pur_geq rfl rfl) rfl (cT ?_))))
    refine cw_yes rfl (by omega) ?_
    refine cS (cM rfl rfl (cM rfl rfl (lw_pure (pur_nilCheck rfl) rfl (lw_pure (pur_fieldAddr tabOk rfl rfl rfl) rfl (lw_load_b tabOk rfl rfl rfl (RP.blk hP) rfl rfl ?_)))))
    refine lw_pure (pur_add rfl rfl (IntWalk.i64_in _ (by omega))) rfl ?_
    refine lw_pure (pur_nilCheck rfl) rfl (lw_pure (pur_fieldAddr tabOk rfl rfl rfl) rfl ?_)
    refine lw_rp_at tabOk rfl rfl rfl rfl (by assumption) h2 ?_
    rintro we30 he31 fe32
    have ze33 := Fr.size fe32
    replace he25 := Blk.fr he25 fe32 (by omega)
    replace he16 := Blk.fr he16 fe32 (by omega)
    replace he5 := Blk.fr he5 fe32 (by omega)
    clear hP
    replace X := Fr.fr X fe32 (by omega)
    clear fe32
    refine cN (cM rfl rfl ?_)
    refine lw_pure (pur_conv tabOk rfl rfl rfl (u8_wrap _ (by omega) (by omega))) rfl ?_
    refine lw_pure (pur_add rfl rfl (u8_wrap _ (by omega) (by omega))) rfl ?_
    refine cM rfl rfl ?_
    refine lw_does (does_call (by kernel_rfl) rfl ((rexprs_c c (k + 1)).place _ _ (by assumption) (by omega)) (fun _ _ h => h.ret)) rfl ?_ (fun _ h => h)
    rintro _ we39 ⟨ae34, ⟨ke35, ⟨⟨⟩, ⟨he36, ⟨he37, fe38⟩⟩⟩⟩⟩
    have ze40 := Fr.size fe38
    clear he31
    replace he25 := Blk.fr he25 fe38 (by omega)
    replace he16 := Blk.fr he16 fe38 (by omega)
    replace he5 := Blk.fr he5 fe38 (by omega)
    replace X := Fr.fr X fe38 (by omega)
    clear fe38
    (refine lw_does (does_slice' [_, _, _, _] tabOk zOk rfl rfl rfl rfl rfl rfl rfl rfl rfl) rfl ?_ (fun _ h => h); rintro _ we42 ⟨be41, rfl, ne43, te44⟩)
    clear te44
    have he45 := New.blk ne43
    have xe46 := New.ext ne43
    have pe47 := New.pos ne43
    have ze48 := New.size ne43
    clear ne43
    replace he36 := Nd.sits.ext he36 xe46
    replace he37 := RP.ext he37 xe46
    replace he25 := Blk.ext he25 xe46
    replace he16 := Blk.ext he16 xe46
    replace he5 := Blk.ext he5 xe46
    replace X := Fr.ext X xe46
    clear xe46
    refine lw_does (does_call (by kernel_rfl) rfl (rnode1 _ _ _ _ _ _ _ _ _ (by assumption) (by assumption)) (fun _ _ h => h.ret)) rfl ?_ (fun _ h => h)
    rintro _ we53 ⟨ae49, ⟨ke50, ⟨⟨⟩, ⟨he51, xe52⟩⟩⟩⟩
    have ze54 := Ext.size xe52
    replace he45 := Blk.ext he45 xe52
    replace he36 := Nd.sits.ext he36 xe52
    replace he37 := RP.ext he37 xe52
    replace he25 := Blk.ext he25 xe52
    replace he16 := Blk.ext he16 xe52
    replace he5 := Blk.ext he5 xe52
    replace X := Fr.ext X xe52
    clear xe52
    (refine lw_store' [_, _, _, _] [_, _, _, _] tabOk rfl rfl rfl rfl rfl rfl he5 rfl rfl ?_; intro we55 ne56)
    have he59 := Put.blk ne56
    have fe57 := Put.fr ne56
    have ze58 := Put.size ne56
    clear ne56 he5
    replace he51 := Nd.sits.fr he51 fe57 (by omega)
    replace he45 := Blk.fr he45 fe57 (by omega)
    replace he36 := Nd.sits.fr he36 fe57 (by omega)
    replace he37 := RP.fr he37 fe57 (by omega)
    replace he25 := Blk.fr he25 fe57 (by omega)
    replace he16 := Blk.fr he16 fe57 (by omega)
    replace X := Fr.fr X fe57 (by omega)
    clear fe57
    refine cT (cw_ret (qw_then_ret (qw_retc rfl tabOk rfl rfl rfl he59 rfl ?_)))
    rotate_left 1
   exact rtree_ret (Nd.sits.wide (by assumption) (fun b h => by omega)) (by assumption) X
 rw [if_neg e5]
 by_cases e6 : (peekP c.ts σ).text = [99, 97, 108, 108]
 · rw [if_pos e6]
   have hin := HIN.out _ e6 (by decide)
   have h2 := hin.2
   have hm := mS_next hin
   have i1 : idxF [[112, 117, 115, 104], [112, 111, 112]] (peekP c.ts σ).text 0 = -1 := by rw [e6]; decide
   have i2 : idxF [[114, 101, 97, 100], [117, 110, 114, 101, 97, 100], [119, 114, 105, 116, 101], [117, 110, 119, 114, 105, 116, 101]] (peekP c.ts σ).text 0 = -1 := by rw [e6]; decide
   have i3 : idxF [[99, 97, 108, 108], [117, 110, 99, 97, 108, 108]] (peekP c.ts σ).text 0 = 0 := by rw [e6]; decide
   rw [show callR c.ts c.n (k + 1) 50 σ = callR c.ts c.n (k + 1) (50 + idxF [[99, 97, 108, 108], [117, 110, 99, 97, 108, 108]] (peekP c.ts σ).text 0) σ from by rw [i3]; rfl]
   refine calls_in Tryz.func94 Tryz.ntmps94 rfl rfl ?_
   focus
    refine cS ?_
    (refine lw_alloc' [_, _, _, _] zOk rfl rfl ?_; intro bf1 wf2 nf3)
    have hf5 := New.blk nf3
    have xf6 := New.ext nf3
    have pf7 := New.pos nf3
    have zf8 := New.size nf3
    clear nf3
    replace hP := RP.ext hP xf6
    replace X := Fr.ext X xf6
    clear xf6
    refine cN (cM rfl rfl ?_)
    refine lw_does (does_call (by kernel_rfl) rfl (rpeek_c _ _ _ (by assumption)) (fun _ _ h => ⟨_, h.1⟩)) rfl ?_ (fun _ h => h)
    rintro _ wf10 ⟨⟨⟩, xf9⟩
    have zf11 := Ext.size xf9
    replace hf5 := Blk.ext hf5 xf9
    replace hP := RP.ext hP xf9
    replace X := Fr.ext X xf9
    clear xf9
    refine cA rfl rfl (cT (cw_seq (cS ?_)))
    (refine lw_does (does_slice' [_, _] tabOk zOk rfl rfl rfl rfl rfl rfl rfl rfl rfl) rfl ?_ (fun _ h => h); rintro _ wf13 ⟨bf12, rfl, nf14, tf15⟩)
    clear tf15
    have hf16 := New.blk nf14
    have xf17 := New.ext nf14
    have pf18 := New.pos nf14
    have zf19 := New.size nf14
    clear nf14
    replace hf5 := Blk.ext hf5 xf17
    replace hP := RP.ext hP xf17
    replace X := Fr.ext X xf17
    clear xf17
    refine cM rfl rfl ?_
    refine lw_does (does_call (by kernel_rfl) rfl (rindex_c [[112, 117, 115, 104], [112, 111, 112]] _ _ _ _ (by decide) (Blk.row (by assumption))) (fun _ _ h => ⟨_, h.1⟩)) rfl ?_ (fun _ h => h)
    rintro _ wf20 ⟨⟨⟩, rfl⟩
    refine cA rfl rfl (cN (cM rfl rfl (lw_pure (pur_geq rfl rfl) rfl (cT ?_))))
    refine cw_no rfl (by omega) ?_
    refine cw_skip (qw_then (cw_seq (cS ?_)))
    (refine lw_does (does_slice' [_, _, _, _] tabOk zOk rfl rfl rfl rfl rfl rfl rfl rfl rfl) rfl ?_ (fun _ h => h); rintro _ wf22 ⟨bf21, rfl, nf23, tf24⟩)
    clear tf24
    have hf25 := New.blk nf23
    have xf26 := New.ext nf23
    have pf27 := New.pos nf23
    have zf28 := New.size nf23
    clear nf23
    replace hf16 := Blk.ext hf16 xf26
    replace hf5 := Blk.ext hf5 xf26
    replace hP := RP.ext hP xf26
    replace X := Fr.ext X xf26
    clear xf26
    refine cM rfl rfl ?_
    refine lw_does (does_call (by kernel_rfl) rfl (rindex_c [[114, 101, 97, 100], [117, 110, 114, 101, 97, 100], [119, 114, 105, 116, 101], [117, 110, 119, 114, 105, 116, 101]] _ _ _ _ (by decide) (Blk.row (by assumption))) (fun _ _ h => ⟨_, h.1⟩)) rfl ?_ (fun _ h => h)
    rintro _ wf29 ⟨⟨⟩, rfl⟩
    refine cA rfl rfl (cN (cM rfl rfl (lw_pure (pur_geq rfl rfl) rfl (cT ?_))))
    refine cw_no rfl (by omega) ?_
    refine cw_skip (qw_then (cw_seq (cS ?_)))
    (refine lw_does (does_slice' [_, _] tabOk zOk rfl rfl rfl rfl rfl rfl rfl rfl rfl) rfl ?_ (fun _ h => h); rintro _ wf31 ⟨bf30, rfl, nf32, tf33⟩)
    clear tf33
    have hf34 := New.blk nf32
    have xf35 := New.ext nf32
    have pf36 := New.pos nf32
    have zf37 := New.size nf32
    clear nf32
    replace hf25 := Blk.ext hf25 xf35
    replace hf16 := Blk.ext hf16 xf35
    replace hf5 := Blk.ext hf5 xf35
    replace hP := RP.ext hP xf35
    replace X := Fr.ext X xf35
    clear xf35
    refine cM rfl rfl ?_
    refine lw_does (does_call (by kernel_rfl) rfl (rindex_c [[99, 97, 108, 108], [117, 110, 99, 97, 108, 108]] _ _ _ _ (by decide) (Blk.row (by assumption))) (fun _ _ h => ⟨_, h.1⟩)) rfl ?_ (fun _ h => h)
    rintro _ wf38 ⟨⟨⟩, rfl⟩
    refine cA rfl rfl (cN (cM rfl rfl (lw_pure (pur_geq rfl rfl) rfl (cT ?_))))
    refine cw_yes rfl (by omega) ?_
    refine cS (cM rfl rfl (cM rfl rfl (lw_pure (pur_nilCheck rfl) rfl (lw_pure (pur_fieldAddr tabOk rfl rfl rfl) rfl (lw_load_b tabOk rfl rfl rfl (RP.blk hP) rfl rfl ?_)))))
    refine lw_pure (pur_add rfl rfl (IntWalk.i64_in _ (by omega))) rfl ?_
    refine lw_pure (pur_nilCheck rfl) rfl (lw_pure (pur_fieldAddr tabOk rfl rfl rfl) rfl ?_)
    refine lw_rp_at tabOk rfl rfl rfl rfl (by assumption) h2 ?_
    rintro wf39 hf40 ff41
    have zf42 := Fr.size ff41
    replace hf34 := Blk.fr hf34 ff41 (by omega)
    replace hf25 := Blk.fr hf25 ff41 (by omega)
    replace hf16 := Blk.fr hf16 ff41 (by omega)
    replace hf5 := Blk.fr hf5 ff41 (by omega)
    clear hP
    replace X := Fr.fr X ff41 (by omega)
    clear ff41
    refine cN (cM rfl rfl (cM rfl rfl ?_))
    refine lw_pure (pur_conv tabOk rfl rfl rfl (u8_wrap _ (by omega) (by omega))) rfl ?_
    refine lw_pure (pur_add rfl rfl (u8_wrap _ (by omega) (by omega))) rfl ?_
    refine lw_does (does_call (by kernel_rfl) rfl (rcall_c c (k + 1) _ σ _ hin (by assumption) (by omega)) (fun _ _ h => h.ret)) rfl ?_ (fun _ h => h)
    rintro _ wf48 ⟨af43, ⟨kf44, ⟨⟨⟩, ⟨hf45, ⟨hf46, ff47⟩⟩⟩⟩⟩
    have zf49 := Fr.size ff47
    clear hf40
    replace hf34 := Blk.fr hf34 ff47 (by omega)
    replace hf25 := Blk.fr hf25 ff47 (by omega)
    replace hf16 := Blk.fr hf16 ff47 (by omega)
    replace hf5 := Blk.fr hf5 ff47 (by omega)
    replace X := Fr.fr X ff47 (by omega)
    clear ff47
    (refine lw_store' [_, _, _, _] [_, _, _, _] tabOk rfl rfl rfl rfl rfl rfl hf5 rfl rfl ?_; intro wf50 nf51)
    have hf54 := Put.blk nf51
    have ff52 := Put.fr nf51
    have zf53 := Put.size nf51
    clear nf51 hf5
    replace hf45 := Nd.sits.fr hf45 ff52 (by omega)
    replace hf46 := RP.fr hf46 ff52 (by omega)
    replace hf34 := Blk.fr hf34 ff52 (by omega)
    replace hf25 := Blk.fr hf25 ff52 (by omega)
    replace hf16 := Blk.fr hf16 ff52 (by omega)
    replace X := Fr.fr X ff52 (by omega)
    clear ff52
    refine cT (cw_ret (qw_then_ret (qw_retc rfl tabOk rfl rfl rfl hf54 rfl ?_)))
    rotate_left 1
   exact rtree_ret (Nd.sits.wide (by assumption) (fun b h => by omega)) (by assumption) X
 rw [if_neg e6]
 by_cases e7 : (peekP c.ts σ).text = [117, 110, 99, 97, 108, 108]
 · rw [if_pos e7]
   have hin := HIN.out _ e7 (by decide)
   have h2 := hin.2
   have hm := mS_next hin
   have i1 : idxF [[112, 117, 115, 104], [112, 111, 112]] (peekP c.ts σ).text 0 = -1 := by rw [e7]; decide
   have i2 : idxF [[114, 101, 97, 100], [117, 110, 114, 101, 97, 100], [119, 114, 105, 116, 101], [117, 110, 119, 114, 105, 116, 101]] (peekP c.ts σ).text 0 = -1 := by rw [e7]; decide
   have i3 : idxF [[99, 97, 108, 108], [117, 110, 99, 97, 108, 108]] (peekP c.ts σ).text 0 = 1 := by rw [e7]; decide
   rw [show callR c.ts c.n (k + 1) 51 σ = callR c.ts c.n (k + 1) (50 + idxF [[99, 97, 108, 108], [117, 110, 99, 97, 108, 108]] (peekP c.ts σ).text 0) σ from by rw [i3]; rfl]
   refine calls_in Tryz.func94 Tryz.ntmps94 rfl rfl ?_
   focus
    refine cS ?_
    (refine lw_alloc' [_, _, _, _] zOk rfl rfl ?_; intro bg1 wg2 ng3)
    have hg5 := New.blk ng3
    have xg6 := New.ext ng3
    have pg7 := New.pos ng3
    have zg8 := New.size ng3
    clear ng3
    replace hP := RP.ext hP xg6
    replace X := Fr.ext X xg6
    clear xg6
    refine cN (cM rfl rfl ?_)
    refine lw_does (does_call (by kernel_rfl) rfl (rpeek_c _ _ _ (by assumption)) (fun _ _ h => ⟨_, h.1⟩)) rfl ?_ (fun _ h => h)
    rintro _ wg10 ⟨⟨⟩, xg9⟩
    have zg11 := Ext.size xg9
    replace hg5 := Blk.ext hg5 xg9
    replace hP := RP.ext hP xg9
    replace X := Fr.ext X xg9
    clear xg9
    refine cA rfl rfl (cT (cw_seq (cS ?_)))
    (refine lw_does (does_slice' [_, _] tabOk zOk rfl rfl rfl rfl rfl rfl rfl rfl rfl) rfl ?_ (fun _ h => h); rintro _ wg13 ⟨bg12, rfl, ng14, tg15⟩)
    clear tg15
    have hg16 := New.blk ng14
    have xg17 := New.ext ng14
    have pg18 := New.pos ng14
    have zg19 := New.size ng14
    clear ng14
    replace hg5 := Blk.ext hg5 xg17
    replace hP := RP.ext hP xg17
    replace X := Fr.ext X xg17
    clear xg17
    refine cM rfl rfl ?_
    refine lw_does (does_call (by kernel_rfl) rfl (rindex_c [[112, 117, 115, 104], [112, 111, 112]] _ _ _ _ (by decide) (Blk.row (by assumption))) (fun _ _ h => ⟨_, h.1⟩)) rfl ?_ (fun _ h => h)
    rintro _ wg20 ⟨⟨⟩, rfl⟩
    refine cA rfl rfl (cN (cM rfl rfl (lw_pure (pur_geq rfl rfl) rfl (cT ?_))))
    refine cw_no rfl (by omega) ?_
    refine cw_skip (qw_then (cw_seq (cS ?_)))
    (refine lw_does (does_slice' [_, _, _, _] tabOk zOk rfl rfl rfl rfl rfl rfl rfl rfl rfl) rfl ?_ (fun _ h => h); rintro _ wg22 ⟨bg21, rfl, ng23, tg24⟩)
    clear tg24
    have hg25 := New.blk ng23
    have xg26 := New.ext ng23
    have pg27 := New.pos ng23
    have zg28 := New.size ng23
    clear ng23
    replace hg16 := Blk.ext hg16 xg26
    replace hg5 := Blk.ext hg5 xg26
    replace hP := RP.ext hP xg26
    replace X := Fr.ext X xg26
    clear xg26
    refine cM rfl rfl ?_
    refine lw_does (does_call (by kernel_rfl) rfl (rindex_c [[114, 101, 97, 100], [117, 110, 114, 101, 97, 100], [119, 114, 105, 116, 101], [117, 110, 119, 114, 105, 116, 101]] _ _ _ _ (by decide) (Blk.row (by assumption))) (fun _ _ h => ⟨_, h.1⟩)) rfl ?_ (fun _ h => h)
    rintro _ wg29 ⟨⟨⟩, rfl⟩
    refine cA rfl rfl (cN (cM rfl rfl (lw_pure (pur_geq rfl rfl) rfl (cT ?_))))
    refine cw_no rfl (by omega) ?_
    refine cw_skip (qw_then (cw_seq (cS ?_)))
    (refine lw_does (does_slice' [_, _] tabOk zOk rfl rfl rfl rfl rfl rfl rfl rfl rfl) rfl ?_ (fun _ h => h); rintro _ wg31 ⟨bg30, rfl, ng32, tg33⟩)
    clear tg33
    have hg34 := New.blk ng32
    have xg35 := New.ext ng32
    have pg36 := New.pos ng32
    have zg37 := New.size ng32
    clear ng32
    replace hg25 := Blk.ext hg25 xg35
    replace hg16 := Blk.ext hg16 xg35
    replace hg5 := Blk.ext hg5 xg35
    replace hP := RP.ext hP xg35
    replace X := Fr.ext X xg35
    clear xg35
    refine cM rfl rfl ?_
    refine lw_does (does_call (by kernel_rfl) rfl (rindex_c [[99, 97, 108, 108], [117, 110, 99, 97, 108, 108]] _ _ _ _ (by decide) (Blk.row (by assumption))) (fun _ _ h => ⟨_, h.1⟩)) rfl ?_ (fun _ h => h)
    rintro _ wg38 ⟨⟨⟩, rfl⟩
    refine cA rfl rfl (cN (cM rfl rfl (lw_pure (pur_geq rfl rfl) rfl (cT ?_))))
    refine cw_yes rfl (by omega) ?_
    refine cS (cM rfl rfl (cM rfl rfl (lw_pure (pur_nilCheck rfl) rfl (lw_pure (pur_fieldAddr tabOk rfl rfl rfl) rfl (lw_load_b tabOk rfl rfl rfl (RP.blk hP) rfl rfl ?_)))))
    refine lw_pure (pur_add rfl rfl (IntWalk.i64_in _ (by omega))) rfl ?_
    refine lw_pure (pur_nilCheck rfl) rfl (lw_pure (pur_fieldAddr tabOk rfl rfl rfl) rfl ?_)
    refine lw_rp_at tabOk rfl rfl rfl rfl (by assumption) h2 ?_
    rintro wg39 hg40 fg41
    have zg42 := Fr.size fg41
    replace hg34 := Blk.fr hg34 fg41 (by omega)
    replace hg25 := Blk.fr hg25 fg41 (by omega)
    replace hg16 := Blk.fr hg16 fg41 (by omega)
    replace hg5 := Blk.fr hg5 fg41 (by omega)
    clear hP
    replace X := Fr.fr X fg41 (by omega)
    clear fg41
    refine cN (cM rfl rfl (cM rfl rfl ?_))
    refine lw_pure (pur_conv tabOk rfl rfl rfl (u8_wrap _ (by omega) (by omega))) rfl ?_
    refine lw_pure (pur_add rfl rfl (u8_wrap _ (by omega) (by omega))) rfl ?_
    refine lw_does (does_call (by kernel_rfl) rfl (rcall_c c (k + 1) _ σ _ hin (by assumption) (by omega)) (fun _ _ h => h.ret)) rfl ?_ (fun _ h => h)
    rintro _ wg48 ⟨ag43, ⟨kg44, ⟨⟨⟩, ⟨hg45, ⟨hg46, fg47⟩⟩⟩⟩⟩
    have zg49 := Fr.size fg47
    clear hg40
    replace hg34 := Blk.fr hg34 fg47 (by omega)
    replace hg25 := Blk.fr hg25 fg47 (by omega)
    replace hg16 := Blk.fr hg16 fg47 (by omega)
    replace hg5 := Blk.fr hg5 fg47 (by omega)
    replace X := Fr.fr X fg47 (by omega)
    clear fg47
    (refine lw_store' [_, _, _, _] [_, _, _, _] tabOk rfl rfl rfl rfl rfl rfl hg5 rfl rfl ?_; intro wg50 ng51)
    have hg54 := Put.blk ng51
    have fg52 := Put.fr ng51
    have zg53 := Put.size ng51
    clear ng51 hg5
    replace hg45 := Nd.sits.fr hg45 fg52 (by omega)
    replace hg46 := RP.fr hg46 fg52 (by omega)
    replace hg34 := Blk.fr hg34 fg52 (by omega)
    replace hg25 := Blk.fr hg25 fg52 (by omega)
    replace hg16 := Blk.fr hg16 fg52 (by omega)
    replace X := Fr.fr X fg52 (by omega)
    clear fg52
    refine cT (cw_ret (qw_then_ret (qw_retc rfl tabOk rfl rfl rfl hg54 rfl ?_)))
    rotate_left 1
   exact rtree_ret (Nd.sits.wide (by assumption) (fun b h => by omega)) (by assumption) X
 rw [if_neg e7]
 by_cases e8 : (peekP c.ts σ).text = [105, 102]
 · rw [if_pos e8]
   have hin := HIN.out _ e8 (by decide)
   have h2 := hin.2
   have hm := mS_next hin
   have i1 : idxF [[112, 117, 115, 104], [112, 111, 112]] (peekP c.ts σ).text 0 = -1 := by rw [e8]; decide
   have i2 : idxF [[114, 101, 97, 100], [117, 110, 114, 101, 97, 100], [119, 114, 105, 116, 101], [117, 110, 119, 114, 105, 116, 101]] (peekP c.ts σ).text 0 = -1 := by rw [e8]; decide
   have i3 : idxF [[99, 97, 108, 108], [117, 110, 99, 97, 108, 108]] (peekP c.ts σ).text 0 = -1 := by rw [e8]; decide
   have g_if : hasP c.ts σ [105, 102] = true := by simp [hasP, e8]
   have g_from : hasP c.ts σ [102, 114, 111, 109] = false := by simp [hasP, e8]
   have g_local : hasP c.ts σ [108, 111, 99, 97, 108] = false := by simp [hasP, e8]
   rw [branchesR]
   (try dsimp only)
   have l1 := next_le hin
   have l2 := exprR_le (n := c.n) (k := k) (lv := 1) l1.wf
   have l3 := (stmtR_inv (ts := c.ts) (n := c.n) k).2.2.2.1 _ l2.wf
   have l4 := expect_le (n := c.n) (t := [101, 108, 115, 101]) l3.wf (by decide)
   have l5 := (stmtR_inv (ts := c.ts) (n := c.n) k).2.2.2.1 _ l4.wf
   have l6 := expect_le (n := c.n) (t := [102, 105]) l5.wf (by decide)
   have m2 := mS_le l2
   have m3 := mS_le l3
   have m4 := mS_le l4
   have m5 := mS_le l5
   have m6 := mS_le l6
   clear l1 l2 l3 l4 l5 l6
   refine calls_in Tryz.func94 Tryz.ntmps94 rfl rfl ?_
   focus
    refine cS ?_
    (refine lw_alloc' [_, _, _, _] zOk rfl rfl ?_; intro bh1 wh2 nh3)
    have hh5 := New.blk nh3
    have xh6 := New.ext nh3
    have ph7 := New.pos nh3
    have zh8 := New.size nh3
    clear nh3
    replace hP := RP.ext hP xh6
    replace X := Fr.ext X xh6
    clear xh6
    refine cN (cM rfl rfl ?_)
    refine lw_does (does_call (by kernel_rfl) rfl (rpeek_c _ _ _ (by assumption)) (fun _ _ h => ⟨_, h.1⟩)) rfl ?_ (fun _ h => h)
    rintro _ wh10 ⟨⟨⟩, xh9⟩
    have zh11 := Ext.size xh9
    replace hh5 := Blk.ext hh5 xh9
    replace hP := RP.ext hP xh9
    replace X := Fr.ext X xh9
    clear xh9
    refine cA rfl rfl (cT (cw_seq (cS ?_)))
    (refine lw_does (does_slice' [_, _] tabOk zOk rfl rfl rfl rfl rfl rfl rfl rfl rfl) rfl ?_ (fun _ h => h); rintro _ wh13 ⟨bh12, rfl, nh14, th15⟩)
    clear th15
    have hh16 := New.blk nh14
    have xh17 := New.ext nh14
    have ph18 := New.pos nh14
    have zh19 := New.size nh14
    clear nh14
    replace hh5 := Blk.ext hh5 xh17
    replace hP := RP.ext hP xh17
    replace X := Fr.ext X xh17
    clear xh17
    refine cM rfl rfl ?_
    refine lw_does (does_call (by kernel_rfl) rfl (rindex_c [[112, 117, 115, 104], [112, 111, 112]] _ _ _ _ (by decide) (Blk.row (by assumption))) (fun _ _ h => ⟨_, h.1⟩)) rfl ?_ (fun _ h => h)
    rintro _ wh20 ⟨⟨⟩, rfl⟩
    refine cA rfl rfl (cN (cM rfl rfl (lw_pure (pur_geq rfl rfl) rfl (cT ?_))))
    refine cw_no rfl (by omega) ?_
    refine cw_skip (qw_then (cw_seq (cS ?_)))
    (refine lw_does (does_slice' [_, _, _, _] tabOk zOk rfl rfl rfl rfl rfl rfl rfl rfl rfl) rfl ?_ (fun _ h => h); rintro _ wh22 ⟨bh21, rfl, nh23, th24⟩)
    clear th24
    have hh25 := New.blk nh23
    have xh26 := New.ext nh23
    have ph27 := New.pos nh23
    have zh28 := New.size nh23
    clear nh23
    replace hh16 := Blk.ext hh16 xh26
    replace hh5 := Blk.ext hh5 xh26
    replace hP := RP.ext hP xh26
    replace X := Fr.ext X xh26
    clear xh26
    refine cM rfl rfl ?_
    refine lw_does (does_call (by kernel_rfl) rfl (rindex_c [[114, 101, 97, 100], [117, 110, 114, 101, 97, 100], [119, 114, 105, 116, 101], [117, 110, 119, 114, 105, 116, 101]] _ _ _ _ (by decide) (Blk.row (by assumption))) (fun _ _ h => ⟨_, h.1⟩)) rfl ?_ (fun _ h => h)
    rintro _ wh29 ⟨⟨⟩, rfl⟩
    refine cA rfl rfl (cN (cM rfl rfl (lw_pure (pur_geq rfl rfl) rfl (cT ?_))))
    refine cw_no rfl (by omega) ?_
    refine cw_skip (qw_then (cw_seq (cS ?_)))
    (refine lw_does (does_slice' [_, _] tabOk zOk rfl rfl rfl rfl rfl rfl rfl rfl rfl) rfl ?_ (fun _ h => h); rintro _ wh31 ⟨bh30, rfl, nh32, th33⟩)
    clear th33
    have hh34 := New.blk nh32
    have xh35 := New.ext nh32
    have ph36 := New.pos nh32
    have zh37 := New.size nh32
    clear nh32
    replace hh25 := Blk.ext hh25 xh35
    replace hh16 := Blk.ext hh16 xh35
    replace hh5 := Blk.ext hh5 xh35
    replace hP := RP.ext hP xh35
    replace X := Fr.ext X xh35
    clear xh35
    refine cM rfl rfl ?_
    refine lw_does (does_call (by kernel_rfl) rfl (rindex_c [[99, 97, 108, 108], [117, 110, 99, 97, 108, 108]] _ _ _ _ (by decide) (Blk.row (by assumption))) (fun _ _ h => ⟨_, h.1⟩)) rfl ?_ (fun _ h => h)
    rintro _ wh38 ⟨⟨⟩, rfl⟩
    refine cA rfl rfl (cN (cM rfl rfl (lw_pure (pur_geq rfl rfl) rfl (cT ?_))))
    refine cw_no rfl (by omega) ?_
    refine cw_skip (qw_then (cw_seq (cS (cM rfl rfl ?_))))
    refine lw_does (does_call (by kernel_rfl) rfl (rhas_t _ _ _ _ (by assumption) (by decide) (by assumption)) (fun _ _ h => ⟨_, h.1⟩)) rfl ?_ (fun _ h => h)
    rintro _ wh41 ⟨⟨⟩, ⟨hh39, fh40⟩⟩
    have zh42 := Fr.size fh40
    replace hh34 := Blk.fr hh34 fh40 (by omega)
    replace hh25 := Blk.fr hh25 fh40 (by omega)
    replace hh16 := Blk.fr hh16 fh40 (by omega)
    replace hh5 := Blk.fr hh5 fh40 (by omega)
    clear hP
    replace X := Fr.fr X fh40 (by omega)
    clear fh40
    refine cT (cw_cond_t rfl (cS (cM rfl rfl ?_)))
    refine lw_does (does_call (by kernel_rfl) rfl ((rexprs_c c k).expr _ _ _ (by assumption) (by decide) (by decide) (by omega)) (fun _ _ h => h.ret)) rfl ?_ (fun _ h => h)
    rintro _ wh48 ⟨ah43, ⟨kh44, ⟨⟨⟩, ⟨hh45, ⟨hh46, fh47⟩⟩⟩⟩⟩
    have zh49 := Fr.size fh47
    clear hh39
    replace hh34 := Blk.fr hh34 fh47 (by omega)
    replace hh25 := Blk.fr hh25 fh47 (by omega)
    replace hh16 := Blk.fr hh16 fh47 (by omega)
    replace hh5 := Blk.fr hh5 fh47 (by omega)
    replace X := Fr.fr X fh47 (by omega)
    clear fh47
    (refine lw_alloc' [_, _, _, _] zOk rfl rfl ?_; intro bh50 wh51 nh52)
    (refine lw_init' [_, _, _, _] tabOk rfl rfl rfl rfl rfl rfl nh52 rfl ?_; clear nh52; clear wh51; intro wh53 nh52)
    have hh54 := New.blk nh52
    have xh55 := New.ext nh52
    have ph56 := New.pos nh52
    have zh57 := New.size nh52
    clear nh52
    replace hh45 := Nd.sits.ext hh45 xh55
    replace hh46 := RP.ext hh46 xh55
    replace hh34 := Blk.ext hh34 xh55
    replace hh25 := Blk.ext hh25 xh55
    replace hh16 := Blk.ext hh16 xh55
    replace hh5 := Blk.ext hh5 xh55
    replace X := Fr.ext X xh55
    clear xh55
    refine cN (cM rfl rfl ?_)
    refine lw_does (does_call (by kernel_rfl) rfl ((IH k (by omega)).body _ _ (by assumption) (by omega)) (fun _ _ h => h.ret)) rfl ?_ (fun _ h => h)
    rintro _ wh63 ⟨ah58, ⟨kh59, ⟨⟨⟩, ⟨hh60, ⟨hh61, fh62⟩⟩⟩⟩⟩
    have zh64 := Fr.size fh62
    replace hh54 := Blk.fr hh54 fh62 (by omega)
    replace hh45 := Nd.sits.fr hh45 fh62 (by omega)
    clear hh46
    replace hh34 := Blk.fr hh34 fh62 (by omega)
    replace hh25 := Blk.fr hh25 fh62 (by omega)
    replace hh16 := Blk.fr hh16 fh62 (by omega)
    replace hh5 := Blk.fr hh5 fh62 (by omega)
    replace X := Fr.fr X fh62 (by omega)
    clear fh62
    (refine lw_alloc' [_, _, _, _] zOk rfl rfl ?_; intro bh65 wh66 nh67)
    (refine lw_init' [_, _, _, _] tabOk rfl rfl rfl rfl rfl rfl nh67 rfl ?_; clear nh67; clear wh66; intro wh68 nh67)
    have hh69 := New.blk nh67
    have xh70 := New.ext nh67
    have ph71 := New.pos nh67
    have zh72 := New.size nh67
    clear nh67
    replace hh60 := Nd.sits.ext hh60 xh70
    replace hh61 := RP.ext hh61 xh70
    replace hh54 := Blk.ext hh54 xh70
    replace hh45 := Nd.sits.ext hh45 xh70
    replace hh34 := Blk.ext hh34 xh70
    replace hh25 := Blk.ext hh25 xh70
    replace hh16 := Blk.ext hh16 xh70
    replace hh5 := Blk.ext hh5 xh70
    replace X := Fr.ext X xh70
    clear xh70
    refine cN (cM rfl rfl ?_)
    refine lw_does (does_call (by kernel_rfl) rfl (rtake_c _ _ _ _ (by assumption) (by decide)) (fun _ _ h => ⟨_, h.1⟩)) rfl ?_ (fun _ h => h)
    rintro _ wh75 ⟨⟨⟩, ⟨hh73, fh74⟩⟩
    have zh76 := Fr.size fh74
    replace hh69 := Blk.fr hh69 fh74 (by omega)
    replace hh60 := Nd.sits.fr hh60 fh74 (by omega)
    clear hh61
    replace hh54 := Blk.fr hh54 fh74 (by omega)
    replace hh45 := Nd.sits.fr hh45 fh74 (by omega)
    replace hh34 := Blk.fr hh34 fh74 (by omega)
    replace hh25 := Blk.fr hh25 fh74 (by omega)
    replace hh16 := Blk.fr hh16 fh74 (by omega)
    replace hh5 := Blk.fr hh5 fh74 (by omega)
    replace X := Fr.fr X fh74 (by omega)
    clear fh74
    refine cN (cM rfl rfl ?_)
    refine lw_does (does_call (by kernel_rfl) rfl ((IH k (by omega)).body _ _ (by assumption) (by omega)) (fun _ _ h => h.ret)) rfl ?_ (fun _ h => h)
    rintro _ wh82 ⟨ah77, ⟨kh78, ⟨⟨⟩, ⟨hh79, ⟨hh80, fh81⟩⟩⟩⟩⟩
    have zh83 := Fr.size fh81
    clear hh73
    replace hh69 := Blk.fr hh69 fh81 (by omega)
    replace hh60 := Nd.sits.fr hh60 fh81 (by omega)
    replace hh54 := Blk.fr hh54 fh81 (by omega)
    replace hh45 := Nd.sits.fr hh45 fh81 (by omega)
    replace hh34 := Blk.fr hh34 fh81 (by omega)
    replace hh25 := Blk.fr hh25 fh81 (by omega)
    replace hh16 := Blk.fr hh16 fh81 (by omega)
    replace hh5 := Blk.fr hh5 fh81 (by omega)
    replace X := Fr.fr X fh81 (by omega)
    clear fh81
    (refine lw_alloc' [_, _, _, _] zOk rfl rfl ?_; intro bh84 wh85 nh86)
    (refine lw_init' [_, _, _, _] tabOk rfl rfl rfl rfl rfl rfl nh86 rfl ?_; clear nh86; clear wh85; intro wh87 nh86)
    have hh88 := New.blk nh86
    have xh89 := New.ext nh86
    have ph90 := New.pos nh86
    have zh91 := New.size nh86
    clear nh86
    replace hh79 := Nd.sits.ext hh79 xh89
    replace hh80 := RP.ext hh80 xh89
    replace hh69 := Blk.ext hh69 xh89
    replace hh60 := Nd.sits.ext hh60 xh89
    replace hh54 := Blk.ext hh54 xh89
    replace hh45 := Nd.sits.ext hh45 xh89
    replace hh34 := Blk.ext hh34 xh89
    replace hh25 := Blk.ext hh25 xh89
    replace hh16 := Blk.ext hh16 xh89
    replace hh5 := Blk.ext hh5 xh89
    replace X := Fr.ext X xh89
    clear xh89
    refine cN (cM rfl rfl ?_)
    refine lw_does (does_call (by kernel_rfl) rfl (rtake_c _ _ _ _ (by assumption) (by decide)) (fun _ _ h => ⟨_, h.1⟩)) rfl ?_ (fun _ h => h)
    rintro _ wh94 ⟨⟨⟩, ⟨hh92, fh93⟩⟩
    have zh95 := Fr.size fh93
    replace hh88 := Blk.fr hh88 fh93 (by omega)
    replace hh79 := Nd.sits.fr hh79 fh93 (by omega)
    clear hh80
    replace hh69 := Blk.fr hh69 fh93 (by omega)
    replace hh60 := Nd.sits.fr hh60 fh93 (by omega)
    replace hh54 := Blk.fr hh54 fh93 (by omega)
    replace hh45 := Nd.sits.fr hh45 fh93 (by omega)
    replace hh34 := Blk.fr hh34 fh93 (by omega)
    replace hh25 := Blk.fr hh25 fh93 (by omega)
    replace hh16 := Blk.fr hh16 fh93 (by omega)
    replace hh5 := Blk.fr hh5 fh93 (by omega)
    replace X := Fr.fr X fh93 (by omega)
    clear fh93
    refine cT (cw_seq ?_)
    (refine cw_tdraw (fun wz => Fr (· = c.pb) wh94 wz) 5 (.pure 0 (.pure 1 (.pure 2 (.pure 3 (.fork 4 .tail .none))))) mixed (by kernel_rfl) (panicOk_then (panicOk_then panicOk_body)) ?_; intro wh96 xh97 _)
    have qsh98 : (fun wz => Fr (· = c.pb) wh94 wz) wh96 := Fr.of_ext xh97
    simp only at qsh98
    have d_hh92 := hh92
    have d_hh88 := hh88
    have d_hh79 := hh79
    have d_hh69 := hh69
    have d_hh60 := hh60
    have d_hh54 := hh54
    have d_hh45 := hh45
    have d_hh34 := hh34
    have d_hh25 := hh25
    have d_hh16 := hh16
    have d_hh5 := hh5
    have zh99 := Ext.size xh97
    replace hh92 := RP.ext hh92 xh97
    replace hh88 := Blk.ext hh88 xh97
    replace hh79 := Nd.sits.ext hh79 xh97
    replace hh69 := Blk.ext hh69 xh97
    replace hh60 := Nd.sits.ext hh60 xh97
    replace hh54 := Blk.ext hh54 xh97
    replace hh45 := Nd.sits.ext hh45 xh97
    replace hh34 := Blk.ext hh34 xh97
    replace hh25 := Blk.ext hh25 xh97
    replace hh16 := Blk.ext hh16 xh97
    replace hh5 := Blk.ext hh5 xh97
    replace X := Fr.ext X xh97
    clear xh97
    refine ⟨qsh98, ?_⟩
    refine tw_pure rfl (pur_loads_blk' [_, _, _, _] tabOk rfl rfl rfl (fun wz hz => (Blk.fr d_hh54 hz (by omega))) rfl rfl) rfl ?_
    refine tw_pure rfl (pur_loads_blk' [_, _, _, _] tabOk rfl rfl rfl (fun wz hz => (Blk.fr d_hh69 hz (by omega))) rfl rfl) rfl ?_
    refine tw_pure rfl (pur_loads_blk' [_, _, _, _] tabOk rfl rfl rfl (fun wz hz => (Blk.fr d_hh88 hz (by omega))) rfl rfl) rfl ?_
    refine tw_pure rfl (pur_move rfl) rfl ?_
    refine tw_does rfl (does_call (by kernel_rfl) rfl ((rexprs_c c k).expr _ _ _ (by assumption) (by decide) (by decide) (by omega)) (fun _ _ h => h.ret)) rfl ?_ (fun _ h => h) tw_none
    rintro _ wh105 ⟨ah100, ⟨kh101, ⟨⟨⟩, ⟨hh102, ⟨hh103, fh104⟩⟩⟩⟩⟩
    have zh106 := Fr.size fh104
    replace qsh98 := Fr.fr qsh98 fh104 (by omega)
    clear hh92
    replace hh88 := Blk.fr hh88 fh104 (by omega)
    replace hh79 := Nd.sits.fr hh79 fh104 (by omega)
    replace hh69 := Blk.fr hh69 fh104 (by omega)
    replace hh60 := Nd.sits.fr hh60 fh104 (by omega)
    replace hh54 := Blk.fr hh54 fh104 (by omega)
    replace hh45 := Nd.sits.fr hh45 fh104 (by omega)
    replace hh34 := Blk.fr hh34 fh104 (by omega)
    replace hh25 := Blk.fr hh25 fh104 (by omega)
    replace hh16 := Blk.fr hh16 fh104 (by omega)
    replace hh5 := Blk.fr hh5 fh104 (by omega)
    replace X := Fr.fr X fh104 (by omega)
    clear fh104
    refine ⟨qsh98, ?_⟩
    clear d_hh92 d_hh88 d_hh79 d_hh69 d_hh60 d_hh54 d_hh45 d_hh34 d_hh25 d_hh16 d_hh5 qsh98
    refine tw_tail rfl ?_
    (refine lw_does (does_slice' [_, _, _, _, _, _, _, _, _, _, _, _, _, _, _, _] tabOk zOk rfl rfl rfl rfl rfl rfl rfl rfl rfl) rfl ?_ (fun _ h => h); rintro _ wh108 ⟨bh107, rfl, nh109, th110⟩)
    clear th110
    have hh111 := New.blk nh109
    have xh112 := New.ext nh109
    have ph113 := New.pos nh109
    have zh114 := New.size nh109
    clear nh109
    replace hh102 := Nd.sits.ext hh102 xh112
    replace hh103 := RP.ext hh103 xh112
    replace hh88 := Blk.ext hh88 xh112
    replace hh79 := Nd.sits.ext hh79 xh112
    replace hh69 := Blk.ext hh69 xh112
    replace hh60 := Nd.sits.ext hh60 xh112
    replace hh54 := Blk.ext hh54 xh112
    replace hh45 := Nd.sits.ext hh45 xh112
    replace hh34 := Blk.ext hh34 xh112
    replace hh25 := Blk.ext hh25 xh112
    replace hh16 := Blk.ext hh16 xh112
    replace hh5 := Blk.ext hh5 xh112
    replace X := Fr.ext X xh112
    clear xh112
    refine lw_does (does_call (by kernel_rfl) rfl (rnode4 _ _ _ _ _ _ _ _ _ _ _ _ _ _ _ _ _ _ _ _ _ (by assumption) (by assumption) (by assumption) (by assumption) (by assumption)) (fun _ _ h => h.ret)) rfl ?_ (fun _ h => h)
    rintro _ wh119 ⟨ah115, ⟨kh116, ⟨⟨⟩, ⟨hh117, xh118⟩⟩⟩⟩
    have zh120 := Ext.size xh118
    replace hh111 := Blk.ext hh111 xh118
    replace hh102 := Nd.sits.ext hh102 xh118
    replace hh103 := RP.ext hh103 xh118
    replace hh88 := Blk.ext hh88 xh118
    replace hh79 := Nd.sits.ext hh79 xh118
    replace hh69 := Blk.ext hh69 xh118
    replace hh60 := Nd.sits.ext hh60 xh118
    replace hh54 := Blk.ext hh54 xh118
    replace hh45 := Nd.sits.ext hh45 xh118
    replace hh34 := Blk.ext hh34 xh118
    replace hh25 := Blk.ext hh25 xh118
    replace hh16 := Blk.ext hh16 xh118
    replace hh5 := Blk.ext hh5 xh118
    replace X := Fr.ext X xh118
    clear xh118
    (refine lw_store' [_, _, _, _] [_, _, _, _] tabOk rfl rfl rfl rfl rfl rfl hh5 rfl rfl ?_; intro wh121 nh122)
    have hh125 := Put.blk nh122
    have fh123 := Put.fr nh122
    have zh124 := Put.size nh122
    clear nh122 hh5
    replace hh117 := Nd.sits.fr hh117 fh123 (by omega)
    replace hh111 := Blk.fr hh111 fh123 (by omega)
    replace hh102 := Nd.sits.fr hh102 fh123 (by omega)
    replace hh103 := RP.fr hh103 fh123 (by omega)
    replace hh88 := Blk.fr hh88 fh123 (by omega)
    replace hh79 := Nd.sits.fr hh79 fh123 (by omega)
    replace hh69 := Blk.fr hh69 fh123 (by omega)
    replace hh60 := Nd.sits.fr hh60 fh123 (by omega)
    replace hh54 := Blk.fr hh54 fh123 (by omega)
    replace hh45 := Nd.sits.fr hh45 fh123 (by omega)
    replace hh34 := Blk.fr hh34 fh123 (by omega)
    replace hh25 := Blk.fr hh25 fh123 (by omega)
    replace hh16 := Blk.fr hh16 fh123 (by omega)
    replace X := Fr.fr X fh123 (by omega)
    clear fh123
    refine cT (cw_ret (qw_then_ret (qw_retc rfl tabOk rfl rfl rfl hh125 rfl ?_)))
    rotate_left 1
   exact rtree_ret (Nd.sits.wide (by assumption) (fun b h => by omega)) (by assumption) X
 rw [if_neg e8]
 by_cases e9 : (peekP c.ts σ).text = [102, 114, 111, 109]
 · rw [if_pos e9]
   have hin := HIN.out _ e9 (by decide)
   have h2 := hin.2
   have hm := mS_next hin
   have i1 : idxF [[112, 117, 115, 104], [112, 111, 112]] (peekP c.ts σ).text 0 = -1 := by rw [e9]; decide
   have i2 : idxF [[114, 101, 97, 100], [117, 110, 114, 101, 97, 100], [119, 114, 105, 116, 101], [117, 110, 119, 114, 105, 116, 101]] (peekP c.ts σ).text 0 = -1 := by rw [e9]; decide
   have i3 : idxF [[99, 97, 108, 108], [117, 110, 99, 97, 108, 108]] (peekP c.ts σ).text 0 = -1 := by rw [e9]; decide
   have g_if : hasP c.ts σ [105, 102] = false := by simp [hasP, e9]
   have g_from : hasP c.ts σ [102, 114, 111, 109] = true := by simp [hasP, e9]
   have g_local : hasP c.ts σ [108, 111, 99, 97, 108] = false := by simp [hasP, e9]
   rw [branchesR]
   (try dsimp only)
   have l1 := next_le hin
   have l2 := exprR_le (n := c.n) (k := k) (lv := 1) l1.wf
   have l3 := (stmtR_inv (ts := c.ts) (n := c.n) k).2.2.2.1 _ l2.wf
   have l4 := expect_le (n := c.n) (t := [108, 111, 111, 112]) l3.wf (by decide)
   have l5 := (stmtR_inv (ts := c.ts) (n := c.n) k).2.2.2.1 _ l4.wf
   have l6 := expect_le (n := c.n) (t := [117, 110, 116, 105, 108]) l5.wf (by decide)
   have m2 := mS_le l2
   have m3 := mS_le l3
   have m4 := mS_le l4
   have m5 := mS_le l5
   have m6 := mS_le l6
   clear l1 l2 l3 l4 l5 l6
   refine calls_in Tryz.func94 Tryz.ntmps94 rfl rfl ?_
   focus
    refine cS ?_
    (refine lw_alloc' [_, _, _, _] zOk rfl rfl ?_; intro bi1 wi2 ni3)
    have hi5 := New.blk ni3
    have xi6 := New.ext ni3
    have pi7 := New.pos ni3
    have zi8 := New.size ni3
    clear ni3
    replace hP := RP.ext hP xi6
    replace X := Fr.ext X xi6
    clear xi6
    refine cN (cM rfl rfl ?_)
    refine lw_does (does_call (by kernel_rfl) rfl (rpeek_c _ _ _ (by assumption)) (fun _ _ h => ⟨_, h.1⟩)) rfl ?_ (fun _ h => h)
    rintro _ wi10 ⟨⟨⟩, xi9⟩
    have zi11 := Ext.size xi9
    replace hi5 := Blk.ext hi5 xi9
    replace hP := RP.ext hP xi9
    replace X := Fr.ext X xi9
    clear xi9
    refine cA rfl rfl (cT (cw_seq (cS ?_)))
    (refine lw_does (does_slice' [_, _] tabOk zOk rfl rfl rfl rfl rfl rfl rfl rfl rfl) rfl ?_ (fun _ h => h); rintro _ wi13 ⟨bi12, rfl, ni14, ti15⟩)
    clear ti15
    have hi16 := New.blk ni14
    have xi17 := New.ext ni14
    have pi18 := New.pos ni14
    have zi19 := New.size ni14
    clear ni14
    replace hi5 := Blk.ext hi5 xi17
    replace hP := RP.ext hP xi17
    replace X := Fr.ext X xi17
    clear xi17
    refine cM rfl rfl ?_
    refine lw_does (does_call (by kernel_rfl) rfl (rindex_c [[112, 117, 115, 104], [112, 111, 112]] _ _ _ _ (by decide) (Blk.row (by assumption))) (fun _ _ h => ⟨_, h.1⟩)) rfl ?_ (fun _ h => h)
    rintro _ wi20 ⟨⟨⟩, rfl⟩
    refine cA rfl rfl (cN (cM rfl rfl (lw_pure (pur_geq rfl rfl) rfl (cT ?_))))
    refine cw_no rfl (by omega) ?_
    refine cw_skip (qw_then (cw_seq (cS ?_)))
    (refine lw_does (does_slice' [_, _, _, _] tabOk zOk rfl rfl rfl rfl rfl rfl rfl rfl rfl) rfl ?_ (fun _ h => h); rintro _ wi22 ⟨bi21, rfl, ni23, ti24⟩)
    clear ti24
    have hi25 := New.blk ni23
    have xi26 := New.ext ni23
    have pi27 := New.pos ni23
    have zi28 := New.size ni23
    clear ni23
    replace hi16 := Blk.ext hi16 xi26
    replace hi5 := Blk.ext hi5 xi26
    replace hP := RP.ext hP xi26
    replace X := Fr.ext X xi26
    clear xi26
    refine cM rfl rfl ?_
    refine lw_does (does_call (by kernel_rfl) rfl (rindex_c [[114, 101, 97, 100], [117, 110, 114, 101, 97, 100], [119, 114, 105, 116, 101], [117, 110, 119, 114, 105, 116, 101]] _ _ _ _ (by decide) (Blk.row (by assumption))) (fun _ _ h => ⟨_, h.1⟩)) rfl ?_ (fun _ h => h)
    rintro _ wi29 ⟨⟨⟩, rfl⟩
    refine cA rfl rfl (cN (cM rfl rfl (lw_pure (pur_geq rfl rfl) rfl (cT ?_))))
    refine cw_no rfl (by omega) ?_
    refine cw_skip (qw_then (cw_seq (cS ?_)))
    (refine lw_does (does_slice' [_, _] tabOk zOk rfl rfl rfl rfl rfl rfl rfl rfl rfl) rfl ?_ (fun _ h => h); rintro _ wi31 ⟨bi30, rfl, ni32, ti33⟩)
    clear ti33
    have hi34 := New.blk ni32
    have xi35 := New.ext ni32
    have pi36 := New.pos ni32
    have zi37 := New.size ni32
    clear ni32
    replace hi25 := Blk.ext hi25 xi35
    replace hi16 := Blk.ext hi16 xi35
    replace hi5 := Blk.ext hi5 xi35
    replace hP := RP.ext hP xi35
    replace X := Fr.ext X xi35
    clear xi35
    refine cM rfl rfl ?_
    refine lw_does (does_call (by kernel_rfl) rfl (rindex_c [[99, 97, 108, 108], [117, 110, 99, 97, 108, 108]] _ _ _ _ (by decide) (Blk.row (by assumption))) (fun _ _ h => ⟨_, h.1⟩)) rfl ?_ (fun _ h => h)
    rintro _ wi38 ⟨⟨⟩, rfl⟩
    refine cA rfl rfl (cN (cM rfl rfl (lw_pure (pur_geq rfl rfl) rfl (cT ?_))))
    refine cw_no rfl (by omega) ?_
    refine cw_skip (qw_then (cw_seq (cS (cM rfl rfl ?_))))
    refine lw_does (does_call (by kernel_rfl) rfl (rhas_f _ _ _ _ (by assumption) (by decide) (by assumption)) (fun _ _ h => ⟨_, h.1⟩)) rfl ?_ (fun _ h => h)
    rintro _ wi41 ⟨⟨⟩, ⟨hi39, fi40⟩⟩
    have zi42 := Fr.size fi40
    replace hi34 := Blk.fr hi34 fi40 (by omega)
    replace hi25 := Blk.fr hi25 fi40 (by omega)
    replace hi16 := Blk.fr hi16 fi40 (by omega)
    replace hi5 := Blk.fr hi5 fi40 (by omega)
    clear hP
    replace X := Fr.fr X fi40 (by omega)
    clear fi40
    refine cT (cw_cond_f rfl (cw_skip (qw_then (cw_seq (cS (cM rfl rfl ?_))))))
    refine lw_does (does_call (by kernel_rfl) rfl (rhas_t _ _ _ _ (by assumption) (by decide) (by assumption)) (fun _ _ h => ⟨_, h.1⟩)) rfl ?_ (fun _ h => h)
    rintro _ wi45 ⟨⟨⟩, ⟨hi43, fi44⟩⟩
    have zi46 := Fr.size fi44
    clear hi39
    replace hi34 := Blk.fr hi34 fi44 (by omega)
    replace hi25 := Blk.fr hi25 fi44 (by omega)
    replace hi16 := Blk.fr hi16 fi44 (by omega)
    replace hi5 := Blk.fr hi5 fi44 (by omega)
    replace X := Fr.fr X fi44 (by omega)
    clear fi44
    refine cT (cw_cond_t rfl (cS (cM rfl rfl ?_)))
    refine lw_does (does_call (by kernel_rfl) rfl ((rexprs_c c k).expr _ _ _ (by assumption) (by decide) (by decide) (by omega)) (fun _ _ h => h.ret)) rfl ?_ (fun _ h => h)
    rintro _ wi52 ⟨ai47, ⟨ki48, ⟨⟨⟩, ⟨hi49, ⟨hi50, fi51⟩⟩⟩⟩⟩
    have zi53 := Fr.size fi51
    clear hi43
    replace hi34 := Blk.fr hi34 fi51 (by omega)
    replace hi25 := Blk.fr hi25 fi51 (by omega)
    replace hi16 := Blk.fr hi16 fi51 (by omega)
    replace hi5 := Blk.fr hi5 fi51 (by omega)
    replace X := Fr.fr X fi51 (by omega)
    clear fi51
    (refine lw_alloc' [_, _, _, _] zOk rfl rfl ?_; intro bi54 wi55 ni56)
    (refine lw_init' [_, _, _, _] tabOk rfl rfl rfl rfl rfl rfl ni56 rfl ?_; clear ni56; clear wi55; intro wi57 ni56)
    have hi58 := New.blk ni56
    have xi59 := New.ext ni56
    have pi60 := New.pos ni56
    have zi61 := New.size ni56
    clear ni56
    replace hi49 := Nd.sits.ext hi49 xi59
    replace hi50 := RP.ext hi50 xi59
    replace hi34 := Blk.ext hi34 xi59
    replace hi25 := Blk.ext hi25 xi59
    replace hi16 := Blk.ext hi16 xi59
    replace hi5 := Blk.ext hi5 xi59
    replace X := Fr.ext X xi59
    clear xi59
    refine cN (cM rfl rfl ?_)
    refine lw_does (does_call (by kernel_rfl) rfl ((IH k (by omega)).body _ _ (by assumption) (by omega)) (fun _ _ h => h.ret)) rfl ?_ (fun _ h => h)
    rintro _ wi67 ⟨ai62, ⟨ki63, ⟨⟨⟩, ⟨hi64, ⟨hi65, fi66⟩⟩⟩⟩⟩
    have zi68 := Fr.size fi66
    replace hi58 := Blk.fr hi58 fi66 (by omega)
    replace hi49 := Nd.sits.fr hi49 fi66 (by omega)
    clear hi50
    replace hi34 := Blk.fr hi34 fi66 (by omega)
    replace hi25 := Blk.fr hi25 fi66 (by omega)
    replace hi16 := Blk.fr hi16 fi66 (by omega)
    replace hi5 := Blk.fr hi5 fi66 (by omega)
    replace X := Fr.fr X fi66 (by omega)
    clear fi66
    (refine lw_alloc' [_, _, _, _] zOk rfl rfl ?_; intro bi69 wi70 ni71)
    (refine lw_init' [_, _, _, _] tabOk rfl rfl rfl rfl rfl rfl ni71 rfl ?_; clear ni71; clear wi70; intro wi72 ni71)
    have hi73 := New.blk ni71
    have xi74 := New.ext ni71
    have pi75 := New.pos ni71
    have zi76 := New.size ni71
    clear ni71
    replace hi64 := Nd.sits.ext hi64 xi74
    replace hi65 := RP.ext hi65 xi74
    replace hi58 := Blk.ext hi58 xi74
    replace hi49 := Nd.sits.ext hi49 xi74
    replace hi34 := Blk.ext hi34 xi74
    replace hi25 := Blk.ext hi25 xi74
    replace hi16 := Blk.ext hi16 xi74
    replace hi5 := Blk.ext hi5 xi74
    replace X := Fr.ext X xi74
    clear xi74
    refine cN (cM rfl rfl ?_)
    refine lw_does (does_call (by kernel_rfl) rfl (rtake_c _ _ _ _ (by assumption) (by decide)) (fun _ _ h => ⟨_, h.1⟩)) rfl ?_ (fun _ h => h)
    rintro _ wi79 ⟨⟨⟩, ⟨hi77, fi78⟩⟩
    have zi80 := Fr.size fi78
    replace hi73 := Blk.fr hi73 fi78 (by omega)
    replace hi64 := Nd.sits.fr hi64 fi78 (by omega)
    clear hi65
    replace hi58 := Blk.fr hi58 fi78 (by omega)
    replace hi49 := Nd.sits.fr hi49 fi78 (by omega)
    replace hi34 := Blk.fr hi34 fi78 (by omega)
    replace hi25 := Blk.fr hi25 fi78 (by omega)
    replace hi16 := Blk.fr hi16 fi78 (by omega)
    replace hi5 := Blk.fr hi5 fi78 (by omega)
    replace X := Fr.fr X fi78 (by omega)
    clear fi78
    refine cN (cM rfl rfl ?_)
    refine lw_does (does_call (by kernel_rfl) rfl ((IH k (by omega)).body _ _ (by assumption) (by omega)) (fun _ _ h => h.ret)) rfl ?_ (fun _ h => h)
    rintro _ wi86 ⟨ai81, ⟨ki82, ⟨⟨⟩, ⟨hi83, ⟨hi84, fi85⟩⟩⟩⟩⟩
    have zi87 := Fr.size fi85
    clear hi77
    replace hi73 := Blk.fr hi73 fi85 (by omega)
    replace hi64 := Nd.sits.fr hi64 fi85 (by omega)
    replace hi58 := Blk.fr hi58 fi85 (by omega)
    replace hi49 := Nd.sits.fr hi49 fi85 (by omega)
    replace hi34 := Blk.fr hi34 fi85 (by omega)
    replace hi25 := Blk.fr hi25 fi85 (by omega)
    replace hi16 := Blk.fr hi16 fi85 (by omega)
    replace hi5 := Blk.fr hi5 fi85 (by omega)
    replace X := Fr.fr X fi85 (by omega)
    clear fi85
    (refine lw_alloc' [_, _, _, _] zOk rfl rfl ?_; intro bi88 wi89 ni90)
    (refine lw_init' [_, _, _, _] tabOk rfl rfl rfl rfl rfl rfl ni90 rfl ?_; clear ni90; clear wi89; intro wi91 ni90)
    have hi92 := New.blk ni90
    have xi93 := New.ext ni90
    have pi94 := New.pos ni90
    have zi95 := New.size ni90
    clear ni90
    replace hi83 := Nd.sits.ext hi83 xi93
    replace hi84 := RP.ext hi84 xi93
    replace hi73 := Blk.ext hi73 xi93
    replace hi64 := Nd.sits.ext hi64 xi93
    replace hi58 := Blk.ext hi58 xi93
    replace hi49 := Nd.sits.ext hi49 xi93
    replace hi34 := Blk.ext hi34 xi93
    replace hi25 := Blk.ext hi25 xi93
    replace hi16 := Blk.ext hi16 xi93
    replace hi5 := Blk.ext hi5 xi93
    replace X := Fr.ext X xi93
    clear xi93
    refine cN (cM rfl rfl ?_)
    refine lw_does (does_call (by kernel_rfl) rfl (rtake_c _ _ _ _ (by assumption) (by decide)) (fun _ _ h => ⟨_, h.1⟩)) rfl ?_ (fun _ h => h)
    rintro _ wi98 ⟨⟨⟩, ⟨hi96, fi97⟩⟩
    have zi99 := Fr.size fi97
    replace hi92 := Blk.fr hi92 fi97 (by omega)
    replace hi83 := Nd.sits.fr hi83 fi97 (by omega)
    clear hi84
    replace hi73 := Blk.fr hi73 fi97 (by omega)
    replace hi64 := Nd.sits.fr hi64 fi97 (by omega)
    replace hi58 := Blk.fr hi58 fi97 (by omega)
    replace hi49 := Nd.sits.fr hi49 fi97 (by omega)
    replace hi34 := Blk.fr hi34 fi97 (by omega)
    replace hi25 := Blk.fr hi25 fi97 (by omega)
    replace hi16 := Blk.fr hi16 fi97 (by omega)
    replace hi5 := Blk.fr hi5 fi97 (by omega)
    replace X := Fr.fr X fi97 (by omega)
    clear fi97
    refine cT (cw_seq ?_)
    (refine cw_tdraw (fun wz => Fr (· = c.pb) wi98 wz) 5 (.pure 0 (.pure 1 (.pure 2 (.pure 3 (.fork 4 .tail .none))))) mixed (by kernel_rfl) (panicOk_then (panicOk_then panicOk_body)) ?_; intro wi100 xi101 _)
    have qsi102 : (fun wz => Fr (· = c.pb) wi98 wz) wi100 := Fr.of_ext xi101
    simp only at qsi102
    have d_hi96 := hi96
    have d_hi92 := hi92
    have d_hi83 := hi83
    have d_hi73 := hi73
    have d_hi64 := hi64
    have d_hi58 := hi58
    have d_hi49 := hi49
    have d_hi34 := hi34
    have d_hi25 := hi25
    have d_hi16 := hi16
    have d_hi5 := hi5
    have zi103 := Ext.size xi101
    replace hi96 := RP.ext hi96 xi101
    replace hi92 := Blk.ext hi92 xi101
    replace hi83 := Nd.sits.ext hi83 xi101
    replace hi73 := Blk.ext hi73 xi101
    replace hi64 := Nd.sits.ext hi64 xi101
    replace hi58 := Blk.ext hi58 xi101
    replace hi49 := Nd.sits.ext hi49 xi101
    replace hi34 := Blk.ext hi34 xi101
    replace hi25 := Blk.ext hi25 xi101
    replace hi16 := Blk.ext hi16 xi101
    replace hi5 := Blk.ext hi5 xi101
    replace X := Fr.ext X xi101
    clear xi101
    refine ⟨qsi102, ?_⟩
    refine tw_pure rfl (pur_loads_blk' [_, _, _, _] tabOk rfl rfl rfl (fun wz hz => (Blk.fr d_hi58 hz (by omega))) rfl rfl) rfl ?_
    refine tw_pure rfl (pur_loads_blk' [_, _, _, _] tabOk rfl rfl rfl (fun wz hz => (Blk.fr d_hi73 hz (by omega))) rfl rfl) rfl ?_
    refine tw_pure rfl (pur_loads_blk' [_, _, _, _] tabOk rfl rfl rfl (fun wz hz => (Blk.fr d_hi92 hz (by omega))) rfl rfl) rfl ?_
    refine tw_pure rfl (pur_move rfl) rfl ?_
    refine tw_does rfl (does_call (by kernel_rfl) rfl ((rexprs_c c k).expr _ _ _ (by assumption) (by decide) (by decide) (by omega)) (fun _ _ h => h.ret)) rfl ?_ (fun _ h => h) tw_none
    rintro _ wi109 ⟨ai104, ⟨ki105, ⟨⟨⟩, ⟨hi106, ⟨hi107, fi108⟩⟩⟩⟩⟩
    have zi110 := Fr.size fi108
    replace qsi102 := Fr.fr qsi102 fi108 (by omega)
    clear hi96
    replace hi92 := Blk.fr hi92 fi108 (by omega)
    replace hi83 := Nd.sits.fr hi83 fi108 (by omega)
    replace hi73 := Blk.fr hi73 fi108 (by omega)
    replace hi64 := Nd.sits.fr hi64 fi108 (by omega)
    replace hi58 := Blk.fr hi58 fi108 (by omega)
    replace hi49 := Nd.sits.fr hi49 fi108 (by omega)
    replace hi34 := Blk.fr hi34 fi108 (by omega)
    replace hi25 := Blk.fr hi25 fi108 (by omega)
    replace hi16 := Blk.fr hi16 fi108 (by omega)
    replace hi5 := Blk.fr hi5 fi108 (by omega)
    replace X := Fr.fr X fi108 (by omega)
    clear fi108
    refine ⟨qsi102, ?_⟩
    clear d_hi96 d_hi92 d_hi83 d_hi73 d_hi64 d_hi58 d_hi49 d_hi34 d_hi25 d_hi16 d_hi5 qsi102
    refine tw_tail rfl ?_
    (refine lw_does (does_slice' [_, _, _, _, _, _, _, _, _, _, _, _, _, _, _, _] tabOk zOk rfl rfl rfl rfl rfl rfl rfl rfl rfl) rfl ?_ (fun _ h => h); rintro _ wi112 ⟨bi111, rfl, ni113, ti114⟩)
    clear ti114
    have hi115 := New.blk ni113
    have xi116 := New.ext ni113
    have pi117 := New.pos ni113
    have zi118 := New.size ni113
    clear ni113
    replace hi106 := Nd.sits.ext hi106 xi116
    replace hi107 := RP.ext hi107 xi116
    replace hi92 := Blk.ext hi92 xi116
    replace hi83 := Nd.sits.ext hi83 xi116
    replace hi73 := Blk.ext hi73 xi116
    replace hi64 := Nd.sits.ext hi64 xi116
    replace hi58 := Blk.ext hi58 xi116
    replace hi49 := Nd.sits.ext hi49 xi116
    replace hi34 := Blk.ext hi34 xi116
    replace hi25 := Blk.ext hi25 xi116
    replace hi16 := Blk.ext hi16 xi116
    replace hi5 := Blk.ext hi5 xi116
    replace X := Fr.ext X xi116
    clear xi116
    refine lw_does (does_call (by kernel_rfl) rfl (rnode4 _ _ _ _ _ _ _ _ _ _ _ _ _ _ _ _ _ _ _ _ _ (by assumption) (by assumption) (by assumption) (by assumption) (by assumption)) (fun _ _ h => h.ret)) rfl ?_ (fun _ h => h)
    rintro _ wi123 ⟨ai119, ⟨ki120, ⟨⟨⟩, ⟨hi121, xi122⟩⟩⟩⟩
    have zi124 := Ext.size xi122
    replace hi115 := Blk.ext hi115 xi122
    replace hi106 := Nd.sits.ext hi106 xi122
    replace hi107 := RP.ext hi107 xi122
    replace hi92 := Blk.ext hi92 xi122
    replace hi83 := Nd.sits.ext hi83 xi122
    replace hi73 := Blk.ext hi73 xi122
    replace hi64 := Nd.sits.ext hi64 xi122
    replace hi58 := Blk.ext hi58 xi122
    replace hi49 := Nd.sits.ext hi49 xi122
    replace hi34 := Blk.ext hi34 xi122
    replace hi25 := Blk.ext hi25 xi122
    replace hi16 := Blk.ext hi16 xi122
    replace hi5 := Blk.ext hi5 xi122
    replace X := Fr.ext X xi122
    clear xi122
    (refine lw_store' [_, _, _, _] [_, _, _, _] tabOk rfl rfl rfl rfl rfl rfl hi5 rfl rfl ?_; intro wi125 ni126)
    have hi129 := Put.blk ni126
    have fi127 := Put.fr ni126
    have zi128 := Put.size ni126
    clear ni126 hi5
    replace hi121 := Nd.sits.fr hi121 fi127 (by omega)
    replace hi115 := Blk.fr hi115 fi127 (by omega)
    replace hi106 := Nd.sits.fr hi106 fi127 (by omega)
    replace hi107 := RP.fr hi107 fi127 (by omega)
    replace hi92 := Blk.fr hi92 fi127 (by omega)
    replace hi83 := Nd.sits.fr hi83 fi127 (by omega)
    replace hi73 := Blk.fr hi73 fi127 (by omega)
    replace hi64 := Nd.sits.fr hi64 fi127 (by omega)
    replace hi58 := Blk.fr hi58 fi127 (by omega)
    replace hi49 := Nd.sits.fr hi49 fi127 (by omega)
    replace hi34 := Blk.fr hi34 fi127 (by omega)
    replace hi25 := Blk.fr hi25 fi127 (by omega)
    replace hi16 := Blk.fr hi16 fi127 (by omega)
    replace X := Fr.fr X fi127 (by omega)
    clear fi127
    refine cT (cw_ret (qw_then_ret (qw_retc rfl tabOk rfl rfl rfl hi129 rfl ?_)))
    rotate_left 1
   exact rtree_ret (Nd.sits.wide (by assumption) (fun b h => by omega)) (by assumption) X
 rw [if_neg e9]
 by_cases e10 : (peekP c.ts σ).text = [108, 111, 99, 97, 108]
 · rw [if_pos e10]
   have hin := HIN.out _ e10 (by decide)
   have h2 := hin.2
   have hm := mS_next hin
   have i1 : idxF [[112, 117, 115, 104], [112, 111, 112]] (peekP c.ts σ).text 0 = -1 := by rw [e10]; decide
   have i2 : idxF [[114, 101, 97, 100], [117, 110, 114, 101, 97, 100], [119, 114, 105, 116, 101], [117, 110, 119, 114, 105, 116, 101]] (peekP c.ts σ).text 0 = -1 := by rw [e10]; decide
   have i3 : idxF [[99, 97, 108, 108], [117, 110, 99, 97, 108, 108]] (peekP c.ts σ).text 0 = -1 := by rw [e10]; decide
   have g_if : hasP c.ts σ [105, 102] = false := by simp [hasP, e10]
   have g_from : hasP c.ts σ [102, 114, 111, 109] = false := by simp [hasP, e10]
   have g_local : hasP c.ts σ [108, 111, 99, 97, 108] = true := by simp [hasP, e10]
   rw [localR]
   (try dsimp only)
   have l1 := next_le hin
   cases hs : hasP c.ts (nextP σ) [115, 116, 97, 99, 107]
   case true =>
    simp only [if_true]
    have l2 := next_le (has_in l1.wf hs (by decide))
    have l3 := name_le (n := c.n) l2.wf
    have m2 := mS_le l2
    have m3 := mS_le l3
    clear l1 l2 l3
    refine calls_in Tryz.func94 Tryz.ntmps94 rfl rfl ?_
    focus
     refine cS ?_
     (refine lw_alloc' [_, _, _, _] zOk rfl rfl ?_; intro bj1 wj2 nj3)
     have hj5 := New.blk nj3
     have xj6 := New.ext nj3
     have pj7 := New.pos nj3
     have zj8 := New.size nj3
     clear nj3
     replace hP := RP.ext hP xj6
     replace X := Fr.ext X xj6
     clear xj6
     refine cN (cM rfl rfl ?_)
     refine lw_does (does_call (by kernel_rfl) rfl (rpeek_c _ _ _ (by assumption)) (fun _ _ h => ⟨_, h.1⟩)) rfl ?_ (fun _ h => h)
     rintro _ wj10 ⟨⟨⟩, xj9⟩
     have zj11 := Ext.size xj9
     replace hj5 := Blk.ext hj5 xj9
     replace hP := RP.ext hP xj9
     replace X := Fr.ext X xj9
     clear xj9
     refine cA rfl rfl (cT (cw_seq (cS ?_)))
     (refine lw_does (does_slice' [_, _] tabOk zOk rfl rfl rfl rfl rfl rfl rfl rfl rfl) rfl ?_ (fun _ h => h); rintro _ wj13 ⟨bj12, rfl, nj14, tj15⟩)
     clear tj15
     have hj16 := New.blk nj14
     have xj17 := New.ext nj14
     have pj18 := New.pos nj14
     have zj19 := New.size nj14
     clear nj14
     replace hj5 := Blk.ext hj5 xj17
     replace hP := RP.ext hP xj17
     replace X := Fr.ext X xj17
     clear xj17
     refine cM rfl rfl ?_
     refine lw_does (does_call (by kernel_rfl) rfl (rindex_c [[112, 117, 115, 104], [112, 111, 112]] _ _ _ _ (by decide) (Blk.row (by assumption))) (fun _ _ h => ⟨_, h.1⟩)) rfl ?_ (fun _ h => h)
     rintro _ wj20 ⟨⟨⟩, rfl⟩
     refine cA rfl rfl (cN (cM rfl rfl (lw_pure (pur_geq rfl rfl) rfl (cT ?_))))
     refine cw_no rfl (by omega) ?_
     refine cw_skip (qw_then (cw_seq (cS ?_)))
     (refine lw_does (does_slice' [_, _, _, _] tabOk zOk rfl rfl rfl rfl rfl rfl rfl rfl rfl) rfl ?_ (fun _ h => h); rintro _ wj22 ⟨bj21, rfl, nj23, tj24⟩)
     clear tj24
     have hj25 := New.blk nj23
     have xj26 := New.ext nj23
     have pj27 := New.pos nj23
     have zj28 := New.size nj23
     clear nj23
     replace hj16 := Blk.ext hj16 xj26
     replace hj5 := Blk.ext hj5 xj26
     replace hP := RP.ext hP xj26
     replace X := Fr.ext X xj26
     clear xj26
     refine cM rfl rfl ?_
     refine lw_does (does_call (by kernel_rfl) rfl (rindex_c [[114, 101, 97, 100], [117, 110, 114, 101, 97, 100], [119, 114, 105, 116, 101], [117, 110, 119, 114, 105, 116, 101]] _ _ _ _ (by decide) (Blk.row (by assumption))) (fun _ _ h => ⟨_, h.1⟩)) rfl ?_ (fun _ h => h)
     rintro _ wj29 ⟨⟨⟩, rfl⟩
     refine cA rfl rfl (cN (cM rfl rfl (lw_pure (pur_geq rfl rfl) rfl (cT ?_))))
     refine cw_no rfl (by omega) ?_
     refine cw_skip (qw_then (cw_seq (cS ?_)))
     (refine lw_does (does_slice' [_, _] tabOk zOk rfl rfl rfl rfl rfl rfl rfl rfl rfl) rfl ?_ (fun _ h => h); rintro _ wj31 ⟨bj30, rfl, nj32, tj33⟩)
     clear tj33
     have hj34 := New.blk nj32
     have xj35 := New.ext nj32
     have pj36 := New.pos nj32
     have zj37 := New.size nj32
     clear nj32
     replace hj25 := Blk.ext hj25 xj35
     replace hj16 := Blk.ext hj16 xj35
     replace hj5 := Blk.ext hj5 xj35
     replace hP := RP.ext hP xj35
     replace X := Fr.ext X xj35
     clear xj35
     refine cM rfl rfl ?_
     refine lw_does (does_call (by kernel_rfl) rfl (rindex_c [[99, 97, 108, 108], [117, 110, 99, 97, 108, 108]] _ _ _ _ (by decide) (Blk.row (by assumption))) (fun _ _ h => ⟨_, h.1⟩)) rfl ?_ (fun _ h => h)
     rintro _ wj38 ⟨⟨⟩, rfl⟩
     refine cA rfl rfl (cN (cM rfl rfl (lw_pure (pur_geq rfl rfl) rfl (cT ?_))))
     refine cw_no rfl (by omega) ?_
     refine cw_skip (qw_then (cw_seq (cS (cM rfl rfl ?_))))
     refine lw_does (does_call (by kernel_rfl) rfl (rhas_f _ _ _ _ (by assumption) (by decide) (by assumption)) (fun _ _ h => ⟨_, h.1⟩)) rfl ?_ (fun _ h => h)
     rintro _ wj41 ⟨⟨⟩, ⟨hj39, fj40⟩⟩
     have zj42 := Fr.size fj40
     replace hj34 := Blk.fr hj34 fj40 (by omega)
     replace hj25 := Blk.fr hj25 fj40 (by omega)
     replace hj16 := Blk.fr hj16 fj40 (by omega)
     replace hj5 := Blk.fr hj5 fj40 (by omega)
     clear hP
     replace X := Fr.fr X fj40 (by omega)
     clear fj40
     refine cT (cw_cond_f rfl (cw_skip (qw_then (cw_seq (cS (cM rfl rfl ?_))))))
     refine lw_does (does_call (by kernel_rfl) rfl (rhas_f _ _ _ _ (by assumption) (by decide) (by assumption)) (fun _ _ h => ⟨_, h.1⟩)) rfl ?_ (fun _ h => h)
     rintro _ wj45 ⟨⟨⟩, ⟨hj43, fj44⟩⟩
     have zj46 := Fr.size fj44
     clear hj39
     replace hj34 := Blk.fr hj34 fj44 (by omega)
     replace hj25 := Blk.fr hj25 fj44 (by omega)
     replace hj16 := Blk.fr hj16 fj44 (by omega)
     replace hj5 := Blk.fr hj5 fj44 (by omega)
     replace X := Fr.fr X fj44 (by omega)
     clear fj44
     refine cT (cw_cond_f rfl (cw_skip (qw_then (cw_seq (cS (cM rfl rfl ?_))))))
     refine lw_does (does_call (by kernel_rfl) rfl (rhas_t _ _ _ _ (by assumption) (by decide) (by assumption)) (fun _ _ h => ⟨_, h.1⟩)) rfl ?_ (fun _ h => h)
     rintro _ wj49 ⟨⟨⟩, ⟨hj47, fj48⟩⟩
     have zj50 := Fr.size fj48
     clear hj43
     replace hj34 := Blk.fr hj34 fj48 (by omega)
     replace hj25 := Blk.fr hj25 fj48 (by omega)
     replace hj16 := Blk.fr hj16 fj48 (by omega)
     replace hj5 := Blk.fr hj5 fj48 (by omega)
     replace X := Fr.fr X fj48 (by omega)
     clear fj48
     refine cT (cw_cond_t rfl (cw_seq (cS (cM rfl rfl ?_))))
     refine lw_does (does_call (by kernel_rfl) rfl (rhas_t _ _ _ _ (by assumption) (by decide) (by assumption)) (fun _ _ h => ⟨_, h.1⟩)) rfl ?_ (fun _ h => h)
     rintro _ wj53 ⟨⟨⟩, ⟨hj51, fj52⟩⟩
     have zj54 := Fr.size fj52
     clear hj47
     replace hj34 := Blk.fr hj34 fj52 (by omega)
     replace hj25 := Blk.fr hj25 fj52 (by omega)
     replace hj16 := Blk.fr hj16 fj52 (by omega)
     replace hj5 := Blk.fr hj5 fj52 (by omega)
     replace X := Fr.fr X fj52 (by omega)
     clear fj52
     refine cT (cw_cond_t rfl (cS (cM rfl rfl ?_)))
     refine lw_does (does_call (by kernel_rfl) rfl (rname_c _ _ _ (by assumption)) (fun _ _ h => ⟨_, h.1⟩)) rfl ?_ (fun _ h => h)
     rintro _ wj57 ⟨⟨⟩, ⟨hj55, fj56⟩⟩
     have zj58 := Fr.size fj56
     clear hj51
     replace hj34 := Blk.fr hj34 fj56 (by omega)
     replace hj25 := Blk.fr hj25 fj56 (by omega)
     replace hj16 := Blk.fr hj16 fj56 (by omega)
     replace hj5 := Blk.fr hj5 fj56 (by omega)
     replace X := Fr.fr X fj56 (by omega)
     clear fj56
     refine cA rfl rfl (cN (cM rfl rfl (cM rfl rfl ?_)))
     refine lw_does (does_call (by kernel_rfl) rfl ((IH k (by omega)).body _ _ (by assumption) (by omega)) (fun _ _ h => h.ret)) rfl ?_ (fun _ h => h)
     rintro _ wj64 ⟨aj59, ⟨kj60, ⟨⟨⟩, ⟨hj61, ⟨hj62, fj63⟩⟩⟩⟩⟩
     have zj65 := Fr.size fj63
     clear hj55
     replace hj34 := Blk.fr hj34 fj63 (by omega)
     replace hj25 := Blk.fr hj25 fj63 (by omega)
     replace hj16 := Blk.fr hj16 fj63 (by omega)
     replace hj5 := Blk.fr hj5 fj63 (by omega)
     replace X := Fr.fr X fj63 (by omega)
     clear fj63
     (refine lw_does (does_slice' [_, _, _, _] tabOk zOk rfl rfl rfl rfl rfl rfl rfl rfl rfl) rfl ?_ (fun _ h => h); rintro _ wj67 ⟨bj66, rfl, nj68, tj69⟩)
     clear tj69
     have hj70 := New.blk nj68
     have xj71 := New.ext nj68
     have pj72 := New.pos nj68
     have zj73 := New.size nj68
     clear nj68
     replace hj61 := Nd.sits.ext hj61 xj71
     replace hj62 := RP.ext hj62 xj71
     replace hj34 := Blk.ext hj34 xj71
     replace hj25 := Blk.ext hj25 xj71
     replace hj16 := Blk.ext hj16 xj71
     replace hj5 := Blk.ext hj5 xj71
     replace X := Fr.ext X xj71
     clear xj71
     refine lw_does (does_call (by kernel_rfl) rfl (rnode1 _ _ _ _ _ _ _ _ _ (by assumption) (by assumption)) (fun _ _ h => h.ret)) rfl ?_ (fun _ h => h)
     rintro _ wj78 ⟨aj74, ⟨kj75, ⟨⟨⟩, ⟨hj76, xj77⟩⟩⟩⟩
     have zj79 := Ext.size xj77
     replace hj70 := Blk.ext hj70 xj77
     replace hj61 := Nd.sits.ext hj61 xj77
     replace hj62 := RP.ext hj62 xj77
     replace hj34 := Blk.ext hj34 xj77
     replace hj25 := Blk.ext hj25 xj77
     replace hj16 := Blk.ext hj16 xj77
     replace hj5 := Blk.ext hj5 xj77
     replace X := Fr.ext X xj77
     clear xj77
     (refine lw_store' [_, _, _, _] [_, _, _, _] tabOk rfl rfl rfl rfl rfl rfl hj5 rfl rfl ?_; intro wj80 nj81)
     have hj84 := Put.blk nj81
     have fj82 := Put.fr nj81
     have zj83 := Put.size nj81
     clear nj81 hj5
     replace hj76 := Nd.sits.fr hj76 fj82 (by omega)
     replace hj70 := Blk.fr hj70 fj82 (by omega)
     replace hj61 := Nd.sits.fr hj61 fj82 (by omega)
     replace hj62 := RP.fr hj62 fj82 (by omega)
     replace hj34 := Blk.fr hj34 fj82 (by omega)
     replace hj25 := Blk.fr hj25 fj82 (by omega)
     replace hj16 := Blk.fr hj16 fj82 (by omega)
     replace X := Fr.fr X fj82 (by omega)
     clear fj82
     refine cT (cw_ret (qw_then_ret (qw_then_ret (qw_retc rfl tabOk rfl rfl rfl hj84 rfl ?_))))
     rotate_left 1
    exact rtree_ret (Nd.sits.wide (by assumption) (fun b h => by omega)) (by assumption) X
   simp only [Bool.false_eq_true, if_false]
   have l2 := name_le (n := c.n) l1.wf
   have l3 := expect_le (n := c.n) (t := [61]) l2.wf (by decide)
   have l4 := exprR_le (n := c.n) (k := k) (lv := 1) l3.wf
   have l5 := (stmtR_inv (ts := c.ts) (n := c.n) k).2.2.2.1 _ l4.wf
   have l6 := expect_le (n := c.n) (t := [100, 101, 108, 111, 99, 97, 108]) l5.wf (by decide)
   have m2 := mS_le l2
   have m3 := mS_le l3
   have m4 := mS_le l4
   have m5 := mS_le l5
   have m6 := mS_le l6
   clear l1 l2 l3 l4 l5 l6
   refine calls_in Tryz.func94 Tryz.ntmps94 rfl rfl ?_
   focus
    refine cS ?_
    (refine lw_alloc' [_, _, _, _] zOk rfl rfl ?_; intro bk1 wk2 nk3)
    have hk5 := New.blk nk3
    have xk6 := New.ext nk3
    have pk7 := New.pos nk3
    have zk8 := New.size nk3
    clear nk3
    replace hP := RP.ext hP xk6
    replace X := Fr.ext X xk6
    clear xk6
    refine cN (cM rfl rfl ?_)
    refine lw_does (does_call (by kernel_rfl) rfl (rpeek_c _ _ _ (by assumption)) (fun _ _ h => ⟨_, h.1⟩)) rfl ?_ (fun _ h => h)
    rintro _ wk10 ⟨⟨⟩, xk9⟩
    have zk11 := Ext.size xk9
    replace hk5 := Blk.ext hk5 xk9
    replace hP := RP.ext hP xk9
    replace X := Fr.ext X xk9
    clear xk9
    refine cA rfl rfl (cT (cw_seq (cS ?_)))
    (refine lw_does (does_slice' [_, _] tabOk zOk rfl rfl rfl rfl rfl rfl rfl rfl rfl) rfl ?_ (fun _ h => h); rintro _ wk13 ⟨bk12, rfl, nk14, tk15⟩)
    clear tk15
    have hk16 := New.blk nk14
    have xk17 := New.ext nk14
    have pk18 := New.pos nk14
    have zk19 := New.size nk14
    clear nk14
    replace hk5 := Blk.ext hk5 xk17
    replace hP := RP.ext hP xk17
    replace X := Fr.ext X xk17
    clear xk17
    refine cM rfl rfl ?_
    refine lw_does (does_call (by kernel_rfl) rfl (rindex_c [[112, 117, 115, 104], [112, 111, 112]] _ _ _ _ (by decide) (Blk.row (by assumption))) (fun _ _ h => ⟨_, h.1⟩)) rfl ?_ (fun _ h => h)
    rintro _ wk20 ⟨⟨⟩, rfl⟩
    refine cA rfl rfl (cN (cM rfl rfl (lw_pure (pur_geq rfl rfl) rfl (cT ?_))))
    refine cw_no rfl (by omega) ?_
    refine cw_skip (qw_then (cw_seq (cS ?_)))
    (refine lw_does (does_slice' [_, _, _, _] tabOk zOk rfl rfl rfl rfl rfl rfl rfl rfl rfl) rfl ?_ (fun _ h => h); rintro _ wk22 ⟨bk21, rfl, nk23, tk24⟩)
    clear tk24
    have hk25 := New.blk nk23
    have xk26 := New.ext nk23
    have pk27 := New.pos nk23
    have zk28 := New.size nk23
    clear nk23
    replace hk16 := Blk.ext hk16 xk26
    replace hk5 := Blk.ext hk5 xk26
    replace hP := RP.ext hP xk26
    replace X := Fr.ext X xk26
    clear xk26
    refine cM rfl rfl ?_
    refine lw_does (does_call (by kernel_rfl) rfl (rindex_c [[114, 101, 97, 100], [117, 110, 114, 101, 97, 100], [119, 114, 105, 116, 101], [117, 110, 119, 114, 105, 116, 101]] _ _ _ _ (by decide) (Blk.row (by assumption))) (fun _ _ h => ⟨_, h.1⟩)) rfl ?_ (fun _ h => h)
    rintro _ wk29 ⟨⟨⟩, rfl⟩
    refine cA rfl rfl (cN (cM rfl rfl (lw_pure (pur_geq rfl rfl) rfl (cT ?_))))
    refine cw_no rfl (by omega) ?_
    refine cw_skip (qw_then (cw_seq (cS ?_)))
    (refine lw_does (does_slice' [_, _] tabOk zOk rfl rfl rfl rfl rfl rfl rfl rfl rfl) rfl ?_ (fun _ h => h); rintro _ wk31 ⟨bk30, rfl, nk32, tk33⟩)
    clear tk33
    have hk34 := New.blk nk32
    have xk35 := New.ext nk32
    have pk36 := New.pos nk32
    have zk37 := New.size nk32
    clear nk32
    replace hk25 := Blk.ext hk25 xk35
    replace hk16 := Blk.ext hk16 xk35
    replace hk5 := Blk.ext hk5 xk35
    replace hP := RP.ext hP xk35
    replace X := Fr.ext X xk35
    clear xk35
    refine cM rfl rfl ?_
    refine lw_does (does_call (by kernel_rfl) rfl (rindex_c [[99, 97, 108, 108], [117, 110, 99, 97, 108, 108]] _ _ _ _ (by decide) (Blk.row (by assumption))) (fun _ _ h => ⟨_, h.1⟩)) rfl ?_ (fun _ h => h)
    rintro _ wk38 ⟨⟨⟩, rfl⟩
    refine cA rfl rfl (cN (cM rfl rfl (lw_pure (pur_geq rfl rfl) rfl (cT ?_))))
    refine cw_no rfl (by omega) ?_
    refine cw_skip (qw_then (cw_seq (cS (cM rfl rfl ?_))))
    refine lw_does (does_call (by kernel_rfl) rfl (rhas_f _ _ _ _ (by assumption) (by decide) (by assumption)) (fun _ _ h => ⟨_, h.1⟩)) rfl ?_ (fun _ h => h)
    rintro _ wk41 ⟨⟨⟩, ⟨hk39, fk40⟩⟩
    have zk42 := Fr.size fk40
    replace hk34 := Blk.fr hk34 fk40 (by omega)
    replace hk25 := Blk.fr hk25 fk40 (by omega)
    replace hk16 := Blk.fr hk16 fk40 (by omega)
    replace hk5 := Blk.fr hk5 fk40 (by omega)
    clear hP
    replace X := Fr.fr X fk40 (by omega)
    clear fk40
    refine cT (cw_cond_f rfl (cw_skip (qw_then (cw_seq (cS (cM rfl rfl ?_))))))
    refine lw_does (does_call (by kernel_rfl) rfl (rhas_f _ _ _ _ (by assumption) (by decide) (by assumption)) (fun _ _ h => ⟨_, h.1⟩)) rfl ?_ (fun _ h => h)
    rintro _ wk45 ⟨⟨⟩, ⟨hk43, fk44⟩⟩
    have zk46 := Fr.size fk44
    clear hk39
    replace hk34 := Blk.fr hk34 fk44 (by omega)
    replace hk25 := Blk.fr hk25 fk44 (by omega)
    replace hk16 := Blk.fr hk16 fk44 (by omega)
    replace hk5 := Blk.fr hk5 fk44 (by omega)
    replace X := Fr.fr X fk44 (by omega)
    clear fk44
    refine cT (cw_cond_f rfl (cw_skip (qw_then (cw_seq (cS (cM rfl rfl ?_))))))
    refine lw_does (does_call (by kernel_rfl) rfl (rhas_t _ _ _ _ (by assumption) (by decide) (by assumption)) (fun _ _ h => ⟨_, h.1⟩)) rfl ?_ (fun _ h => h)
    rintro _ wk49 ⟨⟨⟩, ⟨hk47, fk48⟩⟩
    have zk50 := Fr.size fk48
    clear hk43
    replace hk34 := Blk.fr hk34 fk48 (by omega)
    replace hk25 := Blk.fr hk25 fk48 (by omega)
    replace hk16 := Blk.fr hk16 fk48 (by omega)
    replace hk5 := Blk.fr hk5 fk48 (by omega)
    replace X := Fr.fr X fk48 (by omega)
    clear fk48
    refine cT (cw_cond_t rfl (cw_seq (cS (cM rfl rfl ?_))))
    refine lw_does (does_call (by kernel_rfl) rfl (rhas_f _ _ _ _ (by assumption) (by decide) (by assumption)) (fun _ _ h => ⟨_, h.1⟩)) rfl ?_ (fun _ h => h)
    rintro _ wk53 ⟨⟨⟩, ⟨hk51, fk52⟩⟩
    have zk54 := Fr.size fk52
    clear hk47
    replace hk34 := Blk.fr hk34 fk52 (by omega)
    replace hk25 := Blk.fr hk25 fk52 (by omega)
    replace hk16 := Blk.fr hk16 fk52 (by omega)
    replace hk5 := Blk.fr hk5 fk52 (by omega)
    replace X := Fr.fr X fk52 (by omega)
    clear fk52
    refine cT (cw_cond_f rfl (cw_skip (qw_then (cS (cM rfl rfl ?_)))))
    refine lw_does (does_call (by kernel_rfl) rfl (rname_c _ _ _ (by assumption)) (fun _ _ h => ⟨_, h.1⟩)) rfl ?_ (fun _ h => h)
    rintro _ wk57 ⟨⟨⟩, ⟨hk55, fk56⟩⟩
    have zk58 := Fr.size fk56
    clear hk51
    replace hk34 := Blk.fr hk34 fk56 (by omega)
    replace hk25 := Blk.fr hk25 fk56 (by omega)
    replace hk16 := Blk.fr hk16 fk56 (by omega)
    replace hk5 := Blk.fr hk5 fk56 (by omega)
    replace X := Fr.fr X fk56 (by omega)
    clear fk56
    refine cA rfl rfl (cN (cM rfl rfl ?_))
    refine lw_does (does_call (by kernel_rfl) rfl (rtake_c _ _ _ _ (by assumption) (by decide)) (fun _ _ h => ⟨_, h.1⟩)) rfl ?_ (fun _ h => h)
    rintro _ wk61 ⟨⟨⟩, ⟨hk59, fk60⟩⟩
    have zk62 := Fr.size fk60
    clear hk55
    replace hk34 := Blk.fr hk34 fk60 (by omega)
    replace hk25 := Blk.fr hk25 fk60 (by omega)
    replace hk16 := Blk.fr hk16 fk60 (by omega)
    replace hk5 := Blk.fr hk5 fk60 (by omega)
    replace X := Fr.fr X fk60 (by omega)
    clear fk60
    refine cN (cM rfl rfl ?_)
    refine lw_does (does_call (by kernel_rfl) rfl ((rexprs_c c k).expr _ _ _ (by assumption) (by decide) (by decide) (by omega)) (fun _ _ h => h.ret)) rfl ?_ (fun _ h => h)
    rintro _ wk68 ⟨ak63, ⟨kk64, ⟨⟨⟩, ⟨hk65, ⟨hk66, fk67⟩⟩⟩⟩⟩
    have zk69 := Fr.size fk67
    clear hk59
    replace hk34 := Blk.fr hk34 fk67 (by omega)
    replace hk25 := Blk.fr hk25 fk67 (by omega)
    replace hk16 := Blk.fr hk16 fk67 (by omega)
    replace hk5 := Blk.fr hk5 fk67 (by omega)
    replace X := Fr.fr X fk67 (by omega)
    clear fk67
    (refine lw_alloc' [_, _, _, _] zOk rfl rfl ?_; intro bk70 wk71 nk72)
    (refine lw_init' [_, _, _, _] tabOk rfl rfl rfl rfl rfl rfl nk72 rfl ?_; clear nk72; clear wk71; intro wk73 nk72)
    have hk74 := New.blk nk72
    have xk75 := New.ext nk72
    have pk76 := New.pos nk72
    have zk77 := New.size nk72
    clear nk72
    replace hk65 := Nd.sits.ext hk65 xk75
    replace hk66 := RP.ext hk66 xk75
    replace hk34 := Blk.ext hk34 xk75
    replace hk25 := Blk.ext hk25 xk75
    replace hk16 := Blk.ext hk16 xk75
    replace hk5 := Blk.ext hk5 xk75
    replace X := Fr.ext X xk75
    clear xk75
    refine cN (cM rfl rfl ?_)
    refine lw_does (does_call (by kernel_rfl) rfl ((IH k (by omega)).body _ _ (by assumption) (by omega)) (fun _ _ h => h.ret)) rfl ?_ (fun _ h => h)
    rintro _ wk83 ⟨ak78, ⟨kk79, ⟨⟨⟩, ⟨hk80, ⟨hk81, fk82⟩⟩⟩⟩⟩
    have zk84 := Fr.size fk82
    replace hk74 := Blk.fr hk74 fk82 (by omega)
    replace hk65 := Nd.sits.fr hk65 fk82 (by omega)
    clear hk66
    replace hk34 := Blk.fr hk34 fk82 (by omega)
    replace hk25 := Blk.fr hk25 fk82 (by omega)
    replace hk16 := Blk.fr hk16 fk82 (by omega)
    replace hk5 := Blk.fr hk5 fk82 (by omega)
    replace X := Fr.fr X fk82 (by omega)
    clear fk82
    (refine lw_alloc' [_, _, _, _] zOk rfl rfl ?_; intro bk85 wk86 nk87)
    (refine lw_init' [_, _, _, _] tabOk rfl rfl rfl rfl rfl rfl nk87 rfl ?_; clear nk87; clear wk86; intro wk88 nk87)
    have hk89 := New.blk nk87
    have xk90 := New.ext nk87
    have pk91 := New.pos nk87
    have zk92 := New.size nk87
    clear nk87
    replace hk80 := Nd.sits.ext hk80 xk90
    replace hk81 := RP.ext hk81 xk90
    replace hk74 := Blk.ext hk74 xk90
    replace hk65 := Nd.sits.ext hk65 xk90
    replace hk34 := Blk.ext hk34 xk90
    replace hk25 := Blk.ext hk25 xk90
    replace hk16 := Blk.ext hk16 xk90
    replace hk5 := Blk.ext hk5 xk90
    replace X := Fr.ext X xk90
    clear xk90
    refine cN (cM rfl rfl ?_)
    refine lw_does (does_call (by kernel_rfl) rfl (rtake_c _ _ _ _ (by assumption) (by decide)) (fun _ _ h => ⟨_, h.1⟩)) rfl ?_ (fun _ h => h)
    rintro _ wk95 ⟨⟨⟩, ⟨hk93, fk94⟩⟩
    have zk96 := Fr.size fk94
    replace hk89 := Blk.fr hk89 fk94 (by omega)
    replace hk80 := Nd.sits.fr hk80 fk94 (by omega)
    clear hk81
    replace hk74 := Blk.fr hk74 fk94 (by omega)
    replace hk65 := Nd.sits.fr hk65 fk94 (by omega)
    replace hk34 := Blk.fr hk34 fk94 (by omega)
    replace hk25 := Blk.fr hk25 fk94 (by omega)
    replace hk16 := Blk.fr hk16 fk94 (by omega)
    replace hk5 := Blk.fr hk5 fk94 (by omega)
    replace X := Fr.fr X fk94 (by omega)
    clear fk94
    refine cT (cw_seq ?_)
    (refine cw_tdraw (fun wz => Fr (· = c.pb) wk95 wz) 6 (.pure 0 (.pure 1 (.pure 2 (.pure 3 (.fork 4 (.fork 5 .tail .none) .none))))) mixed (by kernel_rfl) (panicOk_then (panicOk_then panicOk_body)) ?_; intro wk97 xk98 _)
    have qsk99 : (fun wz => Fr (· = c.pb) wk95 wz) wk97 := Fr.of_ext xk98
    simp only at qsk99
    have d_hk93 := hk93
    have d_hk89 := hk89
    have d_hk80 := hk80
    have d_hk74 := hk74
    have d_hk65 := hk65
    have d_hk34 := hk34
    have d_hk25 := hk25
    have d_hk16 := hk16
    have d_hk5 := hk5
    have zk100 := Ext.size xk98
    replace hk93 := RP.ext hk93 xk98
    replace hk89 := Blk.ext hk89 xk98
    replace hk80 := Nd.sits.ext hk80 xk98
    replace hk74 := Blk.ext hk74 xk98
    replace hk65 := Nd.sits.ext hk65 xk98
    replace hk34 := Blk.ext hk34 xk98
    replace hk25 := Blk.ext hk25 xk98
    replace hk16 := Blk.ext hk16 xk98
    replace hk5 := Blk.ext hk5 xk98
    replace X := Fr.ext X xk98
    clear xk98
    refine ⟨qsk99, ?_⟩
    refine tw_pure rfl (pur_move rfl) rfl ?_
    refine tw_pure rfl (pur_loads_blk' [_, _, _, _] tabOk rfl rfl rfl (fun wz hz => (Blk.fr d_hk74 hz (by omega))) rfl rfl) rfl ?_
    refine tw_pure rfl (pur_loads_blk' [_, _, _, _] tabOk rfl rfl rfl (fun wz hz => (Blk.fr d_hk89 hz (by omega))) rfl rfl) rfl ?_
    refine tw_pure rfl (pur_move rfl) rfl ?_
    refine tw_does rfl (does_call (by kernel_rfl) rfl ((rexprs_c c k).expr _ _ _ (by assumption) (by decide) (by decide) (by omega)) (fun _ _ h => h.ret)) rfl ?_ (fun _ h => h) tw_none
    rintro _ wk106 ⟨ak101, ⟨kk102, ⟨⟨⟩, ⟨hk103, ⟨hk104, fk105⟩⟩⟩⟩⟩
    have zk107 := Fr.size fk105
    replace qsk99 := Fr.fr qsk99 fk105 (by omega)
    clear hk93
    replace hk89 := Blk.fr hk89 fk105 (by omega)
    replace hk80 := Nd.sits.fr hk80 fk105 (by omega)
    replace hk74 := Blk.fr hk74 fk105 (by omega)
    replace hk65 := Nd.sits.fr hk65 fk105 (by omega)
    replace hk34 := Blk.fr hk34 fk105 (by omega)
    replace hk25 := Blk.fr hk25 fk105 (by omega)
    replace hk16 := Blk.fr hk16 fk105 (by omega)
    replace hk5 := Blk.fr hk5 fk105 (by omega)
    replace X := Fr.fr X fk105 (by omega)
    clear fk105
    refine ⟨qsk99, ?_⟩
    (refine tw_does rfl (does_slice' [_, _, _, _, _, _, _, _, _, _, _, _] tabOk zOk rfl rfl rfl rfl rfl rfl rfl rfl rfl) rfl ?_ (fun _ h => h) tw_none; rintro _ wk109 ⟨bk108, rfl, nk110, tk111⟩)
    clear tk111
    have hk112 := New.blk nk110
    have xk113 := New.ext nk110
    have pk114 := New.pos nk110
    have zk115 := New.size nk110
    clear nk110
    replace hk103 := Nd.sits.ext hk103 xk113
    replace hk104 := RP.ext hk104 xk113
    replace qsk99 := Fr.ext qsk99 xk113
    replace hk89 := Blk.ext hk89 xk113
    replace hk80 := Nd.sits.ext hk80 xk113
    replace hk74 := Blk.ext hk74 xk113
    replace hk65 := Nd.sits.ext hk65 xk113
    replace hk34 := Blk.ext hk34 xk113
    replace hk25 := Blk.ext hk25 xk113
    replace hk16 := Blk.ext hk16 xk113
    replace hk5 := Blk.ext hk5 xk113
    replace X := Fr.ext X xk113
    clear xk113
    refine ⟨qsk99, ?_⟩
    clear d_hk93 d_hk89 d_hk80 d_hk74 d_hk65 d_hk34 d_hk25 d_hk16 d_hk5 qsk99
    refine tw_tail rfl ?_
    refine lw_does (does_call (by kernel_rfl) rfl (rnode3 _ _ _ _ _ _ _ _ _ _ _ _ _ _ _ _ _ (by assumption) (by assumption) (by assumption) (by assumption)) (fun _ _ h => h.ret)) rfl ?_ (fun _ h => h)
    rintro _ wk120 ⟨ak116, ⟨kk117, ⟨⟨⟩, ⟨hk118, xk119⟩⟩⟩⟩
    have zk121 := Ext.size xk119
    replace hk112 := Blk.ext hk112 xk119
    replace hk103 := Nd.sits.ext hk103 xk119
    replace hk104 := RP.ext hk104 xk119
    replace hk89 := Blk.ext hk89 xk119
    replace hk80 := Nd.sits.ext hk80 xk119
    replace hk74 := Blk.ext hk74 xk119
    replace hk65 := Nd.sits.ext hk65 xk119
    replace hk34 := Blk.ext hk34 xk119
    replace hk25 := Blk.ext hk25 xk119
    replace hk16 := Blk.ext hk16 xk119
    replace hk5 := Blk.ext hk5 xk119
    replace X := Fr.ext X xk119
    clear xk119
    (refine lw_store' [_, _, _, _] [_, _, _, _] tabOk rfl rfl rfl rfl rfl rfl hk5 rfl rfl ?_; intro wk122 nk123)
    have hk126 := Put.blk nk123
    have fk124 := Put.fr nk123
    have zk125 := Put.size nk123
    clear nk123 hk5
    replace hk118 := Nd.sits.fr hk118 fk124 (by omega)
    replace hk112 := Blk.fr hk112 fk124 (by omega)
    replace hk103 := Nd.sits.fr hk103 fk124 (by omega)
    replace hk104 := RP.fr hk104 fk124 (by omega)
    replace hk89 := Blk.fr hk89 fk124 (by omega)
    replace hk80 := Nd.sits.fr hk80 fk124 (by omega)
    replace hk74 := Blk.fr hk74 fk124 (by omega)
    replace hk65 := Nd.sits.fr hk65 fk124 (by omega)
    replace hk34 := Blk.fr hk34 fk124 (by omega)
    replace hk25 := Blk.fr hk25 fk124 (by omega)
    replace hk16 := Blk.fr hk16 fk124 (by omega)
    replace X := Fr.fr X fk124 (by omega)
    clear fk124
    refine cT (cw_ret (qw_then_ret (qw_retc rfl tabOk rfl rfl rfl hk126 rfl ?_)))
    rotate_left 1
   exact rtree_ret (Nd.sits.wide (by assumption) (fun b h => by omega)) (by assumption) X
 rw [if_neg e10]
 have i1 : idxF [[112, 117, 115, 104], [112, 111, 112]] (peekP c.ts σ).text 0 = -1 := idx2 e0 e1
 have i2 : idxF [[114, 101, 97, 100], [117, 110, 114, 101, 97, 100], [119, 114, 105, 116, 101], [117, 110, 119, 114, 105, 116, 101]] (peekP c.ts σ).text 0 = -1 := idx4 e2 e3 e4 e5
 have i3 : idxF [[99, 97, 108, 108], [117, 110, 99, 97, 108, 108]] (peekP c.ts σ).text 0 = -1 := idx2 e6 e7
 have g_if : hasP c.ts σ [105, 102] = false := by simp [hasP, e8]
 have g_from : hasP c.ts σ [102, 114, 111, 109] = false := by simp [hasP, e9]
 have g_local : hasP c.ts σ [108, 111, 99, 97, 108] = false := by simp [hasP, e10]
 clear e0 e1 e2 e3 e4 e5 e6 e7 e8 e9 e10 HIN
 have hl := placeR_le (n := c.n) (k := k + 1) hP.at_
 have hm := mS_le hl
 have hwf := hl.wf
 unfold updateR
 (try dsimp only)
 generalize hp : placeR c.ts c.n (k + 1) σ = p at *
 have hf1 : ∀ {w' : World}, RP c σ w' → Calls Tryz.prog 116 #[.pointer (some ⟨c.pb, 0, none⟩)] w' (RTreeR c w' p) := fun h => hp ▸ (rexprs_c c (k + 1)).place _ _ h (by omega)
 clear hl hp
 by_cases f3 : (peekP c.ts p.2).text = [60, 61, 62]
 · rw [if_pos f3]
   have i4 : idxF [[43, 61], [45, 61], [94, 61], [60, 61, 62]] (peekP c.ts p.2).text 0 = 3 := by rw [f3]; decide
   have hin := peek_in hwf (Or.inl (by rw [f3]; decide))
   have h2 := hin.2
   have hm2 := mS_next hin
   refine calls_in Tryz.func94 Tryz.ntmps94 rfl rfl ?_
   focus
    refine cS ?_
    (refine lw_alloc' [_, _, _, _] zOk rfl rfl ?_; intro bl1 wl2 nl3)
    have hl5 := New.blk nl3
    have xl6 := New.ext nl3
    have pl7 := New.pos nl3
    have zl8 := New.size nl3
    clear nl3
    replace hP := RP.ext hP xl6
    replace X := Fr.ext X xl6
    clear xl6
    refine cN (cM rfl rfl ?_)
    refine lw_does (does_call (by kernel_rfl) rfl (rpeek_c _ _ _ (by assumption)) (fun _ _ h => ⟨_, h.1⟩)) rfl ?_ (fun _ h => h)
    rintro _ wl10 ⟨⟨⟩, xl9⟩
    have zl11 := Ext.size xl9
    replace hl5 := Blk.ext hl5 xl9
    replace hP := RP.ext hP xl9
    replace X := Fr.ext X xl9
    clear xl9
    refine cA rfl rfl (cT (cw_seq (cS ?_)))
    (refine lw_does (does_slice' [_, _] tabOk zOk rfl rfl rfl rfl rfl rfl rfl rfl rfl) rfl ?_ (fun _ h => h); rintro _ wl13 ⟨bl12, rfl, nl14, tl15⟩)
    clear tl15
    have hl16 := New.blk nl14
    have xl17 := New.ext nl14
    have pl18 := New.pos nl14
    have zl19 := New.size nl14
    clear nl14
    replace hl5 := Blk.ext hl5 xl17
    replace hP := RP.ext hP xl17
    replace X := Fr.ext X xl17
    clear xl17
    refine cM rfl rfl ?_
    refine lw_does (does_call (by kernel_rfl) rfl (rindex_c [[112, 117, 115, 104], [112, 111, 112]] _ _ _ _ (by decide) (Blk.row (by assumption))) (fun _ _ h => ⟨_, h.1⟩)) rfl ?_ (fun _ h => h)
    rintro _ wl20 ⟨⟨⟩, rfl⟩
    refine cA rfl rfl (cN (cM rfl rfl (lw_pure (pur_geq rfl rfl) rfl (cT ?_))))
    refine cw_no rfl (by omega) ?_
    refine cw_skip (qw_then (cw_seq (cS ?_)))
    (refine lw_does (does_slice' [_, _, _, _] tabOk zOk rfl rfl rfl rfl rfl rfl rfl rfl rfl) rfl ?_ (fun _ h => h); rintro _ wl22 ⟨bl21, rfl, nl23, tl24⟩)
    clear tl24
    have hl25 := New.blk nl23
    have xl26 := New.ext nl23
    have pl27 := New.pos nl23
    have zl28 := New.size nl23
    clear nl23
    replace hl16 := Blk.ext hl16 xl26
    replace hl5 := Blk.ext hl5 xl26
    replace hP := RP.ext hP xl26
    replace X := Fr.ext X xl26
    clear xl26
    refine cM rfl rfl ?_
    refine lw_does (does_call (by kernel_rfl) rfl (rindex_c [[114, 101, 97, 100], [117, 110, 114, 101, 97, 100], [119, 114, 105, 116, 101], [117, 110, 119, 114, 105, 116, 101]] _ _ _ _ (by decide) (Blk.row (by assumption))) (fun _ _ h => ⟨_, h.1⟩)) rfl ?_ (fun _ h => h)
    rintro _ wl29 ⟨⟨⟩, rfl⟩
    refine cA rfl rfl (cN (cM rfl rfl (lw_pure (pur_geq rfl rfl) rfl (cT ?_))))
    refine cw_no rfl (by omega) ?_
    refine cw_skip (qw_then (cw_seq (cS ?_)))
    (refine lw_does (does_slice' [_, _] tabOk zOk rfl rfl rfl rfl rfl rfl rfl rfl rfl) rfl ?_ (fun _ h => h); rintro _ wl31 ⟨bl30, rfl, nl32, tl33⟩)
    clear tl33
    have hl34 := New.blk nl32
    have xl35 := New.ext nl32
    have pl36 := New.pos nl32
    have zl37 := New.size nl32
    clear nl32
    replace hl25 := Blk.ext hl25 xl35
    replace hl16 := Blk.ext hl16 xl35
    replace hl5 := Blk.ext hl5 xl35
    replace hP := RP.ext hP xl35
    replace X := Fr.ext X xl35
    clear xl35
    refine cM rfl rfl ?_
    refine lw_does (does_call (by kernel_rfl) rfl (rindex_c [[99, 97, 108, 108], [117, 110, 99, 97, 108, 108]] _ _ _ _ (by decide) (Blk.row (by assumption))) (fun _ _ h => ⟨_, h.1⟩)) rfl ?_ (fun _ h => h)
    rintro _ wl38 ⟨⟨⟩, rfl⟩
    refine cA rfl rfl (cN (cM rfl rfl (lw_pure (pur_geq rfl rfl) rfl (cT ?_))))
    refine cw_no rfl (by omega) ?_
    refine cw_skip (qw_then (cw_seq (cS (cM rfl rfl ?_))))
    refine lw_does (does_call (by kernel_rfl) rfl (rhas_f _ _ _ _ (by assumption) (by decide) (by assumption)) (fun _ _ h => ⟨_, h.1⟩)) rfl ?_ (fun _ h => h)
    rintro _ wl41 ⟨⟨⟩, ⟨hl39, fl40⟩⟩
    have zl42 := Fr.size fl40
    replace hl34 := Blk.fr hl34 fl40 (by omega)
    replace hl25 := Blk.fr hl25 fl40 (by omega)
    replace hl16 := Blk.fr hl16 fl40 (by omega)
    replace hl5 := Blk.fr hl5 fl40 (by omega)
    clear hP
    replace X := Fr.fr X fl40 (by omega)
    clear fl40
    refine cT (cw_cond_f rfl (cw_skip (qw_then (cw_seq (cS (cM rfl rfl ?_))))))
    refine lw_does (does_call (by kernel_rfl) rfl (rhas_f _ _ _ _ (by assumption) (by decide) (by assumption)) (fun _ _ h => ⟨_, h.1⟩)) rfl ?_ (fun _ h => h)
    rintro _ wl45 ⟨⟨⟩, ⟨hl43, fl44⟩⟩
    have zl46 := Fr.size fl44
    clear hl39
    replace hl34 := Blk.fr hl34 fl44 (by omega)
    replace hl25 := Blk.fr hl25 fl44 (by omega)
    replace hl16 := Blk.fr hl16 fl44 (by omega)
    replace hl5 := Blk.fr hl5 fl44 (by omega)
    replace X := Fr.fr X fl44 (by omega)
    clear fl44
    refine cT (cw_cond_f rfl (cw_skip (qw_then (cw_seq (cS (cM rfl rfl ?_))))))
    refine lw_does (does_call (by kernel_rfl) rfl (rhas_f _ _ _ _ (by assumption) (by decide) (by assumption)) (fun _ _ h => ⟨_, h.1⟩)) rfl ?_ (fun _ h => h)
    rintro _ wl49 ⟨⟨⟩, ⟨hl47, fl48⟩⟩
    have zl50 := Fr.size fl48
    clear hl43
    replace hl34 := Blk.fr hl34 fl48 (by omega)
    replace hl25 := Blk.fr hl25 fl48 (by omega)
    replace hl16 := Blk.fr hl16 fl48 (by omega)
    replace hl5 := Blk.fr hl5 fl48 (by omega)
    replace X := Fr.fr X fl48 (by omega)
    clear fl48
    refine cT (cw_cond_f rfl (cw_skip (qw_then (cS (cM rfl rfl ?_)))))
    refine lw_does (does_call (by kernel_rfl) rfl (hf1 (by assumption)) (fun _ _ h => h.ret)) rfl ?_ (fun _ h => h)
    rintro _ wl56 ⟨al51, ⟨kl52, ⟨⟨⟩, ⟨hl53, ⟨hl54, fl55⟩⟩⟩⟩⟩
    have zl57 := Fr.size fl55
    clear hl47
    replace hl34 := Blk.fr hl34 fl55 (by omega)
    replace hl25 := Blk.fr hl25 fl55 (by omega)
    replace hl16 := Blk.fr hl16 fl55 (by omega)
    replace hl5 := Blk.fr hl5 fl55 (by omega)
    replace X := Fr.fr X fl55 (by omega)
    clear fl55
    (refine lw_alloc' [_, _, _, _] zOk rfl rfl ?_; intro bl58 wl59 nl60)
    (refine lw_init' [_, _, _, _] tabOk rfl rfl rfl rfl rfl rfl nl60 rfl ?_; clear nl60; clear wl59; intro wl61 nl60)
    have hl62 := New.blk nl60
    have xl63 := New.ext nl60
    have pl64 := New.pos nl60
    have zl65 := New.size nl60
    clear nl60
    replace hl53 := Nd.sits.ext hl53 xl63
    replace hl54 := RP.ext hl54 xl63
    replace hl34 := Blk.ext hl34 xl63
    replace hl25 := Blk.ext hl25 xl63
    replace hl16 := Blk.ext hl16 xl63
    replace hl5 := Blk.ext hl5 xl63
    replace X := Fr.ext X xl63
    clear xl63
    refine cT (cw_seq (cS ?_))
    (refine lw_does (does_slice' [_, _, _, _] tabOk zOk rfl rfl rfl rfl rfl rfl rfl rfl rfl) rfl ?_ (fun _ h => h); rintro _ wl67 ⟨bl66, rfl, nl68, tl69⟩)
    clear tl69
    have hl70 := New.blk nl68
    have xl71 := New.ext nl68
    have pl72 := New.pos nl68
    have zl73 := New.size nl68
    clear nl68
    replace hl62 := Blk.ext hl62 xl71
    replace hl53 := Nd.sits.ext hl53 xl71
    replace hl54 := RP.ext hl54 xl71
    replace hl34 := Blk.ext hl34 xl71
    replace hl25 := Blk.ext hl25 xl71
    replace hl16 := Blk.ext hl16 xl71
    replace hl5 := Blk.ext hl5 xl71
    replace X := Fr.ext X xl71
    clear xl71
    refine cM rfl rfl ?_
    refine lw_does (does_call (by kernel_rfl) rfl (rpeek_c _ _ _ (by assumption)) (fun _ _ h => ⟨_, h.1⟩)) rfl ?_ (fun _ h => h)
    rintro _ wl75 ⟨⟨⟩, xl74⟩
    have zl76 := Ext.size xl74
    replace hl70 := Blk.ext hl70 xl74
    replace hl62 := Blk.ext hl62 xl74
    replace hl53 := Nd.sits.ext hl53 xl74
    replace hl54 := RP.ext hl54 xl74
    replace hl34 := Blk.ext hl34 xl74
    replace hl25 := Blk.ext hl25 xl74
    replace hl16 := Blk.ext hl16 xl74
    replace hl5 := Blk.ext hl5 xl74
    replace X := Fr.ext X xl74
    clear xl74
    refine lw_does (does_call (by kernel_rfl) rfl (rindex_c [[43, 61], [45, 61], [94, 61], [60, 61, 62]] _ _ _ _ (by decide) (Blk.row (by assumption))) (fun _ _ h => ⟨_, h.1⟩)) rfl ?_ (fun _ h => h)
    rintro _ wl77 ⟨⟨⟩, rfl⟩
    refine cA rfl rfl (cN (cM rfl rfl (lw_pure (pur_geq rfl rfl) rfl (cT ?_))))
    refine cw_yes rfl (by omega) ?_
    refine cS (cM rfl rfl (cM rfl rfl (lw_pure (pur_nilCheck rfl) rfl (lw_pure (pur_fieldAddr tabOk rfl rfl rfl) rfl (lw_load_b tabOk rfl rfl rfl (RP.blk hl54) rfl rfl ?_)))))
    refine lw_pure (pur_add rfl rfl (IntWalk.i64_in _ (by omega))) rfl ?_
    refine lw_pure (pur_nilCheck rfl) rfl (lw_pure (pur_fieldAddr tabOk rfl rfl rfl) rfl ?_)
    refine lw_rp_at tabOk rfl rfl rfl rfl (by assumption) h2 ?_
    rintro wl78 hl79 fl80
    have zl81 := Fr.size fl80
    replace hl70 := Blk.fr hl70 fl80 (by omega)
    replace hl62 := Blk.fr hl62 fl80 (by omega)
    replace hl53 := Nd.sits.fr hl53 fl80 (by omega)
    clear hl54
    replace hl34 := Blk.fr hl34 fl80 (by omega)
    replace hl25 := Blk.fr hl25 fl80 (by omega)
    replace hl16 := Blk.fr hl16 fl80 (by omega)
    replace hl5 := Blk.fr hl5 fl80 (by omega)
    replace X := Fr.fr X fl80 (by omega)
    clear fl80
    refine cT (cw_seq (cS (cM rfl rfl (lw_pure (pur_eql rfl rfl) rfl (cT ?_)))))
    refine cw_yes rfl (by assumption) ?_
    refine cw_seq ?_
    (refine cw_tdraw (fun wz => Fr (· = c.pb) wl78 wz) 3 (.pure 0 (.pure 1 (.fork 2 .tail .none))) mixed (by kernel_rfl) (panicOk_then (panicOk_then (panicOk_then panicOk_body))) ?_; intro wl82 xl83 _)
    have qsl84 : (fun wz => Fr (· = c.pb) wl78 wz) wl82 := Fr.of_ext xl83
    simp only at qsl84
    have d_hl79 := hl79
    have d_hl70 := hl70
    have d_hl62 := hl62
    have d_hl53 := hl53
    have d_hl34 := hl34
    have d_hl25 := hl25
    have d_hl16 := hl16
    have d_hl5 := hl5
    have zl85 := Ext.size xl83
    replace hl79 := RP.ext hl79 xl83
    replace hl70 := Blk.ext hl70 xl83
    replace hl62 := Blk.ext hl62 xl83
    replace hl53 := Nd.sits.ext hl53 xl83
    replace hl34 := Blk.ext hl34 xl83
    replace hl25 := Blk.ext hl25 xl83
    replace hl16 := Blk.ext hl16 xl83
    replace hl5 := Blk.ext hl5 xl83
    replace X := Fr.ext X xl83
    clear xl83
    refine ⟨qsl84, ?_⟩
    refine tw_pure rfl (pur_loads_blk' [_, _, _, _] tabOk rfl rfl rfl (fun wz hz => (Blk.fr d_hl62 hz (by omega))) rfl rfl) rfl ?_
    refine tw_pure rfl (pur_move rfl) rfl ?_
    refine tw_does rfl (does_call (by kernel_rfl) rfl ((rexprs_c c (k + 1)).place _ _ (by assumption) (by omega)) (fun _ _ h => h.ret)) rfl ?_ (fun _ h => h) tw_none
    rintro _ wl91 ⟨al86, ⟨kl87, ⟨⟨⟩, ⟨hl88, ⟨hl89, fl90⟩⟩⟩⟩⟩
    have zl92 := Fr.size fl90
    replace qsl84 := Fr.fr qsl84 fl90 (by omega)
    clear hl79
    replace hl70 := Blk.fr hl70 fl90 (by omega)
    replace hl62 := Blk.fr hl62 fl90 (by omega)
    replace hl53 := Nd.sits.fr hl53 fl90 (by omega)
    replace hl34 := Blk.fr hl34 fl90 (by omega)
    replace hl25 := Blk.fr hl25 fl90 (by omega)
    replace hl16 := Blk.fr hl16 fl90 (by omega)
    replace hl5 := Blk.fr hl5 fl90 (by omega)
    replace X := Fr.fr X fl90 (by omega)
    clear fl90
    refine ⟨qsl84, ?_⟩
    clear d_hl79 d_hl70 d_hl62 d_hl53 d_hl34 d_hl25 d_hl16 d_hl5 qsl84
    refine tw_tail rfl ?_
    (refine lw_does (does_slice' [_, _, _, _, _, _, _, _] tabOk zOk rfl rfl rfl rfl rfl rfl rfl rfl rfl) rfl ?_ (fun _ h => h); rintro _ wl94 ⟨bl93, rfl, nl95, tl96⟩)
    clear tl96
    have hl97 := New.blk nl95
    have xl98 := New.ext nl95
    have pl99 := New.pos nl95
    have zl100 := New.size nl95
    clear nl95
    replace hl88 := Nd.sits.ext hl88 xl98
    replace hl89 := RP.ext hl89 xl98
    replace hl70 := Blk.ext hl70 xl98
    replace hl62 := Blk.ext hl62 xl98
    replace hl53 := Nd.sits.ext hl53 xl98
    replace hl34 := Blk.ext hl34 xl98
    replace hl25 := Blk.ext hl25 xl98
    replace hl16 := Blk.ext hl16 xl98
    replace hl5 := Blk.ext hl5 xl98
    replace X := Fr.ext X xl98
    clear xl98
    refine lw_does (does_call (by kernel_rfl) rfl (rnode2 _ _ _ _ _ _ _ _ _ _ _ _ _ (by assumption) (by assumption) (by assumption)) (fun _ _ h => h.ret)) rfl ?_ (fun _ h => h)
    rintro _ wl105 ⟨al101, ⟨kl102, ⟨⟨⟩, ⟨hl103, xl104⟩⟩⟩⟩
    have zl106 := Ext.size xl104
    replace hl97 := Blk.ext hl97 xl104
    replace hl88 := Nd.sits.ext hl88 xl104
    replace hl89 := RP.ext hl89 xl104
    replace hl70 := Blk.ext hl70 xl104
    replace hl62 := Blk.ext hl62 xl104
    replace hl53 := Nd.sits.ext hl53 xl104
    replace hl34 := Blk.ext hl34 xl104
    replace hl25 := Blk.ext hl25 xl104
    replace hl16 := Blk.ext hl16 xl104
    replace hl5 := Blk.ext hl5 xl104
    replace X := Fr.ext X xl104
    clear xl104
    (refine lw_store' [_, _, _, _] [_, _, _, _] tabOk rfl rfl rfl rfl rfl rfl hl5 rfl rfl ?_; intro wl107 nl108)
    have hl111 := Put.blk nl108
    have fl109 := Put.fr nl108
    have zl110 := Put.size nl108
    clear nl108 hl5
    replace hl103 := Nd.sits.fr hl103 fl109 (by omega)
    replace hl97 := Blk.fr hl97 fl109 (by omega)
    replace hl88 := Nd.sits.fr hl88 fl109 (by omega)
    replace hl89 := RP.fr hl89 fl109 (by omega)
    replace hl70 := Blk.fr hl70 fl109 (by omega)
    replace hl62 := Blk.fr hl62 fl109 (by omega)
    replace hl53 := Nd.sits.fr hl53 fl109 (by omega)
    replace hl34 := Blk.fr hl34 fl109 (by omega)
    replace hl25 := Blk.fr hl25 fl109 (by omega)
    replace hl16 := Blk.fr hl16 fl109 (by omega)
    replace X := Fr.fr X fl109 (by omega)
    clear fl109
    refine cT (cw_ret (qw_then_ret (qw_then_ret (qw_retc rfl tabOk rfl rfl rfl hl111 rfl ?_))))
    rotate_left 1
   exact rtree_ret (Nd.sits.wide (by assumption) (fun b h => by omega)) (by assumption) X
 rw [if_neg f3]
 by_cases f : (peekP c.ts p.2).text = [43, 61] ∨ (peekP c.ts p.2).text = [45, 61] ∨ (peekP c.ts p.2).text = [94, 61]
 · rw [if_pos f]
   have hu : updKind (peekP c.ts p.2).text = 40 + idxF [[43, 61], [45, 61], [94, 61], [60, 61, 62]] (peekP c.ts p.2).text 0 ∧ 0 ≤ idxF [[43, 61], [45, 61], [94, 61], [60, 61, 62]] (peekP c.ts p.2).text 0 ∧ idxF [[43, 61], [45, 61], [94, 61], [60, 61, 62]] (peekP c.ts p.2).text 0 ≤ 2 ∧ (peekP c.ts p.2).text ≠ [] := by
    rcases f with f | f | f <;> rw [f] <;> decide
   obtain ⟨u1, u2, u3, u4⟩ := hu
   have hin := peek_in hwf (Or.inl u4)
   have h2 := hin.2
   have hm2 := mS_next hin
   rw [u1]
   clear u1 f
   refine calls_in Tryz.func94 Tryz.ntmps94 rfl rfl ?_
   focus
    refine cS ?_
    (refine lw_alloc' [_, _, _, _] zOk rfl rfl ?_; intro bm1 wm2 nm3)
    have hm5 := New.blk nm3
    have xm6 := New.ext nm3
    have pm7 := New.pos nm3
    have zm8 := New.size nm3
    clear nm3
    replace hP := RP.ext hP xm6
    replace X := Fr.ext X xm6
    clear xm6
    refine cN (cM rfl rfl ?_)
    refine lw_does (does_call (by kernel_rfl) rfl (rpeek_c _ _ _ (by assumption)) (fun _ _ h => ⟨_, h.1⟩)) rfl ?_ (fun _ h => h)
    rintro _ wm10 ⟨⟨⟩, xm9⟩
    have zm11 := Ext.size xm9
    replace hm5 := Blk.ext hm5 xm9
    replace hP := RP.ext hP xm9
    replace X := Fr.ext X xm9
    clear xm9
    refine cA rfl rfl (cT (cw_seq (cS ?_)))
    (refine lw_does (does_slice' [_, _] tabOk zOk rfl rfl rfl rfl rfl rfl rfl rfl rfl) rfl ?_ (fun _ h => h); rintro _ wm13 ⟨bm12, rfl, nm14, tm15⟩)
    clear tm15
    have hm16 := New.blk nm14
    have xm17 := New.ext nm14
    have pm18 := New.pos nm14
    have zm19 := New.size nm14
    clear nm14
    replace hm5 := Blk.ext hm5 xm17
    replace hP := RP.ext hP xm17
    replace X := Fr.ext X xm17
    clear xm17
    refine cM rfl rfl ?_
    refine lw_does (does_call (by kernel_rfl) rfl (rindex_c [[112, 117, 115, 104], [112, 111, 112]] _ _ _ _ (by decide) (Blk.row (by assumption))) (fun _ _ h => ⟨_, h.1⟩)) rfl ?_ (fun _ h => h)
    rintro _ wm20 ⟨⟨⟩, rfl⟩
    refine cA rfl rfl (cN (cM rfl rfl (lw_pure (pur_geq rfl rfl) rfl (cT ?_))))
    refine cw_no rfl (by omega) ?_
    refine cw_skip (qw_then (cw_seq (cS ?_)))
    (refine lw_does (does_slice' [_, _, _, _] tabOk zOk rfl rfl rfl rfl rfl rfl rfl rfl rfl) rfl ?_ (fun _ h => h); rintro _ wm22 ⟨bm21, rfl, nm23, tm24⟩)
    clear tm24
    have hm25 := New.blk nm23
    have xm26 := New.ext nm23
    have pm27 := New.pos nm23
    have zm28 := New.size nm23
    clear nm23
    replace hm16 := Blk.ext hm16 xm26
    replace hm5 := Blk.ext hm5 xm26
    replace hP := RP.ext hP xm26
    replace X := Fr.ext X xm26
    clear xm26
    refine cM rfl rfl ?_
    refine lw_does (does_call (by kernel_rfl) rfl (rindex_c [[114, 101, 97, 100], [117, 110, 114, 101, 97, 100], [119, 114, 105, 116, 101], [117, 110, 119, 114, 105, 116, 101]] _ _ _ _ (by decide) (Blk.row (by assumption))) (fun _ _ h => ⟨_, h.1⟩)) rfl ?_ (fun _ h => h)
    rintro _ wm29 ⟨⟨⟩, rfl⟩
    refine cA rfl rfl (cN (cM rfl rfl (lw_pure (pur_geq rfl rfl) rfl (cT ?_))))
    refine cw_no rfl (by omega) ?_
    refine cw_skip (qw_then (cw_seq (cS ?_)))
    (refine lw_does (does_slice' [_, _] tabOk zOk rfl rfl rfl rfl rfl rfl rfl rfl rfl) rfl ?_ (fun _ h => h); rintro _ wm31 ⟨bm30, rfl, nm32, tm33⟩)
    clear tm33
    have hm34 := New.blk nm32
    have xm35 := New.ext nm32
    have pm36 := New.pos nm32
    have zm37 := New.size nm32
    clear nm32
    replace hm25 := Blk.ext hm25 xm35
    replace hm16 := Blk.ext hm16 xm35
    replace hm5 := Blk.ext hm5 xm35
    replace hP := RP.ext hP xm35
    replace X := Fr.ext X xm35
    clear xm35
    refine cM rfl rfl ?_
    refine lw_does (does_call (by kernel_rfl) rfl (rindex_c [[99, 97, 108, 108], [117, 110, 99, 97, 108, 108]] _ _ _ _ (by decide) (Blk.row (by assumption))) (fun _ _ h => ⟨_, h.1⟩)) rfl ?_ (fun _ h => h)
    rintro _ wm38 ⟨⟨⟩, rfl⟩
    refine cA rfl rfl (cN (cM rfl rfl (lw_pure (pur_geq rfl rfl) rfl (cT ?_))))
    refine cw_no rfl (by omega) ?_
    refine cw_skip (qw_then (cw_seq (cS (cM rfl rfl ?_))))
    refine lw_does (does_call (by kernel_rfl) rfl (rhas_f _ _ _ _ (by assumption) (by decide) (by assumption)) (fun _ _ h => ⟨_, h.1⟩)) rfl ?_ (fun _ h => h)
    rintro _ wm41 ⟨⟨⟩, ⟨hm39, fm40⟩⟩
    have zm42 := Fr.size fm40
    replace hm34 := Blk.fr hm34 fm40 (by omega)
    replace hm25 := Blk.fr hm25 fm40 (by omega)
    replace hm16 := Blk.fr hm16 fm40 (by omega)
    replace hm5 := Blk.fr hm5 fm40 (by omega)
    clear hP
    replace X := Fr.fr X fm40 (by omega)
    clear fm40
    refine cT (cw_cond_f rfl (cw_skip (qw_then (cw_seq (cS (cM rfl rfl ?_))))))
    refine lw_does (does_call (by kernel_rfl) rfl (rhas_f _ _ _ _ (by assumption) (by decide) (by assumption)) (fun _ _ h => ⟨_, h.1⟩)) rfl ?_ (fun _ h => h)
    rintro _ wm45 ⟨⟨⟩, ⟨hm43, fm44⟩⟩
    have zm46 := Fr.size fm44
    clear hm39
    replace hm34 := Blk.fr hm34 fm44 (by omega)
    replace hm25 := Blk.fr hm25 fm44 (by omega)
    replace hm16 := Blk.fr hm16 fm44 (by omega)
    replace hm5 := Blk.fr hm5 fm44 (by omega)
    replace X := Fr.fr X fm44 (by omega)
    clear fm44
    refine cT (cw_cond_f rfl (cw_skip (qw_then (cw_seq (cS (cM rfl rfl ?_))))))
    refine lw_does (does_call (by kernel_rfl) rfl (rhas_f _ _ _ _ (by assumption) (by decide) (by assumption)) (fun _ _ h => ⟨_, h.1⟩)) rfl ?_ (fun _ h => h)
    rintro _ wm49 ⟨⟨⟩, ⟨hm47, fm48⟩⟩
    have zm50 := Fr.size fm48
    clear hm43
    replace hm34 := Blk.fr hm34 fm48 (by omega)
    replace hm25 := Blk.fr hm25 fm48 (by omega)
    replace hm16 := Blk.fr hm16 fm48 (by omega)
    replace hm5 := Blk.fr hm5 fm48 (by omega)
    replace X := Fr.fr X fm48 (by omega)
    clear fm48
    refine cT (cw_cond_f rfl (cw_skip (qw_then (cS (cM rfl rfl ?_)))))
    refine lw_does (does_call (by kernel_rfl) rfl (hf1 (by assumption)) (fun _ _ h => h.ret)) rfl ?_ (fun _ h => h)
    rintro _ wm56 ⟨am51, ⟨km52, ⟨⟨⟩, ⟨hm53, ⟨hm54, fm55⟩⟩⟩⟩⟩
    have zm57 := Fr.size fm55
    clear hm47
    replace hm34 := Blk.fr hm34 fm55 (by omega)
    replace hm25 := Blk.fr hm25 fm55 (by omega)
    replace hm16 := Blk.fr hm16 fm55 (by omega)
    replace hm5 := Blk.fr hm5 fm55 (by omega)
    replace X := Fr.fr X fm55 (by omega)
    clear fm55
    (refine lw_alloc' [_, _, _, _] zOk rfl rfl ?_; intro bm58 wm59 nm60)
    (refine lw_init' [_, _, _, _] tabOk rfl rfl rfl rfl rfl rfl nm60 rfl ?_; clear nm60; clear wm59; intro wm61 nm60)
    have hm62 := New.blk nm60
    have xm63 := New.ext nm60
    have pm64 := New.pos nm60
    have zm65 := New.size nm60
    clear nm60
    replace hm53 := Nd.sits.ext hm53 xm63
    replace hm54 := RP.ext hm54 xm63
    replace hm34 := Blk.ext hm34 xm63
    replace hm25 := Blk.ext hm25 xm63
    replace hm16 := Blk.ext hm16 xm63
    replace hm5 := Blk.ext hm5 xm63
    replace X := Fr.ext X xm63
    clear xm63
    refine cT (cw_seq (cS ?_))
    (refine lw_does (does_slice' [_, _, _, _] tabOk zOk rfl rfl rfl rfl rfl rfl rfl rfl rfl) rfl ?_ (fun _ h => h); rintro _ wm67 ⟨bm66, rfl, nm68, tm69⟩)
    clear tm69
    have hm70 := New.blk nm68
    have xm71 := New.ext nm68
    have pm72 := New.pos nm68
    have zm73 := New.size nm68
    clear nm68
    replace hm62 := Blk.ext hm62 xm71
    replace hm53 := Nd.sits.ext hm53 xm71
    replace hm54 := RP.ext hm54 xm71
    replace hm34 := Blk.ext hm34 xm71
    replace hm25 := Blk.ext hm25 xm71
    replace hm16 := Blk.ext hm16 xm71
    replace hm5 := Blk.ext hm5 xm71
    replace X := Fr.ext X xm71
    clear xm71
    refine cM rfl rfl ?_
    refine lw_does (does_call (by kernel_rfl) rfl (rpeek_c _ _ _ (by assumption)) (fun _ _ h => ⟨_, h.1⟩)) rfl ?_ (fun _ h => h)
    rintro _ wm75 ⟨⟨⟩, xm74⟩
    have zm76 := Ext.size xm74
    replace hm70 := Blk.ext hm70 xm74
    replace hm62 := Blk.ext hm62 xm74
    replace hm53 := Nd.sits.ext hm53 xm74
    replace hm54 := RP.ext hm54 xm74
    replace hm34 := Blk.ext hm34 xm74
    replace hm25 := Blk.ext hm25 xm74
    replace hm16 := Blk.ext hm16 xm74
    replace hm5 := Blk.ext hm5 xm74
    replace X := Fr.ext X xm74
    clear xm74
    refine lw_does (does_call (by kernel_rfl) rfl (rindex_c [[43, 61], [45, 61], [94, 61], [60, 61, 62]] _ _ _ _ (by decide) (Blk.row (by assumption))) (fun _ _ h => ⟨_, h.1⟩)) rfl ?_ (fun _ h => h)
    rintro _ wm77 ⟨⟨⟩, rfl⟩
    refine cA rfl rfl (cN (cM rfl rfl (lw_pure (pur_geq rfl rfl) rfl (cT ?_))))
    refine cw_yes rfl (by assumption) ?_
    refine cS (cM rfl rfl (cM rfl rfl (lw_pure (pur_nilCheck rfl) rfl (lw_pure (pur_fieldAddr tabOk rfl rfl rfl) rfl (lw_load_b tabOk rfl rfl rfl (RP.blk hm54) rfl rfl ?_)))))
    refine lw_pure (pur_add rfl rfl (IntWalk.i64_in _ (by omega))) rfl ?_
    refine lw_pure (pur_nilCheck rfl) rfl (lw_pure (pur_fieldAddr tabOk rfl rfl rfl) rfl ?_)
    refine lw_rp_at tabOk rfl rfl rfl rfl (by assumption) h2 ?_
    rintro wm78 hm79 fm80
    have zm81 := Fr.size fm80
    replace hm70 := Blk.fr hm70 fm80 (by omega)
    replace hm62 := Blk.fr hm62 fm80 (by omega)
    replace hm53 := Nd.sits.fr hm53 fm80 (by omega)
    clear hm54
    replace hm34 := Blk.fr hm34 fm80 (by omega)
    replace hm25 := Blk.fr hm25 fm80 (by omega)
    replace hm16 := Blk.fr hm16 fm80 (by omega)
    replace hm5 := Blk.fr hm5 fm80 (by omega)
    replace X := Fr.fr X fm80 (by omega)
    clear fm80
    refine cT (cw_seq (cS (cM rfl rfl (lw_pure (pur_eql rfl rfl) rfl (cT ?_)))))
    refine cw_no rfl (by omega) ?_
    refine cw_skip (qw_then (cw_seq ?_))
    (refine cw_tdraw (fun wz => Fr (· = c.pb) wm78 wz) 7 (.pure 0 (.pure 1 (.pure 2 (.pure 3 (.pure 4 (.fork 5 (.fork 6 .tail .none) .none)))))) mixed (by kernel_rfl) (panicOk_then (panicOk_then panicOk_body)) ?_; intro wm82 xm83 _)
    have qsm84 : (fun wz => Fr (· = c.pb) wm78 wz) wm82 := Fr.of_ext xm83
    simp only at qsm84
    have d_hm79 := hm79
    have d_hm70 := hm70
    have d_hm62 := hm62
    have d_hm53 := hm53
    have d_hm34 := hm34
    have d_hm25 := hm25
    have d_hm16 := hm16
    have d_hm5 := hm5
    have zm85 := Ext.size xm83
    replace hm79 := RP.ext hm79 xm83
    replace hm70 := Blk.ext hm70 xm83
    replace hm62 := Blk.ext hm62 xm83
    replace hm53 := Nd.sits.ext hm53 xm83
    replace hm34 := Blk.ext hm34 xm83
    replace hm25 := Blk.ext hm25 xm83
    replace hm16 := Blk.ext hm16 xm83
    replace hm5 := Blk.ext hm5 xm83
    replace X := Fr.ext X xm83
    clear xm83
    refine ⟨qsm84, ?_⟩
    refine tw_pure rfl (pur_move rfl) rfl ?_
    refine tw_pure rfl (pur_conv tabOk rfl rfl rfl (u8_wrap _ (by omega) (by omega))) rfl ?_
    refine tw_pure rfl (pur_add rfl rfl (u8_wrap _ (by omega) (by omega))) rfl ?_
    refine tw_pure rfl (pur_loads_blk' [_, _, _, _] tabOk rfl rfl rfl (fun wz hz => (Blk.fr d_hm62 hz (by omega))) rfl rfl) rfl ?_
    refine tw_pure rfl (pur_move rfl) rfl ?_
    refine tw_does rfl (does_call (by kernel_rfl) rfl ((rexprs_c c (k + 1)).expr _ _ _ (by assumption) (by decide) (by decide) (by omega)) (fun _ _ h => h.ret)) rfl ?_ (fun _ h => h) tw_none
    rintro _ wm91 ⟨am86, ⟨km87, ⟨⟨⟩, ⟨hm88, ⟨hm89, fm90⟩⟩⟩⟩⟩
    have zm92 := Fr.size fm90
    replace qsm84 := Fr.fr qsm84 fm90 (by omega)
    clear hm79
    replace hm70 := Blk.fr hm70 fm90 (by omega)
    replace hm62 := Blk.fr hm62 fm90 (by omega)
    replace hm53 := Nd.sits.fr hm53 fm90 (by omega)
    replace hm34 := Blk.fr hm34 fm90 (by omega)
    replace hm25 := Blk.fr hm25 fm90 (by omega)
    replace hm16 := Blk.fr hm16 fm90 (by omega)
    replace hm5 := Blk.fr hm5 fm90 (by omega)
    replace X := Fr.fr X fm90 (by omega)
    clear fm90
    refine ⟨qsm84, ?_⟩
    (refine tw_does rfl (does_slice' [_, _, _, _, _, _, _, _] tabOk zOk rfl rfl rfl rfl rfl rfl rfl rfl rfl) rfl ?_ (fun _ h => h) tw_none; rintro _ wm94 ⟨bm93, rfl, nm95, tm96⟩)
    clear tm96
    have hm97 := New.blk nm95
    have xm98 := New.ext nm95
    have pm99 := New.pos nm95
    have zm100 := New.size nm95
    clear nm95
    replace hm88 := Nd.sits.ext hm88 xm98
    replace hm89 := RP.ext hm89 xm98
    replace qsm84 := Fr.ext qsm84 xm98
    replace hm70 := Blk.ext hm70 xm98
    replace hm62 := Blk.ext hm62 xm98
    replace hm53 := Nd.sits.ext hm53 xm98
    replace hm34 := Blk.ext hm34 xm98
    replace hm25 := Blk.ext hm25 xm98
    replace hm16 := Blk.ext hm16 xm98
    replace hm5 := Blk.ext hm5 xm98
    replace X := Fr.ext X xm98
    clear xm98
    refine ⟨qsm84, ?_⟩
    clear d_hm79 d_hm70 d_hm62 d_hm53 d_hm34 d_hm25 d_hm16 d_hm5 qsm84
    refine tw_tail rfl ?_
    refine lw_does (does_call (by kernel_rfl) rfl (rnode2 _ _ _ _ _ _ _ _ _ _ _ _ _ (by assumption) (by assumption) (by assumption)) (fun _ _ h => h.ret)) rfl ?_ (fun _ h => h)
    rintro _ wm105 ⟨am101, ⟨km102, ⟨⟨⟩, ⟨hm103, xm104⟩⟩⟩⟩
    have zm106 := Ext.size xm104
    replace hm97 := Blk.ext hm97 xm104
    replace hm88 := Nd.sits.ext hm88 xm104
    replace hm89 := RP.ext hm89 xm104
    replace hm70 := Blk.ext hm70 xm104
    replace hm62 := Blk.ext hm62 xm104
    replace hm53 := Nd.sits.ext hm53 xm104
    replace hm34 := Blk.ext hm34 xm104
    replace hm25 := Blk.ext hm25 xm104
    replace hm16 := Blk.ext hm16 xm104
    replace hm5 := Blk.ext hm5 xm104
    replace X := Fr.ext X xm104
    clear xm104
    (refine lw_store' [_, _, _, _] [_, _, _, _] tabOk rfl rfl rfl rfl rfl rfl hm5 rfl rfl ?_; intro wm107 nm108)
    have hm111 := Put.blk nm108
    have fm109 := Put.fr nm108
    have zm110 := Put.size nm108
    clear nm108 hm5
    replace hm103 := Nd.sits.fr hm103 fm109 (by omega)
    replace hm97 := Blk.fr hm97 fm109 (by omega)
    replace hm88 := Nd.sits.fr hm88 fm109 (by omega)
    replace hm89 := RP.fr hm89 fm109 (by omega)
    replace hm70 := Blk.fr hm70 fm109 (by omega)
    replace hm62 := Blk.fr hm62 fm109 (by omega)
    replace hm53 := Nd.sits.fr hm53 fm109 (by omega)
    replace hm34 := Blk.fr hm34 fm109 (by omega)
    replace hm25 := Blk.fr hm25 fm109 (by omega)
    replace hm16 := Blk.fr hm16 fm109 (by omega)
    replace X := Fr.fr X fm109 (by omega)
    clear fm109
    refine cT (cw_ret (qw_then_ret (qw_retc rfl tabOk rfl rfl rfl hm111 rfl ?_)))
    rotate_left 1
   exact rtree_ret (Nd.sits.wide (by assumption) (fun b h => by omega)) (by assumption) X
 · rw [if_neg f]
   have i4 : idxF [[43, 61], [45, 61], [94, 61], [60, 61, 62]] (peekP c.ts p.2).text 0 = -1 := idx4 (fun e => f (Or.inl e)) (fun e => f (Or.inr (Or.inl e))) (fun e => f (Or.inr (Or.inr e))) f3
   clear f
   have l4 := expect_le (n := c.n) (t := [58, 61]) hwf (by decide)
   have lt4 := mS_lt l4 (expect_lt (n := c.n))
   have hm4 : 12 * mS c.ts (expectP c.ts c.n p.2 [58, 61]) + 12 ≤ k + 2 := by omega
   clear l4 lt4
   refine calls_in Tryz.func94 Tryz.ntmps94 rfl rfl ?_
   focus
    refine cS ?_
    (refine lw_alloc' [_, _, _, _] zOk rfl rfl ?_; intro bn1 wn2 nn3)
    have hn5 := New.blk nn3
    have xn6 := New.ext nn3
    have pn7 := New.pos nn3
    have zn8 := New.size nn3
    clear nn3
    replace hP := RP.ext hP xn6
    replace X := Fr.ext X xn6
    clear xn6
    refine cN (cM rfl rfl ?_)
    refine lw_does (does_call (by kernel_rfl) rfl (rpeek_c _ _ _ (by assumption)) (fun _ _ h => ⟨_, h.1⟩)) rfl ?_ (fun _ h => h)
    rintro _ wn10 ⟨⟨⟩, xn9⟩
    have zn11 := Ext.size xn9
    replace hn5 := Blk.ext hn5 xn9
    replace hP := RP.ext hP xn9
    replace X := Fr.ext X xn9
    clear xn9
    refine cA rfl rfl (cT (cw_seq (cS ?_)))
    (refine lw_does (does_slice' [_, _] tabOk zOk rfl rfl rfl rfl rfl rfl rfl rfl rfl) rfl ?_ (fun _ h => h); rintro _ wn13 ⟨bn12, rfl, nn14, tn15⟩)
    clear tn15
    have hn16 := New.blk nn14
    have xn17 := New.ext nn14
    have pn18 := New.pos nn14
    have zn19 := New.size nn14
    clear nn14
    replace hn5 := Blk.ext hn5 xn17
    replace hP := RP.ext hP xn17
    replace X := Fr.ext X xn17
    clear xn17
    refine cM rfl rfl ?_
    refine lw_does (does_call (by kernel_rfl) rfl (rindex_c [[112, 117, 115, 104], [112, 111, 112]] _ _ _ _ (by decide) (Blk.row (by assumption))) (fun _ _ h => ⟨_, h.1⟩)) rfl ?_ (fun _ h => h)
    rintro _ wn20 ⟨⟨⟩, rfl⟩
    refine cA rfl rfl (cN (cM rfl rfl (lw_pure (pur_geq rfl rfl) rfl (cT ?_))))
    refine cw_no rfl (by omega) ?_
    refine cw_skip (qw_then (cw_seq (cS ?_)))
    (refine lw_does (does_slice' [_, _, _, _] tabOk zOk rfl rfl rfl rfl rfl rfl rfl rfl rfl) rfl ?_ (fun _ h => h); rintro _ wn22 ⟨bn21, rfl, nn23, tn24⟩)
    clear tn24
    have hn25 := New.blk nn23
    have xn26 := New.ext nn23
    have pn27 := New.pos nn23
    have zn28 := New.size nn23
    clear nn23
    replace hn16 := Blk.ext hn16 xn26
    replace hn5 := Blk.ext hn5 xn26
    replace hP := RP.ext hP xn26
    replace X := Fr.ext X xn26
    clear xn26
    refine cM rfl rfl ?_
    refine lw_does (does_call (by kernel_rfl) rfl (rindex_c [[114, 101, 97, 100], [117, 110, 114, 101, 97, 100], [119, 114, 105, 116, 101], [117, 110, 119, 114, 105, 116, 101]] _ _ _ _ (by decide) (Blk.row (by assumption))) (fun _ _ h => ⟨_, h.1⟩)) rfl ?_ (fun _ h => h)
    rintro _ wn29 ⟨⟨⟩, rfl⟩
    refine cA rfl rfl (cN (cM rfl rfl (lw_pure (pur_geq rfl rfl) rfl (cT ?_))))
    refine cw_no rfl (by omega) ?_
    refine cw_skip (qw_then (cw_seq (cS ?_)))
    (refine lw_does (does_slice' [_, _] tabOk zOk rfl rfl rfl rfl rfl rfl rfl rfl rfl) rfl ?_ (fun _ h => h); rintro _ wn31 ⟨bn30, rfl, nn32, tn33⟩)
    clear tn33
    have hn34 := New.blk nn32
    have xn35 := New.ext nn32
    have pn36 := New.pos nn32
    have zn37 := New.size nn32
    clear nn32
    replace hn25 := Blk.ext hn25 xn35
    replace hn16 := Blk.ext hn16 xn35
    replace hn5 := Blk.ext hn5 xn35
    replace hP := RP.ext hP xn35
    replace X := Fr.ext X xn35
    clear xn35
    refine cM rfl rfl ?_
    refine lw_does (does_call (by kernel_rfl) rfl (rindex_c [[99, 97, 108, 108], [117, 110, 99, 97, 108, 108]] _ _ _ _ (by decide) (Blk.row (by assumption))) (fun _ _ h => ⟨_, h.1⟩)) rfl ?_ (fun _ h => h)
    rintro _ wn38 ⟨⟨⟩, rfl⟩
    refine cA rfl rfl (cN (cM rfl rfl (lw_pure (pur_geq rfl rfl) rfl (cT ?_))))
    refine cw_no rfl (by omega) ?_
    refine cw_skip (qw_then (cw_seq (cS (cM rfl rfl ?_))))
    refine lw_does (does_call (by kernel_rfl) rfl (rhas_f _ _ _ _ (by assumption) (by decide) (by assumption)) (fun _ _ h => ⟨_, h.1⟩)) rfl ?_ (fun _ h => h)
    rintro _ wn41 ⟨⟨⟩, ⟨hn39, fn40⟩⟩
    have zn42 := Fr.size fn40
    replace hn34 := Blk.fr hn34 fn40 (by omega)
    replace hn25 := Blk.fr hn25 fn40 (by omega)
    replace hn16 := Blk.fr hn16 fn40 (by omega)
    replace hn5 := Blk.fr hn5 fn40 (by omega)
    clear hP
    replace X := Fr.fr X fn40 (by omega)
    clear fn40
    refine cT (cw_cond_f rfl (cw_skip (qw_then (cw_seq (cS (cM rfl rfl ?_))))))
    refine lw_does (does_call (by kernel_rfl) rfl (rhas_f _ _ _ _ (by assumption) (by decide) (by assumption)) (fun _ _ h => ⟨_, h.1⟩)) rfl ?_ (fun _ h => h)
    rintro _ wn45 ⟨⟨⟩, ⟨hn43, fn44⟩⟩
    have zn46 := Fr.size fn44
    clear hn39
    replace hn34 := Blk.fr hn34 fn44 (by omega)
    replace hn25 := Blk.fr hn25 fn44 (by omega)
    replace hn16 := Blk.fr hn16 fn44 (by omega)
    replace hn5 := Blk.fr hn5 fn44 (by omega)
    replace X := Fr.fr X fn44 (by omega)
    clear fn44
    refine cT (cw_cond_f rfl (cw_skip (qw_then (cw_seq (cS (cM rfl rfl ?_))))))
    refine lw_does (does_call (by kernel_rfl) rfl (rhas_f _ _ _ _ (by assumption) (by decide) (by assumption)) (fun _ _ h => ⟨_, h.1⟩)) rfl ?_ (fun _ h => h)
    rintro _ wn49 ⟨⟨⟩, ⟨hn47, fn48⟩⟩
    have zn50 := Fr.size fn48
    clear hn43
    replace hn34 := Blk.fr hn34 fn48 (by omega)
    replace hn25 := Blk.fr hn25 fn48 (by omega)
    replace hn16 := Blk.fr hn16 fn48 (by omega)
    replace hn5 := Blk.fr hn5 fn48 (by omega)
    replace X := Fr.fr X fn48 (by omega)
    clear fn48
    refine cT (cw_cond_f rfl (cw_skip (qw_then (cS (cM rfl rfl ?_)))))
    refine lw_does (does_call (by kernel_rfl) rfl (hf1 (by assumption)) (fun _ _ h => h.ret)) rfl ?_ (fun _ h => h)
    rintro _ wn56 ⟨an51, ⟨kn52, ⟨⟨⟩, ⟨hn53, ⟨hn54, fn55⟩⟩⟩⟩⟩
    have zn57 := Fr.size fn55
    clear hn47
    replace hn34 := Blk.fr hn34 fn55 (by omega)
    replace hn25 := Blk.fr hn25 fn55 (by omega)
    replace hn16 := Blk.fr hn16 fn55 (by omega)
    replace hn5 := Blk.fr hn5 fn55 (by omega)
    replace X := Fr.fr X fn55 (by omega)
    clear fn55
    (refine lw_alloc' [_, _, _, _] zOk rfl rfl ?_; intro bn58 wn59 nn60)
    (refine lw_init' [_, _, _, _] tabOk rfl rfl rfl rfl rfl rfl nn60 rfl ?_; clear nn60; clear wn59; intro wn61 nn60)
    have hn62 := New.blk nn60
    have xn63 := New.ext nn60
    have pn64 := New.pos nn60
    have zn65 := New.size nn60
    clear nn60
    replace hn53 := Nd.sits.ext hn53 xn63
    replace hn54 := RP.ext hn54 xn63
    replace hn34 := Blk.ext hn34 xn63
    replace hn25 := Blk.ext hn25 xn63
    replace hn16 := Blk.ext hn16 xn63
    replace hn5 := Blk.ext hn5 xn63
    replace X := Fr.ext X xn63
    clear xn63
    refine cT (cw_seq (cS ?_))
    (refine lw_does (does_slice' [_, _, _, _] tabOk zOk rfl rfl rfl rfl rfl rfl rfl rfl rfl) rfl ?_ (fun _ h => h); rintro _ wn67 ⟨bn66, rfl, nn68, tn69⟩)
    clear tn69
    have hn70 := New.blk nn68
    have xn71 := New.ext nn68
    have pn72 := New.pos nn68
    have zn73 := New.size nn68
    clear nn68
    replace hn62 := Blk.ext hn62 xn71
    replace hn53 := Nd.sits.ext hn53 xn71
    replace hn54 := RP.ext hn54 xn71
    replace hn34 := Blk.ext hn34 xn71
    replace hn25 := Blk.ext hn25 xn71
    replace hn16 := Blk.ext hn16 xn71
    replace hn5 := Blk.ext hn5 xn71
    replace X := Fr.ext X xn71
    clear xn71
    refine cM rfl rfl ?_
    refine lw_does (does_call (by kernel_rfl) rfl (rpeek_c _ _ _ (by assumption)) (fun _ _ h => ⟨_, h.1⟩)) rfl ?_ (fun _ h => h)
    rintro _ wn75 ⟨⟨⟩, xn74⟩
    have zn76 := Ext.size xn74
    replace hn70 := Blk.ext hn70 xn74
    replace hn62 := Blk.ext hn62 xn74
    replace hn53 := Nd.sits.ext hn53 xn74
    replace hn54 := RP.ext hn54 xn74
    replace hn34 := Blk.ext hn34 xn74
    replace hn25 := Blk.ext hn25 xn74
    replace hn16 := Blk.ext hn16 xn74
    replace hn5 := Blk.ext hn5 xn74
    replace X := Fr.ext X xn74
    clear xn74
    refine lw_does (does_call (by kernel_rfl) rfl (rindex_c [[43, 61], [45, 61], [94, 61], [60, 61, 62]] _ _ _ _ (by decide) (Blk.row (by assumption))) (fun _ _ h => ⟨_, h.1⟩)) rfl ?_ (fun _ h => h)
    rintro _ wn77 ⟨⟨⟩, rfl⟩
    refine cA rfl rfl (cN (cM rfl rfl (lw_pure (pur_geq rfl rfl) rfl (cT ?_))))
    refine cw_no rfl (by omega) ?_
    refine cw_skip (qw_then (cS (cM rfl rfl ?_)))
    refine lw_does (does_call (by kernel_rfl) rfl (rtake_c _ _ _ _ (by assumption) (by decide)) (fun _ _ h => ⟨_, h.1⟩)) rfl ?_ (fun _ h => h)
    rintro _ wn80 ⟨⟨⟩, ⟨hn78, fn79⟩⟩
    have zn81 := Fr.size fn79
    replace hn70 := Blk.fr hn70 fn79 (by omega)
    replace hn62 := Blk.fr hn62 fn79 (by omega)
    replace hn53 := Nd.sits.fr hn53 fn79 (by omega)
    clear hn54
    replace hn34 := Blk.fr hn34 fn79 (by omega)
    replace hn25 := Blk.fr hn25 fn79 (by omega)
    replace hn16 := Blk.fr hn16 fn79 (by omega)
    replace hn5 := Blk.fr hn5 fn79 (by omega)
    replace X := Fr.fr X fn79 (by omega)
    clear fn79
    refine cT (cw_seq ?_)
    (refine cw_tdraw (fun wz => Fr (· = c.pb) wn80 wz) 3 (.pure 0 (.pure 1 (.fork 2 .tail .none))) mixed (by kernel_rfl) (panicOk_then panicOk_body) ?_; intro wn82 xn83 _)
    have qsn84 : (fun wz => Fr (· = c.pb) wn80 wz) wn82 := Fr.of_ext xn83
    simp only at qsn84
    have d_hn78 := hn78
    have d_hn70 := hn70
    have d_hn62 := hn62
    have d_hn53 := hn53
    have d_hn34 := hn34
    have d_hn25 := hn25
    have d_hn16 := hn16
    have d_hn5 := hn5
    have zn85 := Ext.size xn83
    replace hn78 := RP.ext hn78 xn83
    replace hn70 := Blk.ext hn70 xn83
    replace hn62 := Blk.ext hn62 xn83
    replace hn53 := Nd.sits.ext hn53 xn83
    replace hn34 := Blk.ext hn34 xn83
    replace hn25 := Blk.ext hn25 xn83
    replace hn16 := Blk.ext hn16 xn83
    replace hn5 := Blk.ext hn5 xn83
    replace X := Fr.ext X xn83
    clear xn83
    refine ⟨qsn84, ?_⟩
    refine tw_pure rfl (pur_loads_blk' [_, _, _, _] tabOk rfl rfl rfl (fun wz hz => (Blk.fr d_hn62 hz (by omega))) rfl rfl) rfl ?_
    refine tw_pure rfl (pur_move rfl) rfl ?_
    refine tw_does rfl (does_call (by kernel_rfl) rfl ((rexprs_c c (k + 1)).expr _ _ _ (by assumption) (by decide) (by decide) (by omega)) (fun _ _ h => h.ret)) rfl ?_ (fun _ h => h) tw_none
    rintro _ wn91 ⟨an86, ⟨kn87, ⟨⟨⟩, ⟨hn88, ⟨hn89, fn90⟩⟩⟩⟩⟩
    have zn92 := Fr.size fn90
    replace qsn84 := Fr.fr qsn84 fn90 (by omega)
    clear hn78
    replace hn70 := Blk.fr hn70 fn90 (by omega)
    replace hn62 := Blk.fr hn62 fn90 (by omega)
    replace hn53 := Nd.sits.fr hn53 fn90 (by omega)
    replace hn34 := Blk.fr hn34 fn90 (by omega)
    replace hn25 := Blk.fr hn25 fn90 (by omega)
    replace hn16 := Blk.fr hn16 fn90 (by omega)
    replace hn5 := Blk.fr hn5 fn90 (by omega)
    replace X := Fr.fr X fn90 (by omega)
    clear fn90
    refine ⟨qsn84, ?_⟩
    clear d_hn78 d_hn70 d_hn62 d_hn53 d_hn34 d_hn25 d_hn16 d_hn5 qsn84
    refine tw_tail rfl ?_
    (refine lw_does (does_slice' [_, _, _, _, _, _, _, _] tabOk zOk rfl rfl rfl rfl rfl rfl rfl rfl rfl) rfl ?_ (fun _ h => h); rintro _ wn94 ⟨bn93, rfl, nn95, tn96⟩)
    clear tn96
    have hn97 := New.blk nn95
    have xn98 := New.ext nn95
    have pn99 := New.pos nn95
    have zn100 := New.size nn95
    clear nn95
    replace hn88 := Nd.sits.ext hn88 xn98
    replace hn89 := RP.ext hn89 xn98
    replace hn70 := Blk.ext hn70 xn98
    replace hn62 := Blk.ext hn62 xn98
    replace hn53 := Nd.sits.ext hn53 xn98
    replace hn34 := Blk.ext hn34 xn98
    replace hn25 := Blk.ext hn25 xn98
    replace hn16 := Blk.ext hn16 xn98
    replace hn5 := Blk.ext hn5 xn98
    replace X := Fr.ext X xn98
    clear xn98
    refine lw_does (does_call (by kernel_rfl) rfl (rnode2 _ _ _ _ _ _ _ _ _ _ _ _ _ (by assumption) (by assumption) (by assumption)) (fun _ _ h => h.ret)) rfl ?_ (fun _ h => h)
    rintro _ wn105 ⟨an101, ⟨kn102, ⟨⟨⟩, ⟨hn103, xn104⟩⟩⟩⟩
    have zn106 := Ext.size xn104
    replace hn97 := Blk.ext hn97 xn104
    replace hn88 := Nd.sits.ext hn88 xn104
    replace hn89 := RP.ext hn89 xn104
    replace hn70 := Blk.ext hn70 xn104
    replace hn62 := Blk.ext hn62 xn104
    replace hn53 := Nd.sits.ext hn53 xn104
    replace hn34 := Blk.ext hn34 xn104
    replace hn25 := Blk.ext hn25 xn104
    replace hn16 := Blk.ext hn16 xn104
    replace hn5 := Blk.ext hn5 xn104
    replace X := Fr.ext X xn104
    clear xn104
    (refine lw_store' [_, _, _, _] [_, _, _, _] tabOk rfl rfl rfl rfl rfl rfl hn5 rfl rfl ?_; intro wn107 nn108)
    have hn111 := Put.blk nn108
    have fn109 := Put.fr nn108
    have zn110 := Put.size nn108
    clear nn108 hn5
    replace hn103 := Nd.sits.fr hn103 fn109 (by omega)
    replace hn97 := Blk.fr hn97 fn109 (by omega)
    replace hn88 := Nd.sits.fr hn88 fn109 (by omega)
    replace hn89 := RP.fr hn89 fn109 (by omega)
    replace hn70 := Blk.fr hn70 fn109 (by omega)
    replace hn62 := Blk.fr hn62 fn109 (by omega)
    replace hn53 := Nd.sits.fr hn53 fn109 (by omega)
    replace hn34 := Blk.fr hn34 fn109 (by omega)
    replace hn25 := Blk.fr hn25 fn109 (by omega)
    replace hn16 := Blk.fr hn16 fn109 (by omega)
    replace X := Fr.fr X fn109 (by omega)
    clear fn109
    refine cT (cw_ret (qw_retc rfl tabOk rfl rfl rfl hn111 rfl ?_))
    rotate_left 1
   exact rtree_ret (Nd.sits.wide (by assumption) (fun b h => by omega)) (by assumption) X
end Bk
