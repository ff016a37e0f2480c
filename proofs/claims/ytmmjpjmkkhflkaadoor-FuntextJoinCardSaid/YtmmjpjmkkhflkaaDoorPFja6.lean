/- Texts that the proofs of FuntextJoin need. No condition. (Part 6 of 6.) -/
import Derived.Test.YtmmjpjmkkhflkaaDoorPFja5
set_option linter.unusedSimpArgs false
set_option linter.unusedVariables false
namespace Bk
open Go
def wrapT (lv : Int) (h : Int × Int) (t : List UInt8) : List UInt8 := if h.1 = 82 ∧ level h.2 < lv then [40] ++ t ++ [41] else t
def appT (w : List UInt8) (ts : List (List UInt8)) : List UInt8 := w ++ [40] ++ Lib.join ts [44, 32] ++ [41]
def textN (k n : Int) (s : List UInt8) (ts : List (List UInt8)) (hs : List (Int × Int)) : List UInt8 :=
 if k = 80 then Lib.itoa n
 else if k = 81 then s
 else if k = 82 then wrapT (level n) (hs.getD 0 (0, 0)) (ts.getD 0 []) ++ [32] ++ symbol n ++ [32] ++ wrapT (level n + 1) (hs.getD 1 (0, 0)) (ts.getD 1 [])
 else if k = 83 then [105, 102, 32] ++ ts.getD 0 [] ++ [32, 123, 32] ++ ts.getD 1 [] ++ [32, 125, 32, 101, 108, 115, 101, 32, 123, 32] ++ ts.getD 2 [] ++ [32, 125]
 else if k = 84 then [108, 111, 99, 97, 108, 32] ++ s ++ [32, 61, 32] ++ ts.getD 0 [] ++ [32, 123, 32] ++ ts.getD 1 [] ++ [32, 125]
 else if k = 86 then [91, 93]
 else if k = 87 then appT [112, 117, 115, 104] ts
 else if k = 89 then appT [112, 111, 112] ts
 else if k = 88 then appT [116, 111, 112] ts
 else if k = 90 then [33] ++ wrapT 9 (hs.getD 0 (0, 0)) (ts.getD 0 [])
 else appT s ts
mutual
def Nd.ftext : Nd → List UInt8
 | .mk k n s l => textN k n s (rowText l) (l.map fun t => (t.kind, t.num))
def rowText : List Nd → List (List UInt8)
 | [] => []
 | t :: r => t.ftext :: rowText r
end
theorem rowText_map : ∀ l : List Nd, rowText l = l.map Nd.ftext
 | [] => rfl
 | t :: r => by simp only [rowText, List.map_cons, rowText_map r]
mutual
def Nd.okT : Nd → Prop
 | .mk k n s l => formN k n s l.length = true ∧ s.length ≤ 12 ∧ n ≤ 9223372036854775807 ∧ rowOkT l
def rowOkT : List Nd → Prop
 | [] => True
 | t :: r => t.okT ∧ rowOkT r
end
theorem rowOkT_mem {l : List Nd} (h : rowOkT l) {x : Nd} (hx : x ∈ l) : x.okT := by
 induction l with
 | nil => cases hx
 | cons a r ih =>
  rcases List.mem_cons.1 hx with rfl | hx
  · exact h.1
  · exact ih h.2 hx
theorem formN_num {k n : Int} {s : List UInt8} {c : Nat} (h : formN k n s c = true) : 0 ≤ n := by
 unfold formN at h
 repeat' split at h
 all_goals simp at h
 all_goals omega
theorem join_two (x y : List UInt8) (r : List (List UInt8)) (s : List UInt8) : Lib.join (x :: y :: r) s = x ++ s ++ Lib.join (y :: r) s := by
 simp only [Lib.join]; rw [List.intercalate, List.intercalate, List.intersperse_cons_cons]
 simp
theorem join_len (s : List UInt8) : ∀ ts : List (List UInt8), (Lib.join ts s).length ≤ (ts.map List.length).sum + s.length * ts.length
 | [] => by simp [Lib.join_nil]
 | [x] => by simp [Lib.join_one]
 | x :: y :: r => by
  have := join_len s (y :: r); rw [join_two]; simp only [List.length_append, List.map_cons, List.sum_cons, List.length_cons, Nat.mul_add, Nat.mul_one] at this ⊢
  omega
theorem symbol_len {n : Int} (h : 8 ≤ n) (h2 : n ≤ 23) : (symbol n).length ≤ 2 := by
 have : n = 8 ∨ n = 9 ∨ n = 10 ∨ n = 11 ∨ n = 12 ∨ n = 13 ∨ n = 14 ∨ n = 15 ∨ n = 16 ∨ n = 17 ∨ n = 18 ∨ n = 19 ∨ n = 20 ∨ n = 21 ∨ n = 22 ∨ n = 23 := by omega
 rcases this with rfl | rfl | rfl | rfl | rfl | rfl | rfl | rfl | rfl | rfl | rfl | rfl | rfl | rfl | rfl | rfl <;> decide
theorem wrap_len (lv : Int) (h : Int × Int) (t : List UInt8) : (wrapT lv h t).length ≤ t.length + 2 := by
 unfold wrapT
 split
 · simp only [List.length_append, List.length_cons, List.length_nil]; omega
 · omega
theorem rowText_length : ∀ l : List Nd, (rowText l).length = l.length
 | [] => rfl
 | t :: r => by simp only [rowText, List.length_cons, rowText_length r]
theorem len2 {l : List Nd} (h : l.length = 2) : ∃ x y, l = [x, y] := by
 match l, h with
 | [x, y], _ => exact ⟨x, y, rfl⟩
theorem len3 {l : List Nd} (h : l.length = 3) : ∃ x y z, l = [x, y, z] := by
 match l, h with
 | [x, y, z], _ => exact ⟨x, y, z, rfl⟩
theorem len1 {l : List Nd} (h : l.length = 1) : ∃ x, l = [x] := by
 match l, h with
 | [x], _ => exact ⟨x, rfl⟩
theorem formN_82 {n : Int} {s : List UInt8} {c : Nat} (h : formN 82 n s c = true) : 8 ≤ n ∧ n ≤ 23 ∧ c = 2 := by
 simp [formN] at h; omega
theorem formN_83' {n : Int} {s : List UInt8} {c : Nat} (h : formN 83 n s c = true) : c = 3 := by
 simp [formN] at h; omega
theorem formN_84 {n : Int} {s : List UInt8} {c : Nat} (h : formN 84 n s c = true) : funName s = true ∧ c = 2 := by
 simp [formN] at h
 exact ⟨h.1.2, h.2⟩
theorem formN_90 {n : Int} {s : List UInt8} {c : Nat} (h : formN 90 n s c = true) : c = 1 := by
 simp [formN] at h; omega
theorem appT_len (w : List UInt8) (ts : List (List UInt8)) : (appT w ts).length ≤ w.length + 2 + (ts.map List.length).sum + 2 * ts.length := by
 have := join_len [44, 32] ts
 unfold appT
 simp only [List.length_append, List.length_cons, List.length_nil] at this ⊢
 omega
mutual
theorem ftext_len : ∀ t : Nd, t.okT → t.ftext.length + 4 ≤ 40 * t.size
 | .mk k n s l, h => by
  simp only [Nd.okT] at h; obtain ⟨h1, h2, h3, h4⟩ := h; have hr := rowText_len l h4; have hl := length_rowSize l; have hrl := rowText_length l; have h0 := formN_num h1; simp only [Nd.ftext, Nd.size]
  unfold textN
  by_cases k0 : k = 80
  · rw [if_pos k0]; have := Lib.itoa_length_le n (by omega) h3; omega
  rw [if_neg k0]
  by_cases k1 : k = 81
  · rw [if_pos k1]; omega
  rw [if_neg k1]
  by_cases k2 : k = 82
  · rw [if_pos k2]
    subst k2; obtain ⟨a1, a2, a3⟩ := formN_82 h1; obtain ⟨x, y, rfl⟩ := len2 a3; have e1 := symbol_len a1 a2; have e2 := wrap_len (level n) (x.kind, x.num) x.ftext; have e3 := wrap_len (level n + 1) (y.kind, y.num) y.ftext; simp only [rowText, List.map_cons, List.map_nil, List.sum_cons, List.sum_nil, List.getD_cons_zero, List.getD_cons_succ, List.length_append, List.length_cons, List.length_nil] at hr ⊢
    omega
  rw [if_neg k2]
  by_cases k3 : k = 83
  · rw [if_pos k3]
    subst k3; obtain ⟨x, y, z, rfl⟩ := len3 (formN_83' h1); simp only [rowText, List.map_cons, List.map_nil, List.sum_cons, List.sum_nil, List.getD_cons_zero, List.getD_cons_succ, List.length_append, List.length_cons, List.length_nil] at hr ⊢
    omega
  rw [if_neg k3]
  by_cases k4 : k = 84
  · rw [if_pos k4]
    subst k4; obtain ⟨x, y, rfl⟩ := len2 (formN_84 h1).2; simp only [rowText, List.map_cons, List.map_nil, List.sum_cons, List.sum_nil, List.getD_cons_zero, List.getD_cons_succ, List.length_append, List.length_cons, List.length_nil] at hr ⊢
    omega
  rw [if_neg k4]
  by_cases k6 : k = 86
  · rw [if_pos k6]; simp only [List.length_cons, List.length_nil]; omega
  rw [if_neg k6]
  by_cases k7 : k = 87
  · rw [if_pos k7]; have := appT_len [112, 117, 115, 104] (rowText l); simp only [List.length_cons, List.length_nil] at this; omega
  rw [if_neg k7]
  by_cases k9 : k = 89
  · rw [if_pos k9]; have := appT_len [112, 111, 112] (rowText l); simp only [List.length_cons, List.length_nil] at this; omega
  rw [if_neg k9]
  by_cases k8 : k = 88
  · rw [if_pos k8]; have := appT_len [116, 111, 112] (rowText l); simp only [List.length_cons, List.length_nil] at this; omega
  rw [if_neg k8]
  by_cases k10 : k = 90
  · rw [if_pos k10]
    subst k10; obtain ⟨x, rfl⟩ := len1 (formN_90 h1); have e2 := wrap_len 9 (x.kind, x.num) x.ftext; simp only [rowText, List.map_cons, List.map_nil, List.sum_cons, List.sum_nil, List.getD_cons_zero, List.length_append, List.length_cons, List.length_nil] at hr ⊢
    omega
  rw [if_neg k10]; have := appT_len s (rowText l)
  omega
theorem rowText_len : ∀ l : List Nd, rowOkT l → ((rowText l).map List.length).sum + 4 * l.length ≤ 40 * rowSize l
 | [], _ => by simp [rowText, rowSize]
 | t :: r, h => by
  have h1 := ftext_len t h.1; have h2 := rowText_len r h.2; have h3 := Nd.size_pos t; simp only [rowText, rowSize, List.map_cons, List.sum_cons, List.length_cons]
  omega
end
end Bk
namespace Bk
open Go Go.RowKit Go.Proofs
structure Tabs (w : World) : Prop where
 sym : ∀ i, i < 43 → w.cell? ⟨0, i, none⟩ = some (str (symbols.getD i []))
 pow : Lib.TabIs Tryd.prog w "internal/strconv.uint64pow10" .u64 Lib.pow10Tab
theorem arith_Symbol_c (k : Int) (w : World) (h0 : 0 ≤ k) (h1 : k ≤ 255) (ht : Tabs w) : Calls Tryd.prog 16 #[.int .u8 k] w fun e w' => e = .returned (str (symbol k)) ∧ w = w' := arith_Symbol_s k w h0 h1 ⟨ht.sym⟩
end Bk
namespace Bk
open Go Go.RowKit Go.Proofs Go.Sort
theorem tabIs_belowF {P : Program} {B : Nat} {w w' : World} {name : String} {k : IntKind} {zs : List Int} (h : Lib.TabIs P w name k zs) (hb : Below B w w') (hg : ∀ g, P.globalNamed name = some g → g < B) : Lib.TabIs P w' name k zs := by
 unfold Lib.TabIs World.var? at *
 cases hn : P.globalNamed name with
 | none => rw [hn] at h; simp at h
 | some g => rw [hn] at h; simp only [Option.bind_some] at h ⊢; rw [hb.block g (hg g hn)]; exact h
theorem Tabs.belowF {B : Nat} {w w' : World} (h : Tabs w) (hb : Below B w w') (hB : Tryd.prog.globals.size ≤ B) : Tabs w' := by
 have h1 : 0 < Tryd.prog.globals.size := of_decide_eq_true (by kernel_rfl); have h2 : 2 < Tryd.prog.globals.size := of_decide_eq_true (by kernel_rfl); refine ⟨fun i hi => (Below.cell (p := ⟨0, i, none⟩) hb (by show 0 < B; omega)).trans (h.sym i hi), tabIs_belowF h.pow hb fun g hg => ?_⟩
 have hp : Tryd.prog.globalNamed "internal/strconv.uint64pow10" = some 2 := by kernel_rfl
 rw [hp] at hg
 injection hg with hg
 omega
theorem Tabs.extF {w w' : World} (h : Tabs w) (x : Ext w w') (hB : Tryd.prog.globals.size ≤ w.heap.size) : Tabs w' := h.belowF x hB
structure TabsF (w : World) : Prop where
 t : Tabs w
 g : Tryd.prog.globals.size ≤ w.heap.size
theorem TabsF.ext {w w' : World} (h : TabsF w) (x : Ext w w') : TabsF w' := ⟨h.t.extF x h.g, Nat.le_trans h.g x.size⟩
theorem TabsF.fr {S : Nat → Prop} {w w' : World} (h : TabsF w) (x : Fr S w w') (hs : ∀ k, S k → Tryd.prog.globals.size ≤ k) : TabsF w' :=
 ⟨h.t.belowF (B := Tryd.prog.globals.size) ⟨x.os, x.tape, x.output, x.size, fun k hk => x.block k (by have := h.g; omega) (fun hS => by have := hs k hS; omega)⟩ (Nat.le_refl _), Nat.le_trans h.g x.size⟩
theorem ext_growF (w : World) (k : Nat) (os : Array Obj) : Ext w (grow (w.drewN k) os) := by
 have hh : (grow (w.drewN k) os).heap = w.heap ++ os := rfl; refine ⟨rfl, rfl, rfl, ?_, fun i hi => ?_⟩
 · rw [hh]; simp
 · rw [hh, Array.getElem?_append_left hi]
theorem itoaF_c (n : Int) (w : World) (ht : TabsF w) (h0 : -9223372036854775808 ≤ n) (h1 : n ≤ 9223372036854775807) :
 Calls Tryd.prog 40 #[.int .i64 n] w fun e w' => e = .returned (str (Lib.itoa n)) ∧ Ext w w' :=
 (Tryd.strconv_Itoa n h0 h1 w ht.t.pow).mono fun e w' ⟨he, k, os, hw⟩ => ⟨he, hw ▸ ext_growF w k os⟩
theorem symF_c (k : Int) (w : World) (ht : TabsF w) (h0 : 0 ≤ k) (h1 : k ≤ 255) : Calls Tryd.prog 16 #[.int .u8 k] w fun e w' => e = .returned (str (symbol k)) ∧ w = w' := arith_Symbol_c k w h0 h1 ht.t
def TextT (x : Nd) : Prop := ∀ (S : Nat → Prop) (a : Option Addr) (c : Nat) (w : World), x.sits S w a → TabsF w → Calls Tryd.prog 22 #[x.val a c] w fun e w' => e = .returned (str x.ftext) ∧ Ext w w'
set_option maxRecDepth 100000 in
set_option maxHeartbeats 4000000 in
theorem operand_c (x : Nd) (lv : Int) (hx : TextT x) (hk : x.kind = 82 → 8 ≤ x.num ∧ x.num ≤ 23) (hl : x.ftext.length ≤ 1000000000) (S : Nat → Prop) (a : Option Addr) (c : Nat) (w : World) (hs : x.sits S w a) (ht : TabsF w) :
 Calls Tryd.prog 42 #[x.val a c, .int .i64 lv] w fun e w' => e = .returned (str (wrapT lv (x.kind, x.num) x.ftext)) ∧ Ext w w' := by
 have X := Ext.refl w; have HX := Lib.hid (fun S a c w h1 h2 => hx S a c w h1 h2); clear hx
 replace hs : x.sits (· < w.heap.size) w a := Nd.sits.wide (sits_lt2 _ _ hs) fun _ h => h.2
 generalize x.ftext = tx at *
 by_cases h : x.kind = 82
 · obtain ⟨h1, h2⟩ := hk h
   clear hk
   by_cases hlv : level x.num < lv
   · rw [show wrapT lv (x.kind, x.num) tx = [40] ++ tx ++ [41] from if_pos ⟨h, hlv⟩]
     refine calls_in Tryd.func42 Tryd.ntmps42 rfl rfl ?_
     focus
      refine cS ?_; (refine lw_box' [_, _, _, _] rfl rfl rfl ?_; intro b1 w2 n3); have h4 := n3.blk; have x5 := n3.ext; have p6 := n3.pos; have z7 := n3.size; clear n3; replace ht := ht.ext x5; replace X := X.ext x5; replace hs := Nd.sits.ext hs x5; clear x5; refine cA rfl rfl (cT (cw_seq (cS (lw_pure (pur_fieldAddr0 tabOk rfl rfl rfl) rfl (lw_load_b tabOk rfl rfl rfl h4 rfl rfl (lw_pure (pur_eql rfl rfl) rfl (cM rfl rfl ?_))))))); refine lw_on rfl rfl rfl (gd_tt (by assumption)) ?_; refine lw_pure (pur_fieldAddr tabOk rfl rfl rfl) rfl ?_; refine lw_on rfl rfl rfl (gd_tt (by assumption)) ?_; refine lw_load_b tabOk rfl rfl rfl h4 rfl rfl ?_; refine lw_on rfl rfl rfl (gd_tt (by assumption)) ?_; refine lw_pure (pur_conv tabOk rfl rfl rfl (u8_wrap _ (by omega) (by omega))) rfl ?_; refine lw_on rfl rfl rfl (gd_tt (by assumption)) ?_; refine cC (by kernel_rfl) rfl (arith_Level_c _ _ (by omega) (by omega)) rfl ?_; rintro _ w8 ⟨⟨⟩, rfl⟩; refine lw_on rfl rfl rfl (gd_tt (by assumption)) ?_; refine cM rfl rfl ?_; refine lw_on rfl rfl rfl (gd_tt (by assumption)) ?_; refine lw_pure (pur_lss rfl rfl) rfl ?_; refine lw_pure (pur_pick_yes rfl rfl (by assumption)) rfl ?_; refine cT ?_; refine cw_yes rfl (by assumption) ?_; refine cS (lw_loads_b' [_, _, _, _] tabOk rfl rfl rfl h4 rfl rfl rfl ?_); refine cC (by kernel_rfl) rfl (HX.out _ _ _ _ (by assumption) (by assumption)) rfl ?_; rintro _ w10 ⟨⟨⟩, x9⟩; have z11 := x9.size; replace h4 := h4.ext x9; replace ht := ht.ext x9; replace X := X.ext x9
      replace hs := Nd.sits.ext hs x9; clear x9; refine lw_pure (pur_sadd rfl rfl (by simp only [List.length_cons, List.length_nil]; omega)) rfl ?_; refine lw_pure (pur_sadd rfl rfl (by simp only [List.length_append, List.length_cons, List.length_nil]; omega)) rfl ?_; refine cA rfl rfl (cT (cw_ret (qw_then_ret (qw_ret1 rfl rfl ?_)))); rotate_left 1
     exact ⟨rfl, X⟩
   · rw [show wrapT lv (x.kind, x.num) tx = tx from if_neg (fun h => hlv h.2)]
     refine calls_in Tryd.func42 Tryd.ntmps42 rfl rfl ?_
     focus
      refine cS ?_; (refine lw_box' [_, _, _, _] rfl rfl rfl ?_; intro ba1 wa2 na3); have ha4 := na3.blk; have xa5 := na3.ext; have pa6 := na3.pos; have za7 := na3.size; clear na3; replace ht := ht.ext xa5; replace X := X.ext xa5; replace hs := Nd.sits.ext hs xa5; clear xa5; refine cA rfl rfl (cT (cw_seq (cS (lw_pure (pur_fieldAddr0 tabOk rfl rfl rfl) rfl (lw_load_b tabOk rfl rfl rfl ha4 rfl rfl (lw_pure (pur_eql rfl rfl) rfl (cM rfl rfl ?_))))))); refine lw_on rfl rfl rfl (gd_tt (by assumption)) ?_; refine lw_pure (pur_fieldAddr tabOk rfl rfl rfl) rfl ?_; refine lw_on rfl rfl rfl (gd_tt (by assumption)) ?_; refine lw_load_b tabOk rfl rfl rfl ha4 rfl rfl ?_; refine lw_on rfl rfl rfl (gd_tt (by assumption)) ?_; refine lw_pure (pur_conv tabOk rfl rfl rfl (u8_wrap _ (by omega) (by omega))) rfl ?_; refine lw_on rfl rfl rfl (gd_tt (by assumption)) ?_; refine cC (by kernel_rfl) rfl (arith_Level_c _ _ (by omega) (by omega)) rfl ?_; rintro _ wa8 ⟨⟨⟩, rfl⟩; refine lw_on rfl rfl rfl (gd_tt (by assumption)) ?_; refine cM rfl rfl ?_; refine lw_on rfl rfl rfl (gd_tt (by assumption)) ?_; refine lw_pure (pur_lss rfl rfl) rfl ?_; refine lw_pure (pur_pick_yes rfl rfl (by assumption)) rfl ?_; refine cT ?_; refine cw_no rfl (by assumption) ?_; refine cw_skip (qw_then (cS (lw_loads_b' [_, _, _, _] tabOk rfl rfl rfl ha4 rfl rfl rfl ?_))); refine cC (by kernel_rfl) rfl (HX.out _ _ _ _ (by assumption) (by assumption)) rfl ?_; rintro _ wa10 ⟨⟨⟩, xa9⟩; have za11 := xa9.size; replace ha4 := ha4.ext xa9
      replace ht := ht.ext xa9; replace X := X.ext xa9; replace hs := Nd.sits.ext hs xa9; clear xa9; refine cA rfl rfl (cT (cw_ret (qw_ret1 rfl rfl ?_))); rotate_left 1
     exact ⟨rfl, X⟩
 · rw [show wrapT lv (x.kind, x.num) tx = tx from if_neg (fun h' => h h'.1)]
   refine calls_in Tryd.func42 Tryd.ntmps42 rfl rfl ?_
   focus
    refine cS ?_; (refine lw_box' [_, _, _, _] rfl rfl rfl ?_; intro bb1 wb2 nb3); have hb4 := nb3.blk; have xb5 := nb3.ext; have pb6 := nb3.pos; have zb7 := nb3.size; clear nb3; replace ht := ht.ext xb5; replace X := X.ext xb5; replace hs := Nd.sits.ext hs xb5; clear xb5; refine cA rfl rfl (cT (cw_seq (cS (lw_pure (pur_fieldAddr0 tabOk rfl rfl rfl) rfl (lw_load_b tabOk rfl rfl rfl hb4 rfl rfl (lw_pure (pur_eql rfl rfl) rfl (cM rfl rfl ?_))))))); refine lw_off rfl rfl rfl (gd_tf (by assumption)) rfl ?_; refine lw_off rfl rfl rfl (gd_tf (by assumption)) rfl ?_; refine lw_off rfl rfl rfl (gd_tf (by assumption)) rfl ?_; refine lw_off rfl rfl rfl (gd_tf (by assumption)) rfl ?_; refine lw_off rfl rfl rfl (gd_tf (by assumption)) rfl ?_; refine lw_off rfl rfl rfl (gd_tf (by assumption)) rfl ?_; refine lw_pure (pur_pick_no rfl rfl (by assumption)) rfl ?_; refine cT (cw_cond_f rfl (cw_skip (qw_then (cS (lw_loads_b' [_, _, _, _] tabOk rfl rfl rfl hb4 rfl rfl rfl ?_))))); refine cC (by kernel_rfl) rfl (HX.out _ _ _ _ (by assumption) (by assumption)) rfl ?_; rintro _ wb9 ⟨⟨⟩, xb8⟩; have zb10 := xb8.size; replace hb4 := hb4.ext xb8; replace ht := ht.ext xb8; replace X := X.ext xb8; replace hs := Nd.sits.ext hs xb8; clear xb8; refine cA rfl rfl (cT (cw_ret (qw_ret1 rfl rfl ?_))); rotate_left 1
   exact ⟨rfl, X⟩
end Bk
namespace Bk
open Go Go.RowKit Go.Proofs
attribute [local irreducible] Go.Calls
theorem OwnQ.cap {α : Type} {sh : Shape α} {w : World} {R : Nat → Prop} {B e : Nat} {a : Option Addr} {len cap : Nat} {xs : List α} (h : OwnQ sh w R B e (.slice a len cap) xs) : xs.length ≤ cap := by
 obtain ⟨css, ⟨-, h1⟩, -⟩ := h.ex
 rcases h1 with ⟨hv, hn⟩ | ⟨g, c, cur, hv, -, -, hc, -⟩
 · omega
 · simp only [Value.slice.injEq] at hv
   omega
theorem joinQ_c {w : World} {R : Nat → Prop} {B e : Nat} {a : Option Addr} {cap : Nat} {xs : List (List UInt8)} (sep : List UInt8) (h : OwnQ strShape w R B e (.slice a xs.length cap) xs) (hN : xs.length ≤ 1000000000) (hlen : (Lib.join xs sep).length ≤ 140737488355328) :
 Calls Tryd.prog 21 #[.slice a xs.length cap, str sep] w fun r w' => r = .returned (str (Lib.join xs sep)) ∧ Ext w w' := by
 have hc := h.cap; have he := h.els (S := fun b => b < w.heap.size) (fun _ _ h => h)
 by_cases hx : xs = []
 · subst hx
   refine (Tryd.strings_Join_none a cap ⟨sep.toArray⟩ w).mono fun r w' ⟨h1, h2⟩ => ⟨?_, ?_⟩
   · rw [h1]; rfl
   · rw [h2]; exact Ext.refl _
 · obtain ⟨g, o, rfl, hg, hr⟩ := els_row he hx
   have hm : (xs.map (fun l => (⟨l.toArray⟩ : ByteArray))).map (·.data.toList) = xs := by
    rw [List.map_map]
    conv => rhs; rw [← List.map_id xs]
    exact List.map_congr_left (fun _ _ => rfl)
   have hl : (xs.map (fun l => (⟨l.toArray⟩ : ByteArray))).length = xs.length := by simp
   have key := Tryd.strings_Join g o cap (xs.map (fun l => (⟨l.toArray⟩ : ByteArray))) ⟨sep.toArray⟩ w (fun j x hj => by
    rw [List.getElem?_map, Option.map_eq_some_iff] at hj; obtain ⟨y, hy, rfl⟩ := hj; have := hr.at (i := j) (v := str y) (by simp [hy])
    exact this) hg (by rw [hl]; omega) (by rw [hl]; exact hc) (by rw [hm]; exact hlen)
   rw [hl, hm] at key
   exact key.mono fun r w' ⟨h1, h2⟩ => ⟨h1, h2⟩
theorem rowText_snoc {l : List Nd} {j : Nat} (hj : j < l.length) : rowText (l.take (j + 1)) = rowText (l.take j) ++ [l[j].ftext] := by
 rw [rowText_map, rowText_map, List.take_succ_eq_append_getElem hj, List.map_append]; rfl
set_option maxRecDepth 100000 in
set_option maxHeartbeats 4000000 in
theorem applied_c (wd : List UInt8) (l : List Nd) (hx : ∀ x ∈ l, TextT x) (hl : l.length ≤ 1000000) (hlen : (appT wd (rowText l)).length ≤ 1000000000) (S : Nat → Prop) (a : Option Addr) (c : Nat) (w : World) (hs : rowSits S w l a) (ht : TabsF w) :
 Calls Tryd.prog 43 #[str wd, .slice a l.length c] w fun e w' => e = .returned (str (appT wd (rowText l))) ∧ Ext w w' := by
 have X := Ext.refl w; have HX := Lib.hid (fun x hm S a c w h1 h2 => hx x hm S a c w h1 h2); clear hx; have hs' : rowSits (· < w.heap.size) w l a := rowSits_lt _ _ hs; clear hs
 have hjl : (Lib.join (rowText l) [44, 32]).length + wd.length + 2 ≤ 1000000000 := by
  have := hlen
  unfold appT at this
  simp only [List.length_append, List.length_cons, List.length_nil] at this
  omega
 clear hlen
 unfold appT
 refine calls_in Tryd.func43 Tryd.ntmps43 rfl rfl ?_
 focus
  refine cS (cA rfl rfl (cN (cA rfl rfl (cT (cw_seq (cS (cM rfl rfl (lw_pure (pur_len_slice tabOk rfl rfl) rfl (cM rfl rfl (cT (cw_block ?_))))))))))); rotate_left 1
 refine cw_loop (ι := Nat × Option Addr × Nat) (fun y => [(0, str wd), (5, .slice y.2.1 (rowText (l.take y.1)).length y.2.2), (8, .slice a l.length c), (9, .int .i64 l.length), (10, .int .i64 y.1)])
  (fun y w' => rowSits (· < w.heap.size) w' l a ∧ OwnQ strShape w' (fun _ => False) w.heap.size 9 (.slice y.2.1 (rowText (l.take y.1)).length y.2.2) (rowText (l.take y.1)) ∧ Ext w w' ∧ TabsF w' ∧ y.1 ≤ l.length) (fun y => l.length - y.1) (0, none, 0) (by (refine sub_cons rfl ?_; refine sub_cons rfl ?_; refine sub_cons rfl ?_; refine sub_cons rfl ?_; refine sub_cons rfl ?_; exact sub_nil)) ⟨hs', OwnQ.nil, X, ht, Nat.zero_le _⟩ ?_
 have hg0 := ht.g; clear hs' X ht; rintro ⟨j, oa, oc⟩ w1 ⟨hs, hown, X, ht, hj⟩; simp only at hown hj; have hz := X.size; have hgl := ht.g
 have hob : ∀ g, (Value.slice oa (rowText (l.take j)).length oc).ownBlock = some g → w.heap.size ≤ g ∧ g < w1.heap.size := fun g h => ⟨hown.ge h, hown.lt h⟩
 refine CW.sub (m := [(0, str wd), (5, .slice oa (rowText (l.take j)).length oc), (8, .slice a l.length c), (9, .int .i64 l.length), (10, .int .i64 j)]) ?_ (by (refine sub_cons rfl ?_; refine sub_cons rfl ?_; refine sub_cons rfl ?_; refine sub_cons rfl ?_; refine sub_cons rfl ?_; exact sub_nil))
 by_cases hlt : j < l.length
 · have hs2 := hs
   obtain ⟨kb, ko, rfl, hkS, hkid⟩ := kidRows hs2 (by intro e; subst e; simp at hlt); obtain ⟨xa, xc, rx, sx⟩ := hkid j l[j] (List.getElem?_eq_getElem hlt); have HT := Lib.hid (HX.out _ (List.getElem_mem hlt)); have hsn := rowText_snoc hlt
   have hll : (rowText (l.take j)).length ≤ 1000000 := by rw [rowText_length, List.length_take]; omega
   clear hkid hs2
   generalize rowText (l.take j) = os at *
   generalize l[j] = x at *
   focus
    refine cS (lw_pure (pur_lss rfl rfl) rfl (cT (cw_seq ?_))); refine cw_yes rfl (by omega) ?_; refine cw_skip (qw_then (cw_seq (cw_block (cS ?_)))); refine lw_pure (pur_indexAddr tabOk rfl rfl rfl rfl (by omega) (by omega)) rfl ?_; refine lw_loads_r0 tabOk rfl rfl rfl rx rfl rfl ?_; (refine lw_alloc' [_, _, _, _] zOk rfl rfl ?_; intro ba1 wa2 na3); (refine lw_init' [_, _, _, _] tabOk rfl rfl rfl rfl rfl rfl na3 rfl ?_; clear na3; clear wa2; intro wa4 na3); have ha5 := na3.blk; have xa6 := na3.ext; have pa7 := na3.pos; have za8 := na3.size; clear na3; replace X := X.ext xa6; replace ht := ht.ext xa6; replace hs := Bk.rowSits.ext hs xa6; replace hown := hown.ext xa6; replace rx := rx.ext xa6; replace sx := Nd.sits.ext sx xa6; clear xa6; refine cT (cw_region (cM rfl rfl (lw_loads_b' [_, _, _, _] tabOk rfl rfl rfl ha5 rfl rfl rfl ?_))); refine cC (by kernel_rfl) rfl (HT.out _ _ _ _ (by assumption) (by assumption)) rfl ?_; rintro _ wa10 ⟨⟨⟩, xa9⟩; have za11 := xa9.size; replace ha5 := ha5.ext xa9; replace X := X.ext xa9; replace ht := ht.ext xa9; replace hs := Bk.rowSits.ext hs xa9; replace hown := hown.ext xa9; replace rx := rx.ext xa9; replace sx := Nd.sits.ext sx xa9; clear xa9; (refine lw_does (does_slice' [_] tabOk zOk rfl rfl rfl rfl rfl rfl rfl rfl rfl) rfl ?_ (fun _ h => h); rintro _ wa13 ⟨ba12, rfl, na14, ta15⟩); clear ta15; have ha16 := na14.blk; have xa17 := na14.ext; have pa18 := na14.pos; have za19 := na14.size; clear na14; replace ha5 := ha5.ext xa17; replace X := X.ext xa17
    replace ht := ht.ext xa17; replace hs := Bk.rowSits.ext hs xa17; replace hown := hown.ext xa17; replace rx := rx.ext xa17; replace sx := Nd.sits.ext sx xa17; clear xa17; refine lw_appendQ (R := fun _ => False) (sh := strShape) (z := x.ftext) tabOk zOk rfl rfl rfl rfl (by kernel_rfl) rfl rfl rfl (by assumption) (fun _ h => by exact h) (Blk.row (by assumption)) rfl (by omega) (by omega) rfl ?_; rintro ga20 cap'a21 wa22 ha23 ha24 ha25 fa26; have za27 := fa26.size; replace ha16 := Blk.fr ha16 fa26 (fun e => by have := hob _ e; omega); replace ha5 := Blk.fr ha5 fa26 (fun e => by have := hob _ e; omega); replace X := Ext.fr X fa26 (fun k hk => by have := hob _ hk; omega); replace ht := TabsF.fr ht fa26 (fun k hk => by have := hob _ hk; omega); replace hs := Bk.rowSits.fr hs fa26 (fun b hb hT => by have := hob _ hT; (try dsimp only at hb); omega); clear hown rx; replace sx := Nd.sits.fr sx fa26 (fun b hb hT => by have := hob _ hT; (try dsimp only at hb); omega); clear fa26; refine cA rfl rfl (lw_nil (qw_block_norm (qw_then (cw_region ?_)))); refine lw_pure (pur_add rfl rfl (IntWalk.i64_in _ (by omega))) rfl ?_; refine cM rfl rfl (lw_nil ?_); rotate_left 1
   refine qw_round (j + 1, some ⟨_, 0, none⟩, _) ?_ ⟨by assumption, by simp only; rw [hsn]; assumption, X, by assumption, by simp only; omega⟩ (by simp only; omega); simp only [hsn]; (refine sub_cons rfl ?_; refine sub_cons rfl ?_; refine sub_cons rfl ?_; refine sub_cons rfl ?_; refine sub_cons rfl ?_; exact sub_nil)
 · have hje : j = l.length := by omega
   subst hje; rw [List.take_length] at hown; rw [List.take_length]
   have hrl : (rowText l).length ≤ 1000000 := by rw [rowText_length]; omega
   generalize rowText l = os at *
   focus
    refine cS (lw_pure (pur_lss rfl rfl) rfl (cT (cw_seq ?_))); refine cw_no rfl (by omega) ?_; refine cw_exit (qw_then_exit (qw_then_exit (qw_block_exit (qw_then (cS (cM rfl rfl ?_)))))); refine lw_pure (pur_sadd rfl rfl (by simp only [List.length_cons, List.length_nil]; omega)) rfl ?_; refine cM rfl rfl ?_; refine cC (by kernel_rfl) rfl (joinQ_c _ (by assumption) (by omega) (by omega)) rfl ?_; rintro _ wb2 ⟨⟨⟩, xb1⟩; have zb3 := xb1.size; replace hs := Bk.rowSits.ext hs xb1; replace X := X.ext xb1; replace ht := ht.ext xb1; replace hown := hown.ext xb1; clear xb1; refine lw_pure (pur_sadd rfl rfl (by simp only [List.length_append, List.length_cons, List.length_nil]; omega)) rfl ?_; refine lw_pure (pur_sadd rfl rfl (by simp only [List.length_append, List.length_cons, List.length_nil]; omega)) rfl ?_; refine cA rfl rfl (cT (cw_ret (qw_ret1 rfl rfl ?_))); rotate_left 1
   exact ⟨rfl, X⟩
end Bk
namespace Bk
open Go Go.RowKit Go.Proofs
attribute [local irreducible] Go.Calls
def StrR (w : World) (q : List UInt8) (e : Ending) (w' : World) : Prop := e = .returned (str q) ∧ Ext w w'
theorem strR {w w' : World} {q q' : List UInt8} (h : q = q') (x : Ext w w') : StrR w q (.returned (str q')) w' := ⟨by rw [h], x⟩
theorem okT_op {x : Nd} (h : x.okT) (hk : x.kind = 82) : 8 ≤ x.num ∧ x.num ≤ 23 := by
 obtain ⟨k, n, s, l⟩ := x; replace hk : k = 82 := hk; subst hk; simp only [Nd.okT] at h; have := formN_82 h.1
 exact ⟨this.1, this.2.1⟩
set_option maxRecDepth 100000 in
set_option maxHeartbeats 8000000 in
theorem text_c (N : Nat) : ∀ t : Nd, t.size < N → t.size ≤ 1000000 → t.okT → TextT t := by
 induction N with
 | zero => intro t h; omega
 | succ N ih =>
  rintro ⟨k, n, s, l⟩ hN hM hok S a c w hs ht; have X := Ext.refl w; simp only [Nd.sits] at hs; have hs' : rowSits (· < w.heap.size) w l a := rowSits_lt _ _ hs; clear hs; simp only [Nd.size] at hN hM; have hlen := ftext_len _ hok; simp only [Nd.size] at hlen; simp only [Nd.okT] at hok; obtain ⟨h1, h2, h3, h4⟩ := hok; have h0 := formN_num h1
  have hT : ∀ x ∈ l, TextT x ∧ x.okT ∧ x.ftext.length ≤ 1000000000 := fun x hx => by
   have h5 := size_mem hx; have h6 := rowOkT_mem h4 hx; have h7 := ftext_len x h6
   exact ⟨ih x (by omega) (by omega) h6, h6, by omega⟩
  clear ih; have hl := length_rowSize l
  show Calls Tryd.prog 22 #[.agg #[.int .u8 k, .int .i64 n, str s, .slice a l.length c]] w (StrR w (Nd.mk k n s l).ftext)
  have hft : (Nd.mk k n s l).ftext = textN k n s (rowText l) (l.map fun t => (t.kind, t.num)) := by rw [Nd.ftext]
  rw [hft] at hlen ⊢; clear hft
  unfold textN at hlen ⊢
  have HA := Lib.hid (fun (wd : List UInt8) (hlen : (appT wd (rowText l)).length ≤ 1000000000) => applied_c wd l (fun x hx => (hT x hx).1) (by omega) hlen)
  by_cases k0 : k = 80
  · subst k0
    rw [if_pos rfl]; refine calls_in Tryd.func22 Tryd.ntmps22 rfl rfl ?_
    focus
     refine cS ?_; (refine lw_box' [_, _, _, _] rfl rfl rfl ?_; intro b1 w2 n3); have h4 := n3.blk; have x5 := n3.ext; have p6 := n3.pos; have z7 := n3.size; clear n3; replace ht := ht.ext x5; replace X := X.ext x5; replace hs' := Bk.rowSits.ext hs' x5; clear x5; refine cA rfl rfl (cT (cw_seq (cS (lw_pure (pur_fieldAddr0 tabOk rfl rfl rfl) rfl (lw_load_b tabOk rfl rfl rfl h4 rfl rfl (cT (cw_block (cS (lw_pure (pur_eql rfl rfl) rfl (cA rfl rfl (cT ?_))))))))))); refine cw_yes rfl (by decide) ?_; refine cS (lw_pure (pur_fieldAddr tabOk rfl rfl rfl) rfl (lw_load_b tabOk rfl rfl rfl h4 rfl rfl ?_)); refine cC (by kernel_rfl) rfl (itoaF_c _ _ (by assumption) (by omega) (by omega)) rfl ?_; rintro _ w9 ⟨⟨⟩, x8⟩; have z10 := x8.size; replace h4 := h4.ext x8; replace ht := ht.ext x8; replace X := X.ext x8; replace hs' := Bk.rowSits.ext hs' x8; clear x8; refine cA rfl rfl (cT (cw_ret (qw_block_ret (qw_then_ret (qw_ret1 rfl rfl ?_))))); rotate_left 1
    exact strR rfl X
  by_cases k1 : k = 81
  · subst k1
    rw [if_neg (by decide), if_pos rfl]; refine calls_in Tryd.func22 Tryd.ntmps22 rfl rfl ?_
    focus
     refine cS ?_; (refine lw_box' [_, _, _, _] rfl rfl rfl ?_; intro ba1 wa2 na3); have ha4 := na3.blk; have xa5 := na3.ext; have pa6 := na3.pos; have za7 := na3.size; clear na3; replace ht := ht.ext xa5; replace X := X.ext xa5; replace hs' := Bk.rowSits.ext hs' xa5; clear xa5; refine cA rfl rfl (cT (cw_seq (cS (lw_pure (pur_fieldAddr0 tabOk rfl rfl rfl) rfl (lw_load_b tabOk rfl rfl rfl ha4 rfl rfl (cT (cw_block (cS (lw_pure (pur_eql rfl rfl) rfl (cA rfl rfl (cT ?_))))))))))); refine cw_no rfl (by assumption) ?_; refine cS (lw_pure (pur_eql rfl rfl) rfl (cA rfl rfl (cT ?_))); refine cw_yes rfl (by decide) ?_; refine cS (lw_pure (pur_fieldAddr tabOk rfl rfl rfl) rfl (lw_load_b tabOk rfl rfl rfl ha4 rfl rfl (cA rfl rfl (cT (cw_ret (qw_block_ret (qw_then_ret (qw_ret1 rfl rfl ?_)))))))); rotate_left 1
    exact strR rfl X
  by_cases k2 : k = 82
  · subst k2
    rw [if_neg (by decide), if_neg (by decide), if_pos rfl] at hlen ⊢; obtain ⟨n1, n2, n3⟩ := formN_82 h1; obtain ⟨x, y, rfl⟩ := len2 n3; obtain ⟨t1, t2, t3⟩ := hT x (by simp); obtain ⟨u1, u2, u3⟩ := hT y (by simp); have HO := Lib.hid (fun lv S a c w h1 h2 => operand_c x lv t1 (okT_op t2) t3 S a c w h1 h2); have HP := Lib.hid (fun lv S a c w h1 h2 => operand_c y lv u1 (okT_op u2) u3 S a c w h1 h2); simp only [rowText, List.map_cons, List.map_nil, List.getD_cons_zero, List.getD_cons_succ, List.length_append, List.length_cons, List.length_nil] at hlen ⊢
    generalize hq1 : wrapT (level n) (x.kind, x.num) x.ftext = q1 at *
    generalize hq2 : wrapT (level n + 1) (y.kind, y.num) y.ftext = q2 at *
    have HO := Lib.hid (HO.out (level n)); have HP := Lib.hid (HP.out (level n + 1)); rw [hq1] at HO; rw [hq2] at HP; have hsl := symbol_len n1 n2; have hlv := level_bd n1 n2; clear t1 t2 t3 u1 u2 u3 hT HA hq1 hq2; have hs2 := hs'; obtain ⟨kb, ko, rfl, hkS, hkid⟩ := kidRows hs2 (by simp); obtain ⟨xa, xc, rx, sx⟩ := hkid 0 x rfl; obtain ⟨ya, yc, ry, sy⟩ := hkid 1 y rfl; clear hkid hs2; refine calls_in Tryd.func22 Tryd.ntmps22 rfl rfl ?_
    focus
     refine cS ?_; (refine lw_box' [_, _, _, _] rfl rfl rfl ?_; intro bb1 wb2 nb3); have hb4 := nb3.blk; have xb5 := nb3.ext; have pb6 := nb3.pos; have zb7 := nb3.size; clear nb3; replace ht := ht.ext xb5; replace X := X.ext xb5; replace hs' := Bk.rowSits.ext hs' xb5; replace rx := rx.ext xb5; replace sx := Nd.sits.ext sx xb5; replace ry := ry.ext xb5; replace sy := Nd.sits.ext sy xb5; clear xb5; refine cA rfl rfl (cT (cw_seq (cS (lw_pure (pur_fieldAddr0 tabOk rfl rfl rfl) rfl (lw_load_b tabOk rfl rfl rfl hb4 rfl rfl (cT (cw_block (cS (lw_pure (pur_eql rfl rfl) rfl (cA rfl rfl (cT ?_))))))))))); refine cw_no rfl (by assumption) ?_; refine cS (lw_pure (pur_eql rfl rfl) rfl (cA rfl rfl (cT ?_))); refine cw_no rfl (by assumption) ?_; refine cS (lw_pure (pur_eql rfl rfl) rfl (cA rfl rfl (cT ?_))); refine cw_yes rfl (by decide) ?_; refine cS (lw_pure (pur_fieldAddr tabOk rfl rfl rfl) rfl (lw_load_b tabOk rfl rfl rfl hb4 rfl rfl ?_)); refine lw_pure (pur_conv tabOk rfl rfl rfl (u8_wrap _ (by omega) (by omega))) rfl ?_; refine cC (by kernel_rfl) rfl (arith_Level_c _ _ (by omega) (by omega)) rfl ?_; rintro _ wb8 ⟨⟨⟩, rfl⟩; refine cA rfl rfl (cT (cw_seq ?_)); (refine cw_tdraw (fun wz => Ext wb2 wz) 20 (.pure 0 (.pure 1 (.pure 2 (.pure 3 (.pure 4 (.pure 7 (.pure 8 (.pure 9 (.pure 13 (.pure 14 (.pure 15 (.pure 16 (.pure 17 (.pure 18 (.fork 5 (.pure 6 (.fork 10 (.pure 11 (.pure 12 (.fork 19 .tail .none))) .none)) .none))))))))))))))) mixed (by kernel_rfl) (panicOk_then (panicOk_block (panicOk_then panicOk_body))) ?_; intro wb9 xb10 _)
     have qsb11 : (fun wz => Ext wb2 wz) wb9 := xb10; simp only at qsb11; have d_hb4 := hb4; have d_ht := ht; have d_hs' := hs'; have d_rx := rx; have d_sx := sx; have d_ry := ry; have d_sy := sy; have zb12 := xb10.size; replace hb4 := hb4.ext xb10; replace ht := ht.ext xb10; replace X := X.ext xb10; replace hs' := Bk.rowSits.ext hs' xb10; replace rx := rx.ext xb10; replace sx := Nd.sits.ext sx xb10; replace ry := ry.ext xb10; replace sy := Nd.sits.ext sy xb10; clear xb10; refine ⟨qsb11, ?_⟩; refine tw_pure rfl (pur_fieldAddr tabOk rfl rfl rfl) rfl (tw_pure rfl (pur_load tabOk rfl rfl rfl (fun wz hz => Blk.cell (Blk.ext d_hb4 hz) rfl)) rfl ?_); refine tw_pure rfl (pur_indexAddr tabOk rfl rfl rfl rfl (by omega) (by omega)) rfl ?_; refine tw_pure rfl (pur_loads_row' [_, _, _, _] tabOk rfl rfl rfl (fun wz hz => (Row.ext d_rx hz)) rfl rfl) rfl (tw_pure rfl (pur_move rfl) rfl (tw_pure rfl (pur_fieldAddr tabOk rfl rfl rfl) rfl (tw_pure rfl (pur_load tabOk rfl rfl rfl (fun wz hz => Blk.cell (Blk.ext d_hb4 hz) rfl)) rfl ?_))); refine tw_pure rfl (pur_conv tabOk rfl rfl rfl (u8_wrap _ (by omega) (by omega))) rfl ?_; refine tw_pure rfl (pur_fieldAddr tabOk rfl rfl rfl) rfl (tw_pure rfl (pur_load tabOk rfl rfl rfl (fun wz hz => Blk.cell (Blk.ext d_hb4 hz) rfl)) rfl ?_); refine tw_pure rfl (pur_indexAddr tabOk rfl rfl rfl rfl (by omega) (by omega)) rfl ?_; refine tw_pure rfl (pur_loads' tabOk rfl rfl rfl (fun wz hz => (Row.ext d_ry hz)) rfl) rfl (tw_pure rfl (pur_move rfl) rfl ?_); refine tw_pure rfl (pur_add rfl rfl (IntWalk.i64_in _ (by omega))) rfl ?_
     refine tw_does rfl (does_call (by kernel_rfl) rfl (HO.out _ _ _ _ (by assumption) (by assumption)) (fun _ _ h => ⟨_, h.1⟩)) rfl ?_ (fun _ h => h) tw_none; rintro _ wb15 ⟨⟨⟩, xb14⟩; have zb16 := xb14.size; replace qsb11 := qsb11.ext xb14; replace hb4 := hb4.ext xb14; replace ht := ht.ext xb14; replace X := X.ext xb14; replace hs' := Bk.rowSits.ext hs' xb14; replace rx := rx.ext xb14; replace sx := Nd.sits.ext sx xb14; replace ry := ry.ext xb14; replace sy := Nd.sits.ext sy xb14; clear xb14; refine ⟨qsb11, ?_⟩; refine tw_pure rfl (pur_sadd rfl rfl (by simp only [List.length_cons, List.length_nil]; omega)) rfl ?_; refine tw_does rfl (does_call (by kernel_rfl) rfl (symF_c _ _ (by assumption) (by omega) (by omega)) (fun _ _ h => ⟨_, h.1⟩)) rfl ?_ (fun _ h => h) tw_none; rintro _ wb18 ⟨⟨⟩, rfl⟩; refine ⟨qsb11, ?_⟩; refine tw_pure rfl (pur_sadd rfl rfl (by simp only [List.length_append, List.length_cons, List.length_nil]; omega)) rfl ?_; refine tw_pure rfl (pur_sadd rfl rfl (by simp only [List.length_append, List.length_cons, List.length_nil]; omega)) rfl ?_; refine tw_does rfl (does_call (by kernel_rfl) rfl (HP.out _ _ _ _ (by assumption) (by assumption)) (fun _ _ h => ⟨_, h.1⟩)) rfl ?_ (fun _ h => h) tw_none; rintro _ wb21 ⟨⟨⟩, xb20⟩; have zb22 := xb20.size; replace qsb11 := qsb11.ext xb20; replace hb4 := hb4.ext xb20; replace ht := ht.ext xb20; replace X := X.ext xb20; replace hs' := Bk.rowSits.ext hs' xb20; replace rx := rx.ext xb20; replace sx := Nd.sits.ext sx xb20; replace ry := ry.ext xb20
     replace sy := Nd.sits.ext sy xb20; clear xb20; refine ⟨qsb11, ?_⟩; clear d_hb4 d_ht d_hs' d_rx d_sx d_ry d_sy qsb11; refine tw_tail rfl ?_; refine lw_pure (pur_sadd rfl rfl (by simp only [List.length_append, List.length_cons, List.length_nil]; omega)) rfl ?_; refine cA rfl rfl (cT (cw_ret (qw_block_ret (qw_then_ret (qw_ret1 rfl rfl ?_))))); rotate_left 1
    exact strR rfl X
  by_cases k3 : k = 83
  · subst k3
    rw [if_neg (by decide), if_neg (by decide), if_neg (by decide), if_pos rfl] at hlen ⊢; obtain ⟨x, y, z, rfl⟩ := len3 (formN_83' h1); have HO := Lib.hid (fun S a c w h1 h2 => (hT x (by simp)).1 S a c w h1 h2); have HP := Lib.hid (fun S a c w h1 h2 => (hT y (by simp)).1 S a c w h1 h2); have HQ := Lib.hid (fun S a c w h1 h2 => (hT z (by simp)).1 S a c w h1 h2); simp only [rowText, List.map_cons, List.map_nil, List.getD_cons_zero, List.getD_cons_succ, List.length_append, List.length_cons, List.length_nil] at hlen ⊢; clear hT HA; have hs2 := hs'; obtain ⟨kb, ko, rfl, hkS, hkid⟩ := kidRows hs2 (by simp); obtain ⟨xa, xc, rx, sx⟩ := hkid 0 x rfl; obtain ⟨ya, yc, ry, sy⟩ := hkid 1 y rfl; obtain ⟨za, zc, rz, sz⟩ := hkid 2 z rfl; clear hkid hs2
    generalize x.ftext = q1 at *
    generalize y.ftext = q2 at *
    generalize z.ftext = q3 at *
    refine calls_in Tryd.func22 Tryd.ntmps22 rfl rfl ?_
    focus
     refine cS ?_; (refine lw_box' [_, _, _, _] rfl rfl rfl ?_; intro bc1 wc2 nc3); have hc4 := nc3.blk; have xc5 := nc3.ext; have pc6 := nc3.pos; have zc7 := nc3.size; clear nc3; replace ht := ht.ext xc5; replace X := X.ext xc5; replace hs' := Bk.rowSits.ext hs' xc5; replace rx := rx.ext xc5; replace sx := Nd.sits.ext sx xc5; replace ry := ry.ext xc5; replace sy := Nd.sits.ext sy xc5; replace rz := rz.ext xc5; replace sz := Nd.sits.ext sz xc5; clear xc5; refine cA rfl rfl (cT (cw_seq (cS (lw_pure (pur_fieldAddr0 tabOk rfl rfl rfl) rfl (lw_load_b tabOk rfl rfl rfl hc4 rfl rfl (cT (cw_block (cS (lw_pure (pur_eql rfl rfl) rfl (cA rfl rfl (cT ?_))))))))))); refine cw_no rfl (by assumption) ?_; refine cS (lw_pure (pur_eql rfl rfl) rfl (cA rfl rfl (cT ?_))); refine cw_no rfl (by assumption) ?_; refine cS (lw_pure (pur_eql rfl rfl) rfl (cA rfl rfl (cT ?_))); refine cw_no rfl (by assumption) ?_; refine cS (lw_pure (pur_eql rfl rfl) rfl (cA rfl rfl (cT ?_))); refine cw_yes rfl (by decide) ?_; refine cw_seq ?_; (refine cw_tdraw (fun wz => Ext wc2 wz) 19 (.pure 0 (.pure 1 (.pure 2 (.pure 3 (.pure 7 (.pure 8 (.pure 9 (.pure 10 (.pure 14 (.pure 15 (.pure 16 (.pure 17 (.fork 4 (.pure 5 (.pure 6 (.fork 11 (.pure 12 (.pure 13 (.fork 18 .tail .none))) .none))) .none))))))))))))) mixed (by kernel_rfl) (panicOk_then (panicOk_block (panicOk_then panicOk_body))) ?_; intro wc8 xc9 _); have qsc10 : (fun wz => Ext wc2 wz) wc8 := xc9; simp only at qsc10; have d_hc4 := hc4; have d_ht := ht; have d_hs' := hs'
     have d_rx := rx; have d_sx := sx; have d_ry := ry; have d_sy := sy; have d_rz := rz; have d_sz := sz; have zc11 := xc9.size; replace hc4 := hc4.ext xc9; replace ht := ht.ext xc9; replace X := X.ext xc9; replace hs' := Bk.rowSits.ext hs' xc9; replace rx := rx.ext xc9; replace sx := Nd.sits.ext sx xc9; replace ry := ry.ext xc9; replace sy := Nd.sits.ext sy xc9; replace rz := rz.ext xc9; replace sz := Nd.sits.ext sz xc9; clear xc9; refine ⟨qsc10, ?_⟩; refine tw_pure rfl (pur_fieldAddr tabOk rfl rfl rfl) rfl (tw_pure rfl (pur_load tabOk rfl rfl rfl (fun wz hz => Blk.cell (Blk.ext d_hc4 hz) rfl)) rfl ?_); refine tw_pure rfl (pur_indexAddr tabOk rfl rfl rfl rfl (by omega) (by omega)) rfl ?_; refine tw_pure rfl (pur_loads_row' [_, _, _, _] tabOk rfl rfl rfl (fun wz hz => (Row.ext d_rx hz)) rfl rfl) rfl (tw_pure rfl (pur_fieldAddr tabOk rfl rfl rfl) rfl (tw_pure rfl (pur_load tabOk rfl rfl rfl (fun wz hz => Blk.cell (Blk.ext d_hc4 hz) rfl)) rfl ?_)); refine tw_pure rfl (pur_indexAddr tabOk rfl rfl rfl rfl (by omega) (by omega)) rfl ?_; refine tw_pure rfl (pur_loads' tabOk rfl rfl rfl (fun wz hz => (Row.ext d_ry hz)) rfl) rfl (tw_pure rfl (pur_fieldAddr tabOk rfl rfl rfl) rfl (tw_pure rfl (pur_load tabOk rfl rfl rfl (fun wz hz => Blk.cell (Blk.ext d_hc4 hz) rfl)) rfl ?_)); refine tw_pure rfl (pur_indexAddr tabOk rfl rfl rfl rfl (by omega) (by omega)) rfl ?_; refine tw_pure rfl (pur_loads' tabOk rfl rfl rfl (fun wz hz => (Row.ext d_rz hz)) rfl) rfl ?_; refine tw_does rfl (does_call (by kernel_rfl) rfl (HO.out _ _ _ _ (by assumption) (by assumption)) (fun _ _ h => ⟨_, h.1⟩)) rfl ?_ (fun _ h => h) tw_none
     rintro _ wc14 ⟨⟨⟩, xc13⟩; have zc15 := xc13.size; replace qsc10 := qsc10.ext xc13; replace hc4 := hc4.ext xc13; replace ht := ht.ext xc13; replace X := X.ext xc13; replace hs' := Bk.rowSits.ext hs' xc13; replace rx := rx.ext xc13; replace sx := Nd.sits.ext sx xc13; replace ry := ry.ext xc13; replace sy := Nd.sits.ext sy xc13; replace rz := rz.ext xc13; replace sz := Nd.sits.ext sz xc13; clear xc13; refine ⟨qsc10, ?_⟩; refine tw_pure rfl (pur_sadd rfl rfl (by simp only [List.length_cons, List.length_nil]; omega)) rfl ?_; refine tw_pure rfl (pur_sadd rfl rfl (by simp only [List.length_append, List.length_cons, List.length_nil]; omega)) rfl ?_; refine tw_does rfl (does_call (by kernel_rfl) rfl (HP.out _ _ _ _ (by assumption) (by assumption)) (fun _ _ h => ⟨_, h.1⟩)) rfl ?_ (fun _ h => h) tw_none; rintro _ wc18 ⟨⟨⟩, xc17⟩; have zc19 := xc17.size; replace qsc10 := qsc10.ext xc17; replace hc4 := hc4.ext xc17; replace ht := ht.ext xc17; replace X := X.ext xc17; replace hs' := Bk.rowSits.ext hs' xc17; replace rx := rx.ext xc17; replace sx := Nd.sits.ext sx xc17; replace ry := ry.ext xc17; replace sy := Nd.sits.ext sy xc17; replace rz := rz.ext xc17; replace sz := Nd.sits.ext sz xc17; clear xc17; refine ⟨qsc10, ?_⟩; refine tw_pure rfl (pur_sadd rfl rfl (by simp only [List.length_append, List.length_cons, List.length_nil]; omega)) rfl ?_; refine tw_pure rfl (pur_sadd rfl rfl (by simp only [List.length_append, List.length_cons, List.length_nil]; omega)) rfl ?_; refine tw_does rfl (does_call (by kernel_rfl) rfl (HQ.out _ _ _ _ (by assumption) (by assumption)) (fun _ _ h => ⟨_, h.1⟩)) rfl ?_ (fun _ h => h) tw_none
     rintro _ wc22 ⟨⟨⟩, xc21⟩; have zc23 := xc21.size; replace qsc10 := qsc10.ext xc21; replace hc4 := hc4.ext xc21; replace ht := ht.ext xc21; replace X := X.ext xc21; replace hs' := Bk.rowSits.ext hs' xc21; replace rx := rx.ext xc21; replace sx := Nd.sits.ext sx xc21; replace ry := ry.ext xc21; replace sy := Nd.sits.ext sy xc21; replace rz := rz.ext xc21; replace sz := Nd.sits.ext sz xc21; clear xc21; refine ⟨qsc10, ?_⟩; clear d_hc4 d_ht d_hs' d_rx d_sx d_ry d_sy d_rz d_sz qsc10; refine tw_tail rfl ?_; refine lw_pure (pur_sadd rfl rfl (by simp only [List.length_append, List.length_cons, List.length_nil]; omega)) rfl ?_; refine lw_pure (pur_sadd rfl rfl (by simp only [List.length_append, List.length_cons, List.length_nil]; omega)) rfl ?_; refine cA rfl rfl (cT (cw_ret (qw_block_ret (qw_then_ret (qw_ret1 rfl rfl ?_))))); rotate_left 1
    exact strR rfl X
  by_cases k4 : k = 84
  · subst k4
    rw [if_neg (by decide), if_neg (by decide), if_neg (by decide), if_neg (by decide), if_pos rfl] at hlen ⊢; obtain ⟨x, y, rfl⟩ := len2 (formN_84 h1).2; have HO := Lib.hid (fun S a c w h1 h2 => (hT x (by simp)).1 S a c w h1 h2); have HP := Lib.hid (fun S a c w h1 h2 => (hT y (by simp)).1 S a c w h1 h2); simp only [rowText, List.map_cons, List.map_nil, List.getD_cons_zero, List.getD_cons_succ, List.length_append, List.length_cons, List.length_nil] at hlen ⊢; clear hT HA; have hs2 := hs'; obtain ⟨kb, ko, rfl, hkS, hkid⟩ := kidRows hs2 (by simp); obtain ⟨xa, xc, rx, sx⟩ := hkid 0 x rfl; obtain ⟨ya, yc, ry, sy⟩ := hkid 1 y rfl; clear hkid hs2
    generalize x.ftext = q1 at *
    generalize y.ftext = q2 at *
    refine calls_in Tryd.func22 Tryd.ntmps22 rfl rfl ?_
    focus
     refine cS ?_; (refine lw_box' [_, _, _, _] rfl rfl rfl ?_; intro bd1 wd2 nd3); have hd4 := nd3.blk; have xd5 := nd3.ext; have pd6 := nd3.pos; have zd7 := nd3.size; clear nd3; replace ht := ht.ext xd5; replace X := X.ext xd5; replace hs' := Bk.rowSits.ext hs' xd5; replace rx := rx.ext xd5; replace sx := Nd.sits.ext sx xd5; replace ry := ry.ext xd5; replace sy := Nd.sits.ext sy xd5; clear xd5; refine cA rfl rfl (cT (cw_seq (cS (lw_pure (pur_fieldAddr0 tabOk rfl rfl rfl) rfl (lw_load_b tabOk rfl rfl rfl hd4 rfl rfl (cT (cw_block (cS (lw_pure (pur_eql rfl rfl) rfl (cA rfl rfl (cT ?_))))))))))); refine cw_no rfl (by assumption) ?_; refine cS (lw_pure (pur_eql rfl rfl) rfl (cA rfl rfl (cT ?_))); refine cw_no rfl (by assumption) ?_; refine cS (lw_pure (pur_eql rfl rfl) rfl (cA rfl rfl (cT ?_))); refine cw_no rfl (by assumption) ?_; refine cS (lw_pure (pur_eql rfl rfl) rfl (cA rfl rfl (cT ?_))); refine cw_no rfl (by assumption) ?_; refine cS (lw_pure (pur_eql rfl rfl) rfl (cA rfl rfl (cT ?_))); refine cw_yes rfl (by decide) ?_; refine cw_seq ?_; (refine cw_tdraw (fun wz => Ext wd2 wz) 16 (.pure 0 (.pure 1 (.pure 2 (.pure 3 (.pure 4 (.pure 5 (.pure 6 (.pure 7 (.pure 11 (.pure 12 (.pure 13 (.pure 14 (.fork 8 (.pure 9 (.pure 10 (.fork 15 .tail .none))) .none))))))))))))) mixed (by kernel_rfl) (panicOk_then (panicOk_block (panicOk_then panicOk_body))) ?_; intro wd8 xd9 _); have qsd10 : (fun wz => Ext wd2 wz) wd8 := xd9; simp only at qsd10; have d_hd4 := hd4; have d_ht := ht; have d_hs' := hs'
     have d_rx := rx; have d_sx := sx; have d_ry := ry; have d_sy := sy; have zd11 := xd9.size; replace hd4 := hd4.ext xd9; replace ht := ht.ext xd9; replace X := X.ext xd9; replace hs' := Bk.rowSits.ext hs' xd9; replace rx := rx.ext xd9; replace sx := Nd.sits.ext sx xd9; replace ry := ry.ext xd9; replace sy := Nd.sits.ext sy xd9; clear xd9; refine ⟨qsd10, ?_⟩; refine tw_pure rfl (pur_fieldAddr tabOk rfl rfl rfl) rfl (tw_pure rfl (pur_load tabOk rfl rfl rfl (fun wz hz => Blk.cell (Blk.ext d_hd4 hz) rfl)) rfl ?_); refine tw_pure rfl (pur_sadd rfl rfl (by simp only [List.length_cons, List.length_nil]; omega)) rfl ?_; refine tw_pure rfl (pur_sadd rfl rfl (by simp only [List.length_append, List.length_cons, List.length_nil]; omega)) rfl ?_; refine tw_pure rfl (pur_fieldAddr tabOk rfl rfl rfl) rfl (tw_pure rfl (pur_load tabOk rfl rfl rfl (fun wz hz => Blk.cell (Blk.ext d_hd4 hz) rfl)) rfl ?_); refine tw_pure rfl (pur_indexAddr tabOk rfl rfl rfl rfl (by omega) (by omega)) rfl ?_; refine tw_pure rfl (pur_loads_row' [_, _, _, _] tabOk rfl rfl rfl (fun wz hz => (Row.ext d_rx hz)) rfl rfl) rfl (tw_pure rfl (pur_fieldAddr tabOk rfl rfl rfl) rfl (tw_pure rfl (pur_load tabOk rfl rfl rfl (fun wz hz => Blk.cell (Blk.ext d_hd4 hz) rfl)) rfl ?_)); refine tw_pure rfl (pur_indexAddr tabOk rfl rfl rfl rfl (by omega) (by omega)) rfl ?_; refine tw_pure rfl (pur_loads' tabOk rfl rfl rfl (fun wz hz => (Row.ext d_ry hz)) rfl) rfl ?_; refine tw_does rfl (does_call (by kernel_rfl) rfl (HO.out _ _ _ _ (by assumption) (by assumption)) (fun _ _ h => ⟨_, h.1⟩)) rfl ?_ (fun _ h => h) tw_none
     rintro _ wd14 ⟨⟨⟩, xd13⟩; have zd15 := xd13.size; replace qsd10 := qsd10.ext xd13; replace hd4 := hd4.ext xd13; replace ht := ht.ext xd13; replace X := X.ext xd13; replace hs' := Bk.rowSits.ext hs' xd13; replace rx := rx.ext xd13; replace sx := Nd.sits.ext sx xd13; replace ry := ry.ext xd13; replace sy := Nd.sits.ext sy xd13; clear xd13; refine ⟨qsd10, ?_⟩; refine tw_pure rfl (pur_sadd rfl rfl (by simp only [List.length_append, List.length_cons, List.length_nil]; omega)) rfl ?_; refine tw_pure rfl (pur_sadd rfl rfl (by simp only [List.length_append, List.length_cons, List.length_nil]; omega)) rfl ?_; refine tw_does rfl (does_call (by kernel_rfl) rfl (HP.out _ _ _ _ (by assumption) (by assumption)) (fun _ _ h => ⟨_, h.1⟩)) rfl ?_ (fun _ h => h) tw_none; rintro _ wd18 ⟨⟨⟩, xd17⟩; have zd19 := xd17.size; replace qsd10 := qsd10.ext xd17; replace hd4 := hd4.ext xd17; replace ht := ht.ext xd17; replace X := X.ext xd17; replace hs' := Bk.rowSits.ext hs' xd17; replace rx := rx.ext xd17; replace sx := Nd.sits.ext sx xd17; replace ry := ry.ext xd17; replace sy := Nd.sits.ext sy xd17; clear xd17; refine ⟨qsd10, ?_⟩; clear d_hd4 d_ht d_hs' d_rx d_sx d_ry d_sy qsd10; refine tw_tail rfl ?_; refine lw_pure (pur_sadd rfl rfl (by simp only [List.length_append, List.length_cons, List.length_nil]; omega)) rfl ?_; refine lw_pure (pur_sadd rfl rfl (by simp only [List.length_append, List.length_cons, List.length_nil]; omega)) rfl ?_; refine cA rfl rfl (cT (cw_ret (qw_block_ret (qw_then_ret (qw_ret1 rfl rfl ?_)))))
     rotate_left 1
    exact strR rfl X
  by_cases k6 : k = 86
  · subst k6
    rw [if_neg (by decide), if_neg (by decide), if_neg (by decide), if_neg (by decide), if_neg (by decide), if_pos rfl]; refine calls_in Tryd.func22 Tryd.ntmps22 rfl rfl ?_
    focus
     refine cS ?_; (refine lw_box' [_, _, _, _] rfl rfl rfl ?_; intro be1 we2 ne3); have he4 := ne3.blk; have xe5 := ne3.ext; have pe6 := ne3.pos; have ze7 := ne3.size; clear ne3; replace ht := ht.ext xe5; replace X := X.ext xe5; replace hs' := Bk.rowSits.ext hs' xe5; clear xe5; refine cA rfl rfl (cT (cw_seq (cS (lw_pure (pur_fieldAddr0 tabOk rfl rfl rfl) rfl (lw_load_b tabOk rfl rfl rfl he4 rfl rfl (cT (cw_block (cS (lw_pure (pur_eql rfl rfl) rfl (cA rfl rfl (cT ?_))))))))))); refine cw_no rfl (by assumption) ?_; refine cS (lw_pure (pur_eql rfl rfl) rfl (cA rfl rfl (cT ?_))); refine cw_no rfl (by assumption) ?_; refine cS (lw_pure (pur_eql rfl rfl) rfl (cA rfl rfl (cT ?_))); refine cw_no rfl (by assumption) ?_; refine cS (lw_pure (pur_eql rfl rfl) rfl (cA rfl rfl (cT ?_))); refine cw_no rfl (by assumption) ?_; refine cS (lw_pure (pur_eql rfl rfl) rfl (cA rfl rfl (cT ?_))); refine cw_no rfl (by assumption) ?_; refine cS (lw_pure (pur_eql rfl rfl) rfl (cA rfl rfl (cT ?_))); refine cw_yes rfl (by decide) ?_; refine cS (cA rfl rfl (cT (cw_ret (qw_block_ret (qw_then_ret (qw_ret1 rfl rfl ?_)))))); rotate_left 1
    exact strR rfl X
  by_cases k7 : k = 87
  · subst k7
    rw [if_neg (by decide), if_neg (by decide), if_neg (by decide), if_neg (by decide), if_neg (by decide), if_neg (by decide), if_pos rfl] at hlen ⊢; have HA := Lib.hid (HA.out [112, 117, 115, 104] (by omega)); clear hlen
    generalize appT [112, 117, 115, 104] (rowText l) = q at *
    refine calls_in Tryd.func22 Tryd.ntmps22 rfl rfl ?_
    focus
     refine cS ?_; (refine lw_box' [_, _, _, _] rfl rfl rfl ?_; intro bf1 wf2 nf3); have hf4 := nf3.blk; have xf5 := nf3.ext; have pf6 := nf3.pos; have zf7 := nf3.size; clear nf3; replace ht := ht.ext xf5; replace X := X.ext xf5; replace hs' := Bk.rowSits.ext hs' xf5; clear xf5; refine cA rfl rfl (cT (cw_seq (cS (lw_pure (pur_fieldAddr0 tabOk rfl rfl rfl) rfl (lw_load_b tabOk rfl rfl rfl hf4 rfl rfl (cT (cw_block (cS (lw_pure (pur_eql rfl rfl) rfl (cA rfl rfl (cT ?_))))))))))); refine cw_no rfl (by assumption) ?_; refine cS (lw_pure (pur_eql rfl rfl) rfl (cA rfl rfl (cT ?_))); refine cw_no rfl (by assumption) ?_; refine cS (lw_pure (pur_eql rfl rfl) rfl (cA rfl rfl (cT ?_))); refine cw_no rfl (by assumption) ?_; refine cS (lw_pure (pur_eql rfl rfl) rfl (cA rfl rfl (cT ?_))); refine cw_no rfl (by assumption) ?_; refine cS (lw_pure (pur_eql rfl rfl) rfl (cA rfl rfl (cT ?_))); refine cw_no rfl (by assumption) ?_; refine cS (lw_pure (pur_eql rfl rfl) rfl (cA rfl rfl (cT ?_))); refine cw_no rfl (by assumption) ?_; refine cS (lw_pure (pur_eql rfl rfl) rfl (cA rfl rfl (cT ?_))); refine cw_yes rfl (by decide) ?_; refine cS (lw_pure (pur_fieldAddr tabOk rfl rfl rfl) rfl (lw_load_b tabOk rfl rfl rfl hf4 rfl rfl ?_)); refine cC (by kernel_rfl) rfl (HA.out _ _ _ _ (by assumption) (by assumption)) rfl ?_; rintro _ wf9 ⟨⟨⟩, xf8⟩; have zf10 := xf8.size; replace hf4 := hf4.ext xf8; replace ht := ht.ext xf8; replace X := X.ext xf8; replace hs' := Bk.rowSits.ext hs' xf8; clear xf8; refine cA rfl rfl (cT (cw_ret (qw_block_ret (qw_then_ret (qw_ret1 rfl rfl ?_)))))
     rotate_left 1
    exact strR rfl X
  by_cases k9 : k = 89
  · subst k9
    rw [if_neg (by decide), if_neg (by decide), if_neg (by decide), if_neg (by decide), if_neg (by decide), if_neg (by decide), if_neg (by decide), if_pos rfl] at hlen ⊢; have HA := Lib.hid (HA.out [112, 111, 112] (by omega)); clear hlen
    generalize appT [112, 111, 112] (rowText l) = q at *
    refine calls_in Tryd.func22 Tryd.ntmps22 rfl rfl ?_
    focus
     refine cS ?_; (refine lw_box' [_, _, _, _] rfl rfl rfl ?_; intro bg1 wg2 ng3); have hg4 := ng3.blk; have xg5 := ng3.ext; have pg6 := ng3.pos; have zg7 := ng3.size; clear ng3; replace ht := ht.ext xg5; replace X := X.ext xg5; replace hs' := Bk.rowSits.ext hs' xg5; clear xg5; refine cA rfl rfl (cT (cw_seq (cS (lw_pure (pur_fieldAddr0 tabOk rfl rfl rfl) rfl (lw_load_b tabOk rfl rfl rfl hg4 rfl rfl (cT (cw_block (cS (lw_pure (pur_eql rfl rfl) rfl (cA rfl rfl (cT ?_))))))))))); refine cw_no rfl (by assumption) ?_; refine cS (lw_pure (pur_eql rfl rfl) rfl (cA rfl rfl (cT ?_))); refine cw_no rfl (by assumption) ?_; refine cS (lw_pure (pur_eql rfl rfl) rfl (cA rfl rfl (cT ?_))); refine cw_no rfl (by assumption) ?_; refine cS (lw_pure (pur_eql rfl rfl) rfl (cA rfl rfl (cT ?_))); refine cw_no rfl (by assumption) ?_; refine cS (lw_pure (pur_eql rfl rfl) rfl (cA rfl rfl (cT ?_))); refine cw_no rfl (by assumption) ?_; refine cS (lw_pure (pur_eql rfl rfl) rfl (cA rfl rfl (cT ?_))); refine cw_no rfl (by assumption) ?_; refine cS (lw_pure (pur_eql rfl rfl) rfl (cA rfl rfl (cT ?_))); refine cw_no rfl (by assumption) ?_; refine cS (lw_pure (pur_eql rfl rfl) rfl (cA rfl rfl (cT ?_))); refine cw_yes rfl (by decide) ?_; refine cS (lw_pure (pur_fieldAddr tabOk rfl rfl rfl) rfl (lw_load_b tabOk rfl rfl rfl hg4 rfl rfl ?_)); refine cC (by kernel_rfl) rfl (HA.out _ _ _ _ (by assumption) (by assumption)) rfl ?_; rintro _ wg9 ⟨⟨⟩, xg8⟩; have zg10 := xg8.size; replace hg4 := hg4.ext xg8; replace ht := ht.ext xg8
     replace X := X.ext xg8; replace hs' := Bk.rowSits.ext hs' xg8; clear xg8; refine cA rfl rfl (cT (cw_ret (qw_block_ret (qw_then_ret (qw_ret1 rfl rfl ?_))))); rotate_left 1
    exact strR rfl X
  by_cases k8 : k = 88
  · subst k8
    rw [if_neg (by decide), if_neg (by decide), if_neg (by decide), if_neg (by decide), if_neg (by decide), if_neg (by decide), if_neg (by decide), if_neg (by decide), if_pos rfl] at hlen ⊢; have HA := Lib.hid (HA.out [116, 111, 112] (by omega)); clear hlen
    generalize appT [116, 111, 112] (rowText l) = q at *
    refine calls_in Tryd.func22 Tryd.ntmps22 rfl rfl ?_
    focus
     refine cS ?_; (refine lw_box' [_, _, _, _] rfl rfl rfl ?_; intro bh1 wh2 nh3); have hh4 := nh3.blk; have xh5 := nh3.ext; have ph6 := nh3.pos; have zh7 := nh3.size; clear nh3; replace ht := ht.ext xh5; replace X := X.ext xh5; replace hs' := Bk.rowSits.ext hs' xh5; clear xh5; refine cA rfl rfl (cT (cw_seq (cS (lw_pure (pur_fieldAddr0 tabOk rfl rfl rfl) rfl (lw_load_b tabOk rfl rfl rfl hh4 rfl rfl (cT (cw_block (cS (lw_pure (pur_eql rfl rfl) rfl (cA rfl rfl (cT ?_))))))))))); refine cw_no rfl (by assumption) ?_; refine cS (lw_pure (pur_eql rfl rfl) rfl (cA rfl rfl (cT ?_))); refine cw_no rfl (by assumption) ?_; refine cS (lw_pure (pur_eql rfl rfl) rfl (cA rfl rfl (cT ?_))); refine cw_no rfl (by assumption) ?_; refine cS (lw_pure (pur_eql rfl rfl) rfl (cA rfl rfl (cT ?_))); refine cw_no rfl (by assumption) ?_; refine cS (lw_pure (pur_eql rfl rfl) rfl (cA rfl rfl (cT ?_))); refine cw_no rfl (by assumption) ?_; refine cS (lw_pure (pur_eql rfl rfl) rfl (cA rfl rfl (cT ?_))); refine cw_no rfl (by assumption) ?_; refine cS (lw_pure (pur_eql rfl rfl) rfl (cA rfl rfl (cT ?_))); refine cw_no rfl (by assumption) ?_; refine cS (lw_pure (pur_eql rfl rfl) rfl (cA rfl rfl (cT ?_))); refine cw_no rfl (by assumption) ?_; refine cS (lw_pure (pur_eql rfl rfl) rfl (cA rfl rfl (cT ?_))); refine cw_yes rfl (by decide) ?_; refine cS (lw_pure (pur_fieldAddr tabOk rfl rfl rfl) rfl (lw_load_b tabOk rfl rfl rfl hh4 rfl rfl ?_)); refine cC (by kernel_rfl) rfl (HA.out _ _ _ _ (by assumption) (by assumption)) rfl ?_
     rintro _ wh9 ⟨⟨⟩, xh8⟩; have zh10 := xh8.size; replace hh4 := hh4.ext xh8; replace ht := ht.ext xh8; replace X := X.ext xh8; replace hs' := Bk.rowSits.ext hs' xh8; clear xh8; refine cA rfl rfl (cT (cw_ret (qw_block_ret (qw_then_ret (qw_ret1 rfl rfl ?_))))); rotate_left 1
    exact strR rfl X
  by_cases k10 : k = 90
  · subst k10
    rw [if_neg (by decide), if_neg (by decide), if_neg (by decide), if_neg (by decide), if_neg (by decide), if_neg (by decide), if_neg (by decide), if_neg (by decide), if_neg (by decide), if_pos rfl] at hlen ⊢; obtain ⟨x, rfl⟩ := len1 (formN_90 h1); obtain ⟨t1, t2, t3⟩ := hT x (by simp); have HO := Lib.hid (fun S a c w h1 h2 => operand_c x 9 t1 (okT_op t2) t3 S a c w h1 h2); simp only [rowText, List.map_cons, List.map_nil, List.getD_cons_zero, List.getD_cons_succ, List.length_append, List.length_cons, List.length_nil] at hlen ⊢
    generalize wrapT 9 (x.kind, x.num) x.ftext = q1 at *
    clear hT HA t1 t2 t3; have hs2 := hs'; obtain ⟨kb, ko, rfl, hkS, hkid⟩ := kidRows hs2 (by simp); obtain ⟨xa, xc, rx, sx⟩ := hkid 0 x rfl; clear hkid hs2; refine calls_in Tryd.func22 Tryd.ntmps22 rfl rfl ?_
    focus
     refine cS ?_; (refine lw_box' [_, _, _, _] rfl rfl rfl ?_; intro bi1 wi2 ni3); have hi4 := ni3.blk; have xi5 := ni3.ext; have pi6 := ni3.pos; have zi7 := ni3.size; clear ni3; replace ht := ht.ext xi5; replace X := X.ext xi5; replace hs' := Bk.rowSits.ext hs' xi5; replace rx := rx.ext xi5; replace sx := Nd.sits.ext sx xi5; clear xi5; refine cA rfl rfl (cT (cw_seq (cS (lw_pure (pur_fieldAddr0 tabOk rfl rfl rfl) rfl (lw_load_b tabOk rfl rfl rfl hi4 rfl rfl (cT (cw_block (cS (lw_pure (pur_eql rfl rfl) rfl (cA rfl rfl (cT ?_))))))))))); refine cw_no rfl (by assumption) ?_; refine cS (lw_pure (pur_eql rfl rfl) rfl (cA rfl rfl (cT ?_))); refine cw_no rfl (by assumption) ?_; refine cS (lw_pure (pur_eql rfl rfl) rfl (cA rfl rfl (cT ?_))); refine cw_no rfl (by assumption) ?_; refine cS (lw_pure (pur_eql rfl rfl) rfl (cA rfl rfl (cT ?_))); refine cw_no rfl (by assumption) ?_; refine cS (lw_pure (pur_eql rfl rfl) rfl (cA rfl rfl (cT ?_))); refine cw_no rfl (by assumption) ?_; refine cS (lw_pure (pur_eql rfl rfl) rfl (cA rfl rfl (cT ?_))); refine cw_no rfl (by assumption) ?_; refine cS (lw_pure (pur_eql rfl rfl) rfl (cA rfl rfl (cT ?_))); refine cw_no rfl (by assumption) ?_; refine cS (lw_pure (pur_eql rfl rfl) rfl (cA rfl rfl (cT ?_))); refine cw_no rfl (by assumption) ?_; refine cS (lw_pure (pur_eql rfl rfl) rfl (cA rfl rfl (cT ?_))); refine cw_no rfl (by assumption) ?_; refine cS (lw_pure (pur_eql rfl rfl) rfl (cA rfl rfl (cT ?_))); refine cw_yes rfl (by decide) ?_; refine cw_seq ?_
     (refine cw_tdraw (fun wz => Ext wi2 wz) 5 (.pure 0 (.pure 1 (.pure 2 (.pure 3 (.fork 4 .tail .none))))) mixed (by kernel_rfl) (panicOk_then (panicOk_block (panicOk_then panicOk_body))) ?_; intro wi8 xi9 _); have qsi10 : (fun wz => Ext wi2 wz) wi8 := xi9; simp only at qsi10; have d_hi4 := hi4; have d_ht := ht; have d_hs' := hs'; have d_rx := rx; have d_sx := sx; have zi11 := xi9.size; replace hi4 := hi4.ext xi9; replace ht := ht.ext xi9; replace X := X.ext xi9; replace hs' := Bk.rowSits.ext hs' xi9; replace rx := rx.ext xi9; replace sx := Nd.sits.ext sx xi9; clear xi9; refine ⟨qsi10, ?_⟩; refine tw_pure rfl (pur_fieldAddr tabOk rfl rfl rfl) rfl (tw_pure rfl (pur_load tabOk rfl rfl rfl (fun wz hz => Blk.cell (Blk.ext d_hi4 hz) rfl)) rfl ?_); refine tw_pure rfl (pur_indexAddr tabOk rfl rfl rfl rfl (by omega) (by omega)) rfl ?_; refine tw_pure rfl (pur_loads_row' [_, _, _, _] tabOk rfl rfl rfl (fun wz hz => (Row.ext d_rx hz)) rfl rfl) rfl ?_; refine tw_does rfl (does_call (by kernel_rfl) rfl (arith_Level_c _ _ (by omega) (by omega)) (fun _ _ h => ⟨_, h.1⟩)) rfl ?_ (fun _ h => h) tw_none; rintro _ wi13 ⟨⟨⟩, rfl⟩; refine ⟨qsi10, ?_⟩; clear qsi10 d_hi4 d_ht d_hs' d_rx d_sx; refine tw_tail rfl ?_; refine cC (by kernel_rfl) rfl (HO.out _ _ _ _ (by assumption) (by assumption)) rfl ?_; rintro _ wi15 ⟨⟨⟩, xi14⟩; have zi16 := xi14.size; replace hi4 := hi4.ext xi14; replace ht := ht.ext xi14; replace X := X.ext xi14; replace hs' := Bk.rowSits.ext hs' xi14; replace rx := rx.ext xi14; replace sx := Nd.sits.ext sx xi14
     clear xi14; refine lw_pure (pur_sadd rfl rfl (by simp only [List.length_cons, List.length_nil]; omega)) rfl ?_; refine cA rfl rfl (cT (cw_ret (qw_block_ret (qw_then_ret (qw_ret1 rfl rfl ?_))))); rotate_left 1
    exact strR rfl X
  rw [if_neg k0, if_neg k1, if_neg k2, if_neg k3, if_neg k4, if_neg k6, if_neg k7, if_neg k9, if_neg k8, if_neg k10] at hlen ⊢; have HA := Lib.hid (HA.out s (by omega)); clear hlen
  generalize appT s (rowText l) = q at *
  refine calls_in Tryd.func22 Tryd.ntmps22 rfl rfl ?_
  focus
   refine cS ?_; (refine lw_box' [_, _, _, _] rfl rfl rfl ?_; intro bj1 wj2 nj3); have hj4 := nj3.blk; have xj5 := nj3.ext; have pj6 := nj3.pos; have zj7 := nj3.size; clear nj3; replace ht := ht.ext xj5; replace X := X.ext xj5; replace hs' := Bk.rowSits.ext hs' xj5; clear xj5; refine cA rfl rfl (cT (cw_seq (cS (lw_pure (pur_fieldAddr0 tabOk rfl rfl rfl) rfl (lw_load_b tabOk rfl rfl rfl hj4 rfl rfl (cT (cw_block (cS (lw_pure (pur_eql rfl rfl) rfl (cA rfl rfl (cT ?_))))))))))); refine cw_no rfl (by assumption) ?_; refine cS (lw_pure (pur_eql rfl rfl) rfl (cA rfl rfl (cT ?_))); refine cw_no rfl (by assumption) ?_; refine cS (lw_pure (pur_eql rfl rfl) rfl (cA rfl rfl (cT ?_))); refine cw_no rfl (by assumption) ?_; refine cS (lw_pure (pur_eql rfl rfl) rfl (cA rfl rfl (cT ?_))); refine cw_no rfl (by assumption) ?_; refine cS (lw_pure (pur_eql rfl rfl) rfl (cA rfl rfl (cT ?_))); refine cw_no rfl (by assumption) ?_; refine cS (lw_pure (pur_eql rfl rfl) rfl (cA rfl rfl (cT ?_))); refine cw_no rfl (by assumption) ?_; refine cS (lw_pure (pur_eql rfl rfl) rfl (cA rfl rfl (cT ?_))); refine cw_no rfl (by assumption) ?_; refine cS (lw_pure (pur_eql rfl rfl) rfl (cA rfl rfl (cT ?_))); refine cw_no rfl (by assumption) ?_; refine cS (lw_pure (pur_eql rfl rfl) rfl (cA rfl rfl (cT ?_))); refine cw_no rfl (by assumption) ?_; refine cS (lw_pure (pur_eql rfl rfl) rfl (cA rfl rfl (cT ?_))); refine cw_no rfl (by assumption) ?_; refine cw_skip (qw_block_norm (qw_then (cS (lw_pure (pur_fieldAddr tabOk rfl rfl rfl) rfl (lw_load_b tabOk rfl rfl rfl hj4 rfl rfl (lw_pure (pur_fieldAddr tabOk rfl rfl rfl) rfl (lw_load_b tabOk rfl rfl rfl hj4 rfl rfl ?_)))))))
   refine cC (by kernel_rfl) rfl (HA.out _ _ _ _ (by assumption) (by assumption)) rfl ?_; rintro _ wj9 ⟨⟨⟩, xj8⟩; have zj10 := xj8.size; replace hj4 := hj4.ext xj8; replace ht := ht.ext xj8; replace X := X.ext xj8; replace hs' := Bk.rowSits.ext hs' xj8; clear xj8; refine cA rfl rfl (cT (cw_ret (qw_ret1 rfl rfl ?_))); rotate_left 1
  exact strR rfl X
end Bk
namespace Bk
open Go Go.RowKit Go.Proofs
structure BT (T : TypeId) : Prop where
 lies : liesAt Tryd.prog Tryd.prog.depth T (2 / Tryd.prog.cellsOf T) 0 62 1 = true
 ne : T ≠ 5
theorem bSize : (Tryd.prog.info? 62).map (·.size) = some 2 := by kernel_rfl
theorem infoByte : (Tryd.prog.info? 5).map (fun i => (i.zero, i.size, i.bytes)) = some (some (.int .u8 0), 1, 1) := by kernel_rfl
theorem uPtrB : Tryd.prog.underlying 60 = some (.pointer 62) := by kernel_rfl
theorem uUnsafe : Tryd.prog.underlying 105 = some .unsafePointer := by kernel_rfl
theorem uBytes : Tryd.prog.underlying 33 = some (.slice 5) := by kernel_rfl
set_option maxRecDepth 100000 in
theorem copyCheck_fresh (T : TypeId) (hT : BT T) (b : Nat) (w : World) (h0 : w.cell? ⟨b, 0, none⟩ = some (.pointer none)) (hsh : w.shape? b = some (T, 2)) (hfz : w.frozen? ⟨b, 0, none⟩ = false) :
 Calls Tryd.prog 38 #[.pointer (some ⟨b, 0, none⟩)] w fun e w' => e = .returned (.tuple #[]) ∧ w' = w.setCell ⟨b, 0, none⟩ (.pointer (some ⟨b, 0, none⟩)) := by
 obtain ⟨j, hj, hjs⟩ := Option.map_eq_some_iff.1 bSize
 go_enter Tryd.func38, Tryd.ntmps38
 go_wp2
 rw [Lib.run_to_unsafe w ⟨b, 0, none⟩ uPtrB uUnsafe hj (by rw [hjs]; decide) hsh (Nat.zero_lt_succ 1)]; simp only [Result.andThen]; rw [Oper.upon_value]
 go_wp2
 rw [run_callFunc_extern Tryd.func61 (by kernel_rfl) (by kernel_rfl) (by kernel_rfl) (e := Extern.AbiNoEscape.same) (by kernel_rfl)]; rw [Lib.run_noEscape]; simp only [Result.andThen]; rw [Oper.upon_value]
 go_wp2
 rw [Lib.run_from_unsafe w ⟨b, 0, none⟩ uUnsafe uPtrB hj hsh hT.lies]; simp only [Result.andThen]; rw [Oper.upon_value]
 go_wp2
 go_end0
 exact ⟨rfl, rfl⟩
set_option maxRecDepth 100000 in
theorem copyCheck_used (b : Nat) (w : World) (h0 : w.cell? ⟨b, 0, none⟩ = some (.pointer (some ⟨b, 0, none⟩))) :
 Calls Tryd.prog 38 #[.pointer (some ⟨b, 0, none⟩)] w fun e w' => e = .returned (.tuple #[]) ∧ w' = w := by
 obtain ⟨j, hj, hjs⟩ := Option.map_eq_some_iff.1 bSize
 go_enter Tryd.func38, Tryd.ntmps38
 go_wp2
 rw [Lib.run_neq_ptr_same w _ uPtrB hj]
 go_wp2
 go_end0
 exact ⟨rfl, rfl⟩
structure Fb (B b : Nat) (w w' : World) : Prop where
 below : Below B w w'
 kept : Lib.OthersKept 5 (some b) w w'
theorem Fb.refl (B b : Nat) (w : World) : Fb B b w w := ⟨Below.refl _ _, Lib.OthersKept.refl _ _ _⟩
theorem Fb.trans {B b : Nat} {u v w : World} (h : Fb B b u v) (k : Fb B b v w) : Fb B b u w := ⟨h.below.trans k.below, h.kept.trans k.kept⟩
theorem copyCheck_c (T : TypeId) (hT : BT T) (B b : Nat) (bs : List Value) (w : World) (h : Lib.IsBuilderF T 5 B b bs w) :
 Calls Tryd.prog 38 #[.pointer (some ⟨b, 0, none⟩)] w fun e w' => e = .returned (.tuple #[]) ∧ (Lib.BuilderAtF T 5 B b (.pointer (some ⟨b, 0, none⟩)) bs w' ∧ Fb B b w w') := by
 rcases h with h | h
 · refine (copyCheck_fresh T hT b w h.cell0 h.shape h.frozen0).mono ?_
   rintro e w' ⟨rfl, rfl⟩
   exact ⟨rfl, h.used _, (Below.refl B w).setCell (p := ⟨b, 0, none⟩) h.1 _, (Lib.OthersKept.refl _ _ w).setCell ⟨b, 0, none⟩ rfl _⟩
 · refine (copyCheck_used b w h.cell0).mono ?_
   rintro e w' ⟨rfl, rfl⟩
   exact ⟨rfl, h, Below.refl B _, Lib.OthersKept.refl _ _ _⟩
set_option maxHeartbeats 2000000 in
set_option maxRecDepth 100000 in
theorem WriteString_c (T : TypeId) (hT : BT T) (B b : Nat) (bs : List Value) (s : ByteArray) (w : World) (h : Lib.IsBuilderF T 5 B b bs w) (hlen : bs.length + s.size ≤ 140737488355328) (hBw : B ≤ w.heap.size) :
 Calls Tryd.prog 20 #[.pointer (some ⟨b, 0, none⟩), .string s] w fun e w' => e = .returned (.tuple #[.int .i64 s.size, .nilIface]) ∧ (Lib.IsBuilderF T 5 B b (bs ++ Lib.strCells s) w' ∧ Fb B b w w') := by
 obtain ⟨i0, hi, hz0, hz1, hz2⟩ := info_parts infoByte
 go_enter Tryd.func20, Tryd.ntmps20
 go_wp2_with (go_at_call 38; refine (copyCheck_c T hT B b bs _ h).mono ?_)
 rintro e w1 ⟨rfl, h1, hb1, hk1⟩; obtain ⟨hB, v, hbk, hown, hne⟩ := h1
 have c0 : w1.cell? ⟨b, 0, none⟩ = some (.pointer (some ⟨b, 0, none⟩)) := by rw [Lib.cell_of_heap hbk]; rfl
 have c1 : w1.cell? ⟨b, 1, none⟩ = some v := by rw [Lib.cell_of_heap hbk]; rfl
 go_wp2_with (at_builtin; refine Lib.wpList_append_own_stringF _ rfl _ _ 33 9 rfl B 5 i0 uBytes underStr hi hz0 hz1 hz2 _ _ _ rfl hown s rfl ?c3 ?c4 ?c5 ?_)
 case c3 => unfold maxLen; omega
 case c4 => omega
 case c5 => have := hb1.size; omega
 intro v' w2 hown' hgrow _
 have hlt : b < w1.heap.size := by
  rcases Nat.lt_or_ge b w1.heap.size with h' | h'
  · exact h'
  · simp [Array.getElem?_eq_none h'] at hbk
 have hb2 : w2.heap[b]? = some (.cells #[.pointer (some ⟨b, 0, none⟩), v] T (0, 0)) := by
  rw [hgrow.block b hlt (fun e => hne e.symm)]
  exact hbk
 have d0 : w2.cell? ⟨b, 0, none⟩ = some (.pointer (some ⟨b, 0, none⟩)) := by rw [Lib.cell_of_heap hb2]; rfl
 have d1 : w2.cell? ⟨b, 1, none⟩ = some v := by rw [Lib.cell_of_heap hb2]; rfl
 have f1 : w2.frozen? ⟨b, 1, none⟩ = false := Lib.frozen_of_heap hb2 1
 obtain ⟨ao, n', cap, rfl⟩ : ∃ ao n' cap, v' = .slice ao n' cap := by
  rcases hown'.2 with ⟨hv, _⟩ | ⟨g, cap, cur, fz, hv, _⟩
  · exact ⟨_, _, _, hv⟩
  · exact ⟨_, _, _, hv⟩
 go_wp2
 go_ret2
 refine ⟨rfl, .inr ?_, ?_, (hk1.grown hgrow (Lib.ownsRowF_kind hown)).setCell ⟨b, 1, none⟩ rfl _⟩
 · exact Lib.BuilderAtF.put (T := T) (e := 5) hB hb2 (bs' := bs ++ Lib.strCells s) (by simpa [Lib.strCells_length] using hown') hT.ne
 · exact (hb1.grown hgrow (by have := hb1.size; omega) (fun k hk => (hown.lt k hk).1)).setCell (p := ⟨b, 1, none⟩) hB _
theorem uPtrByte : Tryd.prog.underlying 93 = some (.pointer 5) := by kernel_rfl
theorem cellsByte : Tryd.prog.cellsOf 5 = 1 := by kernel_rfl
theorem unsafeString_none' (W : World) (q : Option Addr) : (Builtin.unsafeString_ #[93, 3] 9 #[.pointer q, .int .i64 0]).run Tryd.prog W = .ok (.string .empty) W :=
 Lib.run_unsafeString_none W _ _ _ q
set_option maxHeartbeats 1000000 in
set_option maxRecDepth 100000 in
theorem String_some (T : TypeId) (B b : Nat) (l : List UInt8) (w : World) (h : Lib.IsBuilderF T 5 B b (Lib.byteCells l) w) (h0 : l ≠ []) :
 Calls Tryd.prog 23 #[.pointer (some ⟨b, 0, none⟩)] w fun e w' => e = .returned (.string ⟨l.toArray⟩) ∧ (Lib.IsBuilderF T 5 B b (Lib.byteCells l) w' ∧ Fb B b w w') := by
 obtain ⟨p, hp, hAt⟩ : ∃ p, (p = .pointer none ∨ p = .pointer (some ⟨b, 0, none⟩)) ∧ Lib.BuilderAtF T 5 B b p (Lib.byteCells l) w := by
  rcases h with h | h
  · exact ⟨_, .inl rfl, h⟩
  · exact ⟨_, .inr rfl, h⟩
 obtain ⟨hB, v, hbk, hown, hne⟩ := hAt
 have hl0 : l.length ≠ 0 := by simpa using h0
 rw [Lib.byteCells_length] at hown
 obtain ⟨g, cap, cur, fz, rfl, hbg, hg, hfz, hnc, hcm, hcs, htake⟩ : ∃ g cap cur fz, v = .slice (some ⟨g, 0, none⟩) l.length cap ∧ B ≤ g ∧ w.heap[g]? = some (.cells cur 5 fz) ∧ fz.2 ≤ l.length * 1 ∧ l.length ≤ cap ∧ cap ≤ maxLen ∧ cur.size = cap * 1 ∧ cur.toList.take (l.length * 1) = Lib.byteCells l := by
  rcases hown.2 with ⟨_, hz⟩ | ⟨g, cap, cur, fz, hv, r⟩
  · exact absurd hz hl0
  · exact ⟨g, cap, cur, fz, hv, r⟩
 have c1 : w.drew.cell? ⟨b, 1, none⟩ = some (.slice (some ⟨g, 0, none⟩) l.length cap) := by
  have : w.drew.heap[b]? = some (.cells #[p, .slice (some ⟨g, 0, none⟩) l.length cap] T (0, 0)) := hbk
  rw [Lib.cell_of_heap this]; rfl
 have hSD : (Builtin.unsafeSliceData_ #[33] 93 #[.slice (some ⟨g, 0, none⟩) l.length cap]).run Tryd.prog w.drew = .ok (.pointer (some ⟨g, 0, none⟩)) w.drew :=
  Lib.run_unsafeSliceData_row _ _ _ _ _ _ (by omega)
 have hUS : (Builtin.unsafeString_ #[93, 3] 9 #[.pointer (some ⟨g, 0, none⟩), .int .i64 l.length]).run Tryd.prog w.drew = .ok (.string ⟨l.toArray⟩) (w.drew.freeze ⟨g, 0, none⟩ l.length) := by
  refine Lib.run_unsafeString_row w.drew 93 3 9 5 uPtrByte cellsByte g cur.size (by have hg' : w.drew.heap[g]? = some (.cells cur 5 fz) := hg; simp [World.shape?, hg']) l h0 (by omega) (by unfold maxLen at hcm; omega) ?_; intro j x hx; have := hown.cells (g := g) rfl j (.int .u8 x.toNat) (by simp [Lib.byteCells, hx])
  exact this
 have hkeep : Lib.IsBuilderF T 5 B b (Lib.byteCells l) (w.drew.freeze ⟨g, 0, none⟩ l.length) := by
  have hA : Lib.BuilderAtF T 5 B b p (Lib.byteCells l) w.drew := ⟨hB, _, hbk, by rw [Lib.byteCells_length]; exact hown, hne⟩; have hF := hA.froze (g := g) (cap := cap) (by rw [Lib.byteCells_length]; exact c1); rw [Lib.byteCells_length] at hF
  rcases hp with rfl | rfl
  · exact .inl hF
  · exact .inr hF
 go_enter Tryd.func23, Tryd.ntmps23
 go_wp2
 go_region
 all_goals (go_wp2; go_ret; exact ⟨rfl, hkeep, Lib.below_freeze (Below.drew (Below.refl B w)) (p := ⟨g, 0, none⟩) hbg _, ((Lib.OthersKept.refl _ _ w).drew).freeze ⟨g, 0, none⟩ _ ⟨cur, fz, hg⟩⟩)
set_option maxHeartbeats 2000000 in
set_option maxRecDepth 100000 in
theorem String_nil (T : TypeId) (B b : Nat) (p : Value) (w : World) (hbk : w.heap[b]? = some (.cells #[p, .slice none 0 0] T (0, 0))) (hA : Lib.BuilderAtF T 5 B b p [] w) :
 Calls Tryd.prog 23 #[.pointer (some ⟨b, 0, none⟩)] w fun e w' => e = .returned (.string ⟨#[]⟩) ∧ (Lib.BuilderAtF T 5 B b p [] w' ∧ Fb B b w w') := by
 have hUS := unsafeString_none'
 have c1 : w.drew.cell? ⟨b, 1, none⟩ = some (.slice none 0 0) := by
  have : w.drew.heap[b]? = some (.cells #[p, .slice none 0 0] T (0, 0)) := hbk
  rw [Lib.cell_of_heap this]; rfl
 have hSD : (Builtin.unsafeSliceData_ #[33] 93 #[.slice none 0 0]).run Tryd.prog w.drew = .ok (.pointer none) w.drew := rfl
 go_enter Tryd.func23, Tryd.ntmps23
 go_wp2
 go_region
 all_goals (go_wp2; go_ret; exact ⟨rfl, hA.drew, Below.drew (Below.refl B w), (Lib.OthersKept.refl _ _ w).drew⟩)
set_option maxHeartbeats 2000000 in
set_option maxRecDepth 100000 in
theorem String_noroom (T : TypeId) (B b g : Nat) (p : Value) (cur : Array Value) (w : World) (hBw : B ≤ w.heap.size) (hbk : w.heap[b]? = some (.cells #[p, .slice (some ⟨g, 0, none⟩) 0 0] T (0, 0))) (fz : Nat × Nat) (hg : w.heap[g]? = some (.cells cur 5 fz)) (hA : Lib.BuilderAtF T 5 B b p [] w) :
 Calls Tryd.prog 23 #[.pointer (some ⟨b, 0, none⟩)] w fun e w' => e = .returned (.string ⟨#[]⟩) ∧ (Lib.BuilderAtF T 5 B b p [] w' ∧ Fb B b w w') := by
 have hUS := unsafeString_none'
 have hlt : b < w.heap.size := by
  rcases Nat.lt_or_ge b w.heap.size with h' | h'
  · exact h'
  · simp [Array.getElem?_eq_none h'] at hbk
 have c1 : w.drew.cell? ⟨b, 1, none⟩ = some (.slice (some ⟨g, 0, none⟩) 0 0) := by
  have : w.drew.heap[b]? = some (.cells #[p, .slice (some ⟨g, 0, none⟩) 0 0] T (0, 0)) := hbk
  rw [Lib.cell_of_heap this]; rfl
 have hSD : (Builtin.unsafeSliceData_ #[33] 93 #[.slice (some ⟨g, 0, none⟩) 0 0]).run Tryd.prog w.drew = .ok (.pointer (some ⟨w.drew.heap.size, 0, none⟩)) (w.drew.alloc (.view ⟨g, 0, none⟩ 5)) :=
  Lib.run_unsafeSliceData_zero w.drew _ _ 5 uPtrByte ⟨g, 0, none⟩ 0 (5, cur.size) (by have hg' : w.drew.heap[g]? = some (.cells cur 5 fz) := hg; simp [World.shape?, hg'])
 have c2 : (w.drew.alloc (.view ⟨g, 0, none⟩ 5)).cell? ⟨b, 1, none⟩ = some (.slice (some ⟨g, 0, none⟩) 0 0) := by
  have : (w.drew.alloc (.view ⟨g, 0, none⟩ 5)).heap[b]? = _ := (Lib.alloc_old w.drew _ b hlt).trans hbk
  rw [Lib.cell_of_heap this]; rfl
 have c3 : (w.alloc (.view ⟨g, 0, none⟩ 5)).drew.cell? ⟨b, 1, none⟩ = some (.slice (some ⟨g, 0, none⟩) 0 0) := c2; have c0 : w.cell? ⟨b, 1, none⟩ = some (.slice (some ⟨g, 0, none⟩) 0 0) := c1
 go_enter Tryd.func23, Tryd.ntmps23
 go_wp2
 go_region
 all_goals (go_wp2; go_ret; exact ⟨rfl, hA.drew.alloc _, (Below.drew (Below.refl B w)).alloc hBw _, ((Lib.OthersKept.refl _ _ w).drew).alloc _⟩)
set_option maxHeartbeats 2000000 in
set_option maxRecDepth 100000 in
theorem String_room (T : TypeId) (B b g cap : Nat) (p : Value) (w : World) (hc0 : cap ≠ 0) (hbk : w.heap[b]? = some (.cells #[p, .slice (some ⟨g, 0, none⟩) 0 cap] T (0, 0))) (hA : Lib.BuilderAtF T 5 B b p [] w) :
 Calls Tryd.prog 23 #[.pointer (some ⟨b, 0, none⟩)] w fun e w' => e = .returned (.string ⟨#[]⟩) ∧ (Lib.BuilderAtF T 5 B b p [] w' ∧ Fb B b w w') := by
 have hUS := unsafeString_none'
 have c1 : w.drew.cell? ⟨b, 1, none⟩ = some (.slice (some ⟨g, 0, none⟩) 0 cap) := by
  have : w.drew.heap[b]? = some (.cells #[p, .slice (some ⟨g, 0, none⟩) 0 cap] T (0, 0)) := hbk
  rw [Lib.cell_of_heap this]; rfl
 have hSD : (Builtin.unsafeSliceData_ #[33] 93 #[.slice (some ⟨g, 0, none⟩) 0 cap]).run Tryd.prog w.drew = .ok (.pointer (some ⟨g, 0, none⟩)) w.drew :=
  Lib.run_unsafeSliceData_row _ _ _ _ _ _ hc0
 clear hc0
 go_enter Tryd.func23, Tryd.ntmps23
 go_wp2
 go_region
 all_goals (go_wp2; go_ret; exact ⟨rfl, hA.drew, Below.drew (Below.refl B w), (Lib.OthersKept.refl _ _ w).drew⟩)
theorem String_empty (T : TypeId) (B b : Nat) (w : World) (h : Lib.IsBuilderF T 5 B b [] w) (hBw : B ≤ w.heap.size) :
 Calls Tryd.prog 23 #[.pointer (some ⟨b, 0, none⟩)] w fun e w' => e = .returned (.string ⟨#[]⟩) ∧ (Lib.IsBuilderF T 5 B b [] w' ∧ Fb B b w w') := by
 obtain ⟨p, hp, hA⟩ : ∃ p, (p = .pointer none ∨ p = .pointer (some ⟨b, 0, none⟩)) ∧ Lib.BuilderAtF T 5 B b p [] w := by
  rcases h with h | h
  · exact ⟨_, .inl rfl, h⟩
  · exact ⟨_, .inr rfl, h⟩
 have fin : ∀ (e : Ending) (w' : World), (e = .returned (.string ⟨#[]⟩) ∧ (Lib.BuilderAtF T 5 B b p [] w' ∧ Fb B b w w')) → e = .returned (.string ⟨#[]⟩) ∧ (Lib.IsBuilderF T 5 B b [] w' ∧ Fb B b w w') := by
  rintro e w' ⟨he, hk, hb⟩
  rcases hp with rfl | rfl
  · exact ⟨he, .inl hk, hb⟩
  · exact ⟨he, .inr hk, hb⟩
 have hA' := hA; obtain ⟨hB, v, hbk, hown, hne⟩ := hA
 rcases hown.2 with ⟨rfl, _⟩ | ⟨g, cap, cur, fz, rfl, hbg, hg, _, _, _, _, _⟩
 · exact (String_nil T B b p w hbk hA').mono fin
 · by_cases hc0 : cap = 0
   · subst hc0
     exact (String_noroom T B b g p cur w hBw hbk fz hg hA').mono fin
   · exact (String_room T B b g cap p w hc0 hbk hA').mono fin
theorem String_any (T : TypeId) (B b : Nat) (l : List UInt8) (w : World) (h : Lib.IsBuilderF T 5 B b (Lib.byteCells l) w) (hBw : B ≤ w.heap.size) :
 Calls Tryd.prog 23 #[.pointer (some ⟨b, 0, none⟩)] w fun e w' => e = .returned (.string ⟨l.toArray⟩) ∧ (Lib.IsBuilderF T 5 B b (Lib.byteCells l) w' ∧ Fb B b w w') := by
 cases l with
 | nil => exact String_empty T B b w h hBw
 | cons x r => exact String_some T B b (x :: r) w h (by simp)
end Bk
namespace Bk
open Go Go.RowKit Go.Proofs
theorem btB : BT 62 := ⟨by kernel_rfl, by decide⟩
def U8 (w : World) (k : Nat) : Prop := ∃ c fz, w.heap[k]? = some (.cells c 5 fz)
structure BdF (w : World) (b : Nat) (l : List UInt8) (H : Nat) : Prop where
 is : Lib.IsBuilderF 62 5 b b (Lib.byteCells l) w
 own : ∀ p v, w.heap[b]? = some (.cells #[p, v] 62 (0, 0)) → ∀ g, v.ownBlock = some g → g < H
 lt : b < w.heap.size
theorem heap_lt {w : World} {b : Nat} {o : Obj} (h : w.heap[b]? = some o) : b < w.heap.size := by
 rcases Nat.lt_or_ge b w.heap.size with h' | h'
 · exact h'
 · rw [Array.getElem?_eq_none h'] at h; cases h
theorem BdF.fr {w w' : World} {b : Nat} {l : List UInt8} {H : Nat} {S : Nat → Prop} (h : BdF w b l H) (x : Fr S w w') (hs : ∀ k, S k → k ≠ b ∧ H ≤ k) : BdF w' b l H := by
 have hbb : w'.heap[b]? = w.heap[b]? := x.block b h.lt (fun hS => (hs b hS).1 rfl)
 have key : ∀ p, Lib.BuilderAtF 62 5 b b p (Lib.byteCells l) w → Lib.BuilderAtF 62 5 b b p (Lib.byteCells l) w' := by
  rintro p ⟨h1, v, h2, h3, h4⟩; refine ⟨h1, v, by rw [hbb]; exact h2, ?_, h4⟩; obtain ⟨k1, k2 | ⟨g, cap, cur, fz, rfl, k3, k4, k5⟩⟩ := h3
  · exact ⟨k1, Or.inl k2⟩
  · have hg := h.own p _ h2 g rfl
    exact ⟨k1, Or.inr ⟨g, cap, cur, fz, rfl, k3, by rw [x.block g (heap_lt k4) (fun hS => by have := (hs g hS).2; omega)]; exact k4, k5⟩⟩
 refine ⟨h.is.imp (key _) (key _), fun p v hv => h.own p v (by rw [← hbb]; exact hv), Nat.lt_of_lt_of_le h.lt x.size⟩
theorem BdF.ext {w w' : World} {b : Nat} {l : List UInt8} {H : Nat} (h : BdF w b l H) (x : Ext w w') : BdF w' b l H := h.fr (S := fun _ => False) (Fr.of_ext x) (fun _ h => h.elim)
theorem bdF_of {w : World} {b : Nat} {l : List UInt8} (h : Lib.IsBuilderF 62 5 b b (Lib.byteCells l) w) : BdF w b l w.heap.size := by
 refine ⟨h, fun p v hv g hg => ?_, ?_⟩
 · have key : ∀ q, Lib.BuilderAtF 62 5 b b q (Lib.byteCells l) w → g < w.heap.size := by
    rintro q ⟨-, v', h2, h3, -⟩; rw [hv] at h2; simp only [Option.some.injEq, Obj.cells.injEq, Array.mk.injEq, List.cons.injEq, and_true] at h2; obtain ⟨rfl, rfl⟩ := h2; obtain ⟨-, ⟨rfl, -⟩ | ⟨g', cap, cur, fz, rfl, -, k4, -⟩⟩ := h3
    · cases hg
    · simp only [Value.ownBlock, Option.some.injEq] at hg
      subst hg
      exact heap_lt k4
   exact h.elim (key _) (key _)
 · exact h.elim (fun ⟨_, _, h2, _⟩ => heap_lt h2) (fun ⟨_, _, h2, _⟩ => heap_lt h2)
theorem fr_fb {w w' : World} {b : Nat} (h : Below b w w') (h' : Lib.OthersKept 5 (some b) w w') : Fr (fun k => k = b ∨ (b ≤ k ∧ U8 w k)) w w' := by
 refine ⟨h.os, h.tape, h.output, h.size, fun k hk hS => ?_⟩
 by_cases hkb : k < b
 · exact h.block k hkb
 · have hne : k ≠ b := fun e => hS (Or.inl e)
   have hnu : ¬ U8 w k := fun e => hS (Or.inr ⟨by omega, e⟩)
   have ho : w.heap[k]? = some w.heap[k] := Array.getElem?_eq_getElem hk; rw [ho]
   exact h' k _ ho (by simpa using hne) (fun c fz e => hnu ⟨c, fz, by rw [ho, e]⟩)
theorem strCells_bytes (s : List UInt8) : Lib.strCells ⟨s.toArray⟩ = Lib.byteCells s := rfl
theorem writeF_c (b : Nat) (l s : List UInt8) (H : Nat) (w : World) (h : BdF w b l H) (hlen : l.length + s.length ≤ 140737488355328) :
 Calls Tryd.prog 20 #[.pointer (some ⟨b, 0, none⟩), str s] w fun e w' => e = .returned (.tuple #[.int .i64 s.length, .nilIface]) ∧ BdF w' b (l ++ s) w'.heap.size ∧ Fr (fun k => k = b ∨ (b ≤ k ∧ U8 w k)) w w' :=
 (WriteString_c 62 btB b b (Lib.byteCells l) ⟨s.toArray⟩ w h.is (by rw [Lib.byteCells_length]; exact hlen) (Nat.le_of_lt h.lt)).mono fun e w' ⟨h1, h2, h3⟩ =>
  ⟨h1, bdF_of (by rw [strCells_bytes] at h2; simpa [Lib.byteCells] using h2), fr_fb h3.below h3.kept⟩
theorem stringF_c (b : Nat) (l : List UInt8) (H : Nat) (w : World) (h : BdF w b l H) :
 Calls Tryd.prog 23 #[.pointer (some ⟨b, 0, none⟩)] w fun e w' => e = .returned (str l) ∧ Fr (fun k => k = b ∨ (b ≤ k ∧ U8 w k)) w w' :=
 (String_any 62 b b l w h.is (Nat.le_of_lt h.lt)).mono fun e w' ⟨h1, h2, h3⟩ => ⟨h1, fr_fb h3.below h3.kept⟩
theorem tb_not8 {w : World} {k : Nat} {vs : List Value} {T : TypeId} (h : TB w k vs T) (hT : T ≠ 5) : ¬ U8 w k := by
 rintro ⟨c, fz, e⟩; rw [TB] at h; rw [h] at e; simp only [Option.some.injEq, Obj.cells.injEq] at e
 exact hT e.2.1
end Bk
namespace Bk
open Go
theorem funName_short {s : List UInt8} (h : funName s = true) : s.length ≤ 12 := by
 unfold funName at h
 simp only [Bool.and_eq_true, decide_eq_true_eq] at h
 exact h.1.1.1.2
theorem seen_mem {v : Vis} {s : List UInt8} {b : Bool} (h : seen v s = some b) : (s, b) ∈ v := by
 unfold seen at h
 rw [Option.map_eq_some_iff] at h; obtain ⟨p, hp, rfl⟩ := h; have h1 := List.find?_some hp; have h2 := List.mem_of_find?_eq_some hp; simp only [decide_eq_true_eq] at h1; subst h1
 exact h2
theorem findF_name {lib : List FD} {s : List UInt8} {i : Nat} (h : findF lib s = some i) : ∃ f ∈ lib, f.name = s := by
 obtain ⟨h1, h2, -⟩ := List.findIdx?_eq_some_iff_getElem.1 h
 exact ⟨lib[i], List.getElem_mem h1, by simpa using h2⟩
mutual
theorem chk_okT {lib : List FD} (hlib : ∀ f ∈ lib, f.name.length ≤ 12) : ∀ (t : Nd) (v : Vis), t.wf → t.formed = true → (t.chk lib v).2 = 0 → (∀ p ∈ v, p.1.length ≤ 12) → t.okT
 | .mk k n s l, v, hw, hf, hc, hv => by
  simp only [Nd.wf] at hw; obtain ⟨-, -, -, w4, -, -, w7⟩ := hw; simp only [Nd.formed, Bool.and_eq_true] at hf; obtain ⟨f1, f2⟩ := hf; rw [Nd.chk] at hc
  split at hc
  · rename_i h; exact absurd hc h
  · rename_i hr
    have hr : reachF lib v k s l.length = 0 := Decidable.not_not.1 hr
    split at hc
    · rename_i h; exact absurd hc h
    · rename_i hrow
      have hrow : (rowChk lib v k s [] l).2 = 0 := Decidable.not_not.1 hrow
      have h84 : k = 84 → s.length ≤ 12 := fun h => by subst h; exact funName_short (formN_84 f1).1
      have hs : s.length ≤ 12 := by
       by_cases k1 : k = 81
       · subst k1
         simp only [reachF, if_true] at hr
         split at hr
         · rename_i hse
           obtain ⟨b, hb⟩ := Option.isSome_iff_exists.1 hse
           exact hv _ (seen_mem hb)
         · cases hr
       by_cases k4 : k = 84
       · exact h84 k4
       by_cases k5 : k = 85
       · subst k5
         simp only [reachF, show ¬ (85 : Int) = 81 by decide, show ¬ (85 : Int) = 84 by decide, if_false, if_true] at hr
         cases hff : findF lib s with
         | none => rw [hff] at hr; cases hr
         | some i =>
          obtain ⟨f, hf, rfl⟩ := findF_name hff
          exact hlib f hf
       have : s.isEmpty = true := by
        unfold formN at f1
        rw [if_neg k1, if_neg k4, if_neg k5] at f1
        repeat' split at f1
        all_goals simp at f1
        all_goals simp [f1]
       cases s with
       | nil => simp
       | cons _ _ => simp at this
      simp only [Nd.okT]
      exact ⟨f1, hs, w4, row_okT hlib l v k s [] w7 f2 hrow hv h84⟩
theorem row_okT {lib : List FD} (hlib : ∀ f ∈ lib, f.name.length ≤ 12) : ∀ (l : List Nd) (v : Vis) (k : Int) (s : List UInt8) (acc : List Bool), rowWf l → rowFormed l = true → (rowChk lib v k s acc l).2 = 0 → (∀ p ∈ v, p.1.length ≤ 12) → (k = 84 → s.length ≤ 12) → rowOkT l
 | [], _, _, _, _, _, _, _, _, _ => trivial
 | t :: r, v, k, s, acc, hw, hf, hc, hv, hs => by
  simp only [rowFormed, Bool.and_eq_true] at hf; rw [rowChk] at hc
  have hv2 : ∀ p ∈ (if k = 84 ∧ acc.length = 1 then (s, acc.getD 0 false) :: v else v), p.1.length ≤ 12 := fun p hp => by
   split at hp
   · rename_i h84
     rcases List.mem_cons.1 hp with rfl | hp
     · exact hs h84.1
     · exact hv p hp
   · exact hv p hp
  generalize (if k = 84 ∧ acc.length = 1 then (s, acc.getD 0 false) :: v else v) = v2 at hc hv2
  split at hc
  · rename_i h; exact absurd hc h
  · rename_i h
    have h := Decidable.not_not.1 h
    exact ⟨chk_okT hlib t _ hw.1 hf.1 h hv2, row_okT hlib r v k s _ hw.2 hf.2 hc hv hs⟩
end
theorem libErrFrom_none {lib : List FD} : ∀ (r : List FD) (j : Nat), libErrFrom lib j r = none → ∀ i (h : i < r.length), fnErr lib (j + i) r[i] = 0 := by
 intro r
 induction r with
 | nil => intro j _ i h; simp at h
 | cons f r ih =>
  intro j h i hi; rw [libErrFrom] at h
  split at h
  · cases h
  · rename_i hz
    cases i with
    | zero => simpa using hz
    | succ i =>
     have := ih (j + 1) h i (by simpa using hi); rw [show j + (i + 1) = j + 1 + i by omega]
     simpa using this
structure GoodFD (f : FD) : Prop where
 name : f.name.length ≤ 12
 len : f.params.length ≤ 8
 par : ∀ p ∈ f.params, p.name.length ≤ 12
 size : f.body.size ≤ 2000
 ok : f.body.okT
theorem fnErr_zero {lib : List FD} {i : Nat} {f : FD} (h : fnErr lib i f = 0) : i < 30 ∧ funName f.name = true ∧ paramErr f.params = 0 ∧ f.body.formed = true ∧ f.body.size ≤ 2000 ∧ (f.body.chk lib (f.params.map fun p => (p.name, p.list))).2 = 0 := by
 unfold fnErr at h
 split at h
 · cases h
 split at h
 · cases h
 split at h
 · cases h
 split at h
 · rename_i h1; exact absurd h h1
 split at h
 · cases h
 split at h
 · cases h
 split at h
 · cases h
 split at h
 · rename_i h1; exact absurd h h1
 rename_i k1 k2 k3 k4 k5 k6 k7 k8
 exact ⟨by omega, by simpa using k2, Decidable.not_not.1 k4, by simpa using k5, by omega, Decidable.not_not.1 k8⟩
theorem paramErr_zero {l : List FP} (h : paramErr l = 0) : l.length ≤ 8 ∧ (∀ p ∈ l, funName p.name = true) ∧ (l.map FP.name).Nodup := by
 unfold paramErr at h
 split at h
 · cases h
 · split at h
   · rename_i h1 h2
     split at h
     · rename_i h3; exact ⟨by omega, fun p hp => by simpa using List.all_eq_true.1 h2 p hp, h3⟩
     · cases h
   · cases h
theorem lib_good {lib : List FD} (h : libErr lib = none) (hw : ∀ f ∈ lib, f.body.wf) : lib.length ≤ 30 ∧ ∀ f ∈ lib, GoodFD f := by
 have hz := libErrFrom_none lib 0 h
 have hn : ∀ f ∈ lib, f.name.length ≤ 12 := fun f hf => by
  obtain ⟨i, hi, rfl⟩ := List.mem_iff_getElem.1 hf
  exact funName_short (fnErr_zero (hz i hi)).2.1
 refine ⟨?_, fun f hf => ?_⟩
 · rcases Nat.lt_or_ge 30 lib.length with hl | hl
   · have := (fnErr_zero (hz 30 hl)).1
     omega
   · exact hl
 · have hfw := hw f hf
   obtain ⟨i, hi, rfl⟩ := List.mem_iff_getElem.1 hf; obtain ⟨-, a2, a3, a4, a5, a6⟩ := fnErr_zero (hz i hi); obtain ⟨b1, b2, -⟩ := paramErr_zero a3; refine ⟨funName_short a2, b1, fun p hp => funName_short (b2 p hp), a5, chk_okT hn _ _ hfw a4 a6 (fun p hp => ?_)⟩; obtain ⟨q, hq, rfl⟩ := List.mem_map.1 hp
   exact funName_short (b2 q hq)
def typeT (b : Bool) : List UInt8 := if b then [115, 116, 97, 99, 107] else [105, 110, 116]
def paramT (p : FP) : List UInt8 := typeT p.list ++ [32] ++ p.name
def headT (f : FD) : List UInt8 := [112, 114, 111, 99, 32] ++ f.name ++ [40] ++ Lib.join (f.params.map paramT) [44, 32] ++ [41, 32]
def tailT (f : FD) : List UInt8 := typeT f.list ++ [32, 123, 32] ++ f.body.ftext ++ ([32, 125] ++ [10])
def funT (f : FD) : List UInt8 := headT f ++ tailT f
def libT (lib : List FD) : List UInt8 := (lib.map funT).flatten
def printL (lib : List FD) : List UInt8 × Int := match libErr lib with
 | none => (libT lib, 0)
 | some (_, e) => ([], e)
theorem typeT_len (b : Bool) : (typeT b).length ≤ 5 := by cases b <;> decide
theorem paramT_len {p : FP} (h : p.name.length ≤ 12) : (paramT p).length ≤ 18 := by
 have := typeT_len p.list
 unfold paramT
 simp only [List.length_append, List.length_cons, List.length_nil]
 omega
theorem sum_le {l : List (List UInt8)} {m : Nat} (h : ∀ x ∈ l, x.length ≤ m) : (l.map List.length).sum ≤ m * l.length := by
 induction l with
 | nil => simp
 | cons x r ih =>
  have h1 := h x (by simp); have h2 := ih (fun y hy => h y (by simp [hy])); simp only [List.map_cons, List.sum_cons, List.length_cons, Nat.mul_add, Nat.mul_one]
  omega
theorem join_params {f : FD} (h : GoodFD f) : (Lib.join (f.params.map paramT) [44, 32]).length ≤ 200 := by
 have h1 := join_len [44, 32] (f.params.map paramT)
 have h2 := sum_le (l := f.params.map paramT) (m := 18) (fun x hx => by
  obtain ⟨p, hp, rfl⟩ := List.mem_map.1 hx
  exact paramT_len (h.par p hp))
 have h3 := h.len; simp only [List.length_map, List.length_cons, List.length_nil] at h1 h2
 omega
theorem headT_len {f : FD} (h : GoodFD f) : (headT f).length ≤ 300 := by
 have h1 := join_params h; have h2 := h.name
 unfold headT
 simp only [List.length_append, List.length_cons, List.length_nil] at h1 ⊢
 omega
theorem tailT_len {f : FD} (h : GoodFD f) : (tailT f).length ≤ 90000 := by
 have h1 := ftext_len _ h.ok; have h2 := h.size; have h3 := typeT_len f.list
 unfold tailT
 simp only [List.length_append, List.length_cons, List.length_nil] at h1 ⊢
 omega
theorem libT_len {lib : List FD} (h : ∀ f ∈ lib, GoodFD f) : (libT lib).length ≤ 100000 * lib.length := by
 induction lib with
 | nil => simp [libT]
 | cons f r ih =>
  have h1 := ih (fun g hg => h g (by simp [hg])); have h2 := headT_len (h f (by simp)); have h3 := tailT_len (h f (by simp))
  unfold libT funT at h1 ⊢
  simp only [List.map_cons, List.flatten_cons, List.length_append, List.length_cons]
  omega
theorem libT_snoc {lib : List FD} {j : Nat} (hj : j < lib.length) : libT (lib.take (j + 1)) = libT (lib.take j) ++ headT lib[j] ++ tailT lib[j] := by
 unfold libT
 rw [List.take_succ_eq_append_getElem hj, List.map_append, List.flatten_append]
 simp [funT]
end Bk
namespace Bk
open Go Go.RowKit Go.Proofs
attribute [local irreducible] Go.Calls
theorem ftypeName_c (b : Bool) (w : World) : Calls Tryd.prog 19 #[.bool b] w fun e w' => e = .returned (str (typeT b)) ∧ Ext w w' := by
 have X := Ext.refl w
 cases b
 · refine calls_in Tryd.func19 Tryd.ntmps19 rfl rfl ?_
   focus
    refine cS (cA rfl rfl (cT (cw_seq (cS (cM rfl rfl (cT (cw_cond_f rfl (cw_skip (qw_then (cS (cA rfl rfl ?_))))))))))); refine cT (cw_ret (qw_ret1 rfl rfl ?_)); rotate_left 1
   exact ⟨rfl, X⟩
 · refine calls_in Tryd.func19 Tryd.ntmps19 rfl rfl ?_
   focus
    refine cS (cA rfl rfl (cT (cw_seq (cS (cM rfl rfl (cT (cw_cond_t rfl (cS (cA rfl rfl (cT (cw_ret ?_))))))))))); refine qw_then_ret (qw_ret1 rfl rfl ?_); rotate_left 1
   exact ⟨rfl, X⟩
def PrR (w : World) (q : List UInt8 × Int) (e : Ending) (w' : World) : Prop := e = .returned (.tuple #[str q.1, .int .i64 q.2]) ∧ Ext w w'
theorem prR {w w' : World} {q : List UInt8 × Int} {s : List UInt8} {e : Int} (h : q = (s, e)) (x : Ext w w') : PrR w q (.returned (.tuple #[str s, .int .i64 e])) w' := ⟨by rw [h], x⟩
theorem validF_v {lib : List FD} {i e : Int} (h : validI lib = (i, e)) (S : Nat → Prop) (a : Option Addr) (c : Nat) (w : World) (hl : LibFew lib) (hs : FDs S w lib a) :
 Calls Tryd.prog 9 #[.slice a lib.length c] w fun r w' => r = .returned (.tuple #[.int .i64 i, .int .i64 e]) ∧ Ext w w' := by
 have := Valid_c lib S a c w hl hs
 rw [h] at this; exact this
theorem libErrFrom_ne {lib : List FD} {i : Nat} {e : Int} : ∀ (r : List FD) (j : Nat), libErrFrom lib j r = some (i, e) → e ≠ 0 := by
 intro r
 induction r with
 | nil => intro j h; cases h
 | cons f r ih =>
  intro j h; rw [libErrFrom] at h
  split at h
  · rename_i hne
    simp only [Option.some.injEq, Prod.mk.injEq] at h; obtain ⟨rfl, rfl⟩ := h
    exact hne
  · exact ih _ h
theorem params_snoc {l : List FP} {j : Nat} (hj : j < l.length) : ((l.take (j + 1)).map paramT) = (l.take j).map paramT ++ [paramT l[j]] := by
 rw [List.take_succ_eq_append_getElem hj, List.map_append]; rfl
theorem bdF_new {w : World} {b : Nat} (h : TB w b [.pointer none, .slice none 0 0] 62) : BdF w b [] w.heap.size := by
 refine bdF_of (Or.inl ⟨Nat.le_refl _, .slice none 0 0, h, ⟨by simp [Lib.byteCells], Or.inl ⟨rfl, rfl⟩⟩, by simp [Value.ownBlock]⟩)
set_option maxRecDepth 100000 in
set_option maxHeartbeats 8000000 in
theorem Print_c (lib : List FD) (S : Nat → Prop) (a : Option Addr) (c : Nat) (w : World) (hl : LibFew lib) (hs : FDs S w lib a) (ht : TabsF w) :
 Calls Tryd.prog 10 #[.slice a lib.length c] w (PrR w (printL lib)) := by
 have X := Ext.refl w; have hg0 := ht.g; replace hs := hs.ltA; have hL := hl.len; have HL := Lib.hid hl
 cases hv : libErr lib with
 | some q =>
  obtain ⟨i, e⟩ := q; have hne := libErrFrom_ne lib 0 hv
  have hval : validI lib = ((i : Int), e) := by unfold validI; rw [hv]
  have HV := Lib.hid (validF_v hval); rw [show printL lib = ([], e) from by unfold printL; rw [hv]]; clear hval hv hl; refine calls_in Tryd.func10 Tryd.ntmps10 rfl rfl ?_
  focus
   refine cS (cA rfl rfl (cA rfl rfl (cT (cw_seq (cS (cM rfl rfl ?_)))))); refine cC (by kernel_rfl) rfl (HV.out _ _ _ _ HL.out (by assumption)) rfl ?_; rintro _ w2 ⟨⟨⟩, x1⟩; have z3 := x1.size; replace ht := ht.ext x1; replace X := X.ext x1; replace hs := hs.ext x1; clear x1; refine cM rfl rfl (lw_pure (pur_extract rfl rfl) rfl (lw_pure (pur_extract rfl rfl) rfl (cA rfl rfl (cA rfl rfl (cN (cM rfl rfl (lw_pure (pur_neq rfl rfl) rfl (cT ?_)))))))); refine cw_yes rfl (by assumption) ?_; refine cS (cM rfl rfl (cA rfl rfl (cA rfl rfl (cT (cw_ret (qw_then_ret (qw_ret2 rfl rfl rfl ?_))))))); rotate_left 1
  exact prR rfl X
 | none =>
  have hval : validI lib = (-1, 0) := by unfold validI; rw [hv]
  have HV := Lib.hid (validF_v hval); obtain ⟨hlen, hG⟩ := lib_good hv (fun f hf => (hl.all f hf).2.2.2.2); have HG := Lib.hid hG; rw [show printL lib = (libT lib, 0) from by unfold printL; rw [hv]]; clear hval hv hl hG; refine calls_in Tryd.func10 Tryd.ntmps10 rfl rfl ?_
  focus
   refine cS (cA rfl rfl (cA rfl rfl (cT (cw_seq (cS (cM rfl rfl ?_)))))); refine cC (by kernel_rfl) rfl (HV.out _ _ _ _ HL.out (by assumption)) rfl ?_; rintro _ wa2 ⟨⟨⟩, xa1⟩; have za3 := xa1.size; replace ht := ht.ext xa1; replace X := X.ext xa1; replace hs := hs.ext xa1; clear xa1; refine cM rfl rfl (lw_pure (pur_extract rfl rfl) rfl (lw_pure (pur_extract rfl rfl) rfl (cA rfl rfl (cA rfl rfl (cN (cM rfl rfl (lw_pure (pur_neq rfl rfl) rfl (cT ?_)))))))); refine cw_no rfl (by decide) ?_; refine cw_skip (qw_then (cS ?_)); (refine lw_allocT zOk rfl rfl ?_; intro ba4 wa5 na6 ta7); have xa9 := na6.ext; have pa10 := na6.pos; have za11 := na6.size; clear na6; replace ht := ht.ext xa9; replace X := X.ext xa9; replace hs := hs.ext xa9; clear xa9; refine cT (cw_seq (cS (cM rfl rfl (lw_pure (pur_len_slice tabOk rfl rfl) rfl (cM rfl rfl (cT (cw_block ?_))))))); rotate_left 1
  have hbd := bdF_new ta7; clear ta7; refine cw_loop (ι := Nat × Nat) (fun y => [(6, .pointer (some ⟨ba4, 0, none⟩)), (20, .slice a lib.length c), (21, .int .i64 lib.length), (22, .int .i64 y.1)])
   (fun y w' => BdF w' ba4 (libT (lib.take y.1)) y.2 ∧ y.2 ≤ w'.heap.size ∧ FDs (· < w.heap.size) w' lib a ∧ Ext w w' ∧ TabsF w' ∧ y.1 ≤ lib.length ∧ ba4 < w'.heap.size) (fun y => lib.length - y.1) (0, wa5.heap.size) (by (refine sub_cons rfl ?_; refine sub_cons rfl ?_; refine sub_cons rfl ?_; refine sub_cons rfl ?_; exact sub_nil)) ⟨hbd, Nat.le_refl _, hs, X, ht, Nat.zero_le _, by omega⟩ ?_
  clear hbd hs X ht HV; rintro ⟨j, H⟩ w1 ⟨hbd, hH, hs, X, ht, hj, hbz⟩; simp only at hbd hH hj; have hgl := ht.g; have hz := X.size; refine CW.sub (m := [(6, .pointer (some ⟨ba4, 0, none⟩)), (20, .slice a lib.length c), (21, .int .i64 lib.length), (22, .int .i64 j)]) ?_ (by (refine sub_cons rfl ?_; refine sub_cons rfl ?_; refine sub_cons rfl ?_; refine sub_cons rfl ?_; exact sub_nil))
  by_cases hlt : j < lib.length
  · have hs2 := hs
    obtain ⟨kb, ko, ⟨⟩, hkS, hk⟩ := Arr.get hs2 (by omega); obtain ⟨pa, pc, ba, bc, hr, hps, hbs⟩ := hk j lib[j] (List.getElem?_eq_getElem hlt); clear hk hs2; have hsn := libT_snoc hlt; have hgx := HG.out _ (List.getElem_mem hlt)
    have hll : (libT (lib.take j)).length ≤ 3000000 := by
     have h1 := libT_len (lib := lib.take j) (fun f hf => HG.out f (List.mem_of_mem_take hf)); rw [List.length_take] at h1
     omega
    generalize libT (lib.take j) = out at *
    generalize lib[j] = x at *
    have hjp := join_params hgx; have hnl := hgx.name; have hhl := headT_len hgx; have htl := tailT_len hgx; have hpn := hgx.len; have hbl := ftext_len _ hgx.ok; have hbs2 := hgx.size; have hty := typeT_len x.list; have HP := Lib.hid (fun (S : Nat → Prop) (a : Option Addr) (c : Nat) (w : World) h1 h2 => text_c (x.body.size + 1) x.body (by omega) (by omega) hgx.ok S a c w h1 h2); have HQ := Lib.hid hgx.par; clear hgx; simp only [FD.cells] at hr; have hH2 : H ≤ w1.heap.size := hH; clear hH
    focus
     refine cS (lw_pure (pur_lss rfl rfl) rfl (cT (cw_seq ?_))); refine cw_yes rfl (by omega) ?_; refine cw_skip (qw_then (cw_seq (cw_block (cS ?_)))); refine lw_pure (pur_indexAddr tabOk rfl rfl rfl rfl (by omega) (by omega)) rfl ?_; refine lw_loads_r0 tabOk rfl rfl rfl hr rfl rfl ?_; (refine lw_allocT zOk rfl rfl ?_; intro bb1 wb2 nb3 tb4); (refine lw_initT tabOk rfl rfl rfl rfl rfl rfl nb3 tb4 rfl ?_; clear nb3 tb4; clear wb2; intro wb5 nb3 tb4); have xb6 := nb3.ext; have pb7 := nb3.pos; have zb8 := nb3.size; clear nb3; replace X := X.ext xb6; replace ht := ht.ext xb6; replace hs := hs.ext xb6; replace hbd := hbd.ext xb6; replace hr := hr.ext xb6; replace hps := hps.ext xb6; replace hbs := Nd.sits.ext hbs xb6; clear xb6; refine cN (cA rfl rfl (cT (cw_seq (cS (lw_pure (pur_fieldAddr tabOk rfl rfl rfl) rfl (lw_load_b tabOk rfl rfl rfl (TB.blk tb4) rfl rfl (lw_pure (pur_len_slice tabOk rfl rfl) rfl (cM rfl rfl (cT (cw_block ?_)))))))))); rotate_left 1
    refine cw_loop (ι := Nat × Option Addr × Nat) (fun y => [(29, .int .i64 y.1), (28, .int .i64 x.params.length), (27, .slice pa x.params.length pc), (9, .slice y.2.1 ((x.params.take y.1).map paramT).length y.2.2), (8, .pointer (some ⟨bb1, 0, none⟩)), (6, .pointer (some ⟨ba4, 0, none⟩)), (20, .slice (some ⟨kb, ko, none⟩) lib.length c), (21, .int .i64 lib.length), (22, .int .i64 j)])
     (fun y w' => TB w' bb1 [str x.name, .slice pa x.params.length pc, .bool x.list, .int .u8 x.body.kind, .int .i64 x.body.num, str x.body.name, .slice ba x.body.kids.length bc] 51 ∧ OwnQ strShape w' (fun _ => False) (bb1 + 1) 9 (.slice y.2.1 ((x.params.take y.1).map paramT).length y.2.2) ((x.params.take y.1).map paramT) ∧ BdF w' ba4 out H ∧ FPs (· < w.heap.size) w' x.params pa ∧ x.body.sits (· < w.heap.size) w' ba ∧ FDs (· < w.heap.size) w' lib (some ⟨kb, ko, none⟩) ∧ Ext w w' ∧ TabsF w' ∧ y.1 ≤ x.params.length ∧ bb1 < w'.heap.size) (fun y => x.params.length - y.1) (0, none, 0) (by (refine sub_cons rfl ?_; refine sub_cons rfl ?_; refine sub_cons rfl ?_; refine sub_cons rfl ?_; refine sub_cons rfl ?_; refine sub_cons rfl ?_; refine sub_cons rfl ?_; refine sub_cons rfl ?_; refine sub_cons rfl ?_; exact sub_nil))
     ⟨tb4, OwnQ.nil, hbd, hps, hbs, hs, X, ht, Nat.zero_le _, by omega⟩ ?_
    clear tb4 hbd hps hbs hs X ht hr; rintro ⟨i, oa, oc⟩ w2 ⟨tb, hown, hbd, hps, hbs, hs, X, ht, hi, hz2⟩; simp only at hown hi; have hgl2 := ht.g
    have hob : ∀ g, (Value.slice oa ((x.params.take i).map paramT).length oc).ownBlock = some g → bb1 + 1 ≤ g ∧ g < w2.heap.size := fun g h => ⟨hown.ge h, hown.lt h⟩
    refine CW.sub (m := [(29, .int .i64 i), (28, .int .i64 x.params.length), (27, .slice pa x.params.length pc), (9, .slice oa ((x.params.take i).map paramT).length oc), (8, .pointer (some ⟨bb1, 0, none⟩)), (6, .pointer (some ⟨ba4, 0, none⟩)), (20, .slice (some ⟨kb, ko, none⟩) lib.length c), (21, .int .i64 lib.length), (22, .int .i64 j)]) ?_ (by (refine sub_cons rfl ?_; refine sub_cons rfl ?_; refine sub_cons rfl ?_; refine sub_cons rfl ?_; refine sub_cons rfl ?_; refine sub_cons rfl ?_; refine sub_cons rfl ?_; refine sub_cons rfl ?_; refine sub_cons rfl ?_; exact sub_nil))
    by_cases hit : i < x.params.length
    · have hps2 := hps
      obtain ⟨qb, qo, rfl, hqS, hkk⟩ := Arr.get hps2 (by omega); have r1 := hkk i _ (List.getElem?_eq_getElem hit); simp only [FPAt] at r1; have hsp := params_snoc hit; have hpl := HQ.out _ (List.getElem_mem hit)
      have hmm : ((x.params.take i).map paramT).length ≤ 1000 := by simp only [List.length_map, List.length_take]; omega
      clear hkk hps2
      generalize (x.params.take i).map paramT = os at *
      generalize x.params[i] = y at *
      have hyt := typeT_len y.list
      focus
       refine cS (lw_pure (pur_lss rfl rfl) rfl (cT (cw_seq ?_))); refine cw_yes rfl (by omega) ?_; refine cw_skip (qw_then (cw_seq (cw_block (cS ?_)))); refine lw_pure (pur_indexAddr tabOk rfl rfl rfl rfl (by omega) (by omega)) rfl ?_; refine lw_loads_r0 tabOk rfl rfl rfl r1 rfl rfl ?_; (refine lw_allocT zOk rfl rfl ?_; intro bc1 wc2 nc3 tc4); (refine lw_initT tabOk rfl rfl rfl rfl rfl rfl nc3 tc4 rfl ?_; clear nc3 tc4; clear wc2; intro wc5 nc3 tc4); have xc6 := nc3.ext; have pc7 := nc3.pos; have zc8 := nc3.size; clear nc3; replace hbd := hbd.ext xc6; replace hbs := Nd.sits.ext hbs xc6; replace hs := hs.ext xc6; replace X := X.ext xc6; replace ht := ht.ext xc6; replace tb := tb.ext xc6; replace hps := hps.ext xc6; replace hown := hown.ext xc6; replace r1 := r1.ext xc6; clear xc6; refine cT ?_; (refine cw_tdraw (fun wz => Ext wc5 wz) 9 (.pure 0 (.pure 1 (.pure 2 (.pure 5 (.pure 6 (.fork 3 (.pure 4 (.pure 7 (.fork 8 .tail .none))) .none)))))) mixed (by kernel_rfl) (panicOk_block (panicOk_then (panicOk_then (panicOk_block (panicOk_then (panicOk_block (panicOk_then (panicOk_then (panicOk_block (panicOk_then panicOk_body)))))))))) ?_; intro wc9 xc10 _); have qsc11 : (fun wz => Ext wc5 wz) wc9 := xc10; simp only at qsc11; have d_tc4 := tc4; have d_hbd := hbd; have d_hbs := hbs; have d_hs := hs; have d_ht := ht; have d_tb := tb; have d_hps := hps; have d_hown := hown; have d_r1 := r1; have zc12 := xc10.size; replace tc4 := tc4.ext xc10; replace hbd := hbd.ext xc10; replace hbs := Nd.sits.ext hbs xc10
       replace hs := hs.ext xc10; replace X := X.ext xc10; replace ht := ht.ext xc10; replace tb := tb.ext xc10; replace hps := hps.ext xc10; replace hown := hown.ext xc10; replace r1 := r1.ext xc10; clear xc10; refine ⟨qsc11, ?_⟩; refine tw_pure rfl (pur_move rfl) rfl (tw_pure rfl (pur_fieldAddr tabOk rfl rfl rfl) rfl (tw_pure rfl (pur_load tabOk rfl rfl rfl (fun wz hz => Blk.cell (Blk.ext (TB.blk d_tc4) hz) rfl)) rfl (tw_pure rfl (pur_fieldAddr0 tabOk rfl rfl rfl) rfl (tw_pure rfl (pur_load tabOk rfl rfl rfl (fun wz hz => Blk.cell (Blk.ext (TB.blk d_tc4) hz) rfl)) rfl ?_)))); refine tw_does rfl (does_call (by kernel_rfl) rfl (ftypeName_c _ _) (fun _ _ h => ⟨_, h.1⟩)) rfl ?_ (fun _ h => h) tw_none; rintro _ wc15 ⟨⟨⟩, xc14⟩; have zc16 := xc14.size; replace qsc11 := qsc11.ext xc14; replace tc4 := tc4.ext xc14; replace hbd := hbd.ext xc14; replace hbs := Nd.sits.ext hbs xc14; replace hs := hs.ext xc14; replace X := X.ext xc14; replace ht := ht.ext xc14; replace tb := tb.ext xc14; replace hps := hps.ext xc14; replace hown := hown.ext xc14; replace r1 := r1.ext xc14; clear xc14; refine ⟨qsc11, ?_⟩; refine tw_pure rfl (pur_sadd rfl rfl (by simp only [List.length_cons, List.length_nil]; omega)) rfl ?_; refine tw_pure rfl (pur_sadd rfl rfl (by simp only [List.length_append, List.length_cons, List.length_nil]; omega)) rfl ?_; (refine tw_does rfl (does_slice' [_] tabOk zOk rfl rfl rfl rfl rfl rfl rfl rfl rfl) rfl ?_ (fun _ h => h) tw_none; rintro _ wc19 ⟨bc18, rfl, nc20, tc21⟩); clear tc21
       have hc22 := nc20.blk; have xc23 := nc20.ext; have pc24 := nc20.pos; have zc25 := nc20.size; clear nc20; replace qsc11 := qsc11.ext xc23; replace tc4 := tc4.ext xc23; replace hbd := hbd.ext xc23; replace hbs := Nd.sits.ext hbs xc23; replace hs := hs.ext xc23; replace X := X.ext xc23; replace ht := ht.ext xc23; replace tb := tb.ext xc23; replace hps := hps.ext xc23; replace hown := hown.ext xc23; replace r1 := r1.ext xc23; clear xc23; refine ⟨qsc11, ?_⟩; clear d_tc4 d_hbd d_hbs d_hs d_ht d_tb d_hps d_hown d_r1 qsc11; refine tw_tail rfl ?_; refine lw_does (does_appendQ (R := fun _ => False) (sh := strShape) (z := paramT y) tabOk zOk rfl rfl rfl rfl (by kernel_rfl) rfl rfl rfl (by assumption) (fun _ h => by exact h) (Blk.row (by assumption)) rfl (by omega) (by omega)) rfl ?_ (fun _ h => h); rintro _ wc32 ⟨gc26, ⟨capc27, ⟨rfl, ⟨hc28, ⟨hc29, ⟨hc30, fc31⟩⟩⟩⟩⟩⟩; have zc33 := fc31.size; replace hc22 := Blk.fr hc22 fc31 (fun e => by have := hob _ e; omega); replace tc4 := TB.fr tc4 fc31 (fun e => by have := hob _ e; omega); replace hbd := BdF.fr hbd fc31 (fun k hk => by have := hob _ hk; omega); replace hbs := Nd.sits.fr hbs fc31 (fun b hb hT => by have := hob _ hT; (try dsimp only at hb); omega); replace hs := FDs.fr hs fc31 (fun b hb hT => by have := hob _ hT; (try dsimp only at hb); omega); replace X := Ext.fr X fc31 (fun k hk => by have := hob _ hk; omega); replace ht := TabsF.fr ht fc31 (fun k hk => by have := hob _ hk; omega); replace tb := TB.fr tb fc31 (fun e => by have := hob _ e; omega)
       replace hps := FPs.fr hps fc31 (fun b hb hT => by have := hob _ hT; (try dsimp only at hb); omega); clear hown r1 fc31; refine cA rfl rfl (lw_nil (qw_block_norm (qw_then (cw_region ?_)))); refine lw_pure (pur_add rfl rfl (IntWalk.i64_in _ (by omega))) rfl ?_; refine cM rfl rfl (lw_nil ?_); rotate_left 1
      refine qw_round (i + 1, some ⟨_, 0, none⟩, _) ?_ ⟨by assumption, by simp only; rw [hsp]; assumption, by assumption, by assumption, by assumption, by assumption, X, by assumption, by (try simp only); omega, by (try simp only); omega⟩ (by (try simp only); omega); simp only [hsp]; (refine sub_cons rfl ?_; refine sub_cons rfl ?_; refine sub_cons rfl ?_; refine sub_cons rfl ?_; refine sub_cons rfl ?_; refine sub_cons rfl ?_; refine sub_cons rfl ?_; refine sub_cons rfl ?_; refine sub_cons rfl ?_; exact sub_nil)
    · have hie : i = x.params.length := by omega
      subst hie; rw [List.take_length] at hown hob; rw [List.take_length]
      focus
       refine cS (lw_pure (pur_lss rfl rfl) rfl (cT (cw_seq ?_))); refine cw_no rfl (by omega) ?_; refine cw_exit (qw_then_exit (qw_then_exit (qw_block_exit (qw_then (cw_seq ?_))))); (refine cw_tdraw (fun wz => Ext w2 wz) 6 (.pure 0 (.pure 1 (.pure 2 (.pure 3 (.pure 4 (.fork 5 .tail .none)))))) mixed (by kernel_rfl) (panicOk_then (panicOk_block (panicOk_then (panicOk_then (panicOk_block (panicOk_then panicOk_body)))))) ?_; intro wd1 xd2 _); have qsd3 : (fun wz => Ext w2 wz) wd1 := xd2; simp only at qsd3; have d_tb := tb; have d_hbd := hbd; have d_hps := hps; have d_hbs := hbs; have d_hs := hs; have d_ht := ht; have d_hown := hown; have zd4 := xd2.size; replace tb := tb.ext xd2; replace hbd := hbd.ext xd2; replace hps := hps.ext xd2; replace hbs := Nd.sits.ext hbs xd2; replace hs := hs.ext xd2; replace X := X.ext xd2; replace ht := ht.ext xd2; replace hown := hown.ext xd2; clear xd2; refine ⟨qsd3, ?_⟩; refine tw_pure rfl (pur_fieldAddr0 tabOk rfl rfl rfl) rfl (tw_pure rfl (pur_load tabOk rfl rfl rfl (fun wz hz => Blk.cell (Blk.ext (TB.blk d_tb) hz) rfl)) rfl ?_); refine tw_pure rfl (pur_sadd rfl rfl (by simp only [List.length_cons, List.length_nil]; omega)) rfl ?_; refine tw_pure rfl (pur_sadd rfl rfl (by simp only [List.length_append, List.length_cons, List.length_nil]; omega)) rfl ?_; refine tw_pure rfl (pur_move rfl) rfl ?_; refine tw_does rfl (does_call (by kernel_rfl) rfl (joinQ_c _ (by assumption) (by simp only [List.length_map]; omega) (by omega)) (fun _ _ h => ⟨_, h.1⟩)) rfl ?_ (fun _ h => h) tw_none
       rintro _ wd7 ⟨⟨⟩, xd6⟩; have zd8 := xd6.size; replace qsd3 := qsd3.ext xd6; replace tb := tb.ext xd6; replace hbd := hbd.ext xd6; replace hps := hps.ext xd6; replace hbs := Nd.sits.ext hbs xd6; replace hs := hs.ext xd6; replace X := X.ext xd6; replace ht := ht.ext xd6; replace hown := hown.ext xd6; clear xd6; refine ⟨qsd3, ?_⟩; clear d_tb d_hbd d_hps d_hbs d_hs d_ht d_hown qsd3; refine tw_tail rfl ?_; refine lw_pure (pur_sadd rfl rfl (by simp only [List.length_append, List.length_cons, List.length_nil]; omega)) rfl ?_; refine lw_pure (pur_sadd rfl rfl (by simp only [List.length_append, List.length_cons, List.length_nil]; omega)) rfl ?_; refine cC (by kernel_rfl) rfl (writeF_c _ _ _ _ _ (by assumption) (by simp only [List.length_append, List.length_cons, List.length_nil]; omega)) rfl ?_; rintro _ wd11 ⟨⟨⟩, ⟨hd9, fd10⟩⟩; have zd12 := fd10.size; replace tb := TB.fr tb fd10 (fun e => e.elim (fun e => by omega) (fun e => tb_not8 (by assumption) (by decide) e.2)); clear hbd; replace hps := FPs.fr hps fd10 (fun b hb hT => hT.elim (fun e => by (try dsimp only at hb); omega) (fun e => by have := e.1; (try dsimp only at hb); omega)); replace hbs := Nd.sits.fr hbs fd10 (fun b hb hT => hT.elim (fun e => by (try dsimp only at hb); omega) (fun e => by have := e.1; (try dsimp only at hb); omega)); replace hs := FDs.fr hs fd10 (fun b hb hT => hT.elim (fun e => by (try dsimp only at hb); omega) (fun e => by have := e.1; (try dsimp only at hb); omega)); replace X := Ext.fr X fd10 (fun k hk => hk.elim (fun e => by omega) (fun e => by have := e.1; omega))
       replace ht := TabsF.fr ht fd10 (fun k hk => hk.elim (fun e => by omega) (fun e => by have := e.1; omega)); clear hown fd10; refine cT ?_; (refine cw_tdraw (fun wz => Ext wd11 wz) 7 (.pure 0 (.pure 1 (.pure 4 (.pure 5 (.fork 2 (.pure 3 (.fork 6 .tail .none)) .none))))) mixed (by kernel_rfl) (panicOk_block (panicOk_then (panicOk_then (panicOk_block (panicOk_then panicOk_body))))) ?_; intro wd13 xd14 _); have qsd15 : (fun wz => Ext wd11 wz) wd13 := xd14; simp only at qsd15; have d_hd9 := hd9; have d_tb := tb; have d_hps := hps; have d_hbs := hbs; have d_hs := hs; have d_ht := ht; have zd16 := xd14.size; replace hd9 := hd9.ext xd14; replace tb := tb.ext xd14; replace hps := hps.ext xd14; replace hbs := Nd.sits.ext hbs xd14; replace hs := hs.ext xd14; replace X := X.ext xd14; replace ht := ht.ext xd14; clear xd14; refine ⟨qsd15, ?_⟩; refine tw_pure rfl (pur_fieldAddr tabOk rfl rfl rfl) rfl (tw_pure rfl (pur_load tabOk rfl rfl rfl (fun wz hz => Blk.cell (Blk.ext (TB.blk d_tb) hz) rfl)) rfl (tw_pure rfl (pur_fieldAddr tabOk rfl rfl rfl) rfl (tw_pure rfl (pur_loads_blk' [_, _, _, _] tabOk rfl rfl rfl (fun wz hz => (Blk.ext (TB.blk d_tb) hz)) rfl rfl) rfl ?_))); refine tw_does rfl (does_call (by kernel_rfl) rfl (ftypeName_c _ _) (fun _ _ h => ⟨_, h.1⟩)) rfl ?_ (fun _ h => h) tw_none; rintro _ wd19 ⟨⟨⟩, xd18⟩; have zd20 := xd18.size; replace qsd15 := qsd15.ext xd18; replace hd9 := hd9.ext xd18; replace tb := tb.ext xd18; replace hps := hps.ext xd18; replace hbs := Nd.sits.ext hbs xd18
       replace hs := hs.ext xd18; replace X := X.ext xd18; replace ht := ht.ext xd18; clear xd18; refine ⟨qsd15, ?_⟩; refine tw_pure rfl (pur_sadd rfl rfl (by simp only [List.length_cons, List.length_nil]; omega)) rfl ?_; refine tw_does rfl (does_call (by kernel_rfl) rfl (HP.out _ _ _ _ (by assumption) (by assumption)) (fun _ _ h => ⟨_, h.1⟩)) rfl ?_ (fun _ h => h) tw_none; rintro _ wd23 ⟨⟨⟩, xd22⟩; have zd24 := xd22.size; replace qsd15 := qsd15.ext xd22; replace hd9 := hd9.ext xd22; replace tb := tb.ext xd22; replace hps := hps.ext xd22; replace hbs := Nd.sits.ext hbs xd22; replace hs := hs.ext xd22; replace X := X.ext xd22; replace ht := ht.ext xd22; clear xd22; refine ⟨qsd15, ?_⟩; clear d_hd9 d_tb d_hps d_hbs d_hs d_ht qsd15; refine tw_tail rfl ?_; refine lw_pure (pur_sadd rfl rfl (by simp only [List.length_append, List.length_cons, List.length_nil]; omega)) rfl ?_; refine lw_pure (pur_sadd rfl rfl (by simp only [List.length_append, List.length_cons, List.length_nil]; omega)) rfl ?_; refine cC (by kernel_rfl) rfl (writeF_c _ _ _ _ _ (by assumption) (by simp only [List.length_append, List.length_cons, List.length_nil]; omega)) rfl ?_; rintro _ wd27 ⟨⟨⟩, ⟨hd25, fd26⟩⟩; have zd28 := fd26.size; clear hd9; replace tb := TB.fr tb fd26 (fun e => e.elim (fun e => by omega) (fun e => tb_not8 (by assumption) (by decide) e.2)); replace hps := FPs.fr hps fd26 (fun b hb hT => hT.elim (fun e => by (try dsimp only at hb); omega) (fun e => by have := e.1; (try dsimp only at hb); omega)); replace hbs := Nd.sits.fr hbs fd26 (fun b hb hT => hT.elim (fun e => by (try dsimp only at hb); omega) (fun e => by have := e.1; (try dsimp only at hb); omega))
       replace hs := FDs.fr hs fd26 (fun b hb hT => hT.elim (fun e => by (try dsimp only at hb); omega) (fun e => by have := e.1; (try dsimp only at hb); omega)); replace X := Ext.fr X fd26 (fun k hk => hk.elim (fun e => by omega) (fun e => by have := e.1; omega)); replace ht := TabsF.fr ht fd26 (fun k hk => hk.elim (fun e => by omega) (fun e => by have := e.1; omega)); clear fd26; refine lw_nil (qw_block_norm (qw_then (cw_region ?_))); refine lw_pure (pur_add rfl rfl (IntWalk.i64_in _ (by omega))) rfl ?_; refine cM rfl rfl (lw_nil ?_); rotate_left 1
      refine qw_round (j + 1, wd27.heap.size) (by (refine sub_cons rfl ?_; refine sub_cons rfl ?_; refine sub_cons rfl ?_; refine sub_cons rfl ?_; exact sub_nil)) ⟨?_, Nat.le_refl _, hs, X, ht, by (try simp only); omega, by omega⟩ (by (try simp only); omega)
      show BdF wd27 ba4 (libT (lib.take (j + 1))) wd27.heap.size
      rw [hsn]
      exact hd25
  · have hje : j = lib.length := by omega
    subst hje; rw [List.take_length] at hbd
    focus
     refine cS (lw_pure (pur_lss rfl rfl) rfl (cT (cw_seq ?_))); refine cw_no rfl (by omega) ?_; refine cw_exit (qw_then_exit (qw_then_exit (qw_block_exit (qw_then (cS ?_))))); refine cC (by kernel_rfl) rfl (stringF_c _ _ _ _ (by assumption)) rfl ?_; rintro _ we2 ⟨⟨⟩, fe1⟩; have ze3 := fe1.size; replace hs := hs.fr fe1 (by omega); replace X := Ext.fr X fe1 (fun k hk => hk.elim (fun e => by omega) (fun e => by have := e.1; omega)); replace ht := TabsF.fr ht fe1 (fun k hk => hk.elim (fun e => by omega) (fun e => by have := e.1; omega)); clear hbd fe1; refine cA rfl rfl (cA rfl rfl (cT (cw_ret (qw_ret2 rfl rfl rfl ?_)))); rotate_left 1
    exact prR rfl X
end Bk
namespace Bk
open Go Go.RowKit Go.Proofs
attribute [local irreducible] Go.Calls
def exS : List UInt8 := [112, 114, 111, 99, 32, 108, 101, 110, 40, 115, 116, 97, 99, 107, 32, 120, 115, 41, 32, 105, 110, 116, 32, 123, 32, 105, 102, 32, 33, 120, 115, 32, 123, 32, 48, 32, 125, 32, 101, 108, 115, 101, 32, 123, 32, 49, 32, 43, 32, 108, 101, 110, 40, 112, 111, 112, 40, 120, 115, 41, 41, 32, 125, 32, 125] ++ [10]
def exF : FD := ⟨[108, 101, 110], [⟨[120, 115], true⟩], false, .mk 83 0 [] [.mk 90 0 [] [.mk 81 0 [120, 115] []], .mk 80 0 [] [], .mk 82 8 [] [.mk 80 1 [] [], .mk 85 0 [108, 101, 110] [.mk 89 0 [] [.mk 81 0 [120, 115] []]]]]⟩
theorem ex_parse : parseLib exS = ([exF], 0, 0) := by kernel_rfl
theorem ex_print : printL [exF] = (exS, 0) := by kernel_rfl
theorem ex_few : LibFew [exF] := ⟨by decide, fun f hf => by
 obtain rfl := List.mem_singleton.1 hf; refine ⟨by decide, by decide, by decide, by decide, ?_⟩
 simp [exF, Nd.wf, rowWf]⟩
set_option maxRecDepth 100000 in
set_option maxHeartbeats 4000000 in
theorem awake36_c (w : World) (ht : TabsF w) (hE : Errs w) : Calls Tryd.prog 7 #[] w fun e w' => e = .returned (.bool true) ∧ Ext w w' := by
 have X := Ext.refl w; have hS : Syms w := ⟨ht.t.sym⟩; have HA := Lib.hid (fun w hS hE => funParse_c exS w (by decide) hS hE); rw [ex_parse] at HA; have HB := Lib.hid (fun (S : Nat → Prop) (a : Option Addr) (c : Nat) (w : World) hs ht => Print_c [exF] S a c w ex_few hs ht); rw [ex_print] at HB; refine calls_in Tryd.func7 Tryd.ntmps7 rfl rfl ?_
 focus
  refine cS (cA rfl rfl (cN (cA rfl rfl (cN (cM rfl rfl ?_))))); refine cR (by kernel_rfl) rfl (HA.out _ (by assumption) (by assumption)) (fun _ _ h => h.ret) rfl ?_; rintro _ w5 ⟨la1, ⟨lc2, ⟨⟨⟩, ⟨h3, x4⟩⟩⟩⟩; have z6 := x4.size; replace ht := ht.ext x4; replace hE := hE.ext x4; replace X := X.ext x4; replace hS := hS.ext x4; clear x4; refine cM rfl rfl (lw_pure (pur_extract rfl rfl) rfl (lw_pure (pur_extract rfl rfl) rfl (lw_pure (pur_extract rfl rfl) rfl (cA rfl rfl (cA rfl rfl (cA rfl rfl (cT (cw_seq ?_)))))))); rotate_left 1
 have h3' : FDs (w.heap.size ≤ ·) w5 [exF] la1 := h3; have h9 := h3'; obtain ⟨kb, ko, rfl, hkS, hk⟩ := Arr.get h9 (by decide); obtain ⟨pa, pc, ba, bc, hr, -, -⟩ := hk 0 exF rfl; have hr' : Row w5 ⟨kb, ko + 0 * 7, none⟩ [str [108, 101, 110], .slice pa 1 pc, .bool false, .int .u8 83, .int .i64 0, str [], .slice ba 3 bc] := hr; clear hr hk h9 h3 HA
 focus
  refine cS (cM rfl rfl (lw_pure (pur_neq rfl rfl) rfl (cM rfl rfl ?_))); refine lw_on rfl rfl rfl (gd_ff (by decide)) ?_; refine cM rfl rfl ?_; refine lw_on rfl rfl rfl (gd_ff (by decide)) ?_; refine lw_pure (pur_neq rfl rfl) rfl ?_; refine lw_pure (pur_pick_no rfl rfl (by decide)) rfl ?_; refine cM rfl rfl ?_; refine lw_on rfl rfl rfl (gd_ff (by decide)) ?_; refine cM rfl rfl ?_; refine lw_on rfl rfl rfl (gd_ff (by decide)) ?_; refine lw_pure (pur_len_slice tabOk rfl rfl) rfl ?_; refine lw_on rfl rfl rfl (gd_ff (by decide)) ?_; refine lw_pure (pur_neq rfl rfl) rfl ?_; refine lw_pure (pur_pick_no rfl rfl (by decide)) rfl ?_; refine cM rfl rfl ?_; refine lw_on rfl rfl rfl (gd_ff (by decide)) ?_; refine cM rfl rfl ?_; refine lw_on rfl rfl rfl (gd_ff (by decide)) ?_; refine lw_pure (pur_indexAddr tabOk rfl rfl rfl rfl (by omega) (by simp only [List.length_cons, List.length_nil]; omega)) rfl ?_; refine lw_on rfl rfl rfl (gd_ff (by decide)) ?_; refine lw_pure (pur_fieldAddr0 tabOk rfl rfl rfl) rfl ?_; refine lw_on rfl rfl rfl (gd_ff (by decide)) ?_; refine lw_load_r tabOk rfl rfl rfl hr' rfl rfl ?_; refine lw_on rfl rfl rfl (gd_ff (by decide)) ?_; refine lw_pure (pur_sneq rfl rfl) rfl ?_; refine lw_pure (pur_pick_no rfl rfl (by decide)) rfl ?_; refine cM rfl rfl ?_; refine lw_on rfl rfl rfl (gd_ff (by decide)) ?_; refine cM rfl rfl ?_; refine lw_on rfl rfl rfl (gd_ff (by decide)) ?_; refine lw_pure (pur_indexAddr tabOk rfl rfl rfl rfl (by omega) (by simp only [List.length_cons, List.length_nil]; omega)) rfl ?_
  refine lw_on rfl rfl rfl (gd_ff (by decide)) ?_; refine lw_pure (pur_fieldAddr tabOk rfl rfl rfl) rfl ?_; refine lw_on rfl rfl rfl (gd_ff (by decide)) ?_; refine lw_load_r tabOk rfl rfl rfl hr' rfl rfl ?_; refine lw_pure (pur_pick_no rfl rfl (by decide)) rfl ?_; refine cM rfl rfl (lw_on rfl rfl rfl (rfl) (cM rfl rfl (lw_on rfl rfl rfl (rfl) ?_))); refine lw_pure (pur_indexAddr tabOk rfl rfl rfl rfl (by omega) (by simp only [List.length_cons, List.length_nil]; omega)) rfl ?_; refine lw_on rfl rfl rfl (rfl) (lw_pure (pur_fieldAddr tabOk rfl rfl rfl) rfl (lw_on rfl rfl rfl (rfl) (lw_pure (pur_fieldAddr0 tabOk rfl rfl rfl) rfl (lw_on rfl rfl rfl (rfl) (lw_load_r tabOk rfl rfl rfl hr' rfl rfl (lw_on rfl rfl rfl (rfl) (lw_pure (pur_neq rfl rfl) rfl (lw_pure (pur_pick_f rfl rfl rfl) rfl (cT ?_))))))))); refine cw_no rfl (by decide) ?_; refine cw_skip (qw_then (cS (cM rfl rfl ?_))); refine cC (by kernel_rfl) rfl (HB.out _ _ _ _ (by assumption) (by assumption)) rfl ?_; rintro _ wa2 ⟨⟨⟩, xa1⟩; have za3 := xa1.size; replace ht := ht.ext xa1; replace hE := hE.ext xa1; replace X := X.ext xa1; replace hS := hS.ext xa1; replace h3' := FDs.ext h3' xa1; replace hr' := Row.ext hr' xa1; clear xa1; refine cM rfl rfl (lw_pure (pur_extract rfl rfl) rfl (lw_pure (pur_extract rfl rfl) rfl (cA rfl rfl (cA rfl rfl (cN (cM rfl rfl (lw_pure (pur_eql rfl rfl) rfl (cM rfl rfl ?_)))))))); refine lw_on rfl rfl rfl (gd_tt (by decide)) ?_; refine cM rfl rfl ?_; refine lw_on rfl rfl rfl (gd_tt (by decide)) ?_
  refine cM rfl rfl ?_; refine lw_on rfl rfl rfl (gd_tt (by decide)) ?_; refine lw_pure (pur_seql rfl rfl) rfl ?_; refine lw_pure (pur_pick_yes rfl rfl (by decide)) rfl ?_; refine cA rfl rfl (cT (cw_ret (qw_ret1 rfl rfl ?_))); rotate_left 1
 exact ⟨rfl, X⟩
end Bk
namespace Bk
open Go Go.RowKit Go.Proofs
attribute [local irreducible] Go.Calls
section
variable {P : Program} {n : Nat} {l : Sl} {S : World → Prop} {tab : Tab} {ty : TypeId}
theorem pur_slH {x y : Operand} {t e sz1 sz len cap m : Nat} {sE : Sk} {a : Option Addr} {k : IntKind} {iv : Int} (T : TabOk P tab) (ht : lookT tab t = some (.slice e, sz1)) (hE : lookT tab e = some (sE, sz)) (hx : ev l x = some (.slice a len cap)) (hy : ev l y = some (.int k iv)) (hiv : iv = (m : Int)) (hm : m ≤ cap) :
 Pur P n l S (.slice t x none (some y) none) ty (.slice a m cap) := by
 subst hiv
 unfold Pur
 intro act w dst pos after g ha _; have hu : P.underlying t = some (.slice e) := (T _ _ _ ht).under
 have hel : P.elem t = e := by simp [Program.elem, hu]
 have hu2 : P.underlying t = some (.slice (P.elem t)) := by rw [hel]; exact hu
 obtain ⟨i, hi, hs⟩ := (T _ _ _ hE).info
 have hsz : (Go.sizeOf e).run P w = .ok sz w := by simp [Go.sizeOf, typeInfo, program, Sem.run, bind, Sem.bind, pure, hi, hs]
 have h1 : (Instr.sliceAt t (.slice a len cap) none (some (.int k (m : Int))) none).run P w = .ok (.slice a m cap) w := by
  rw [run_sliceAt_slice w t _ _ _ _ hu2, run_slice_h w t a len cap hu2 k m (by omega) (by omega)]; rw [hel, hsz]
  cases a <;> simp [Result.andThen, sliced, Addr.add]
 simp [execOp, ha.ev hx, ha.ev hy, Sem.run_bind, h1, Result.andThen]
theorem pur_slL {x y : Operand} {t e sz1 sz len cap m : Nat} {sE : Sk} {a : Option Addr} {k : IntKind} {iv : Int} (T : TabOk P tab) (ht : lookT tab t = some (.slice e, sz1)) (hE : lookT tab e = some (sE, sz)) (hx : ev l x = some (.slice a len cap)) (hy : ev l y = some (.int k iv)) (hiv : iv = (m : Int)) (hm : m ≤ len) :
 Pur P n l S (.slice t x (some y) none none) ty (.slice (if cap = m then a else a.map (·.add (m * sz))) (len - m) (cap - m)) := by
 subst hiv
 unfold Pur
 intro act w dst pos after g ha _; have hu : P.underlying t = some (.slice e) := (T _ _ _ ht).under
 have hel : P.elem t = e := by simp [Program.elem, hu]
 have hu2 : P.underlying t = some (.slice (P.elem t)) := by rw [hel]; exact hu
 obtain ⟨i, hi, hs⟩ := (T _ _ _ hE).info
 have hsz : (Go.sizeOf e).run P w = .ok sz w := by simp [Go.sizeOf, typeInfo, program, Sem.run, bind, Sem.bind, pure, hi, hs]
 have h1 : (Instr.sliceAt t (.slice a len cap) (some (.int k (m : Int))) none none).run P w = .ok (.slice (if cap = m then a else a.map (·.add (m * sz))) (len - m) (cap - m)) w := by
  rw [run_sliceAt_slice w t _ _ _ _ hu2, run_slice_l w t a len cap hu2 k m (by omega) (by omega)]; rw [hel, hsz]
  simp [Result.andThen, sliced]
 simp [execOp, ha.ev hx, ha.ev hy, Sem.run_bind, h1, Result.andThen]
end
theorem FDs.take {S : Nat → Prop} {w : World} {lib : List FD} {a : Option Addr} (h : FDs S w lib a) (m : Nat) : FDs S w (lib.take m) a := by
 rcases h with rfl | ⟨b, o, h1, h2, h3⟩
 · exact Or.inl (by simp)
 · refine Or.inr ⟨b, o, h1, h2, fun i x hi => ?_⟩
   rw [List.getElem?_take] at hi
   split at hi
   · exact h3 i x hi
   · cases hi
theorem FDs.drop {S : Nat → Prop} {w : World} {lib : List FD} {a : Option Addr} {cap : Nat} (h : FDs S w lib a) (m : Nat) (hc : lib.length ≤ cap) : FDs S w (lib.drop m) (if cap = m then a else a.map (·.add (m * 7))) := by
 rcases h with rfl | ⟨b, o, rfl, h2, h3⟩
 · exact Or.inl (by simp)
 · by_cases hm : lib.length ≤ m
   · exact Or.inl (by rw [List.drop_eq_nil_iff]; exact hm)
   · rw [if_neg (by omega)]
     refine Or.inr ⟨b, o + m * 7, ?_, h2, fun i x hi => ?_⟩
     · unfold Addr.add
       by_cases h0 : m * 7 = 0 <;> simp [h0]
     · rw [List.getElem?_drop] at hi
       have := h3 _ x hi; rw [show o + (m + i) * 7 = o + m * 7 + i * 7 by omega] at this
       exact this
theorem libT_split (lib : List FD) (m : Nat) : libT (lib.take m) ++ libT (lib.drop m) = libT lib := by
 unfold libT
 rw [← List.flatten_append, ← List.map_append, List.take_append_drop]
theorem printL_ok {lib : List FD} (h : (printL lib).2 = 0) : (printL lib).1 = libT lib := by
 unfold printL at h ⊢
 split
 · rfl
 · rename_i i e he
   rw [he] at h
   exact absurd h (libErrFrom_ne lib 0 he)
theorem few_lib {lib : List FD} (h : fewL lib = true) (hw : ∀ f ∈ lib, f.wfA) : LibFew lib := by
 unfold fewL at h
 simp only [Bool.and_eq_true, decide_eq_true_eq, List.all_eq_true] at h; refine ⟨by omega, fun f hf => ?_⟩; obtain ⟨⟨h1, h2⟩, h3⟩ := h.2 f hf; obtain ⟨-, -, w3, w4⟩ := hw f hf; have h4 := sizeL_eq _ _ h3
 exact ⟨by omega, by omega, w3, by omega, w4⟩
theorem libFew_sub {lib q : List FD} (h : LibFew lib) (hl : q.length ≤ lib.length) (hs : ∀ f ∈ q, f ∈ lib) : LibFew q := ⟨by have := h.len; omega, fun f hf => h.all f (hs f hf)⟩
theorem printL_len {lib : List FD} (h : LibFew lib) : (printL lib).1.length ≤ 3000000 := by
 unfold printL
 cases hv : libErr lib with
 | none =>
  obtain ⟨h1, h2⟩ := lib_good hv (fun f hf => (h.all f hf).2.2.2.2); have := libT_len h2
  show (libT lib).length ≤ 3000000
  omega
 | some q => obtain ⟨i, e⟩ := q; simp
def BoolR (w : World) (q : Bool) (e : Ending) (w' : World) : Prop := e = .returned (.bool q) ∧ Ext w w'
set_option maxRecDepth 100000 in
set_option maxHeartbeats 4000000 in
theorem join36_c (lib : List FD) (k : Int) (hk : 0 ≤ k ∧ k ≤ 255) (S : Nat → Prop) (a : Option Addr) (c : Nat) (w : World) (hl : lib.length ≤ 9223372036854775807) (hc : lib.length ≤ c) (hw : ∀ f ∈ lib, f.wfA) (hs : FDs S w lib a) (ht : TabsF w) (hE : Errs w) :
 Calls Tryd.prog 5 #[.slice a lib.length c, .int .u8 k] w fun e w' => e = .returned (.bool true) ∧ Ext w w' := by
 have X := Ext.refl w; replace hs := hs.ltA; have HF := Lib.hid (fun (S : Nat → Prop) (a : Option Addr) (c : Nat) (w : World) hs => few36_c lib S a c w hl hw hs)
 cases hf : fewL lib with
 | false =>
  rw [hf] at HF; clear hw; refine calls_in Tryd.func5 Tryd.ntmps5 rfl rfl ?_
  focus
   refine cS (cA rfl rfl (cT (cw_seq (cS ?_)))); refine cC (by kernel_rfl) rfl (awake36_c _ (by assumption) (by assumption)) rfl ?_; rintro _ w2 ⟨⟨⟩, x1⟩; have z3 := x1.size; replace ht := ht.ext x1; replace hE := hE.ext x1; replace X := X.ext x1; replace hs := hs.ext x1; clear x1; refine lw_pure (pur_not rfl) rfl (cM rfl rfl (lw_on rfl rfl rfl (rfl) (cM rfl rfl (lw_on rfl rfl rfl (rfl) ?_)))); refine cC (by kernel_rfl) rfl (HF.out _ _ _ _ (by assumption)) rfl ?_; rintro _ w5 ⟨⟨⟩, x4⟩; have z6 := x4.size; replace ht := ht.ext x4; replace hE := hE.ext x4; replace X := X.ext x4; replace hs := hs.ext x4; clear x4; refine lw_on rfl rfl rfl (rfl) (lw_pure (pur_not rfl) rfl (lw_pure (pur_pick_f rfl rfl rfl) rfl (cT (cw_cond_t rfl (cS ?_))))); refine cC (by kernel_rfl) rfl (awake36_c _ (by assumption) (by assumption)) rfl ?_; rintro _ w8 ⟨⟨⟩, x7⟩; have z9 := x7.size; replace ht := ht.ext x7; replace hE := hE.ext x7; replace X := X.ext x7; replace hs := hs.ext x7; clear x7; refine cA rfl rfl (cT (cw_ret (qw_then_ret (qw_ret1 rfl rfl ?_)))); rotate_left 1
  exact ⟨rfl, X⟩
 | true =>
  rw [hf] at HF; have hL := few_lib hf hw
  have h32 : lib.length ≤ 32 := by unfold fewL at hf; simp only [Bool.and_eq_true, decide_eq_true_eq] at hf; exact hf.1
  clear hw hf
  obtain ⟨m, hm, hml⟩ : ∃ m : Nat, k % ((lib.length : Int) + 1) = m ∧ m ≤ lib.length := by
   have h1 := Int.emod_nonneg k (show (lib.length : Int) + 1 ≠ 0 by omega); have h2 := Int.emod_lt_of_pos k (show (0 : Int) < (lib.length : Int) + 1 by omega)
   exact ⟨(k % ((lib.length : Int) + 1)).toNat, by omega, by omega⟩
  have HA := Lib.hid (fun (S : Nat → Prop) (a : Option Addr) (c : Nat) (w : World) hs ht => Print_c lib S a c w hL hs ht)
  have e1 : (lib.take m).length = m := by rw [List.length_take]; omega
  have e2 : (lib.drop m).length = lib.length - m := List.length_drop ..; have HB := Lib.hid (fun (S : Nat → Prop) (a : Option Addr) (c : Nat) (w : World) hs ht => Print_c (lib.take m) S a c w (libFew_sub hL (by omega) (fun f hf => List.mem_of_mem_take hf)) hs ht); have HC := Lib.hid (fun (S : Nat → Prop) (a : Option Addr) (c : Nat) (w : World) hs ht => Print_c (lib.drop m) S a c w (libFew_sub hL (by omega) (fun f hf => List.mem_of_mem_drop hf)) hs ht); rw [e1] at HB; rw [e2] at HC; have hp1 := Lib.hid (printL_ok (lib := lib)); have hp2 := Lib.hid (printL_ok (lib := lib.take m)); have hp3 := Lib.hid (printL_ok (lib := lib.drop m)); have hsp := Lib.hid (libT_split lib m); have n1 := printL_len hL; have n2 := printL_len (libFew_sub hL (q := lib.take m) (by omega) (fun f hf => List.mem_of_mem_take hf)); have n3 := printL_len (libFew_sub hL (q := lib.drop m) (by omega) (fun f hf => List.mem_of_mem_drop hf)); clear hL e1 e2
  generalize printL lib = z1 at *
  generalize printL (lib.take m) = z2 at *
  generalize printL (lib.drop m) = z3 at *
  obtain ⟨z1s, z1e⟩ := z1; obtain ⟨z2s, z2e⟩ := z2; obtain ⟨z3s, z3e⟩ := z3; dsimp only at n1 n2 n3 hp1 hp2 hp3; refine calls_in Tryd.func5 Tryd.ntmps5 rfl rfl ?_
  focus
   refine cS (cA rfl rfl (cT (cw_seq (cS ?_)))); refine cC (by kernel_rfl) rfl (awake36_c _ (by assumption) (by assumption)) rfl ?_; rintro _ wa2 ⟨⟨⟩, xa1⟩; have za3 := xa1.size; replace ht := ht.ext xa1; replace hE := hE.ext xa1; replace X := X.ext xa1; replace hs := hs.ext xa1; clear xa1; refine lw_pure (pur_not rfl) rfl (cM rfl rfl (lw_on rfl rfl rfl (rfl) (cM rfl rfl (lw_on rfl rfl rfl (rfl) ?_)))); refine cC (by kernel_rfl) rfl (HF.out _ _ _ _ (by assumption)) rfl ?_; rintro _ wa5 ⟨⟨⟩, xa4⟩; have za6 := xa4.size; replace ht := ht.ext xa4; replace hE := hE.ext xa4; replace X := X.ext xa4; replace hs := hs.ext xa4; clear xa4; refine lw_on rfl rfl rfl (rfl) (lw_pure (pur_not rfl) rfl (lw_pure (pur_pick_f rfl rfl rfl) rfl (cT (cw_cond_f rfl (cw_skip (qw_then (cS (cM rfl rfl ?_)))))))); refine lw_pure (pur_conv tabOk rfl rfl rfl (IntWalk.i64_in _ (by omega))) rfl ?_; refine cM rfl rfl (lw_pure (pur_len_slice tabOk rfl rfl) rfl ?_); refine lw_pure (pur_add rfl rfl (IntWalk.i64_in _ (by omega))) rfl ?_; refine lw_pure (pur_rem rfl rfl (by omega) (rem_pos (by omega))) rfl ?_; refine cA rfl rfl (cN (cM rfl rfl ?_)); refine cC (by kernel_rfl) rfl (HA.out _ _ _ _ (by assumption) (by assumption)) rfl ?_; rintro _ wa8 ⟨⟨⟩, xa7⟩; have za9 := xa7.size; replace ht := ht.ext xa7; replace hE := hE.ext xa7; replace X := X.ext xa7; replace hs := hs.ext xa7; clear xa7; refine cM rfl rfl (lw_pure (pur_extract rfl rfl) rfl (lw_pure (pur_extract rfl rfl) rfl (cA rfl rfl (cA rfl rfl (cN (cM rfl rfl (cM rfl rfl ?_)))))))
   refine lw_pure (pur_slH tabOk rfl rfl rfl rfl hm (by omega)) rfl ?_; refine cC (by kernel_rfl) rfl (HB.out _ _ _ _ (FDs.take (by assumption) _) (by assumption)) rfl ?_; rintro _ wa11 ⟨⟨⟩, xa10⟩; have za12 := xa10.size; replace ht := ht.ext xa10; replace hE := hE.ext xa10; replace X := X.ext xa10; replace hs := hs.ext xa10; clear xa10; refine cM rfl rfl (lw_pure (pur_extract rfl rfl) rfl (lw_pure (pur_extract rfl rfl) rfl (cA rfl rfl (cA rfl rfl (cN (cM rfl rfl (cM rfl rfl ?_))))))); refine lw_pure (pur_slL tabOk rfl rfl rfl rfl hm (by omega)) rfl ?_; refine cC (by kernel_rfl) rfl (HC.out _ _ _ _ (FDs.drop (by assumption) _ hc) (by assumption)) rfl ?_; rintro _ wa14 ⟨⟨⟩, xa13⟩; have za15 := xa13.size; replace ht := ht.ext xa13; replace hE := hE.ext xa13; replace X := X.ext xa13; replace hs := hs.ext xa13; clear xa13; refine cM rfl rfl (lw_pure (pur_extract rfl rfl) rfl (lw_pure (pur_extract rfl rfl) rfl (cA rfl rfl (cA rfl rfl (cT (cw_seq (cS (cM rfl rfl (lw_pure (pur_neq rfl rfl) rfl (cM rfl rfl ?_)))))))))); refine lw_dec rfl rfl rfl (fun ca16 => ?_) (fun ca16 => ?_); refine lw_off rfl rfl rfl (gd_ft (by assumption)) rfl ?_; refine lw_off rfl rfl rfl (gd_ft (by assumption)) rfl ?_; refine lw_pure (pur_pick_yes rfl rfl (by assumption)) rfl ?_; refine cM rfl rfl (lw_off rfl rfl rfl (rfl) rfl (lw_off rfl rfl rfl (rfl) rfl (lw_pure (pur_pick_t rfl rfl rfl) rfl (cT (cw_cond_t rfl (cS (cA rfl rfl (cT (cw_ret (qw_then_ret (qw_ret1 rfl rfl ?_))))))))))); rotate_left 1; refine lw_on rfl rfl rfl (gd_ff (by assumption)) ?_
   refine cM rfl rfl ?_; refine lw_on rfl rfl rfl (gd_ff (by assumption)) ?_; refine lw_pure (pur_neq rfl rfl) rfl ?_; refine lw_pure (pur_pick_no rfl rfl (by assumption)) rfl ?_; refine cM rfl rfl ?_; refine lw_dec rfl rfl rfl (fun ca17 => ?_) (fun ca17 => ?_); refine lw_off rfl rfl rfl (gd_ft (by assumption)) rfl ?_; refine lw_off rfl rfl rfl (gd_ft (by assumption)) rfl ?_; refine lw_pure (pur_pick_yes rfl rfl (by assumption)) rfl ?_; refine cT (cw_cond_t rfl (cS (cA rfl rfl (cT (cw_ret (qw_then_ret (qw_ret1 rfl rfl ?_))))))); rotate_left 1; refine lw_on rfl rfl rfl (gd_ff (by assumption)) ?_; refine cM rfl rfl ?_; refine lw_on rfl rfl rfl (gd_ff (by assumption)) ?_; refine lw_pure (pur_neq rfl rfl) rfl ?_; refine lw_pure (pur_pick_no rfl rfl (by assumption)) rfl ?_; refine cT ?_; refine cw_decn rfl (fun ca18 => ?_) (fun ca18 => ?_); refine cS (cA rfl rfl (cT (cw_ret (qw_then_ret (qw_ret1 rfl rfl ?_))))); rotate_left 1; refine cw_skip (qw_then (cS (cM rfl rfl (cM rfl rfl ?_)))); refine lw_pure (pur_sadd rfl rfl (by simp only [List.length_cons, List.length_nil]; omega)) rfl ?_; refine cM rfl rfl (lw_pure (pur_seql rfl rfl) rfl (cA rfl rfl (cT (cw_ret (qw_ret1 rfl rfl ?_))))); rotate_left 1
  all_goals first
   | exact ⟨rfl, X⟩
   | skip
  have h1 := hp1.out (Decidable.not_not.1 ca16); have h2 := hp2.out (Decidable.not_not.1 ca17); have h3 := hp3.out ca18; refine ⟨?_, X⟩
  show Ending.returned (.bool (decide (z2s ++ z3s = z1s))) = _
  rw [h1, h2, h3, hsp.out, decide_eq_true rfl]
end Bk
namespace Bk
open Go Go.RowKit Go.Proofs
def AllB : Nat → Prop := fun _ => True
theorem row_build (W : World) (b o : Nat) : ∀ (len i0 : Nat), (∀ i, i < len → ∃ (t : Nd) (a' : Option Addr) (c' : Nat), t.wf ∧ W.cell? ⟨b, o + (i0 + i) * 4, none⟩ = some (.int .u8 t.kind) ∧ W.cell? ⟨b, o + (i0 + i) * 4 + 1, none⟩ = some (.int .i64 t.num) ∧ W.cell? ⟨b, o + (i0 + i) * 4 + 2, none⟩ = some (str t.name) ∧ W.cell? ⟨b, o + (i0 + i) * 4 + 3, none⟩ = some (.slice a' t.kids.length c') ∧ t.sits AllB W a') →
 ∃ l : List Nd, l.length = len ∧ rowWf l ∧ rowSits AllB W l (some ⟨b, o + i0 * 4, none⟩)
 | 0, _, _ => ⟨[], rfl, by simp [rowWf], by simp [rowSits]⟩
 | len + 1, i0, h => by
  obtain ⟨l, hl, hw, hs⟩ := row_build W b o len (i0 + 1) (fun i hi => by
   have := h (i + 1) (by omega)
   rwa [show i0 + (i + 1) = i0 + 1 + i from by omega] at this)
  obtain ⟨t, a', c', hwf, h0, h1, h2, h3, hsk⟩ := h 0 (by omega); rw [Nat.add_zero] at h0 h1 h2 h3; refine ⟨t :: l, by simp [hl], by simp [rowWf, hwf, hw], ?_⟩; simp only [rowSits]; refine ⟨b, o + i0 * 4, a', c', rfl, trivial, h0, h1, h2, h3, hsk, ?_⟩
  rwa [show o + i0 * 4 + 4 = o + (i0 + 1) * 4 from by omega]
theorem cells4 {W : World} {a : Addr} {cs : List Value} (h : W.cells? 0 a 4 = some cs) : ∃ c0 c1 c2 c3, cs = [c0, c1, c2, c3] ∧ W.cell? (a.add 0) = some c0 ∧ W.cell? (a.add 1) = some c1 ∧ W.cell? (a.add 2) = some c2 ∧ W.cell? (a.add 3) = some c3 := by
 unfold World.cells? at h
 rw [if_pos (Nat.zero_le _)] at h; rw [show List.range 4 = [0, 1, 2, 3] from rfl] at h
 cases e0 : W.cell? (a.add 0) <;> simp [e0] at h
 cases e1 : W.cell? (a.add 1) <;> simp [e1] at h
 cases e2 : W.cell? (a.add 2) <;> simp [e2] at h
 cases e3 : W.cell? (a.add 3) <;> simp [e3] at h
 exact ⟨_, _, _, _, h.symm, rfl, rfl, rfl, rfl⟩
theorem addr_add2 (b o n m : Nat) : ((⟨b, o, none⟩ : Addr).add n).add m = ⟨b, o + n + m, none⟩ := by
 unfold Addr.add
 by_cases hn : n = 0 <;> by_cases hm : m = 0 <;> simp [hn, hm]
theorem cellsNode : Tryd.prog.cellsOf 49 = 4 := by kernel_rfl
theorem cells5 : Tryd.prog.cellsOf 5 = 1 := by kernel_rfl
theorem cells3 : Tryd.prog.cellsOf 3 = 1 := by kernel_rfl
theorem cells9 : Tryd.prog.cellsOf 9 = 1 := by kernel_rfl
theorem cells22 : Tryd.prog.cellsOf 47 = 1 := by kernel_rfl
theorem node_of_trod {H : Type} (enc : TypeId × Value → H) (W : World) (sp : Nat → Bool) (N : Nat) : ∀ (fuel : Nat), fuel < N → ∀ (cs : List Value) (x : DataW H × List MemPlace), DataW.trod enc Tryd.prog W 0 sp true fuel 49 cs = some x →
 ∃ (t : Nd) (a : Option Addr) (c : Nat), cs = [.int .u8 t.kind, .int .i64 t.num, str t.name, .slice a t.kids.length c] ∧ t.wf ∧ t.sits AllB W a := by
 induction N with
 | zero => intro fuel h; omega
 | succ N ih =>
  intro fuel hN cs x h; obtain ⟨xs, n, rfl, -, hl, hlen, hf⟩ := DataW.trod_struct Tryd.underlying49 h; rw [cellsNode] at hl
  obtain ⟨c0, c1, c2, c3, rfl⟩ : ∃ c0 c1 c2 c3, cs = [c0, c1, c2, c3] := by
   rcases cs with _ | ⟨c0, _ | ⟨c1, _ | ⟨c2, _ | ⟨c3, _ | ⟨c4, cs⟩⟩⟩⟩⟩
   · simp at hl
   · simp at hl
   · simp at hl
   · simp at hl
   · exact ⟨_, _, _, _, rfl⟩
   · simp at hl
  obtain ⟨y0, y1, y2, y3, rfl⟩ : ∃ y0 y1 y2 y3, xs = [y0, y1, y2, y3] := by
   have hlen' : xs.length = 4 := hlen
   rcases xs with _ | ⟨c0, _ | ⟨c1, _ | ⟨c2, _ | ⟨c3, _ | ⟨c4, cs⟩⟩⟩⟩⟩
   · simp at hlen'
   · simp at hlen'
   · simp at hlen'
   · simp at hlen'
   · exact ⟨_, _, _, _, rfl⟩
   · simp at hlen'
  · have f0 : DataW.trod enc Tryd.prog W 0 sp true n 5 (([c0, c1, c2, c3].drop 0).take (Tryd.prog.cellsOf 5)) = some y0 := hf 0 _ rfl
    have f1 : DataW.trod enc Tryd.prog W 0 sp true n 3 (([c0, c1, c2, c3].drop 1).take (Tryd.prog.cellsOf 3)) = some y1 := hf 1 _ rfl; have f2 : DataW.trod enc Tryd.prog W 0 sp true n 9 (([c0, c1, c2, c3].drop 2).take (Tryd.prog.cellsOf 9)) = some y2 := hf 2 _ rfl; have f3 : DataW.trod enc Tryd.prog W 0 sp true n 47 (([c0, c1, c2, c3].drop 3).take (Tryd.prog.cellsOf 47)) = some y3 := hf 3 _ rfl; simp only [cells5, cells3, cells9, cells22, List.drop_zero, List.drop_succ_cons, List.take_succ_cons, List.take_zero] at f0 f1 f2 f3; obtain ⟨k, hk, -, wk⟩ := DataW.trod_int (show Tryd.prog.underlying 5 = some (.int .u8) by kernel_rfl) f0; obtain ⟨m, hm, -, wm⟩ := DataW.trod_int Tryd.underlying3 f1; obtain ⟨s, hs, -, ws⟩ := DataW.trod_string (show Tryd.prog.underlying 9 = some .string by kernel_rfl) f2; simp only [List.cons.injEq, and_true] at hk hm hs; subst hk hm hs
    have wk' : 0 ≤ k ∧ k ≤ 255 := by simpa [Lit.wf, IntKind.min, IntKind.max, IntKind.signed, IntKind.bits] using wk
    have wm' : -9223372036854775808 ≤ m ∧ m ≤ 9223372036854775807 := by simpa [Lit.wf, IntKind.min, IntKind.max, IntKind.signed, IntKind.bits] using wm
    have ws' : s.data.toList.length ≤ 9223372036854775807 := by
     have : s.data.toList.length = s.size := by rw [Array.length_toList]; rfl
     unfold maxLen at ws; omega
    rcases DataW.trod_slice Tryd.underlying47 f3 with ⟨hc, -⟩ | ⟨a, len, cap, elems, rest, n', hn', hc, -, -, hle, hcm, hel, hE, -⟩
    · simp only [List.cons.injEq, and_true] at hc
      subst hc
      exact ⟨.mk k m s.data.toList [], none, 0, rfl, ⟨wk'.1, wk'.2, wm'.1, wm'.2, ws', by simp, by simp [rowWf]⟩, by simp [Nd.sits, rowSits]⟩
    · simp only [List.cons.injEq, and_true] at hc
      subst hc; rw [cellsNode] at hE
      rcases Nat.eq_zero_or_pos len with h0 | hpos
      · subst h0
        exact ⟨.mk k m s.data.toList [], some a, cap, rfl, ⟨wk'.1, wk'.2, wm'.1, wm'.2, ws', by simp, by simp [rowWf]⟩, by simp [Nd.sits, rowSits]⟩
      · have step : ∀ i, i < len → ∃ (t : Nd) (a' : Option Addr) (c' : Nat), t.wf ∧ W.cell? ((a.add (i * 4)).add 0) = some (.int .u8 t.kind) ∧ W.cell? ((a.add (i * 4)).add 1) = some (.int .i64 t.num) ∧ W.cell? ((a.add (i * 4)).add 2) = some (str t.name) ∧ W.cell? ((a.add (i * 4)).add 3) = some (.slice a' t.kids.length c') ∧ t.sits AllB W a' := by
         intro i hi; have hEi := hE i hi
         cases hc4 : W.cells? 0 (a.add (i * 4)) 4 with
         | none =>
          rw [hc4] at hEi; have hh : elems[i]? = some elems[i] := List.getElem?_eq_getElem (by omega); rw [hh] at hEi
          simp at hEi
         | some cs4 =>
          rw [hc4, List.getElem?_eq_getElem (by omega)] at hEi; obtain ⟨d0, d1, d2, d3, rfl, e0, e1, e2, e3⟩ := cells4 hc4; obtain ⟨t, a', c', hcs, hw, hs⟩ := ih n' (by omega) _ _ hEi; simp only [List.cons.injEq, and_true] at hcs; obtain ⟨rfl, rfl, rfl, rfl⟩ := hcs
          exact ⟨t, a', c', hw, e0, e1, e2, e3, hs⟩
        obtain ⟨b, o, spot⟩ := a
        have hspot : spot = none := by
         obtain ⟨t, a', c', -, e0, -⟩ := step 0 hpos; simp only [Nat.zero_mul, Addr.add, if_true] at e0
         unfold World.cell? at e0
         cases spot with
         | none => rfl
         | some q => simp at e0; split at e0 <;> simp at e0
        subst hspot
        obtain ⟨l, hl', hw', hs'⟩ := row_build W b o len 0 (fun i hi => by
         obtain ⟨t, a', c', hw, e0, e1, e2, e3, hs⟩ := step i hi; rw [addr_add2] at e0 e1 e2 e3; rw [Nat.zero_add]
         exact ⟨t, a', c', hw, e0, e1, e2, e3, hs⟩)
        subst hl'; refine ⟨.mk k m s.data.toList l, some ⟨b, o, none⟩, cap, rfl, ⟨wk'.1, wk'.2, wm'.1, wm'.2, ws', by unfold maxLen at hcm; omega, hw'⟩, ?_⟩
        simpa [Nd.sits] using hs'
end Bk
namespace Bk
open Go Go.RowKit Go.Proofs
section
theorem cells_rowF {W : World} {p : Addr} {k : Nat} {cs : List Value} (h : W.cells? 0 p k = some cs) : Row W p cs ∧ cs.length = k := by
 unfold World.cells? at h
 rw [if_pos (Nat.zero_le _)] at h; refine ⟨fun i v hi => ?_, by simpa using mapM_some_length h⟩
 have hl : cs.length = k := by simpa using mapM_some_length h
 have hik : i < k := by
  rcases Nat.lt_or_ge i cs.length with h' | h'
  · omega
  · rw [List.getElem?_eq_none h'] at hi; cases hi
 have := mapM_some_get h i i (by simp [hik]); rw [hi] at this
 exact this
theorem addr_addF (b o i : Nat) : (⟨b, o, none⟩ : Addr).add i = ⟨b, o + i, none⟩ := by unfold Addr.add; by_cases h0 : i = 0 <;> simp [h0]
theorem arr_of_trodC {α H : Type} (enc : TypeId × Value → H) (W : World) (sp : Nat → Bool) {t e k : Nat} (ht : Tryd.prog.underlying t = some (.slice e)) (hk : Tryd.prog.cellsOf e = k) (hk0 : 0 < k) (G : List Value → α → Prop)
 {fuel : Nat} (hG : ∀ (n : Nat) (cs : List Value) (x : DataW H × List MemPlace), n < fuel → DataW.trod enc Tryd.prog W 0 sp true n e cs = some x → ∃ y, G cs y) {c : Value} {x : DataW H × List MemPlace} (h : DataW.trod enc Tryd.prog W 0 sp true fuel t [c] = some x) :
 ∃ (l : List α) (a : Option Addr) (cap : Nat), c = .slice a l.length cap ∧ l.length ≤ 9223372036854775807 ∧ l.length ≤ cap ∧ Arr AllB k (fun w b o y => ∃ cs, Row w ⟨b, o, none⟩ cs ∧ G cs y) W l a := by
 rcases DataW.trod_slice ht h with ⟨hc, -⟩ | ⟨a, len, cap, elems, rest, n', hn', hc, -, -, hle, hcm, hel, hE, -⟩
 · simp only [List.cons.injEq, and_true] at hc
   exact ⟨[], none, 0, hc, by simp, by simp, Or.inl rfl⟩
 · simp only [List.cons.injEq, and_true] at hc
   rw [hk] at hE
   unfold maxLen at hcm
   rcases Nat.eq_zero_or_pos len with h0 | hpos
   · subst h0
     exact ⟨[], some a, cap, hc, by simp, by simp, Or.inl rfl⟩
   · have step : ∀ i, i < len → ∃ y cs, Row W (a.add (i * k)) cs ∧ cs.length = k ∧ G cs y := fun i hi => by
      have hEi := hE i hi
      cases hc4 : W.cells? 0 (a.add (i * k)) k with
      | none =>
       rw [hc4, List.getElem?_eq_getElem (by omega)] at hEi
       simp at hEi
      | some cs =>
       rw [hc4, List.getElem?_eq_getElem (by omega)] at hEi; obtain ⟨r1, r2⟩ := cells_rowF hc4; obtain ⟨y, hy⟩ := hG n' cs _ (by omega) hEi
       exact ⟨y, cs, r1, r2, hy⟩
     obtain ⟨b, o, spot⟩ := a
     have hspot : spot = none := by
      obtain ⟨y, cs, r, hl, -⟩ := step 0 hpos; simp only [Nat.zero_mul, Addr.add, if_true] at r
      cases cs with
      | nil => simp at hl; omega
      | cons v vs =>
       have := r 0 v rfl; simp only [Addr.add, if_true] at this
       exact cell_spot this
     subst hspot
     have hl : ∃ l : List α, l.length = len ∧ ∀ i y, l[i]? = some y → ∃ cs, Row W ⟨b, o + i * k, none⟩ cs ∧ G cs y := by
      have key : ∀ m, m ≤ len → ∃ l : List α, l.length = m ∧ ∀ i y, l[i]? = some y → ∃ cs, Row W ⟨b, o + i * k, none⟩ cs ∧ G cs y := by
       intro m
       induction m with
       | zero => intro _; exact ⟨[], rfl, by simp⟩
       | succ m ih =>
        intro hm; obtain ⟨l, h1, h2⟩ := ih (by omega); obtain ⟨y, cs, r, -, hg⟩ := step m (by omega); rw [addr_addF] at r; refine ⟨l ++ [y], by simp [h1], fun i z hz => ?_⟩
        rcases Nat.lt_or_ge i m with hi | hi
        · rw [List.getElem?_append_left (by omega)] at hz; exact h2 i z hz
        · rw [List.getElem?_append_right (by omega)] at hz
          obtain rfl : i = m := by
           rcases Nat.lt_or_ge m i with h' | h'
           · rw [List.getElem?_eq_none (by simp; omega)] at hz; cases hz
           · omega
          simp [h1] at hz
          subst hz
          exact ⟨cs, r, hg⟩
      exact key len (Nat.le_refl _)
     obtain ⟨l, h1, h2⟩ := hl; subst h1
     exact ⟨l, some ⟨b, o, none⟩, cap, hc, by omega, by omega, Or.inr ⟨b, o, rfl, trivial, h2⟩⟩
theorem len2F {cs : List Value} (h : cs.length = 2) : ∃ a b, cs = [a, b] := by
 rcases cs with _ | ⟨a, _ | ⟨b, _ | ⟨c, r⟩⟩⟩ <;> simp at h; exact ⟨a, b, rfl⟩
theorem len7F {cs : List Value} (h : cs.length = 7) : ∃ a b c d e f g, cs = [a, b, c, d, e, f, g] := by
 rcases cs with _ | ⟨a, _ | ⟨b, _ | ⟨c, _ | ⟨d, _ | ⟨e, _ | ⟨f, _ | ⟨g, _ | ⟨i, r⟩⟩⟩⟩⟩⟩⟩⟩ <;> simp at h; exact ⟨a, b, c, d, e, f, g, rfl⟩
theorem get_of_lenF {α : Type} {xs : List α} {n i : Nat} (h : xs.length = n) (hi : i < n) : ∃ y, xs[i]? = some y := ⟨xs[i], List.getElem?_eq_getElem (by omega)⟩
theorem cFP : Tryd.prog.cellsOf 64 = 2 := by kernel_rfl
theorem cFPs : Tryd.prog.cellsOf 46 = 1 := by kernel_rfl
theorem cFD : Tryd.prog.cellsOf 51 = 7 := by kernel_rfl
theorem cBool : Tryd.prog.cellsOf 4 = 1 := by kernel_rfl
end
section
variable {H : Type} (enc : TypeId × Value → H) (W : World) (sp : Nat → Bool)
theorem fp_of_trod {fuel : Nat} {cs : List Value} {x : DataW H × List MemPlace} (h : DataW.trod enc Tryd.prog W 0 sp true fuel 64 cs = some x) : ∃ v : FP, cs = v.cells ∧ v.name.length ≤ 9223372036854775807 := by
 obtain ⟨xs, n, rfl, -, hl, hlen, hf⟩ := DataW.trod_struct Tryd.underlying64 h; rw [cFP] at hl; obtain ⟨c0, c1, rfl⟩ := len2F hl; obtain ⟨y0, e0⟩ := get_of_lenF (i := 0) hlen (by decide); obtain ⟨y1, e1⟩ := get_of_lenF (i := 1) hlen (by decide); have f0 : DataW.trod enc Tryd.prog W 0 sp true n 9 (([c0, c1].drop 0).take (Tryd.prog.cellsOf 9)) = some y0 := (hf 0 _ rfl).trans e0; have f1 : DataW.trod enc Tryd.prog W 0 sp true n 4 (([c0, c1].drop 1).take (Tryd.prog.cellsOf 4)) = some y1 := (hf 1 _ rfl).trans e1; simp only [cells9, cBool, List.drop_zero, List.drop_succ_cons, List.take_succ_cons, List.take_zero] at f0 f1; obtain ⟨s, hs, -, ws⟩ := DataW.trod_string underStr f0; obtain ⟨b, hb, -⟩ := DataW.trod_bool Tryd.underlying4 f1; simp only [List.cons.injEq, and_true] at hs hb; subst hs hb
 have ws' : s.data.toList.length ≤ 9223372036854775807 := by
  have : s.data.toList.length = s.size := by rw [Array.length_toList]; rfl
  unfold maxLen at ws; omega
 exact ⟨⟨s.data.toList, b⟩, rfl, ws'⟩
theorem fps_of_trod {fuel : Nat} {c : Value} {x : DataW H × List MemPlace} (h : DataW.trod enc Tryd.prog W 0 sp true fuel 46 [c] = some x) :
 ∃ (l : List FP) (a : Option Addr) (cap : Nat), c = .slice a l.length cap ∧ l.length ≤ 9223372036854775807 ∧ (∀ v ∈ l, v.name.length ≤ 9223372036854775807) ∧ FPs AllB W l a := by
 obtain ⟨l, a, cap, h1, h2, -, h3⟩ := arr_of_trodC (α := FP) enc W sp Tryd.underlying46 cFP (by decide) (fun cs v => cs = v.cells ∧ v.name.length ≤ 9223372036854775807) (fun n cs x _ hx => fp_of_trod enc W sp hx) h; refine ⟨l, a, cap, h1, h2, fun v hv => ?_, h3.mono (fun _ h => h) (fun b o v _ _ ⟨cs, r, e, _⟩ => by subst e; exact r)⟩
 rcases h3 with rfl | ⟨b, o, -, -, hh⟩
 · cases hv
 · obtain ⟨i, hi, rfl⟩ := List.mem_iff_getElem.1 hv
   obtain ⟨cs, -, -, hw⟩ := hh i _ (List.getElem?_eq_getElem hi)
   exact hw
theorem fd_of_trod {fuel : Nat} {cs : List Value} {x : DataW H × List MemPlace} (h : DataW.trod enc Tryd.prog W 0 sp true fuel 51 cs = some x) : ∃ f : FD, (∃ pa pc ba bc, cs = f.cells pa pc ba bc ∧ FPs AllB W f.params pa ∧ f.body.sits AllB W ba) ∧ f.wfA := by
 obtain ⟨xs, n, rfl, -, hl, hlen, hf⟩ := DataW.trod_struct Tryd.underlying51 h; rw [cFD] at hl; obtain ⟨c0, c1, c2, c3, c4, c5, c6, rfl⟩ := len7F hl; obtain ⟨y0, e0⟩ := get_of_lenF (i := 0) hlen (by decide); obtain ⟨y1, e1⟩ := get_of_lenF (i := 1) hlen (by decide); obtain ⟨y2, e2⟩ := get_of_lenF (i := 2) hlen (by decide); obtain ⟨y3, e3⟩ := get_of_lenF (i := 3) hlen (by decide); have f0 : DataW.trod enc Tryd.prog W 0 sp true n 9 (([c0, c1, c2, c3, c4, c5, c6].drop 0).take (Tryd.prog.cellsOf 9)) = some y0 := (hf 0 _ rfl).trans e0; have f1 : DataW.trod enc Tryd.prog W 0 sp true n 46 (([c0, c1, c2, c3, c4, c5, c6].drop 1).take (Tryd.prog.cellsOf 46)) = some y1 := (hf 1 _ rfl).trans e1; have f2 : DataW.trod enc Tryd.prog W 0 sp true n 4 (([c0, c1, c2, c3, c4, c5, c6].drop 2).take (Tryd.prog.cellsOf 4)) = some y2 := (hf 2 _ rfl).trans e2; have f3 : DataW.trod enc Tryd.prog W 0 sp true n 49 (([c0, c1, c2, c3, c4, c5, c6].drop 3).take (Tryd.prog.cellsOf 49)) = some y3 := (hf 3 _ rfl).trans e3; simp only [cFPs, cBool, cells9, cellsNode, List.drop_zero, List.drop_succ_cons, List.take_succ_cons, List.take_zero] at f0 f1 f2 f3; obtain ⟨s, hs, -, ws⟩ := DataW.trod_string underStr f0; obtain ⟨l, pa, pc, hc, hll, hlw, hls⟩ := fps_of_trod enc W sp f1; obtain ⟨q, hq, -⟩ := DataW.trod_bool Tryd.underlying4 f2; obtain ⟨t, ba, bc, hcs, hw, hsit⟩ := node_of_trod enc W sp (n + 1) n (by omega) _ _ f3; simp only [List.cons.injEq, and_true] at hs hcs hq; obtain ⟨rfl, rfl, rfl, rfl⟩ := hcs; subst hs hc hq
 have ws' : s.data.toList.length ≤ 9223372036854775807 := by
  have : s.data.toList.length = s.size := by rw [Array.length_toList]; rfl
  unfold maxLen at ws; omega
 exact ⟨⟨s.data.toList, l, q, t⟩, ⟨pa, pc, ba, bc, rfl, hls, hsit⟩, ws', hll, hlw, hw⟩
set_option maxRecDepth 100000 in
theorem lib_of_trod {r : Reach} {b0 : Nat} {v : Value} {d : DataW H} {ps : List MemPlace} {sp : Nat → Bool} (hval : Value.okWide Tryd.prog W r b0 23 v) (h : DataW.Trod enc Tryd.prog W 0 sp true 23 v d ps) :
 ∃ (l : List FD) (a : Option Addr) (c : Nat), v = .slice a l.length c ∧ l.length ≤ 9223372036854775807 ∧ l.length ≤ c ∧ (∀ f ∈ l, f.wfA) ∧ FDs AllB W l a := by
 obtain ⟨a0, len, cap, rfl⟩ := Go.WideShapes.okWide_slice Tryd.underlying23 hval; obtain ⟨fuel, hf⟩ := h; obtain ⟨l, a, c, h1, h2, h3, h4⟩ := arr_of_trodC (α := FD) enc W sp Tryd.underlying23 cFD (by decide) (fun cs f => (∃ pa pc ba bc, cs = f.cells pa pc ba bc ∧ FPs AllB W f.params pa ∧ f.body.sits AllB W ba) ∧ f.wfA) (fun n cs x _ hx => fd_of_trod enc W sp hx) hf; refine ⟨l, a, c, h1, h2, h3, fun f hf => ?_, ?_⟩
 · rcases h4 with rfl | ⟨b, o, -, -, hh⟩
   · cases hf
   · obtain ⟨i, hi, rfl⟩ := List.mem_iff_getElem.1 hf
     obtain ⟨cs, -, -, hw⟩ := hh i _ (List.getElem?_eq_getElem hi)
     exact hw
 · refine h4.mono (fun _ h => h) (fun b o p _ _ ⟨cs, r, ⟨pa, pc, ba, bc, e, h1, h2⟩, _⟩ => ?_)
   subst e
   exact ⟨pa, pc, ba, bc, r, h1, h2⟩
end
end Bk
namespace Bk
open Go Go.RowKit Go.Proofs
theorem FuntextJoin_d (lib : List FD) (a : Option Addr) (c : Nat) (k : Int) (w : World) (hl : lib.length ≤ 9223372036854775807) (hc : lib.length ≤ c) (hw : ∀ f ∈ lib, f.wfA) (hs : FDs AllB w lib a) (h0 : 0 ≤ k) (h1 : k ≤ 255) (ht : TabsF w) (hE : Errs w) :
 Calls Tryd.prog 5 #[.slice a lib.length c, .int .u8 k] w fun e w' => e = .returned (.bool true) ∧ Ext w w' := join36_c lib k ⟨h0, h1⟩ AllB a c w hl hc hw hs ht hE
end Bk
namespace Bk
open Go Go.RowKit Go.Proofs Go.Lib
theorem cells_of_strs {H : Type} {enc : TypeId × Value → H} {P : Program} {w : World} {base : Nat} {sp : Nat → Bool} {held : Bool} {fuel : Nat} {t e : TypeId} {n : Nat} {cs : List Value} {zs : List (List UInt8)} {p : List MemPlace}
 (ht : P.underlying t = some (.array n e)) (he : P.underlying e = some .string) (hce : P.cellsOf e = 1) (hct : P.cellsOf t = n)
 (h : DataW.trod enc P w base sp held fuel t cs = some (.agg (zs.map fun z => .lit (.string z)), p)) : cs = zs.map str := by
 cases fuel with
 | zero => simp [DataW.trod] at h
 | succ fuel =>
  simp only [DataW.trod, ht, hce, hct, Nat.mul_one] at h
  split at h
  · rename_i hl
    obtain ⟨xs, hm, hx⟩ := Option.map_eq_some_iff.1 h
    have hxs : xs.map (·.1) = zs.map fun z => (DataW.lit (.string z) : DataW H) := by
     have := congrArg Prod.fst hx
     simpa using this
    have hxl : xs.length = n := by simpa using mapM_length hm
    have hzl : zs.length = n := by
     have := congrArg List.length hxs
     simp at this
     omega
    apply List.ext_getElem?
    intro i
    by_cases hi : i < n
    · obtain ⟨b, hb, hf⟩ := mapM_at hm i i (by simp [hi])
      obtain ⟨z, hc, rfl, _⟩ := DataW.trod_string he hf
      have h1 : cs[i]? = some (.string z) := by
       have := congrArg (·[0]?) hc
       simpa [List.getElem?_take, List.getElem?_drop] using this
      have h2 : (xs.map (·.1))[i]? = some (DataW.lit (.string z.data.toList) : DataW H) := by simp [hb]
      rw [hxs] at h2; simp only [List.getElem?_map, Option.map_eq_some_iff, DataW.lit.injEq, Lit.string.injEq] at h2; obtain ⟨z', hz', rfl⟩ := h2
      simp [h1, hz']
    · rw [List.getElem?_eq_none (by omega), List.getElem?_eq_none (by simp; omega)]
  · cases h
end Bk
namespace Bk
open Go Go.RowKit Go.Proofs Go.Lib
theorem gSym4 : Tryd.prog.globalNamed "backstep/arith.symbols" = some 0 := by kernel_rfl
theorem gSymT4 : (Tryd.prog.globals[0]?).map (·.type) = some 77 := by kernel_rfl
theorem uSymT4 : Tryd.prog.underlying 77 = some (.array 43 9) := by kernel_rfl
theorem cSymT4 : Tryd.prog.cellsOf 77 = 43 := by kernel_rfl
theorem uStr4 : Tryd.prog.underlying 9 = some .string := by kernel_rfl
theorem cStr4 : Tryd.prog.cellsOf 9 = 1 := by kernel_rfl
theorem gErr4 : Tryd.prog.globalNamed "strconv.ErrRange" = some 6 := by kernel_rfl
theorem gErrT4 : (Tryd.prog.globals[6]?).map (·.type) = some 67 := by kernel_rfl
theorem uErr4 : ∃ ms, Tryd.prog.underlying 67 = some (.interface ms) := ⟨_, Tryd.underlying67⟩
theorem symData4 : (YtmmjpjmkkhflkaaDoor.Rows.laid_backstep_arith_symbols : DataW Unit) = .agg (symbols.map fun z => .lit (.string z)) := rfl
abbrev laid4 : List (String × DataW Unit) := [("backstep/arith.symbols", YtmmjpjmkkhflkaaDoor.Rows.laid_backstep_arith_symbols), ("math/bits.deBruijn32tab", YtmmjpjmkkhflkaaDoor.Rows.laid_math_bits_deBruijn32tab), ("math/bits.deBruijn64tab", YtmmjpjmkkhflkaaDoor.Rows.laid_math_bits_deBruijn64tab), ("internal/strconv.uint64pow10", YtmmjpjmkkhflkaaDoor.Rows.laid_internal_strconv_uint64pow10), ("strconv.ErrRange", YtmmjpjmkkhflkaaDoor.Rows.laid_strconv_ErrRange), ("strconv.ErrSyntax", YtmmjpjmkkhflkaaDoor.Rows.laid_strconv_ErrSyntax)]
theorem syms_of_laid {W : World} (h : laidMetH Tryd.prog laid4 W) : Syms W ∧ Errs W := by
 have h' : laidMet Tryd.prog laid4 W := h; obtain ⟨ps, ⟨g1, t1, cs1, f1, p1, q1, hg1, ht1, hv1, hd1, ⟨g2, t2, cs2, f2, p2, q2, hg2, ht2, hv2, hd2, ⟨g3, t3, cs3, f3, p3, q3, hg3, ht3, hv3, hd3, ⟨g4, t4, cs4, f4, p4, q4, hg4, ht4, hv4, hd4, ⟨g5, t5, cs5, f5, p5, q5, hg5, ht5, hv5, hd5, -, -⟩, -⟩, -⟩, -⟩, -⟩, -⟩ := h'; obtain rfl := Option.some.inj (gSym4.symm.trans hg1); obtain rfl := Option.some.inj (gSymT4.symm.trans ht1); obtain rfl := Option.some.inj (gErr4.symm.trans hg5); obtain rfl := Option.some.inj (gErrT4.symm.trans ht5); rw [symData4] at hd1; have e1 := cells_of_strs uSymT4 uStr4 cStr4 cSymT4 hd1; refine ⟨⟨fun i hi => ?_⟩, ?_⟩
 · rw [World.var?_cell gSym4 hv1 i, ← Array.getElem?_toList, e1, List.getElem?_map]
   have : symbols[i]? = some (symbols.getD i []) := by
    rw [List.getD_eq_getElem?_getD, List.getElem?_eq_getElem (show i < symbols.length from hi)]; rfl
   rw [this]; rfl
 · obtain ⟨ms, hu⟩ := uErr4
   obtain ⟨f, u, v, hc, -, -⟩ := iface_of_trod hu hd5; refine ⟨⟨u, v, ?_⟩⟩; rw [World.var?_cell gErr4 hv5 0, ← Array.getElem?_toList, hc]
   rfl
end Bk
namespace Bk
open Go Go.RowKit Go.Proofs Go.Lib
theorem gPow36 : Tryd.prog.globalNamed "internal/strconv.uint64pow10" = some 2 := by kernel_rfl
theorem gPowT36 : (Tryd.prog.globals[2]?).map (·.type) = some 125 := by kernel_rfl
theorem uPowT36 : Tryd.prog.underlying 125 = some (.array 20 118) := by kernel_rfl
theorem uU6436 : Tryd.prog.underlying 118 = some (.int .u64) := by kernel_rfl
theorem cU6436 : Tryd.prog.cellsOf 118 = 1 := by kernel_rfl
theorem cPowT36 : Tryd.prog.cellsOf 125 = 20 := by kernel_rfl
theorem powData36 : (YtmmjpjmkkhflkaaDoor.Rows.laid_internal_strconv_uint64pow10 : DataW Unit) = tabData .u64 pow10Tab := rfl
theorem heap36_of_laid {W : World} (h : laidMetH Tryd.prog laid4 W) : Tryd.prog.globals.size ≤ W.heap.size := by
 have h' : laidMet Tryd.prog laid4 W := h; obtain ⟨ps, ⟨g1, t1, cs1, f1, p1, q1, hg1, ht1, hv1, hd1, ⟨g2, t2, cs2, f2, p2, q2, hg2, ht2, hv2, hd2, ⟨g3, t3, cs3, f3, p3, q3, hg3, ht3, hv3, hd3, ⟨g4, t4, cs4, f4, p4, q4, hg4, ht4, hv4, hd4, ⟨g5, t5, cs5, f5, p5, q5, hg5, ht5, hv5, hd5, ⟨g6, t6, cs6, f6, p6, q6, hg6, ht6, hv6, hd6, -, -⟩, -⟩, -⟩, -⟩, -⟩, -⟩, -⟩ := h'
 have key : ∀ (nm : String) (g : Nat) (v : _), Tryd.prog.globalNamed nm = some g → W.var? Tryd.prog nm = some v → g < W.heap.size := by
  intro nm g v hg hv
  rcases Nat.lt_or_ge g W.heap.size with hlt | hge
  · exact hlt
  · unfold World.var? at hv
    rw [hg] at hv
    simp [Array.getElem?_eq_none hge] at hv
 have k5 := key _ 6 _ (by kernel_rfl) hv5; have k6 := key _ 5 _ (by kernel_rfl) hv6; have k4 := key _ 2 _ (by kernel_rfl) hv4; have k3 := key _ 4 _ (by kernel_rfl) hv3; have hn : Tryd.prog.globals.size ≤ max (max 6 5) (max 2 4) + 1 := of_decide_eq_true (by kernel_rfl)
 omega
theorem tabs36_of_laid {W : World} (h : laidMetH Tryd.prog laid4 W) : TabsF W ∧ Errs W := by
 obtain ⟨hS, hE⟩ := syms_of_laid h; have hg := heap36_of_laid h; have h' : laidMet Tryd.prog laid4 W := h; obtain ⟨ps, ⟨g1, t1, cs1, f1, p1, q1, hg1, ht1, hv1, hd1, ⟨g2, t2, cs2, f2, p2, q2, hg2, ht2, hv2, hd2, ⟨g3, t3, cs3, f3, p3, q3, hg3, ht3, hv3, hd3, ⟨g4, t4, cs4, f4, p4, q4, hg4, ht4, hv4, hd4, -, -⟩, -⟩, -⟩, -⟩, -⟩ := h'; obtain rfl := Option.some.inj (gPow36.symm.trans hg4); obtain rfl := Option.some.inj (gPowT36.symm.trans ht4); rw [powData36] at hd4; have e4 := cells_of_tab uPowT36 uU6436 cU6436 cPowT36 hd4; refine ⟨⟨⟨hS.sym, ?_⟩, hg⟩, hE⟩
 unfold TabIs
 rw [hv4, ← e4]
end Bk
