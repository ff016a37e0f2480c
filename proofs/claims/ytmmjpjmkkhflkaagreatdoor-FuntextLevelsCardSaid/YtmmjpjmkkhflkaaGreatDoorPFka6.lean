/- Texts that the proofs of FuntextBack, FuntextLevels need. No condition. (Part 6 of 7.) -/
import Derived.Test.YtmmjpjmkkhflkaaGreatDoorPFka5
set_option linter.unusedSimpArgs false
set_option linter.unusedVariables false
namespace Bk
open Go
def wrapT (lv : Int) (h : Int × Int) (t : List UInt8) : List UInt8 := if h.1 = 82 ∧ level h.2 < lv then [40] ++ t ++ [41] else t
def appT (w : List UInt8) (ts : List (List UInt8)) : List UInt8 := w ++ [40] ++ Lib.join ts [44, 32] ++ [41]
def textN (k n : Int) (s : List UInt8) (ts : List (List UInt8)) (hs : List (Int × Int)) : List UInt8 :=
 if k = 80 then Lib.itoa n
 else if k = 81 then s
 else if k = 82 then wrapT (level n) (hs.getD 0 (0, 0)) (ts.getD 0 []) ++ [32] ++ symbol n ++ [32] ++ wrapT (level n + 1) (hs.getD 1 (0, 0)) (ts.getD 1 [])
 else if k = 83 then [105, 102, 32] ++ ts.getD 0 [] ++ [32, 123, 32] ++ ts.getD 1 [] ++ [32, 125, 32, 101, 108, 115, 101, 32, 123, 32] ++ ts.getD 2 [] ++ [32, 125]
 else if k = 84 then [108, 111, 99, 97, 108, 32] ++ s ++ [32, 61, 32] ++ ts.getD 0 [] ++ [32, 123, 32] ++ ts.getD 1 [] ++ [32, 125]
 else if k = 86 then [91, 93]
 else if k = 87 then appT [112, 117, 115, 104] ts
 else if k = 89 then appT [112, 111, 112] ts
 else if k = 88 then appT [116, 111, 112] ts
 else if k = 90 then [33] ++ wrapT 9 (hs.getD 0 (0, 0)) (ts.getD 0 [])
 else appT s ts
mutual
def Nd.ftext : Nd → List UInt8
 | .mk k n s l => textN k n s (rowText l) (l.map fun t => (t.kind, t.num))
def rowText : List Nd → List (List UInt8)
 | [] => []
 | t :: r => t.ftext :: rowText r
end
theorem rowText_map : ∀ l : List Nd, rowText l = l.map Nd.ftext
 | [] => rfl
 | t :: r => by simp only [rowText, List.map_cons, rowText_map r]
mutual
def Nd.okT : Nd → Prop
 | .mk k n s l => formN k n s l.length = true ∧ s.length ≤ 12 ∧ n ≤ 9223372036854775807 ∧ rowOkT l
def rowOkT : List Nd → Prop
 | [] => True
 | t :: r => t.okT ∧ rowOkT r
end
theorem rowOkT_mem {l : List Nd} (h : rowOkT l) {x : Nd} (hx : x ∈ l) : x.okT := by
 induction l with
 | nil => cases hx
 | cons a r ih =>
  rcases List.mem_cons.1 hx with rfl | hx
  · exact h.1
  · exact ih h.2 hx
theorem formN_num {k n : Int} {s : List UInt8} {c : Nat} (h : formN k n s c = true) : 0 ≤ n := by
 unfold formN at h
 repeat' split at h
 all_goals simp at h
 all_goals omega
theorem join_two (x y : List UInt8) (r : List (List UInt8)) (s : List UInt8) : Lib.join (x :: y :: r) s = x ++ s ++ Lib.join (y :: r) s := by
 simp only [Lib.join]; rw [List.intercalate, List.intercalate, List.intersperse_cons_cons]
 simp
theorem join_len (s : List UInt8) : ∀ ts : List (List UInt8), (Lib.join ts s).length ≤ (ts.map List.length).sum + s.length * ts.length
 | [] => by simp [Lib.join_nil]
 | [x] => by simp [Lib.join_one]
 | x :: y :: r => by
  have := join_len s (y :: r); rw [join_two]; simp only [List.length_append, List.map_cons, List.sum_cons, List.length_cons, Nat.mul_add, Nat.mul_one] at this ⊢
  omega
theorem symbol_len {n : Int} (h : 8 ≤ n) (h2 : n ≤ 23) : (symbol n).length ≤ 2 := by
 have : n = 8 ∨ n = 9 ∨ n = 10 ∨ n = 11 ∨ n = 12 ∨ n = 13 ∨ n = 14 ∨ n = 15 ∨ n = 16 ∨ n = 17 ∨ n = 18 ∨ n = 19 ∨ n = 20 ∨ n = 21 ∨ n = 22 ∨ n = 23 := by omega
 rcases this with rfl | rfl | rfl | rfl | rfl | rfl | rfl | rfl | rfl | rfl | rfl | rfl | rfl | rfl | rfl | rfl <;> decide
theorem wrap_len (lv : Int) (h : Int × Int) (t : List UInt8) : (wrapT lv h t).length ≤ t.length + 2 := by
 unfold wrapT
 split
 · simp only [List.length_append, List.length_cons, List.length_nil]; omega
 · omega
theorem rowText_length : ∀ l : List Nd, (rowText l).length = l.length
 | [] => rfl
 | t :: r => by simp only [rowText, List.length_cons, rowText_length r]
theorem len2 {l : List Nd} (h : l.length = 2) : ∃ x y, l = [x, y] := by
 match l, h with
 | [x, y], _ => exact ⟨x, y, rfl⟩
theorem len3 {l : List Nd} (h : l.length = 3) : ∃ x y z, l = [x, y, z] := by
 match l, h with
 | [x, y, z], _ => exact ⟨x, y, z, rfl⟩
theorem len1 {l : List Nd} (h : l.length = 1) : ∃ x, l = [x] := by
 match l, h with
 | [x], _ => exact ⟨x, rfl⟩
theorem formN_82 {n : Int} {s : List UInt8} {c : Nat} (h : formN 82 n s c = true) : 8 ≤ n ∧ n ≤ 23 ∧ c = 2 := by
 simp [formN] at h; omega
theorem formN_83' {n : Int} {s : List UInt8} {c : Nat} (h : formN 83 n s c = true) : c = 3 := by
 simp [formN] at h; omega
theorem formN_84 {n : Int} {s : List UInt8} {c : Nat} (h : formN 84 n s c = true) : funName s = true ∧ c = 2 := by
 simp [formN] at h
 exact ⟨h.1.2, h.2⟩
theorem formN_90 {n : Int} {s : List UInt8} {c : Nat} (h : formN 90 n s c = true) : c = 1 := by
 simp [formN] at h; omega
theorem appT_len (w : List UInt8) (ts : List (List UInt8)) : (appT w ts).length ≤ w.length + 2 + (ts.map List.length).sum + 2 * ts.length := by
 have := join_len [44, 32] ts
 unfold appT
 simp only [List.length_append, List.length_cons, List.length_nil] at this ⊢
 omega
mutual
theorem ftext_len : ∀ t : Nd, t.okT → t.ftext.length + 4 ≤ 40 * t.size
 | .mk k n s l, h => by
  simp only [Nd.okT] at h; obtain ⟨h1, h2, h3, h4⟩ := h; have hr := rowText_len l h4; have hl := length_rowSize l; have hrl := rowText_length l; have h0 := formN_num h1; simp only [Nd.ftext, Nd.size]
  unfold textN
  by_cases k0 : k = 80
  · rw [if_pos k0]; have := Lib.itoa_length_le n (by omega) h3; omega
  rw [if_neg k0]
  by_cases k1 : k = 81
  · rw [if_pos k1]; omega
  rw [if_neg k1]
  by_cases k2 : k = 82
  · rw [if_pos k2]
    subst k2; obtain ⟨a1, a2, a3⟩ := formN_82 h1; obtain ⟨x, y, rfl⟩ := len2 a3; have e1 := symbol_len a1 a2; have e2 := wrap_len (level n) (x.kind, x.num) x.ftext; have e3 := wrap_len (level n + 1) (y.kind, y.num) y.ftext; simp only [rowText, List.map_cons, List.map_nil, List.sum_cons, List.sum_nil, List.getD_cons_zero, List.getD_cons_succ, List.length_append, List.length_cons, List.length_nil] at hr ⊢
    omega
  rw [if_neg k2]
  by_cases k3 : k = 83
  · rw [if_pos k3]
    subst k3; obtain ⟨x, y, z, rfl⟩ := len3 (formN_83' h1); simp only [rowText, List.map_cons, List.map_nil, List.sum_cons, List.sum_nil, List.getD_cons_zero, List.getD_cons_succ, List.length_append, List.length_cons, List.length_nil] at hr ⊢
    omega
  rw [if_neg k3]
  by_cases k4 : k = 84
  · rw [if_pos k4]
    subst k4; obtain ⟨x, y, rfl⟩ := len2 (formN_84 h1).2; simp only [rowText, List.map_cons, List.map_nil, List.sum_cons, List.sum_nil, List.getD_cons_zero, List.getD_cons_succ, List.length_append, List.length_cons, List.length_nil] at hr ⊢
    omega
  rw [if_neg k4]
  by_cases k6 : k = 86
  · rw [if_pos k6]; simp only [List.length_cons, List.length_nil]; omega
  rw [if_neg k6]
  by_cases k7 : k = 87
  · rw [if_pos k7]; have := appT_len [112, 117, 115, 104] (rowText l); simp only [List.length_cons, List.length_nil] at this; omega
  rw [if_neg k7]
  by_cases k9 : k = 89
  · rw [if_pos k9]; have := appT_len [112, 111, 112] (rowText l); simp only [List.length_cons, List.length_nil] at this; omega
  rw [if_neg k9]
  by_cases k8 : k = 88
  · rw [if_pos k8]; have := appT_len [116, 111, 112] (rowText l); simp only [List.length_cons, List.length_nil] at this; omega
  rw [if_neg k8]
  by_cases k10 : k = 90
  · rw [if_pos k10]
    subst k10; obtain ⟨x, rfl⟩ := len1 (formN_90 h1); have e2 := wrap_len 9 (x.kind, x.num) x.ftext; simp only [rowText, List.map_cons, List.map_nil, List.sum_cons, List.sum_nil, List.getD_cons_zero, List.length_append, List.length_cons, List.length_nil] at hr ⊢
    omega
  rw [if_neg k10]; have := appT_len s (rowText l)
  omega
theorem rowText_len : ∀ l : List Nd, rowOkT l → ((rowText l).map List.length).sum + 4 * l.length ≤ 40 * rowSize l
 | [], _ => by simp [rowText, rowSize]
 | t :: r, h => by
  have h1 := ftext_len t h.1; have h2 := rowText_len r h.2; have h3 := Nd.size_pos t; simp only [rowText, rowSize, List.map_cons, List.sum_cons, List.length_cons]
  omega
end
end Bk
namespace Bk
open Go Go.RowKit Go.Proofs
structure Tabs (w : World) : Prop where
 sym : ∀ i, i < 43 → w.cell? ⟨0, i, none⟩ = some (str (symbols.getD i []))
 pow : Lib.TabIs Tryz.prog w "internal/strconv.uint64pow10" .u64 Lib.pow10Tab
theorem arith_Symbol_c (k : Int) (w : World) (h0 : 0 ≤ k) (h1 : k ≤ 255) (ht : Tabs w) : Calls Tryz.prog 18 #[.int .u8 k] w fun e w' => e = .returned (str (symbol k)) ∧ w = w' := arith_Symbol_s k w h0 h1 ⟨ht.sym⟩
end Bk
namespace Bk
open Go Go.RowKit Go.Proofs Go.Sort
theorem tabIs_belowF {P : Program} {B : Nat} {w w' : World} {name : String} {k : IntKind} {zs : List Int} (h : Lib.TabIs P w name k zs) (hb : Below B w w') (hg : ∀ g, P.globalNamed name = some g → g < B) : Lib.TabIs P w' name k zs := by
 unfold Lib.TabIs World.var? at *
 cases hn : P.globalNamed name with
 | none => rw [hn] at h; simp at h
 | some g => rw [hn] at h; simp only [Option.bind_some] at h ⊢; rw [hb.block g (hg g hn)]; exact h
theorem Tabs.belowF {B : Nat} {w w' : World} (h : Tabs w) (hb : Below B w w') (hB : Tryz.prog.globals.size ≤ B) : Tabs w' := by
 have h1 : 0 < Tryz.prog.globals.size := of_decide_eq_true (by kernel_rfl); have h2 : 2 < Tryz.prog.globals.size := of_decide_eq_true (by kernel_rfl); refine ⟨fun i hi => (Below.cell (p := ⟨0, i, none⟩) hb (by show 0 < B; omega)).trans (h.sym i hi), tabIs_belowF h.pow hb fun g hg => ?_⟩
 have hp : Tryz.prog.globalNamed "internal/strconv.uint64pow10" = some 2 := by kernel_rfl
 rw [hp] at hg
 injection hg with hg
 omega
theorem Tabs.extF {w w' : World} (h : Tabs w) (x : Ext w w') (hB : Tryz.prog.globals.size ≤ w.heap.size) : Tabs w' := h.belowF x hB
structure TabsF (w : World) : Prop where
 t : Tabs w
 g : Tryz.prog.globals.size ≤ w.heap.size
theorem TabsF.ext {w w' : World} (h : TabsF w) (x : Ext w w') : TabsF w' := ⟨h.t.extF x h.g, Nat.le_trans h.g x.size⟩
theorem TabsF.fr {S : Nat → Prop} {w w' : World} (h : TabsF w) (x : Fr S w w') (hs : ∀ k, S k → Tryz.prog.globals.size ≤ k) : TabsF w' :=
 ⟨h.t.belowF (B := Tryz.prog.globals.size) ⟨x.os, x.tape, x.output, x.size, fun k hk => x.block k (by have := h.g; omega) (fun hS => by have := hs k hS; omega)⟩ (Nat.le_refl _), Nat.le_trans h.g x.size⟩
theorem ext_growF (w : World) (k : Nat) (os : Array Obj) : Ext w (grow (w.drewN k) os) := by
 have hh : (grow (w.drewN k) os).heap = w.heap ++ os := rfl; refine ⟨rfl, rfl, rfl, ?_, fun i hi => ?_⟩
 · rw [hh]; simp
 · rw [hh, Array.getElem?_append_left hi]
theorem itoaF_c (n : Int) (w : World) (ht : TabsF w) (h0 : -9223372036854775808 ≤ n) (h1 : n ≤ 9223372036854775807) :
 Calls Tryz.prog 43 #[.int .i64 n] w fun e w' => e = .returned (str (Lib.itoa n)) ∧ Ext w w' :=
 (Tryz.strconv_Itoa n h0 h1 w ht.t.pow).mono fun e w' ⟨he, k, os, hw⟩ => ⟨he, hw ▸ ext_growF w k os⟩
theorem symF_c (k : Int) (w : World) (ht : TabsF w) (h0 : 0 ≤ k) (h1 : k ≤ 255) : Calls Tryz.prog 18 #[.int .u8 k] w fun e w' => e = .returned (str (symbol k)) ∧ w = w' := arith_Symbol_c k w h0 h1 ht.t
def TextT (x : Nd) : Prop := ∀ (S : Nat → Prop) (a : Option Addr) (c : Nat) (w : World), x.sits S w a → TabsF w → Calls Tryz.prog 24 #[x.val a c] w fun e w' => e = .returned (str x.ftext) ∧ Ext w w'
set_option maxRecDepth 100000 in
set_option maxHeartbeats 4000000 in
theorem operand_c (x : Nd) (lv : Int) (hx : TextT x) (hk : x.kind = 82 → 8 ≤ x.num ∧ x.num ≤ 23) (hl : x.ftext.length ≤ 1000000000) (S : Nat → Prop) (a : Option Addr) (c : Nat) (w : World) (hs : x.sits S w a) (ht : TabsF w) :
 Calls Tryz.prog 44 #[x.val a c, .int .i64 lv] w fun e w' => e = .returned (str (wrapT lv (x.kind, x.num) x.ftext)) ∧ Ext w w' := by
 have X := Ext.refl w; have HX := Lib.hid (fun S a c w h1 h2 => hx S a c w h1 h2); clear hx
 replace hs : x.sits (· < w.heap.size) w a := Nd.sits.wide (sits_lt2 _ _ hs) fun _ h => h.2
 generalize x.ftext = tx at *
 by_cases h : x.kind = 82
 · obtain ⟨h1, h2⟩ := hk h
   clear hk
   by_cases hlv : level x.num < lv
   · rw [show wrapT lv (x.kind, x.num) tx = [40] ++ tx ++ [41] from if_pos ⟨h, hlv⟩]
     refine calls_in Tryz.func44 Tryz.ntmps44 rfl rfl ?_
     focus
      refine cS ?_; (refine lw_box' [_, _, _, _] rfl rfl rfl ?_; intro b1 w2 n3); have h4 := n3.blk; have x5 := n3.ext; have p6 := n3.pos; have z7 := n3.size; clear n3; replace ht := ht.ext x5; replace X := X.ext x5; replace hs := Nd.sits.ext hs x5; clear x5; refine cA rfl rfl (cT (cw_seq (cS (lw_pure (pur_fieldAddr0 tabOk rfl rfl rfl) rfl (lw_load_b tabOk rfl rfl rfl h4 rfl rfl (lw_pure (pur_eql rfl rfl) rfl (cM rfl rfl ?_))))))); refine lw_on rfl rfl rfl (gd_tt (by assumption)) ?_; refine lw_pure (pur_fieldAddr tabOk rfl rfl rfl) rfl ?_; refine lw_on rfl rfl rfl (gd_tt (by assumption)) ?_; refine lw_load_b tabOk rfl rfl rfl h4 rfl rfl ?_; refine lw_on rfl rfl rfl (gd_tt (by assumption)) ?_; refine lw_pure (pur_conv tabOk rfl rfl rfl (u8_wrap _ (by omega) (by omega))) rfl ?_; refine lw_on rfl rfl rfl (gd_tt (by assumption)) ?_; refine cC (by kernel_rfl) rfl (arith_Level_c _ _ (by omega) (by omega)) rfl ?_; rintro _ w8 ⟨⟨⟩, rfl⟩; refine lw_on rfl rfl rfl (gd_tt (by assumption)) ?_; refine cM rfl rfl ?_; refine lw_on rfl rfl rfl (gd_tt (by assumption)) ?_; refine lw_pure (pur_lss rfl rfl) rfl ?_; refine lw_pure (pur_pick_yes rfl rfl (by assumption)) rfl ?_; refine cT ?_; refine cw_yes rfl (by assumption) ?_; refine cS (lw_loads_b' [_, _, _, _] tabOk rfl rfl rfl h4 rfl rfl rfl ?_); refine cC (by kernel_rfl) rfl (HX.out _ _ _ _ (by assumption) (by assumption)) rfl ?_; rintro _ w10 ⟨⟨⟩, x9⟩; have z11 := x9.size; replace h4 := h4.ext x9; replace ht := ht.ext x9; replace X := X.ext x9
      replace hs := Nd.sits.ext hs x9; clear x9; refine lw_pure (pur_sadd rfl rfl (by simp only [List.length_cons, List.length_nil]; omega)) rfl ?_; refine lw_pure (pur_sadd rfl rfl (by simp only [List.length_append, List.length_cons, List.length_nil]; omega)) rfl ?_; refine cA rfl rfl (cT (cw_ret (qw_then_ret (qw_ret1 rfl rfl ?_)))); rotate_left 1
     exact ⟨rfl, X⟩
   · rw [show wrapT lv (x.kind, x.num) tx = tx from if_neg (fun h => hlv h.2)]
     refine calls_in Tryz.func44 Tryz.ntmps44 rfl rfl ?_
     focus
      refine cS ?_; (refine lw_box' [_, _, _, _] rfl rfl rfl ?_; intro ba1 wa2 na3); have ha4 := na3.blk; have xa5 := na3.ext; have pa6 := na3.pos; have za7 := na3.size; clear na3; replace ht := ht.ext xa5; replace X := X.ext xa5; replace hs := Nd.sits.ext hs xa5; clear xa5; refine cA rfl rfl (cT (cw_seq (cS (lw_pure (pur_fieldAddr0 tabOk rfl rfl rfl) rfl (lw_load_b tabOk rfl rfl rfl ha4 rfl rfl (lw_pure (pur_eql rfl rfl) rfl (cM rfl rfl ?_))))))); refine lw_on rfl rfl rfl (gd_tt (by assumption)) ?_; refine lw_pure (pur_fieldAddr tabOk rfl rfl rfl) rfl ?_; refine lw_on rfl rfl rfl (gd_tt (by assumption)) ?_; refine lw_load_b tabOk rfl rfl rfl ha4 rfl rfl ?_; refine lw_on rfl rfl rfl (gd_tt (by assumption)) ?_; refine lw_pure (pur_conv tabOk rfl rfl rfl (u8_wrap _ (by omega) (by omega))) rfl ?_; refine lw_on rfl rfl rfl (gd_tt (by assumption)) ?_; refine cC (by kernel_rfl) rfl (arith_Level_c _ _ (by omega) (by omega)) rfl ?_; rintro _ wa8 ⟨⟨⟩, rfl⟩; refine lw_on rfl rfl rfl (gd_tt (by assumption)) ?_; refine cM rfl rfl ?_; refine lw_on rfl rfl rfl (gd_tt (by assumption)) ?_; refine lw_pure (pur_lss rfl rfl) rfl ?_; refine lw_pure (pur_pick_yes rfl rfl (by assumption)) rfl ?_; refine cT ?_; refine cw_no rfl (by assumption) ?_; refine cw_skip (qw_then (cS (lw_loads_b' [_, _, _, _] tabOk rfl rfl rfl ha4 rfl rfl rfl ?_))); refine cC (by kernel_rfl) rfl (HX.out _ _ _ _ (by assumption) (by assumption)) rfl ?_; rintro _ wa10 ⟨⟨⟩, xa9⟩; have za11 := xa9.size; replace ha4 := ha4.ext xa9
      replace ht := ht.ext xa9; replace X := X.ext xa9; replace hs := Nd.sits.ext hs xa9; clear xa9; refine cA rfl rfl (cT (cw_ret (qw_ret1 rfl rfl ?_))); rotate_left 1
     exact ⟨rfl, X⟩
 · rw [show wrapT lv (x.kind, x.num) tx = tx from if_neg (fun h' => h h'.1)]
   refine calls_in Tryz.func44 Tryz.ntmps44 rfl rfl ?_
   focus
    refine cS ?_; (refine lw_box' [_, _, _, _] rfl rfl rfl ?_; intro bb1 wb2 nb3); have hb4 := nb3.blk; have xb5 := nb3.ext; have pb6 := nb3.pos; have zb7 := nb3.size; clear nb3; replace ht := ht.ext xb5; replace X := X.ext xb5; replace hs := Nd.sits.ext hs xb5; clear xb5; refine cA rfl rfl (cT (cw_seq (cS (lw_pure (pur_fieldAddr0 tabOk rfl rfl rfl) rfl (lw_load_b tabOk rfl rfl rfl hb4 rfl rfl (lw_pure (pur_eql rfl rfl) rfl (cM rfl rfl ?_))))))); refine lw_off rfl rfl rfl (gd_tf (by assumption)) rfl ?_; refine lw_off rfl rfl rfl (gd_tf (by assumption)) rfl ?_; refine lw_off rfl rfl rfl (gd_tf (by assumption)) rfl ?_; refine lw_off rfl rfl rfl (gd_tf (by assumption)) rfl ?_; refine lw_off rfl rfl rfl (gd_tf (by assumption)) rfl ?_; refine lw_off rfl rfl rfl (gd_tf (by assumption)) rfl ?_; refine lw_pure (pur_pick_no rfl rfl (by assumption)) rfl ?_; refine cT (cw_cond_f rfl (cw_skip (qw_then (cS (lw_loads_b' [_, _, _, _] tabOk rfl rfl rfl hb4 rfl rfl rfl ?_))))); refine cC (by kernel_rfl) rfl (HX.out _ _ _ _ (by assumption) (by assumption)) rfl ?_; rintro _ wb9 ⟨⟨⟩, xb8⟩; have zb10 := xb8.size; replace hb4 := hb4.ext xb8; replace ht := ht.ext xb8; replace X := X.ext xb8; replace hs := Nd.sits.ext hs xb8; clear xb8; refine cA rfl rfl (cT (cw_ret (qw_ret1 rfl rfl ?_))); rotate_left 1
   exact ⟨rfl, X⟩
end Bk
namespace Bk
open Go Go.RowKit Go.Proofs
attribute [local irreducible] Go.Calls
theorem OwnQ.cap {α : Type} {sh : Shape α} {w : World} {R : Nat → Prop} {B e : Nat} {a : Option Addr} {len cap : Nat} {xs : List α} (h : OwnQ sh w R B e (.slice a len cap) xs) : xs.length ≤ cap := by
 obtain ⟨css, ⟨-, h1⟩, -⟩ := h.ex
 rcases h1 with ⟨hv, hn⟩ | ⟨g, c, cur, hv, -, -, hc, -⟩
 · omega
 · simp only [Value.slice.injEq] at hv
   omega
theorem joinQ_c {w : World} {R : Nat → Prop} {B e : Nat} {a : Option Addr} {cap : Nat} {xs : List (List UInt8)} (sep : List UInt8) (h : OwnQ strShape w R B e (.slice a xs.length cap) xs) (hN : xs.length ≤ 1000000000) (hlen : (Lib.join xs sep).length ≤ 140737488355328) :
 Calls Tryz.prog 23 #[.slice a xs.length cap, str sep] w fun r w' => r = .returned (str (Lib.join xs sep)) ∧ Ext w w' := by
 have hc := h.cap; have he := h.els (S := fun b => b < w.heap.size) (fun _ _ h => h)
 by_cases hx : xs = []
 · subst hx
   refine (Tryz.strings_Join_none a cap ⟨sep.toArray⟩ w).mono fun r w' ⟨h1, h2⟩ => ⟨?_, ?_⟩
   · rw [h1]; rfl
   · rw [h2]; exact Ext.refl _
 · obtain ⟨g, o, rfl, hg, hr⟩ := els_row he hx
   have hm : (xs.map (fun l => (⟨l.toArray⟩ : ByteArray))).map (·.data.toList) = xs := by
    rw [List.map_map]
    conv => rhs; rw [← List.map_id xs]
    exact List.map_congr_left (fun _ _ => rfl)
   have hl : (xs.map (fun l => (⟨l.toArray⟩ : ByteArray))).length = xs.length := by simp
   have key := Tryz.strings_Join g o cap (xs.map (fun l => (⟨l.toArray⟩ : ByteArray))) ⟨sep.toArray⟩ w (fun j x hj => by
    rw [List.getElem?_map, Option.map_eq_some_iff] at hj; obtain ⟨y, hy, rfl⟩ := hj; have := hr.at (i := j) (v := str y) (by simp [hy])
    exact this) hg (by rw [hl]; omega) (by rw [hl]; exact hc) (by rw [hm]; exact hlen)
   rw [hl, hm] at key
   exact key.mono fun r w' ⟨h1, h2⟩ => ⟨h1, h2⟩
theorem rowText_snoc {l : List Nd} {j : Nat} (hj : j < l.length) : rowText (l.take (j + 1)) = rowText (l.take j) ++ [l[j].ftext] := by
 rw [rowText_map, rowText_map, List.take_succ_eq_append_getElem hj, List.map_append]; rfl
set_option maxRecDepth 100000 in
set_option maxHeartbeats 4000000 in
theorem applied_c (wd : List UInt8) (l : List Nd) (hx : ∀ x ∈ l, TextT x) (hl : l.length ≤ 1000000) (hlen : (appT wd (rowText l)).length ≤ 1000000000) (S : Nat → Prop) (a : Option Addr) (c : Nat) (w : World) (hs : rowSits S w l a) (ht : TabsF w) :
 Calls Tryz.prog 45 #[str wd, .slice a l.length c] w fun e w' => e = .returned (str (appT wd (rowText l))) ∧ Ext w w' := by
 have X := Ext.refl w; have HX := Lib.hid (fun x hm S a c w h1 h2 => hx x hm S a c w h1 h2); clear hx; have hs' : rowSits (· < w.heap.size) w l a := rowSits_lt _ _ hs; clear hs
 have hjl : (Lib.join (rowText l) [44, 32]).length + wd.length + 2 ≤ 1000000000 := by
  have := hlen
  unfold appT at this
  simp only [List.length_append, List.length_cons, List.length_nil] at this
  omega
 clear hlen
 unfold appT
 refine calls_in Tryz.func45 Tryz.ntmps45 rfl rfl ?_
 focus
  refine cS (cA rfl rfl (cN (cA rfl rfl (cT (cw_seq (cS (cM rfl rfl (lw_pure (pur_len_slice tabOk rfl rfl) rfl (cM rfl rfl (cT (cw_block ?_))))))))))); rotate_left 1
 refine cw_loop (ι := Nat × Option Addr × Nat) (fun y => [(0, str wd), (5, .slice y.2.1 (rowText (l.take y.1)).length y.2.2), (8, .slice a l.length c), (9, .int .i64 l.length), (10, .int .i64 y.1)])
  (fun y w' => rowSits (· < w.heap.size) w' l a ∧ OwnQ strShape w' (fun _ => False) w.heap.size 9 (.slice y.2.1 (rowText (l.take y.1)).length y.2.2) (rowText (l.take y.1)) ∧ Ext w w' ∧ TabsF w' ∧ y.1 ≤ l.length) (fun y => l.length - y.1) (0, none, 0) (by (refine sub_cons rfl ?_; refine sub_cons rfl ?_; refine sub_cons rfl ?_; refine sub_cons rfl ?_; refine sub_cons rfl ?_; exact sub_nil)) ⟨hs', OwnQ.nil, X, ht, Nat.zero_le _⟩ ?_
 have hg0 := ht.g; clear hs' X ht; rintro ⟨j, oa, oc⟩ w1 ⟨hs, hown, X, ht, hj⟩; simp only at hown hj; have hz := X.size; have hgl := ht.g
 have hob : ∀ g, (Value.slice oa (rowText (l.take j)).length oc).ownBlock = some g → w.heap.size ≤ g ∧ g < w1.heap.size := fun g h => ⟨hown.ge h, hown.lt h⟩
 refine CW.sub (m := [(0, str wd), (5, .slice oa (rowText (l.take j)).length oc), (8, .slice a l.length c), (9, .int .i64 l.length), (10, .int .i64 j)]) ?_ (by (refine sub_cons rfl ?_; refine sub_cons rfl ?_; refine sub_cons rfl ?_; refine sub_cons rfl ?_; refine sub_cons rfl ?_; exact sub_nil))
 by_cases hlt : j < l.length
 · have hs2 := hs
   obtain ⟨kb, ko, rfl, hkS, hkid⟩ := kidRows hs2 (by intro e; subst e; simp at hlt); obtain ⟨xa, xc, rx, sx⟩ := hkid j l[j] (List.getElem?_eq_getElem hlt); have HT := Lib.hid (HX.out _ (List.getElem_mem hlt)); have hsn := rowText_snoc hlt
   have hll : (rowText (l.take j)).length ≤ 1000000 := by rw [rowText_length, List.length_take]; omega
   clear hkid hs2
   generalize rowText (l.take j) = os at *
   generalize l[j] = x at *
   focus
    refine cS (lw_pure (pur_lss rfl rfl) rfl (cT (cw_seq ?_))); refine cw_yes rfl (by omega) ?_; refine cw_skip (qw_then (cw_seq (cw_block (cS ?_)))); refine lw_pure (pur_indexAddr tabOk rfl rfl rfl rfl (by omega) (by omega)) rfl ?_; refine lw_loads_r0 tabOk rfl rfl rfl rx rfl rfl ?_; (refine lw_alloc' [_, _, _, _] zOk rfl rfl ?_; intro ba1 wa2 na3); (refine lw_init' [_, _, _, _] tabOk rfl rfl rfl rfl rfl rfl na3 rfl ?_; clear na3; clear wa2; intro wa4 na3); have ha5 := na3.blk; have xa6 := na3.ext; have pa7 := na3.pos; have za8 := na3.size; clear na3; replace X := X.ext xa6; replace ht := ht.ext xa6; replace hs := Bk.rowSits.ext hs xa6; replace hown := hown.ext xa6; replace rx := rx.ext xa6; replace sx := Nd.sits.ext sx xa6; clear xa6; refine cT (cw_region (cM rfl rfl (lw_loads_b' [_, _, _, _] tabOk rfl rfl rfl ha5 rfl rfl rfl ?_))); refine cC (by kernel_rfl) rfl (HT.out _ _ _ _ (by assumption) (by assumption)) rfl ?_; rintro _ wa10 ⟨⟨⟩, xa9⟩; have za11 := xa9.size; replace ha5 := ha5.ext xa9; replace X := X.ext xa9; replace ht := ht.ext xa9; replace hs := Bk.rowSits.ext hs xa9; replace hown := hown.ext xa9; replace rx := rx.ext xa9; replace sx := Nd.sits.ext sx xa9; clear xa9; (refine lw_does (does_slice' [_] tabOk zOk rfl rfl rfl rfl rfl rfl rfl rfl rfl) rfl ?_ (fun _ h => h); rintro _ wa13 ⟨ba12, rfl, na14, ta15⟩); clear ta15; have ha16 := na14.blk; have xa17 := na14.ext; have pa18 := na14.pos; have za19 := na14.size; clear na14; replace ha5 := ha5.ext xa17; replace X := X.ext xa17
    replace ht := ht.ext xa17; replace hs := Bk.rowSits.ext hs xa17; replace hown := hown.ext xa17; replace rx := rx.ext xa17; replace sx := Nd.sits.ext sx xa17; clear xa17; refine lw_appendQ (R := fun _ => False) (sh := strShape) (z := x.ftext) tabOk zOk rfl rfl rfl rfl (by kernel_rfl) rfl rfl rfl (by assumption) (fun _ h => by exact h) (Blk.row (by assumption)) rfl (by omega) (by omega) rfl ?_; rintro ga20 cap'a21 wa22 ha23 ha24 ha25 fa26; have za27 := fa26.size; replace ha16 := Blk.fr ha16 fa26 (fun e => by have := hob _ e; omega); replace ha5 := Blk.fr ha5 fa26 (fun e => by have := hob _ e; omega); replace X := Ext.fr X fa26 (fun k hk => by have := hob _ hk; omega); replace ht := TabsF.fr ht fa26 (fun k hk => by have := hob _ hk; omega); replace hs := Bk.rowSits.fr hs fa26 (fun b hb hT => by have := hob _ hT; (try dsimp only at hb); omega); clear hown rx; replace sx := Nd.sits.fr sx fa26 (fun b hb hT => by have := hob _ hT; (try dsimp only at hb); omega); clear fa26; refine cA rfl rfl (lw_nil (qw_block_norm (qw_then (cw_region ?_)))); refine lw_pure (pur_add rfl rfl (IntWalk.i64_in _ (by omega))) rfl ?_; refine cM rfl rfl (lw_nil ?_); rotate_left 1
   refine qw_round (j + 1, some ⟨_, 0, none⟩, _) ?_ ⟨by assumption, by simp only; rw [hsn]; assumption, X, by assumption, by simp only; omega⟩ (by simp only; omega); simp only [hsn]; (refine sub_cons rfl ?_; refine sub_cons rfl ?_; refine sub_cons rfl ?_; refine sub_cons rfl ?_; refine sub_cons rfl ?_; exact sub_nil)
 · have hje : j = l.length := by omega
   subst hje; rw [List.take_length] at hown; rw [List.take_length]
   have hrl : (rowText l).length ≤ 1000000 := by rw [rowText_length]; omega
   generalize rowText l = os at *
   focus
    refine cS (lw_pure (pur_lss rfl rfl) rfl (cT (cw_seq ?_))); refine cw_no rfl (by omega) ?_; refine cw_exit (qw_then_exit (qw_then_exit (qw_block_exit (qw_then (cS (cM rfl rfl ?_)))))); refine lw_pure (pur_sadd rfl rfl (by simp only [List.length_cons, List.length_nil]; omega)) rfl ?_; refine cM rfl rfl ?_; refine cC (by kernel_rfl) rfl (joinQ_c _ (by assumption) (by omega) (by omega)) rfl ?_; rintro _ wb2 ⟨⟨⟩, xb1⟩; have zb3 := xb1.size; replace hs := Bk.rowSits.ext hs xb1; replace X := X.ext xb1; replace ht := ht.ext xb1; replace hown := hown.ext xb1; clear xb1; refine lw_pure (pur_sadd rfl rfl (by simp only [List.length_append, List.length_cons, List.length_nil]; omega)) rfl ?_; refine lw_pure (pur_sadd rfl rfl (by simp only [List.length_append, List.length_cons, List.length_nil]; omega)) rfl ?_; refine cA rfl rfl (cT (cw_ret (qw_ret1 rfl rfl ?_))); rotate_left 1
   exact ⟨rfl, X⟩
end Bk
namespace Bk
open Go Go.RowKit Go.Proofs
attribute [local irreducible] Go.Calls
def StrR (w : World) (q : List UInt8) (e : Ending) (w' : World) : Prop := e = .returned (str q) ∧ Ext w w'
theorem strR {w w' : World} {q q' : List UInt8} (h : q = q') (x : Ext w w') : StrR w q (.returned (str q')) w' := ⟨by rw [h], x⟩
theorem okT_op {x : Nd} (h : x.okT) (hk : x.kind = 82) : 8 ≤ x.num ∧ x.num ≤ 23 := by
 obtain ⟨k, n, s, l⟩ := x; replace hk : k = 82 := hk; subst hk; simp only [Nd.okT] at h; have := formN_82 h.1
 exact ⟨this.1, this.2.1⟩
set_option maxRecDepth 100000 in
set_option maxHeartbeats 8000000 in
theorem text_c (N : Nat) : ∀ t : Nd, t.size < N → t.size ≤ 1000000 → t.okT → TextT t := by
 induction N with
 | zero => intro t h; omega
 | succ N ih =>
  rintro ⟨k, n, s, l⟩ hN hM hok S a c w hs ht; have X := Ext.refl w; simp only [Nd.sits] at hs; have hs' : rowSits (· < w.heap.size) w l a := rowSits_lt _ _ hs; clear hs; simp only [Nd.size] at hN hM; have hlen := ftext_len _ hok; simp only [Nd.size] at hlen; simp only [Nd.okT] at hok; obtain ⟨h1, h2, h3, h4⟩ := hok; have h0 := formN_num h1
  have hT : ∀ x ∈ l, TextT x ∧ x.okT ∧ x.ftext.length ≤ 1000000000 := fun x hx => by
   have h5 := size_mem hx; have h6 := rowOkT_mem h4 hx; have h7 := ftext_len x h6
   exact ⟨ih x (by omega) (by omega) h6, h6, by omega⟩
  clear ih; have hl := length_rowSize l
  show Calls Tryz.prog 24 #[.agg #[.int .u8 k, .int .i64 n, str s, .slice a l.length c]] w (StrR w (Nd.mk k n s l).ftext)
  have hft : (Nd.mk k n s l).ftext = textN k n s (rowText l) (l.map fun t => (t.kind, t.num)) := by rw [Nd.ftext]
  rw [hft] at hlen ⊢; clear hft
  unfold textN at hlen ⊢
  have HA := Lib.hid (fun (wd : List UInt8) (hlen : (appT wd (rowText l)).length ≤ 1000000000) => applied_c wd l (fun x hx => (hT x hx).1) (by omega) hlen)
  by_cases k0 : k = 80
  · subst k0
    rw [if_pos rfl]; refine calls_in Tryz.func24 Tryz.ntmps24 rfl rfl ?_
    focus
     refine cS ?_; (refine lw_box' [_, _, _, _] rfl rfl rfl ?_; intro b1 w2 n3); have h4 := n3.blk; have x5 := n3.ext; have p6 := n3.pos; have z7 := n3.size; clear n3; replace ht := ht.ext x5; replace X := X.ext x5; replace hs' := Bk.rowSits.ext hs' x5; clear x5; refine cA rfl rfl (cT (cw_seq (cS (lw_pure (pur_fieldAddr0 tabOk rfl rfl rfl) rfl (lw_load_b tabOk rfl rfl rfl h4 rfl rfl (cT (cw_block (cS (lw_pure (pur_eql rfl rfl) rfl (cA rfl rfl (cT ?_))))))))))); refine cw_yes rfl (by decide) ?_; refine cS (lw_pure (pur_fieldAddr tabOk rfl rfl rfl) rfl (lw_load_b tabOk rfl rfl rfl h4 rfl rfl ?_)); refine cC (by kernel_rfl) rfl (itoaF_c _ _ (by assumption) (by omega) (by omega)) rfl ?_; rintro _ w9 ⟨⟨⟩, x8⟩; have z10 := x8.size; replace h4 := h4.ext x8; replace ht := ht.ext x8; replace X := X.ext x8; replace hs' := Bk.rowSits.ext hs' x8; clear x8; refine cA rfl rfl (cT (cw_ret (qw_block_ret (qw_then_ret (qw_ret1 rfl rfl ?_))))); rotate_left 1
    exact strR rfl X
  by_cases k1 : k = 81
  · subst k1
    rw [if_neg (by decide), if_pos rfl]; refine calls_in Tryz.func24 Tryz.ntmps24 rfl rfl ?_
    focus
     refine cS ?_; (refine lw_box' [_, _, _, _] rfl rfl rfl ?_; intro ba1 wa2 na3); have ha4 := na3.blk; have xa5 := na3.ext; have pa6 := na3.pos; have za7 := na3.size; clear na3; replace ht := ht.ext xa5; replace X := X.ext xa5; replace hs' := Bk.rowSits.ext hs' xa5; clear xa5; refine cA rfl rfl (cT (cw_seq (cS (lw_pure (pur_fieldAddr0 tabOk rfl rfl rfl) rfl (lw_load_b tabOk rfl rfl rfl ha4 rfl rfl (cT (cw_block (cS (lw_pure (pur_eql rfl rfl) rfl (cA rfl rfl (cT ?_))))))))))); refine cw_no rfl (by assumption) ?_; refine cS (lw_pure (pur_eql rfl rfl) rfl (cA rfl rfl (cT ?_))); refine cw_yes rfl (by decide) ?_; refine cS (lw_pure (pur_fieldAddr tabOk rfl rfl rfl) rfl (lw_load_b tabOk rfl rfl rfl ha4 rfl rfl (cA rfl rfl (cT (cw_ret (qw_block_ret (qw_then_ret (qw_ret1 rfl rfl ?_)))))))); rotate_left 1
    exact strR rfl X
  by_cases k2 : k = 82
  · subst k2
    rw [if_neg (by decide), if_neg (by decide), if_pos rfl] at hlen ⊢; obtain ⟨n1, n2, n3⟩ := formN_82 h1; obtain ⟨x, y, rfl⟩ := len2 n3; obtain ⟨t1, t2, t3⟩ := hT x (by simp); obtain ⟨u1, u2, u3⟩ := hT y (by simp); have HO := Lib.hid (fun lv S a c w h1 h2 => operand_c x lv t1 (okT_op t2) t3 S a c w h1 h2); have HP := Lib.hid (fun lv S a c w h1 h2 => operand_c y lv u1 (okT_op u2) u3 S a c w h1 h2); simp only [rowText, List.map_cons, List.map_nil, List.getD_cons_zero, List.getD_cons_succ, List.length_append, List.length_cons, List.length_nil] at hlen ⊢
    generalize hq1 : wrapT (level n) (x.kind, x.num) x.ftext = q1 at *
    generalize hq2 : wrapT (level n + 1) (y.kind, y.num) y.ftext = q2 at *
    have HO := Lib.hid (HO.out (level n)); have HP := Lib.hid (HP.out (level n + 1)); rw [hq1] at HO; rw [hq2] at HP; have hsl := symbol_len n1 n2; have hlv := level_bd n1 n2; clear t1 t2 t3 u1 u2 u3 hT HA hq1 hq2; have hs2 := hs'; obtain ⟨kb, ko, rfl, hkS, hkid⟩ := kidRows hs2 (by simp); obtain ⟨xa, xc, rx, sx⟩ := hkid 0 x rfl; obtain ⟨ya, yc, ry, sy⟩ := hkid 1 y rfl; clear hkid hs2; refine calls_in Tryz.func24 Tryz.ntmps24 rfl rfl ?_
    focus
     refine cS ?_; (refine lw_box' [_, _, _, _] rfl rfl rfl ?_; intro bb1 wb2 nb3); have hb4 := nb3.blk; have xb5 := nb3.ext; have pb6 := nb3.pos; have zb7 := nb3.size; clear nb3; replace ht := ht.ext xb5; replace X := X.ext xb5; replace hs' := Bk.rowSits.ext hs' xb5; replace rx := rx.ext xb5; replace sx := Nd.sits.ext sx xb5; replace ry := ry.ext xb5; replace sy := Nd.sits.ext sy xb5; clear xb5; refine cA rfl rfl (cT (cw_seq (cS (lw_pure (pur_fieldAddr0 tabOk rfl rfl rfl) rfl (lw_load_b tabOk rfl rfl rfl hb4 rfl rfl (cT (cw_block (cS (lw_pure (pur_eql rfl rfl) rfl (cA rfl rfl (cT ?_))))))))))); refine cw_no rfl (by assumption) ?_; refine cS (lw_pure (pur_eql rfl rfl) rfl (cA rfl rfl (cT ?_))); refine cw_no rfl (by assumption) ?_; refine cS (lw_pure (pur_eql rfl rfl) rfl (cA rfl rfl (cT ?_))); refine cw_yes rfl (by decide) ?_; refine cS (lw_pure (pur_fieldAddr tabOk rfl rfl rfl) rfl (lw_load_b tabOk rfl rfl rfl hb4 rfl rfl ?_)); refine lw_pure (pur_conv tabOk rfl rfl rfl (u8_wrap _ (by omega) (by omega))) rfl ?_; refine cC (by kernel_rfl) rfl (arith_Level_c _ _ (by omega) (by omega)) rfl ?_; rintro _ wb8 ⟨⟨⟩, rfl⟩; refine cA rfl rfl (cT (cw_seq ?_)); (refine cw_tdraw (fun wz => Ext wb2 wz) 20 (.pure 0 (.pure 1 (.pure 2 (.pure 3 (.pure 4 (.pure 7 (.pure 8 (.pure 9 (.pure 13 (.pure 14 (.pure 15 (.pure 16 (.pure 17 (.pure 18 (.fork 5 (.pure 6 (.fork 10 (.pure 11 (.pure 12 (.fork 19 .tail .none))) .none)) .none))))))))))))))) mixed (by kernel_rfl) (panicOk_then (panicOk_block (panicOk_then panicOk_body))) ?_; intro wb9 xb10 _)
     have qsb11 : (fun wz => Ext wb2 wz) wb9 := xb10; simp only at qsb11; have d_hb4 := hb4; have d_ht := ht; have d_hs' := hs'; have d_rx := rx; have d_sx := sx; have d_ry := ry; have d_sy := sy; have zb12 := xb10.size; replace hb4 := hb4.ext xb10; replace ht := ht.ext xb10; replace X := X.ext xb10; replace hs' := Bk.rowSits.ext hs' xb10; replace rx := rx.ext xb10; replace sx := Nd.sits.ext sx xb10; replace ry := ry.ext xb10; replace sy := Nd.sits.ext sy xb10; clear xb10; refine ⟨qsb11, ?_⟩; refine tw_pure rfl (pur_fieldAddr tabOk rfl rfl rfl) rfl (tw_pure rfl (pur_load tabOk rfl rfl rfl (fun wz hz => Blk.cell (Blk.ext d_hb4 hz) rfl)) rfl ?_); refine tw_pure rfl (pur_indexAddr tabOk rfl rfl rfl rfl (by omega) (by omega)) rfl ?_; refine tw_pure rfl (pur_loads_row' [_, _, _, _] tabOk rfl rfl rfl (fun wz hz => (Row.ext d_rx hz)) rfl rfl) rfl (tw_pure rfl (pur_move rfl) rfl (tw_pure rfl (pur_fieldAddr tabOk rfl rfl rfl) rfl (tw_pure rfl (pur_load tabOk rfl rfl rfl (fun wz hz => Blk.cell (Blk.ext d_hb4 hz) rfl)) rfl ?_))); refine tw_pure rfl (pur_conv tabOk rfl rfl rfl (u8_wrap _ (by omega) (by omega))) rfl ?_; refine tw_pure rfl (pur_fieldAddr tabOk rfl rfl rfl) rfl (tw_pure rfl (pur_load tabOk rfl rfl rfl (fun wz hz => Blk.cell (Blk.ext d_hb4 hz) rfl)) rfl ?_); refine tw_pure rfl (pur_indexAddr tabOk rfl rfl rfl rfl (by omega) (by omega)) rfl ?_; refine tw_pure rfl (pur_loads' tabOk rfl rfl rfl (fun wz hz => (Row.ext d_ry hz)) rfl) rfl (tw_pure rfl (pur_move rfl) rfl ?_); refine tw_pure rfl (pur_add rfl rfl (IntWalk.i64_in _ (by omega))) rfl ?_
     refine tw_does rfl (does_call (by kernel_rfl) rfl (HO.out _ _ _ _ (by assumption) (by assumption)) (fun _ _ h => ⟨_, h.1⟩)) rfl ?_ (fun _ h => h) tw_none; rintro _ wb15 ⟨⟨⟩, xb14⟩; have zb16 := xb14.size; replace qsb11 := qsb11.ext xb14; replace hb4 := hb4.ext xb14; replace ht := ht.ext xb14; replace X := X.ext xb14; replace hs' := Bk.rowSits.ext hs' xb14; replace rx := rx.ext xb14; replace sx := Nd.sits.ext sx xb14; replace ry := ry.ext xb14; replace sy := Nd.sits.ext sy xb14; clear xb14; refine ⟨qsb11, ?_⟩; refine tw_pure rfl (pur_sadd rfl rfl (by simp only [List.length_cons, List.length_nil]; omega)) rfl ?_; refine tw_does rfl (does_call (by kernel_rfl) rfl (symF_c _ _ (by assumption) (by omega) (by omega)) (fun _ _ h => ⟨_, h.1⟩)) rfl ?_ (fun _ h => h) tw_none; rintro _ wb18 ⟨⟨⟩, rfl⟩; refine ⟨qsb11, ?_⟩; refine tw_pure rfl (pur_sadd rfl rfl (by simp only [List.length_append, List.length_cons, List.length_nil]; omega)) rfl ?_; refine tw_pure rfl (pur_sadd rfl rfl (by simp only [List.length_append, List.length_cons, List.length_nil]; omega)) rfl ?_; refine tw_does rfl (does_call (by kernel_rfl) rfl (HP.out _ _ _ _ (by assumption) (by assumption)) (fun _ _ h => ⟨_, h.1⟩)) rfl ?_ (fun _ h => h) tw_none; rintro _ wb21 ⟨⟨⟩, xb20⟩; have zb22 := xb20.size; replace qsb11 := qsb11.ext xb20; replace hb4 := hb4.ext xb20; replace ht := ht.ext xb20; replace X := X.ext xb20; replace hs' := Bk.rowSits.ext hs' xb20; replace rx := rx.ext xb20; replace sx := Nd.sits.ext sx xb20; replace ry := ry.ext xb20
     replace sy := Nd.sits.ext sy xb20; clear xb20; refine ⟨qsb11, ?_⟩; clear d_hb4 d_ht d_hs' d_rx d_sx d_ry d_sy qsb11; refine tw_tail rfl ?_; refine lw_pure (pur_sadd rfl rfl (by simp only [List.length_append, List.length_cons, List.length_nil]; omega)) rfl ?_; refine cA rfl rfl (cT (cw_ret (qw_block_ret (qw_then_ret (qw_ret1 rfl rfl ?_))))); rotate_left 1
    exact strR rfl X
  by_cases k3 : k = 83
  · subst k3
    rw [if_neg (by decide), if_neg (by decide), if_neg (by decide), if_pos rfl] at hlen ⊢; obtain ⟨x, y, z, rfl⟩ := len3 (formN_83' h1); have HO := Lib.hid (fun S a c w h1 h2 => (hT x (by simp)).1 S a c w h1 h2); have HP := Lib.hid (fun S a c w h1 h2 => (hT y (by simp)).1 S a c w h1 h2); have HQ := Lib.hid (fun S a c w h1 h2 => (hT z (by simp)).1 S a c w h1 h2); simp only [rowText, List.map_cons, List.map_nil, List.getD_cons_zero, List.getD_cons_succ, List.length_append, List.length_cons, List.length_nil] at hlen ⊢; clear hT HA; have hs2 := hs'; obtain ⟨kb, ko, rfl, hkS, hkid⟩ := kidRows hs2 (by simp); obtain ⟨xa, xc, rx, sx⟩ := hkid 0 x rfl; obtain ⟨ya, yc, ry, sy⟩ := hkid 1 y rfl; obtain ⟨za, zc, rz, sz⟩ := hkid 2 z rfl; clear hkid hs2
    generalize x.ftext = q1 at *
    generalize y.ftext = q2 at *
    generalize z.ftext = q3 at *
    refine calls_in Tryz.func24 Tryz.ntmps24 rfl rfl ?_
    focus
     refine cS ?_; (refine lw_box' [_, _, _, _] rfl rfl rfl ?_; intro bc1 wc2 nc3); have hc4 := nc3.blk; have xc5 := nc3.ext; have pc6 := nc3.pos; have zc7 := nc3.size; clear nc3; replace ht := ht.ext xc5; replace X := X.ext xc5; replace hs' := Bk.rowSits.ext hs' xc5; replace rx := rx.ext xc5; replace sx := Nd.sits.ext sx xc5; replace ry := ry.ext xc5; replace sy := Nd.sits.ext sy xc5; replace rz := rz.ext xc5; replace sz := Nd.sits.ext sz xc5; clear xc5; refine cA rfl rfl (cT (cw_seq (cS (lw_pure (pur_fieldAddr0 tabOk rfl rfl rfl) rfl (lw_load_b tabOk rfl rfl rfl hc4 rfl rfl (cT (cw_block (cS (lw_pure (pur_eql rfl rfl) rfl (cA rfl rfl (cT ?_))))))))))); refine cw_no rfl (by assumption) ?_; refine cS (lw_pure (pur_eql rfl rfl) rfl (cA rfl rfl (cT ?_))); refine cw_no rfl (by assumption) ?_; refine cS (lw_pure (pur_eql rfl rfl) rfl (cA rfl rfl (cT ?_))); refine cw_no rfl (by assumption) ?_; refine cS (lw_pure (pur_eql rfl rfl) rfl (cA rfl rfl (cT ?_))); refine cw_yes rfl (by decide) ?_; refine cw_seq ?_; (refine cw_tdraw (fun wz => Ext wc2 wz) 19 (.pure 0 (.pure 1 (.pure 2 (.pure 3 (.pure 7 (.pure 8 (.pure 9 (.pure 10 (.pure 14 (.pure 15 (.pure 16 (.pure 17 (.fork 4 (.pure 5 (.pure 6 (.fork 11 (.pure 12 (.pure 13 (.fork 18 .tail .none))) .none))) .none))))))))))))) mixed (by kernel_rfl) (panicOk_then (panicOk_block (panicOk_then panicOk_body))) ?_; intro wc8 xc9 _); have qsc10 : (fun wz => Ext wc2 wz) wc8 := xc9; simp only at qsc10; have d_hc4 := hc4; have d_ht := ht; have d_hs' := hs'
     have d_rx := rx; have d_sx := sx; have d_ry := ry; have d_sy := sy; have d_rz := rz; have d_sz := sz; have zc11 := xc9.size; replace hc4 := hc4.ext xc9; replace ht := ht.ext xc9; replace X := X.ext xc9; replace hs' := Bk.rowSits.ext hs' xc9; replace rx := rx.ext xc9; replace sx := Nd.sits.ext sx xc9; replace ry := ry.ext xc9; replace sy := Nd.sits.ext sy xc9; replace rz := rz.ext xc9; replace sz := Nd.sits.ext sz xc9; clear xc9; refine ⟨qsc10, ?_⟩; refine tw_pure rfl (pur_fieldAddr tabOk rfl rfl rfl) rfl (tw_pure rfl (pur_load tabOk rfl rfl rfl (fun wz hz => Blk.cell (Blk.ext d_hc4 hz) rfl)) rfl ?_); refine tw_pure rfl (pur_indexAddr tabOk rfl rfl rfl rfl (by omega) (by omega)) rfl ?_; refine tw_pure rfl (pur_loads_row' [_, _, _, _] tabOk rfl rfl rfl (fun wz hz => (Row.ext d_rx hz)) rfl rfl) rfl (tw_pure rfl (pur_fieldAddr tabOk rfl rfl rfl) rfl (tw_pure rfl (pur_load tabOk rfl rfl rfl (fun wz hz => Blk.cell (Blk.ext d_hc4 hz) rfl)) rfl ?_)); refine tw_pure rfl (pur_indexAddr tabOk rfl rfl rfl rfl (by omega) (by omega)) rfl ?_; refine tw_pure rfl (pur_loads' tabOk rfl rfl rfl (fun wz hz => (Row.ext d_ry hz)) rfl) rfl (tw_pure rfl (pur_fieldAddr tabOk rfl rfl rfl) rfl (tw_pure rfl (pur_load tabOk rfl rfl rfl (fun wz hz => Blk.cell (Blk.ext d_hc4 hz) rfl)) rfl ?_)); refine tw_pure rfl (pur_indexAddr tabOk rfl rfl rfl rfl (by omega) (by omega)) rfl ?_; refine tw_pure rfl (pur_loads' tabOk rfl rfl rfl (fun wz hz => (Row.ext d_rz hz)) rfl) rfl ?_; refine tw_does rfl (does_call (by kernel_rfl) rfl (HO.out _ _ _ _ (by assumption) (by assumption)) (fun _ _ h => ⟨_, h.1⟩)) rfl ?_ (fun _ h => h) tw_none
     rintro _ wc14 ⟨⟨⟩, xc13⟩; have zc15 := xc13.size; replace qsc10 := qsc10.ext xc13; replace hc4 := hc4.ext xc13; replace ht := ht.ext xc13; replace X := X.ext xc13; replace hs' := Bk.rowSits.ext hs' xc13; replace rx := rx.ext xc13; replace sx := Nd.sits.ext sx xc13; replace ry := ry.ext xc13; replace sy := Nd.sits.ext sy xc13; replace rz := rz.ext xc13; replace sz := Nd.sits.ext sz xc13; clear xc13; refine ⟨qsc10, ?_⟩; refine tw_pure rfl (pur_sadd rfl rfl (by simp only [List.length_cons, List.length_nil]; omega)) rfl ?_; refine tw_pure rfl (pur_sadd rfl rfl (by simp only [List.length_append, List.length_cons, List.length_nil]; omega)) rfl ?_; refine tw_does rfl (does_call (by kernel_rfl) rfl (HP.out _ _ _ _ (by assumption) (by assumption)) (fun _ _ h => ⟨_, h.1⟩)) rfl ?_ (fun _ h => h) tw_none; rintro _ wc18 ⟨⟨⟩, xc17⟩; have zc19 := xc17.size; replace qsc10 := qsc10.ext xc17; replace hc4 := hc4.ext xc17; replace ht := ht.ext xc17; replace X := X.ext xc17; replace hs' := Bk.rowSits.ext hs' xc17; replace rx := rx.ext xc17; replace sx := Nd.sits.ext sx xc17; replace ry := ry.ext xc17; replace sy := Nd.sits.ext sy xc17; replace rz := rz.ext xc17; replace sz := Nd.sits.ext sz xc17; clear xc17; refine ⟨qsc10, ?_⟩; refine tw_pure rfl (pur_sadd rfl rfl (by simp only [List.length_append, List.length_cons, List.length_nil]; omega)) rfl ?_; refine tw_pure rfl (pur_sadd rfl rfl (by simp only [List.length_append, List.length_cons, List.length_nil]; omega)) rfl ?_; refine tw_does rfl (does_call (by kernel_rfl) rfl (HQ.out _ _ _ _ (by assumption) (by assumption)) (fun _ _ h => ⟨_, h.1⟩)) rfl ?_ (fun _ h => h) tw_none
     rintro _ wc22 ⟨⟨⟩, xc21⟩; have zc23 := xc21.size; replace qsc10 := qsc10.ext xc21; replace hc4 := hc4.ext xc21; replace ht := ht.ext xc21; replace X := X.ext xc21; replace hs' := Bk.rowSits.ext hs' xc21; replace rx := rx.ext xc21; replace sx := Nd.sits.ext sx xc21; replace ry := ry.ext xc21; replace sy := Nd.sits.ext sy xc21; replace rz := rz.ext xc21; replace sz := Nd.sits.ext sz xc21; clear xc21; refine ⟨qsc10, ?_⟩; clear d_hc4 d_ht d_hs' d_rx d_sx d_ry d_sy d_rz d_sz qsc10; refine tw_tail rfl ?_; refine lw_pure (pur_sadd rfl rfl (by simp only [List.length_append, List.length_cons, List.length_nil]; omega)) rfl ?_; refine lw_pure (pur_sadd rfl rfl (by simp only [List.length_append, List.length_cons, List.length_nil]; omega)) rfl ?_; refine cA rfl rfl (cT (cw_ret (qw_block_ret (qw_then_ret (qw_ret1 rfl rfl ?_))))); rotate_left 1
    exact strR rfl X
  by_cases k4 : k = 84
  · subst k4
    rw [if_neg (by decide), if_neg (by decide), if_neg (by decide), if_neg (by decide), if_pos rfl] at hlen ⊢; obtain ⟨x, y, rfl⟩ := len2 (formN_84 h1).2; have HO := Lib.hid (fun S a c w h1 h2 => (hT x (by simp)).1 S a c w h1 h2); have HP := Lib.hid (fun S a c w h1 h2 => (hT y (by simp)).1 S a c w h1 h2); simp only [rowText, List.map_cons, List.map_nil, List.getD_cons_zero, List.getD_cons_succ, List.length_append, List.length_cons, List.length_nil] at hlen ⊢; clear hT HA; have hs2 := hs'; obtain ⟨kb, ko, rfl, hkS, hkid⟩ := kidRows hs2 (by simp); obtain ⟨xa, xc, rx, sx⟩ := hkid 0 x rfl; obtain ⟨ya, yc, ry, sy⟩ := hkid 1 y rfl; clear hkid hs2
    generalize x.ftext = q1 at *
    generalize y.ftext = q2 at *
    refine calls_in Tryz.func24 Tryz.ntmps24 rfl rfl ?_
    focus
     refine cS ?_; (refine lw_box' [_, _, _, _] rfl rfl rfl ?_; intro bd1 wd2 nd3); have hd4 := nd3.blk; have xd5 := nd3.ext; have pd6 := nd3.pos; have zd7 := nd3.size; clear nd3; replace ht := ht.ext xd5; replace X := X.ext xd5; replace hs' := Bk.rowSits.ext hs' xd5; replace rx := rx.ext xd5; replace sx := Nd.sits.ext sx xd5; replace ry := ry.ext xd5; replace sy := Nd.sits.ext sy xd5; clear xd5; refine cA rfl rfl (cT (cw_seq (cS (lw_pure (pur_fieldAddr0 tabOk rfl rfl rfl) rfl (lw_load_b tabOk rfl rfl rfl hd4 rfl rfl (cT (cw_block (cS (lw_pure (pur_eql rfl rfl) rfl (cA rfl rfl (cT ?_))))))))))); refine cw_no rfl (by assumption) ?_; refine cS (lw_pure (pur_eql rfl rfl) rfl (cA rfl rfl (cT ?_))); refine cw_no rfl (by assumption) ?_; refine cS (lw_pure (pur_eql rfl rfl) rfl (cA rfl rfl (cT ?_))); refine cw_no rfl (by assumption) ?_; refine cS (lw_pure (pur_eql rfl rfl) rfl (cA rfl rfl (cT ?_))); refine cw_no rfl (by assumption) ?_; refine cS (lw_pure (pur_eql rfl rfl) rfl (cA rfl rfl (cT ?_))); refine cw_yes rfl (by decide) ?_; refine cw_seq ?_; (refine cw_tdraw (fun wz => Ext wd2 wz) 16 (.pure 0 (.pure 1 (.pure 2 (.pure 3 (.pure 4 (.pure 5 (.pure 6 (.pure 7 (.pure 11 (.pure 12 (.pure 13 (.pure 14 (.fork 8 (.pure 9 (.pure 10 (.fork 15 .tail .none))) .none))))))))))))) mixed (by kernel_rfl) (panicOk_then (panicOk_block (panicOk_then panicOk_body))) ?_; intro wd8 xd9 _); have qsd10 : (fun wz => Ext wd2 wz) wd8 := xd9; simp only at qsd10; have d_hd4 := hd4; have d_ht := ht; have d_hs' := hs'
     have d_rx := rx; have d_sx := sx; have d_ry := ry; have d_sy := sy; have zd11 := xd9.size; replace hd4 := hd4.ext xd9; replace ht := ht.ext xd9; replace X := X.ext xd9; replace hs' := Bk.rowSits.ext hs' xd9; replace rx := rx.ext xd9; replace sx := Nd.sits.ext sx xd9; replace ry := ry.ext xd9; replace sy := Nd.sits.ext sy xd9; clear xd9; refine ⟨qsd10, ?_⟩; refine tw_pure rfl (pur_fieldAddr tabOk rfl rfl rfl) rfl (tw_pure rfl (pur_load tabOk rfl rfl rfl (fun wz hz => Blk.cell (Blk.ext d_hd4 hz) rfl)) rfl ?_); refine tw_pure rfl (pur_sadd rfl rfl (by simp only [List.length_cons, List.length_nil]; omega)) rfl ?_; refine tw_pure rfl (pur_sadd rfl rfl (by simp only [List.length_append, List.length_cons, List.length_nil]; omega)) rfl ?_; refine tw_pure rfl (pur_fieldAddr tabOk rfl rfl rfl) rfl (tw_pure rfl (pur_load tabOk rfl rfl rfl (fun wz hz => Blk.cell (Blk.ext d_hd4 hz) rfl)) rfl ?_); refine tw_pure rfl (pur_indexAddr tabOk rfl rfl rfl rfl (by omega) (by omega)) rfl ?_; refine tw_pure rfl (pur_loads_row' [_, _, _, _] tabOk rfl rfl rfl (fun wz hz => (Row.ext d_rx hz)) rfl rfl) rfl (tw_pure rfl (pur_fieldAddr tabOk rfl rfl rfl) rfl (tw_pure rfl (pur_load tabOk rfl rfl rfl (fun wz hz => Blk.cell (Blk.ext d_hd4 hz) rfl)) rfl ?_)); refine tw_pure rfl (pur_indexAddr tabOk rfl rfl rfl rfl (by omega) (by omega)) rfl ?_; refine tw_pure rfl (pur_loads' tabOk rfl rfl rfl (fun wz hz => (Row.ext d_ry hz)) rfl) rfl ?_; refine tw_does rfl (does_call (by kernel_rfl) rfl (HO.out _ _ _ _ (by assumption) (by assumption)) (fun _ _ h => ⟨_, h.1⟩)) rfl ?_ (fun _ h => h) tw_none
     rintro _ wd14 ⟨⟨⟩, xd13⟩; have zd15 := xd13.size; replace qsd10 := qsd10.ext xd13; replace hd4 := hd4.ext xd13; replace ht := ht.ext xd13; replace X := X.ext xd13; replace hs' := Bk.rowSits.ext hs' xd13; replace rx := rx.ext xd13; replace sx := Nd.sits.ext sx xd13; replace ry := ry.ext xd13; replace sy := Nd.sits.ext sy xd13; clear xd13; refine ⟨qsd10, ?_⟩; refine tw_pure rfl (pur_sadd rfl rfl (by simp only [List.length_append, List.length_cons, List.length_nil]; omega)) rfl ?_; refine tw_pure rfl (pur_sadd rfl rfl (by simp only [List.length_append, List.length_cons, List.length_nil]; omega)) rfl ?_; refine tw_does rfl (does_call (by kernel_rfl) rfl (HP.out _ _ _ _ (by assumption) (by assumption)) (fun _ _ h => ⟨_, h.1⟩)) rfl ?_ (fun _ h => h) tw_none; rintro _ wd18 ⟨⟨⟩, xd17⟩; have zd19 := xd17.size; replace qsd10 := qsd10.ext xd17; replace hd4 := hd4.ext xd17; replace ht := ht.ext xd17; replace X := X.ext xd17; replace hs' := Bk.rowSits.ext hs' xd17; replace rx := rx.ext xd17; replace sx := Nd.sits.ext sx xd17; replace ry := ry.ext xd17; replace sy := Nd.sits.ext sy xd17; clear xd17; refine ⟨qsd10, ?_⟩; clear d_hd4 d_ht d_hs' d_rx d_sx d_ry d_sy qsd10; refine tw_tail rfl ?_; refine lw_pure (pur_sadd rfl rfl (by simp only [List.length_append, List.length_cons, List.length_nil]; omega)) rfl ?_; refine lw_pure (pur_sadd rfl rfl (by simp only [List.length_append, List.length_cons, List.length_nil]; omega)) rfl ?_; refine cA rfl rfl (cT (cw_ret (qw_block_ret (qw_then_ret (qw_ret1 rfl rfl ?_)))))
     rotate_left 1
    exact strR rfl X
  by_cases k6 : k = 86
  · subst k6
    rw [if_neg (by decide), if_neg (by decide), if_neg (by decide), if_neg (by decide), if_neg (by decide), if_pos rfl]; refine calls_in Tryz.func24 Tryz.ntmps24 rfl rfl ?_
    focus
     refine cS ?_; (refine lw_box' [_, _, _, _] rfl rfl rfl ?_; intro be1 we2 ne3); have he4 := ne3.blk; have xe5 := ne3.ext; have pe6 := ne3.pos; have ze7 := ne3.size; clear ne3; replace ht := ht.ext xe5; replace X := X.ext xe5; replace hs' := Bk.rowSits.ext hs' xe5; clear xe5; refine cA rfl rfl (cT (cw_seq (cS (lw_pure (pur_fieldAddr0 tabOk rfl rfl rfl) rfl (lw_load_b tabOk rfl rfl rfl he4 rfl rfl (cT (cw_block (cS (lw_pure (pur_eql rfl rfl) rfl (cA rfl rfl (cT ?_))))))))))); refine cw_no rfl (by assumption) ?_; refine cS (lw_pure (pur_eql rfl rfl) rfl (cA rfl rfl (cT ?_))); refine cw_no rfl (by assumption) ?_; refine cS (lw_pure (pur_eql rfl rfl) rfl (cA rfl rfl (cT ?_))); refine cw_no rfl (by assumption) ?_; refine cS (lw_pure (pur_eql rfl rfl) rfl (cA rfl rfl (cT ?_))); refine cw_no rfl (by assumption) ?_; refine cS (lw_pure (pur_eql rfl rfl) rfl (cA rfl rfl (cT ?_))); refine cw_no rfl (by assumption) ?_; refine cS (lw_pure (pur_eql rfl rfl) rfl (cA rfl rfl (cT ?_))); refine cw_yes rfl (by decide) ?_; refine cS (cA rfl rfl (cT (cw_ret (qw_block_ret (qw_then_ret (qw_ret1 rfl rfl ?_)))))); rotate_left 1
    exact strR rfl X
  by_cases k7 : k = 87
  · subst k7
    rw [if_neg (by decide), if_neg (by decide), if_neg (by decide), if_neg (by decide), if_neg (by decide), if_neg (by decide), if_pos rfl] at hlen ⊢; have HA := Lib.hid (HA.out [112, 117, 115, 104] (by omega)); clear hlen
    generalize appT [112, 117, 115, 104] (rowText l) = q at *
    refine calls_in Tryz.func24 Tryz.ntmps24 rfl rfl ?_
    focus
     refine cS ?_; (refine lw_box' [_, _, _, _] rfl rfl rfl ?_; intro bf1 wf2 nf3); have hf4 := nf3.blk; have xf5 := nf3.ext; have pf6 := nf3.pos; have zf7 := nf3.size; clear nf3; replace ht := ht.ext xf5; replace X := X.ext xf5; replace hs' := Bk.rowSits.ext hs' xf5; clear xf5; refine cA rfl rfl (cT (cw_seq (cS (lw_pure (pur_fieldAddr0 tabOk rfl rfl rfl) rfl (lw_load_b tabOk rfl rfl rfl hf4 rfl rfl (cT (cw_block (cS (lw_pure (pur_eql rfl rfl) rfl (cA rfl rfl (cT ?_))))))))))); refine cw_no rfl (by assumption) ?_; refine cS (lw_pure (pur_eql rfl rfl) rfl (cA rfl rfl (cT ?_))); refine cw_no rfl (by assumption) ?_; refine cS (lw_pure (pur_eql rfl rfl) rfl (cA rfl rfl (cT ?_))); refine cw_no rfl (by assumption) ?_; refine cS (lw_pure (pur_eql rfl rfl) rfl (cA rfl rfl (cT ?_))); refine cw_no rfl (by assumption) ?_; refine cS (lw_pure (pur_eql rfl rfl) rfl (cA rfl rfl (cT ?_))); refine cw_no rfl (by assumption) ?_; refine cS (lw_pure (pur_eql rfl rfl) rfl (cA rfl rfl (cT ?_))); refine cw_no rfl (by assumption) ?_; refine cS (lw_pure (pur_eql rfl rfl) rfl (cA rfl rfl (cT ?_))); refine cw_yes rfl (by decide) ?_; refine cS (lw_pure (pur_fieldAddr tabOk rfl rfl rfl) rfl (lw_load_b tabOk rfl rfl rfl hf4 rfl rfl ?_)); refine cC (by kernel_rfl) rfl (HA.out _ _ _ _ (by assumption) (by assumption)) rfl ?_; rintro _ wf9 ⟨⟨⟩, xf8⟩; have zf10 := xf8.size; replace hf4 := hf4.ext xf8; replace ht := ht.ext xf8; replace X := X.ext xf8; replace hs' := Bk.rowSits.ext hs' xf8; clear xf8; refine cA rfl rfl (cT (cw_ret (qw_block_ret (qw_then_ret (qw_ret1 rfl rfl ?_)))))
     rotate_left 1
    exact strR rfl X
  by_cases k9 : k = 89
  · subst k9
    rw [if_neg (by decide), if_neg (by decide), if_neg (by decide), if_neg (by decide), if_neg (by decide), if_neg (by decide), if_neg (by decide), if_pos rfl] at hlen ⊢; have HA := Lib.hid (HA.out [112, 111, 112] (by omega)); clear hlen
    generalize appT [112, 111, 112] (rowText l) = q at *
    refine calls_in Tryz.func24 Tryz.ntmps24 rfl rfl ?_
    focus
     refine cS ?_; (refine lw_box' [_, _, _, _] rfl rfl rfl ?_; intro bg1 wg2 ng3); have hg4 := ng3.blk; have xg5 := ng3.ext; have pg6 := ng3.pos; have zg7 := ng3.size; clear ng3; replace ht := ht.ext xg5; replace X := X.ext xg5; replace hs' := Bk.rowSits.ext hs' xg5; clear xg5; refine cA rfl rfl (cT (cw_seq (cS (lw_pure (pur_fieldAddr0 tabOk rfl rfl rfl) rfl (lw_load_b tabOk rfl rfl rfl hg4 rfl rfl (cT (cw_block (cS (lw_pure (pur_eql rfl rfl) rfl (cA rfl rfl (cT ?_))))))))))); refine cw_no rfl (by assumption) ?_; refine cS (lw_pure (pur_eql rfl rfl) rfl (cA rfl rfl (cT ?_))); refine cw_no rfl (by assumption) ?_; refine cS (lw_pure (pur_eql rfl rfl) rfl (cA rfl rfl (cT ?_))); refine cw_no rfl (by assumption) ?_; refine cS (lw_pure (pur_eql rfl rfl) rfl (cA rfl rfl (cT ?_))); refine cw_no rfl (by assumption) ?_; refine cS (lw_pure (pur_eql rfl rfl) rfl (cA rfl rfl (cT ?_))); refine cw_no rfl (by assumption) ?_; refine cS (lw_pure (pur_eql rfl rfl) rfl (cA rfl rfl (cT ?_))); refine cw_no rfl (by assumption) ?_; refine cS (lw_pure (pur_eql rfl rfl) rfl (cA rfl rfl (cT ?_))); refine cw_no rfl (by assumption) ?_; refine cS (lw_pure (pur_eql rfl rfl) rfl (cA rfl rfl (cT ?_))); refine cw_yes rfl (by decide) ?_; refine cS (lw_pure (pur_fieldAddr tabOk rfl rfl rfl) rfl (lw_load_b tabOk rfl rfl rfl hg4 rfl rfl ?_)); refine cC (by kernel_rfl) rfl (HA.out _ _ _ _ (by assumption) (by assumption)) rfl ?_; rintro _ wg9 ⟨⟨⟩, xg8⟩; have zg10 := xg8.size; replace hg4 := hg4.ext xg8; replace ht := ht.ext xg8
     replace X := X.ext xg8; replace hs' := Bk.rowSits.ext hs' xg8; clear xg8; refine cA rfl rfl (cT (cw_ret (qw_block_ret (qw_then_ret (qw_ret1 rfl rfl ?_))))); rotate_left 1
    exact strR rfl X
  by_cases k8 : k = 88
  · subst k8
    rw [if_neg (by decide), if_neg (by decide), if_neg (by decide), if_neg (by decide), if_neg (by decide), if_neg (by decide), if_neg (by decide), if_neg (by decide), if_pos rfl] at hlen ⊢; have HA := Lib.hid (HA.out [116, 111, 112] (by omega)); clear hlen
    generalize appT [116, 111, 112] (rowText l) = q at *
    refine calls_in Tryz.func24 Tryz.ntmps24 rfl rfl ?_
    focus
     refine cS ?_; (refine lw_box' [_, _, _, _] rfl rfl rfl ?_; intro bh1 wh2 nh3); have hh4 := nh3.blk; have xh5 := nh3.ext; have ph6 := nh3.pos; have zh7 := nh3.size; clear nh3; replace ht := ht.ext xh5; replace X := X.ext xh5; replace hs' := Bk.rowSits.ext hs' xh5; clear xh5; refine cA rfl rfl (cT (cw_seq (cS (lw_pure (pur_fieldAddr0 tabOk rfl rfl rfl) rfl (lw_load_b tabOk rfl rfl rfl hh4 rfl rfl (cT (cw_block (cS (lw_pure (pur_eql rfl rfl) rfl (cA rfl rfl (cT ?_))))))))))); refine cw_no rfl (by assumption) ?_; refine cS (lw_pure (pur_eql rfl rfl) rfl (cA rfl rfl (cT ?_))); refine cw_no rfl (by assumption) ?_; refine cS (lw_pure (pur_eql rfl rfl) rfl (cA rfl rfl (cT ?_))); refine cw_no rfl (by assumption) ?_; refine cS (lw_pure (pur_eql rfl rfl) rfl (cA rfl rfl (cT ?_))); refine cw_no rfl (by assumption) ?_; refine cS (lw_pure (pur_eql rfl rfl) rfl (cA rfl rfl (cT ?_))); refine cw_no rfl (by assumption) ?_; refine cS (lw_pure (pur_eql rfl rfl) rfl (cA rfl rfl (cT ?_))); refine cw_no rfl (by assumption) ?_; refine cS (lw_pure (pur_eql rfl rfl) rfl (cA rfl rfl (cT ?_))); refine cw_no rfl (by assumption) ?_; refine cS (lw_pure (pur_eql rfl rfl) rfl (cA rfl rfl (cT ?_))); refine cw_no rfl (by assumption) ?_; refine cS (lw_pure (pur_eql rfl rfl) rfl (cA rfl rfl (cT ?_))); refine cw_yes rfl (by decide) ?_; refine cS (lw_pure (pur_fieldAddr tabOk rfl rfl rfl) rfl (lw_load_b tabOk rfl rfl rfl hh4 rfl rfl ?_)); refine cC (by kernel_rfl) rfl (HA.out _ _ _ _ (by assumption) (by assumption)) rfl ?_
     rintro _ wh9 ⟨⟨⟩, xh8⟩; have zh10 := xh8.size; replace hh4 := hh4.ext xh8; replace ht := ht.ext xh8; replace X := X.ext xh8; replace hs' := Bk.rowSits.ext hs' xh8; clear xh8; refine cA rfl rfl (cT (cw_ret (qw_block_ret (qw_then_ret (qw_ret1 rfl rfl ?_))))); rotate_left 1
    exact strR rfl X
  by_cases k10 : k = 90
  · subst k10
    rw [if_neg (by decide), if_neg (by decide), if_neg (by decide), if_neg (by decide), if_neg (by decide), if_neg (by decide), if_neg (by decide), if_neg (by decide), if_neg (by decide), if_pos rfl] at hlen ⊢; obtain ⟨x, rfl⟩ := len1 (formN_90 h1); obtain ⟨t1, t2, t3⟩ := hT x (by simp); have HO := Lib.hid (fun S a c w h1 h2 => operand_c x 9 t1 (okT_op t2) t3 S a c w h1 h2); simp only [rowText, List.map_cons, List.map_nil, List.getD_cons_zero, List.getD_cons_succ, List.length_append, List.length_cons, List.length_nil] at hlen ⊢
    generalize wrapT 9 (x.kind, x.num) x.ftext = q1 at *
    clear hT HA t1 t2 t3; have hs2 := hs'; obtain ⟨kb, ko, rfl, hkS, hkid⟩ := kidRows hs2 (by simp); obtain ⟨xa, xc, rx, sx⟩ := hkid 0 x rfl; clear hkid hs2; refine calls_in Tryz.func24 Tryz.ntmps24 rfl rfl ?_
    focus
     refine cS ?_; (refine lw_box' [_, _, _, _] rfl rfl rfl ?_; intro bi1 wi2 ni3); have hi4 := ni3.blk; have xi5 := ni3.ext; have pi6 := ni3.pos; have zi7 := ni3.size; clear ni3; replace ht := ht.ext xi5; replace X := X.ext xi5; replace hs' := Bk.rowSits.ext hs' xi5; replace rx := rx.ext xi5; replace sx := Nd.sits.ext sx xi5; clear xi5; refine cA rfl rfl (cT (cw_seq (cS (lw_pure (pur_fieldAddr0 tabOk rfl rfl rfl) rfl (lw_load_b tabOk rfl rfl rfl hi4 rfl rfl (cT (cw_block (cS (lw_pure (pur_eql rfl rfl) rfl (cA rfl rfl (cT ?_))))))))))); refine cw_no rfl (by assumption) ?_; refine cS (lw_pure (pur_eql rfl rfl) rfl (cA rfl rfl (cT ?_))); refine cw_no rfl (by assumption) ?_; refine cS (lw_pure (pur_eql rfl rfl) rfl (cA rfl rfl (cT ?_))); refine cw_no rfl (by assumption) ?_; refine cS (lw_pure (pur_eql rfl rfl) rfl (cA rfl rfl (cT ?_))); refine cw_no rfl (by assumption) ?_; refine cS (lw_pure (pur_eql rfl rfl) rfl (cA rfl rfl (cT ?_))); refine cw_no rfl (by assumption) ?_; refine cS (lw_pure (pur_eql rfl rfl) rfl (cA rfl rfl (cT ?_))); refine cw_no rfl (by assumption) ?_; refine cS (lw_pure (pur_eql rfl rfl) rfl (cA rfl rfl (cT ?_))); refine cw_no rfl (by assumption) ?_; refine cS (lw_pure (pur_eql rfl rfl) rfl (cA rfl rfl (cT ?_))); refine cw_no rfl (by assumption) ?_; refine cS (lw_pure (pur_eql rfl rfl) rfl (cA rfl rfl (cT ?_))); refine cw_no rfl (by assumption) ?_; refine cS (lw_pure (pur_eql rfl rfl) rfl (cA rfl rfl (cT ?_))); refine cw_yes rfl (by decide) ?_; refine cw_seq ?_
     (refine cw_tdraw (fun wz => Ext wi2 wz) 5 (.pure 0 (.pure 1 (.pure 2 (.pure 3 (.fork 4 .tail .none))))) mixed (by kernel_rfl) (panicOk_then (panicOk_block (panicOk_then panicOk_body))) ?_; intro wi8 xi9 _); have qsi10 : (fun wz => Ext wi2 wz) wi8 := xi9; simp only at qsi10; have d_hi4 := hi4; have d_ht := ht; have d_hs' := hs'; have d_rx := rx; have d_sx := sx; have zi11 := xi9.size; replace hi4 := hi4.ext xi9; replace ht := ht.ext xi9; replace X := X.ext xi9; replace hs' := Bk.rowSits.ext hs' xi9; replace rx := rx.ext xi9; replace sx := Nd.sits.ext sx xi9; clear xi9; refine ⟨qsi10, ?_⟩; refine tw_pure rfl (pur_fieldAddr tabOk rfl rfl rfl) rfl (tw_pure rfl (pur_load tabOk rfl rfl rfl (fun wz hz => Blk.cell (Blk.ext d_hi4 hz) rfl)) rfl ?_); refine tw_pure rfl (pur_indexAddr tabOk rfl rfl rfl rfl (by omega) (by omega)) rfl ?_; refine tw_pure rfl (pur_loads_row' [_, _, _, _] tabOk rfl rfl rfl (fun wz hz => (Row.ext d_rx hz)) rfl rfl) rfl ?_; refine tw_does rfl (does_call (by kernel_rfl) rfl (arith_Level_c _ _ (by omega) (by omega)) (fun _ _ h => ⟨_, h.1⟩)) rfl ?_ (fun _ h => h) tw_none; rintro _ wi13 ⟨⟨⟩, rfl⟩; refine ⟨qsi10, ?_⟩; clear qsi10 d_hi4 d_ht d_hs' d_rx d_sx; refine tw_tail rfl ?_; refine cC (by kernel_rfl) rfl (HO.out _ _ _ _ (by assumption) (by assumption)) rfl ?_; rintro _ wi15 ⟨⟨⟩, xi14⟩; have zi16 := xi14.size; replace hi4 := hi4.ext xi14; replace ht := ht.ext xi14; replace X := X.ext xi14; replace hs' := Bk.rowSits.ext hs' xi14; replace rx := rx.ext xi14; replace sx := Nd.sits.ext sx xi14
     clear xi14; refine lw_pure (pur_sadd rfl rfl (by simp only [List.length_cons, List.length_nil]; omega)) rfl ?_; refine cA rfl rfl (cT (cw_ret (qw_block_ret (qw_then_ret (qw_ret1 rfl rfl ?_))))); rotate_left 1
    exact strR rfl X
  rw [if_neg k0, if_neg k1, if_neg k2, if_neg k3, if_neg k4, if_neg k6, if_neg k7, if_neg k9, if_neg k8, if_neg k10] at hlen ⊢; have HA := Lib.hid (HA.out s (by omega)); clear hlen
  generalize appT s (rowText l) = q at *
  refine calls_in Tryz.func24 Tryz.ntmps24 rfl rfl ?_
  focus
   refine cS ?_; (refine lw_box' [_, _, _, _] rfl rfl rfl ?_; intro bj1 wj2 nj3); have hj4 := nj3.blk; have xj5 := nj3.ext; have pj6 := nj3.pos; have zj7 := nj3.size; clear nj3; replace ht := ht.ext xj5; replace X := X.ext xj5; replace hs' := Bk.rowSits.ext hs' xj5; clear xj5; refine cA rfl rfl (cT (cw_seq (cS (lw_pure (pur_fieldAddr0 tabOk rfl rfl rfl) rfl (lw_load_b tabOk rfl rfl rfl hj4 rfl rfl (cT (cw_block (cS (lw_pure (pur_eql rfl rfl) rfl (cA rfl rfl (cT ?_))))))))))); refine cw_no rfl (by assumption) ?_; refine cS (lw_pure (pur_eql rfl rfl) rfl (cA rfl rfl (cT ?_))); refine cw_no rfl (by assumption) ?_; refine cS (lw_pure (pur_eql rfl rfl) rfl (cA rfl rfl (cT ?_))); refine cw_no rfl (by assumption) ?_; refine cS (lw_pure (pur_eql rfl rfl) rfl (cA rfl rfl (cT ?_))); refine cw_no rfl (by assumption) ?_; refine cS (lw_pure (pur_eql rfl rfl) rfl (cA rfl rfl (cT ?_))); refine cw_no rfl (by assumption) ?_; refine cS (lw_pure (pur_eql rfl rfl) rfl (cA rfl rfl (cT ?_))); refine cw_no rfl (by assumption) ?_; refine cS (lw_pure (pur_eql rfl rfl) rfl (cA rfl rfl (cT ?_))); refine cw_no rfl (by assumption) ?_; refine cS (lw_pure (pur_eql rfl rfl) rfl (cA rfl rfl (cT ?_))); refine cw_no rfl (by assumption) ?_; refine cS (lw_pure (pur_eql rfl rfl) rfl (cA rfl rfl (cT ?_))); refine cw_no rfl (by assumption) ?_; refine cS (lw_pure (pur_eql rfl rfl) rfl (cA rfl rfl (cT ?_))); refine cw_no rfl (by assumption) ?_; refine cw_skip (qw_block_norm (qw_then (cS (lw_pure (pur_fieldAddr tabOk rfl rfl rfl) rfl (lw_load_b tabOk rfl rfl rfl hj4 rfl rfl (lw_pure (pur_fieldAddr tabOk rfl rfl rfl) rfl (lw_load_b tabOk rfl rfl rfl hj4 rfl rfl ?_)))))))
   refine cC (by kernel_rfl) rfl (HA.out _ _ _ _ (by assumption) (by assumption)) rfl ?_; rintro _ wj9 ⟨⟨⟩, xj8⟩; have zj10 := xj8.size; replace hj4 := hj4.ext xj8; replace ht := ht.ext xj8; replace X := X.ext xj8; replace hs' := Bk.rowSits.ext hs' xj8; clear xj8; refine cA rfl rfl (cT (cw_ret (qw_ret1 rfl rfl ?_))); rotate_left 1
  exact strR rfl X
end Bk
namespace Bk
open Go Go.RowKit Go.Proofs
structure BT (T : TypeId) : Prop where
 lies : liesAt Tryz.prog Tryz.prog.depth T (2 / Tryz.prog.cellsOf T) 0 56 1 = true
 ne : T ≠ 5
theorem bSize : (Tryz.prog.info? 56).map (·.size) = some 2 := by kernel_rfl
theorem infoByte : (Tryz.prog.info? 5).map (fun i => (i.zero, i.size, i.bytes)) = some (some (.int .u8 0), 1, 1) := by kernel_rfl
theorem uPtrB : Tryz.prog.underlying 54 = some (.pointer 56) := by kernel_rfl
theorem uUnsafe : Tryz.prog.underlying 112 = some .unsafePointer := by kernel_rfl
theorem uBytes : Tryz.prog.underlying 39 = some (.slice 5) := by kernel_rfl
set_option maxRecDepth 100000 in
theorem copyCheck_fresh (T : TypeId) (hT : BT T) (b : Nat) (w : World) (h0 : w.cell? ⟨b, 0, none⟩ = some (.pointer none)) (hsh : w.shape? b = some (T, 2)) (hfz : w.frozen? ⟨b, 0, none⟩ = false) :
 Calls Tryz.prog 41 #[.pointer (some ⟨b, 0, none⟩)] w fun e w' => e = .returned (.tuple #[]) ∧ w' = w.setCell ⟨b, 0, none⟩ (.pointer (some ⟨b, 0, none⟩)) := by
 obtain ⟨j, hj, hjs⟩ := Option.map_eq_some_iff.1 bSize
 go_enter Tryz.func41, Tryz.ntmps41
 go_wp2
 rw [Lib.run_to_unsafe w ⟨b, 0, none⟩ uPtrB uUnsafe hj (by rw [hjs]; decide) hsh (Nat.zero_lt_succ 1)]; simp only [Result.andThen]; rw [Oper.upon_value]
 go_wp2
 rw [run_callFunc_extern Tryz.func75 (by kernel_rfl) (by kernel_rfl) (by kernel_rfl) (e := Extern.AbiNoEscape.same) (by kernel_rfl)]; rw [Lib.run_noEscape]; simp only [Result.andThen]; rw [Oper.upon_value]
 go_wp2
 rw [Lib.run_from_unsafe w ⟨b, 0, none⟩ uUnsafe uPtrB hj hsh hT.lies]; simp only [Result.andThen]; rw [Oper.upon_value]
 go_wp2
 go_end0
 exact ⟨rfl, rfl⟩
set_option maxRecDepth 100000 in
theorem copyCheck_used (b : Nat) (w : World) (h0 : w.cell? ⟨b, 0, none⟩ = some (.pointer (some ⟨b, 0, none⟩))) :
 Calls Tryz.prog 41 #[.pointer (some ⟨b, 0, none⟩)] w fun e w' => e = .returned (.tuple #[]) ∧ w' = w := by
 obtain ⟨j, hj, hjs⟩ := Option.map_eq_some_iff.1 bSize
 go_enter Tryz.func41, Tryz.ntmps41
 go_wp2
 rw [Lib.run_neq_ptr_same w _ uPtrB hj]
 go_wp2
 go_end0
 exact ⟨rfl, rfl⟩
structure Fb (B b : Nat) (w w' : World) : Prop where
 below : Below B w w'
 kept : Lib.OthersKept 5 (some b) w w'
theorem Fb.refl (B b : Nat) (w : World) : Fb B b w w := ⟨Below.refl _ _, Lib.OthersKept.refl _ _ _⟩
theorem Fb.trans {B b : Nat} {u v w : World} (h : Fb B b u v) (k : Fb B b v w) : Fb B b u w := ⟨h.below.trans k.below, h.kept.trans k.kept⟩
theorem copyCheck_c (T : TypeId) (hT : BT T) (B b : Nat) (bs : List Value) (w : World) (h : Lib.IsBuilderF T 5 B b bs w) :
 Calls Tryz.prog 41 #[.pointer (some ⟨b, 0, none⟩)] w fun e w' => e = .returned (.tuple #[]) ∧ (Lib.BuilderAtF T 5 B b (.pointer (some ⟨b, 0, none⟩)) bs w' ∧ Fb B b w w') := by
 rcases h with h | h
 · refine (copyCheck_fresh T hT b w h.cell0 h.shape h.frozen0).mono ?_
   rintro e w' ⟨rfl, rfl⟩
   exact ⟨rfl, h.used _, (Below.refl B w).setCell (p := ⟨b, 0, none⟩) h.1 _, (Lib.OthersKept.refl _ _ w).setCell ⟨b, 0, none⟩ rfl _⟩
 · refine (copyCheck_used b w h.cell0).mono ?_
   rintro e w' ⟨rfl, rfl⟩
   exact ⟨rfl, h, Below.refl B _, Lib.OthersKept.refl _ _ _⟩
set_option maxHeartbeats 2000000 in
set_option maxRecDepth 100000 in
theorem WriteString_c (T : TypeId) (hT : BT T) (B b : Nat) (bs : List Value) (s : ByteArray) (w : World) (h : Lib.IsBuilderF T 5 B b bs w) (hlen : bs.length + s.size ≤ 140737488355328) (hBw : B ≤ w.heap.size) :
 Calls Tryz.prog 22 #[.pointer (some ⟨b, 0, none⟩), .string s] w fun e w' => e = .returned (.tuple #[.int .i64 s.size, .nilIface]) ∧ (Lib.IsBuilderF T 5 B b (bs ++ Lib.strCells s) w' ∧ Fb B b w w') := by
 obtain ⟨i0, hi, hz0, hz1, hz2⟩ := info_parts infoByte
 go_enter Tryz.func22, Tryz.ntmps22
 go_wp2_with (go_at_call 41; refine (copyCheck_c T hT B b bs _ h).mono ?_)
 rintro e w1 ⟨rfl, h1, hb1, hk1⟩; obtain ⟨hB, v, hbk, hown, hne⟩ := h1
 have c0 : w1.cell? ⟨b, 0, none⟩ = some (.pointer (some ⟨b, 0, none⟩)) := by rw [Lib.cell_of_heap hbk]; rfl
 have c1 : w1.cell? ⟨b, 1, none⟩ = some v := by rw [Lib.cell_of_heap hbk]; rfl
 go_wp2_with (at_builtin; refine Lib.wpList_append_own_stringF _ rfl _ _ 39 9 rfl B 5 i0 uBytes underStr hi hz0 hz1 hz2 _ _ _ rfl hown s rfl ?c3 ?c4 ?c5 ?_)
 case c3 => unfold maxLen; omega
 case c4 => omega
 case c5 => have := hb1.size; omega
 intro v' w2 hown' hgrow _
 have hlt : b < w1.heap.size := by
  rcases Nat.lt_or_ge b w1.heap.size with h' | h'
  · exact h'
  · simp [Array.getElem?_eq_none h'] at hbk
 have hb2 : w2.heap[b]? = some (.cells #[.pointer (some ⟨b, 0, none⟩), v] T (0, 0)) := by
  rw [hgrow.block b hlt (fun e => hne e.symm)]
  exact hbk
 have d0 : w2.cell? ⟨b, 0, none⟩ = some (.pointer (some ⟨b, 0, none⟩)) := by rw [Lib.cell_of_heap hb2]; rfl
 have d1 : w2.cell? ⟨b, 1, none⟩ = some v := by rw [Lib.cell_of_heap hb2]; rfl
 have f1 : w2.frozen? ⟨b, 1, none⟩ = false := Lib.frozen_of_heap hb2 1
 obtain ⟨ao, n', cap, rfl⟩ : ∃ ao n' cap, v' = .slice ao n' cap := by
  rcases hown'.2 with ⟨hv, _⟩ | ⟨g, cap, cur, fz, hv, _⟩
  · exact ⟨_, _, _, hv⟩
  · exact ⟨_, _, _, hv⟩
 go_wp2
 go_ret2
 refine ⟨rfl, .inr ?_, ?_, (hk1.grown hgrow (Lib.ownsRowF_kind hown)).setCell ⟨b, 1, none⟩ rfl _⟩
 · exact Lib.BuilderAtF.put (T := T) (e := 5) hB hb2 (bs' := bs ++ Lib.strCells s) (by simpa [Lib.strCells_length] using hown') hT.ne
 · exact (hb1.grown hgrow (by have := hb1.size; omega) (fun k hk => (hown.lt k hk).1)).setCell (p := ⟨b, 1, none⟩) hB _
theorem uPtrByte : Tryz.prog.underlying 95 = some (.pointer 5) := by kernel_rfl
theorem cellsByte : Tryz.prog.cellsOf 5 = 1 := by kernel_rfl
theorem unsafeString_none' (W : World) (q : Option Addr) : (Builtin.unsafeString_ #[95, 3] 9 #[.pointer q, .int .i64 0]).run Tryz.prog W = .ok (.string .empty) W :=
 Lib.run_unsafeString_none W _ _ _ q
set_option maxHeartbeats 1000000 in
set_option maxRecDepth 100000 in
theorem String_some (T : TypeId) (B b : Nat) (l : List UInt8) (w : World) (h : Lib.IsBuilderF T 5 B b (Lib.byteCells l) w) (h0 : l ≠ []) :
 Calls Tryz.prog 25 #[.pointer (some ⟨b, 0, none⟩)] w fun e w' => e = .returned (.string ⟨l.toArray⟩) ∧ (Lib.IsBuilderF T 5 B b (Lib.byteCells l) w' ∧ Fb B b w w') := by
 obtain ⟨p, hp, hAt⟩ : ∃ p, (p = .pointer none ∨ p = .pointer (some ⟨b, 0, none⟩)) ∧ Lib.BuilderAtF T 5 B b p (Lib.byteCells l) w := by
  rcases h with h | h
  · exact ⟨_, .inl rfl, h⟩
  · exact ⟨_, .inr rfl, h⟩
 obtain ⟨hB, v, hbk, hown, hne⟩ := hAt
 have hl0 : l.length ≠ 0 := by simpa using h0
 rw [Lib.byteCells_length] at hown
 obtain ⟨g, cap, cur, fz, rfl, hbg, hg, hfz, hnc, hcm, hcs, htake⟩ : ∃ g cap cur fz, v = .slice (some ⟨g, 0, none⟩) l.length cap ∧ B ≤ g ∧ w.heap[g]? = some (.cells cur 5 fz) ∧ fz.2 ≤ l.length * 1 ∧ l.length ≤ cap ∧ cap ≤ maxLen ∧ cur.size = cap * 1 ∧ cur.toList.take (l.length * 1) = Lib.byteCells l := by
  rcases hown.2 with ⟨_, hz⟩ | ⟨g, cap, cur, fz, hv, r⟩
  · exact absurd hz hl0
  · exact ⟨g, cap, cur, fz, hv, r⟩
 have c1 : w.drew.cell? ⟨b, 1, none⟩ = some (.slice (some ⟨g, 0, none⟩) l.length cap) := by
  have : w.drew.heap[b]? = some (.cells #[p, .slice (some ⟨g, 0, none⟩) l.length cap] T (0, 0)) := hbk
  rw [Lib.cell_of_heap this]; rfl
 have hSD : (Builtin.unsafeSliceData_ #[39] 95 #[.slice (some ⟨g, 0, none⟩) l.length cap]).run Tryz.prog w.drew = .ok (.pointer (some ⟨g, 0, none⟩)) w.drew :=
  Lib.run_unsafeSliceData_row _ _ _ _ _ _ (by omega)
 have hUS : (Builtin.unsafeString_ #[95, 3] 9 #[.pointer (some ⟨g, 0, none⟩), .int .i64 l.length]).run Tryz.prog w.drew = .ok (.string ⟨l.toArray⟩) (w.drew.freeze ⟨g, 0, none⟩ l.length) := by
  refine Lib.run_unsafeString_row w.drew 95 3 9 5 uPtrByte cellsByte g cur.size (by have hg' : w.drew.heap[g]? = some (.cells cur 5 fz) := hg; simp [World.shape?, hg']) l h0 (by omega) (by unfold maxLen at hcm; omega) ?_; intro j x hx; have := hown.cells (g := g) rfl j (.int .u8 x.toNat) (by simp [Lib.byteCells, hx])
  exact this
 have hkeep : Lib.IsBuilderF T 5 B b (Lib.byteCells l) (w.drew.freeze ⟨g, 0, none⟩ l.length) := by
  have hA : Lib.BuilderAtF T 5 B b p (Lib.byteCells l) w.drew := ⟨hB, _, hbk, by rw [Lib.byteCells_length]; exact hown, hne⟩; have hF := hA.froze (g := g) (cap := cap) (by rw [Lib.byteCells_length]; exact c1); rw [Lib.byteCells_length] at hF
  rcases hp with rfl | rfl
  · exact .inl hF
  · exact .inr hF
 go_enter Tryz.func25, Tryz.ntmps25
 go_wp2
 go_region
 all_goals (go_wp2; go_ret; exact ⟨rfl, hkeep, Lib.below_freeze (Below.drew (Below.refl B w)) (p := ⟨g, 0, none⟩) hbg _, ((Lib.OthersKept.refl _ _ w).drew).freeze ⟨g, 0, none⟩ _ ⟨cur, fz, hg⟩⟩)
set_option maxHeartbeats 2000000 in
set_option maxRecDepth 100000 in
theorem String_nil (T : TypeId) (B b : Nat) (p : Value) (w : World) (hbk : w.heap[b]? = some (.cells #[p, .slice none 0 0] T (0, 0))) (hA : Lib.BuilderAtF T 5 B b p [] w) :
 Calls Tryz.prog 25 #[.pointer (some ⟨b, 0, none⟩)] w fun e w' => e = .returned (.string ⟨#[]⟩) ∧ (Lib.BuilderAtF T 5 B b p [] w' ∧ Fb B b w w') := by
 have hUS := unsafeString_none'
 have c1 : w.drew.cell? ⟨b, 1, none⟩ = some (.slice none 0 0) := by
  have : w.drew.heap[b]? = some (.cells #[p, .slice none 0 0] T (0, 0)) := hbk
  rw [Lib.cell_of_heap this]; rfl
 have hSD : (Builtin.unsafeSliceData_ #[39] 95 #[.slice none 0 0]).run Tryz.prog w.drew = .ok (.pointer none) w.drew := rfl
 go_enter Tryz.func25, Tryz.ntmps25
 go_wp2
 go_region
 all_goals (go_wp2; go_ret; exact ⟨rfl, hA.drew, Below.drew (Below.refl B w), (Lib.OthersKept.refl _ _ w).drew⟩)
set_option maxHeartbeats 2000000 in
set_option maxRecDepth 100000 in
theorem String_noroom (T : TypeId) (B b g : Nat) (p : Value) (cur : Array Value) (w : World) (hBw : B ≤ w.heap.size) (hbk : w.heap[b]? = some (.cells #[p, .slice (some ⟨g, 0, none⟩) 0 0] T (0, 0))) (fz : Nat × Nat) (hg : w.heap[g]? = some (.cells cur 5 fz)) (hA : Lib.BuilderAtF T 5 B b p [] w) :
 Calls Tryz.prog 25 #[.pointer (some ⟨b, 0, none⟩)] w fun e w' => e = .returned (.string ⟨#[]⟩) ∧ (Lib.BuilderAtF T 5 B b p [] w' ∧ Fb B b w w') := by
 have hUS := unsafeString_none'
 have hlt : b < w.heap.size := by
  rcases Nat.lt_or_ge b w.heap.size with h' | h'
  · exact h'
  · simp [Array.getElem?_eq_none h'] at hbk
 have c1 : w.drew.cell? ⟨b, 1, none⟩ = some (.slice (some ⟨g, 0, none⟩) 0 0) := by
  have : w.drew.heap[b]? = some (.cells #[p, .slice (some ⟨g, 0, none⟩) 0 0] T (0, 0)) := hbk
  rw [Lib.cell_of_heap this]; rfl
 have hSD : (Builtin.unsafeSliceData_ #[39] 95 #[.slice (some ⟨g, 0, none⟩) 0 0]).run Tryz.prog w.drew = .ok (.pointer (some ⟨w.drew.heap.size, 0, none⟩)) (w.drew.alloc (.view ⟨g, 0, none⟩ 5)) :=
  Lib.run_unsafeSliceData_zero w.drew _ _ 5 uPtrByte ⟨g, 0, none⟩ 0 (5, cur.size) (by have hg' : w.drew.heap[g]? = some (.cells cur 5 fz) := hg; simp [World.shape?, hg'])
 have c2 : (w.drew.alloc (.view ⟨g, 0, none⟩ 5)).cell? ⟨b, 1, none⟩ = some (.slice (some ⟨g, 0, none⟩) 0 0) := by
  have : (w.drew.alloc (.view ⟨g, 0, none⟩ 5)).heap[b]? = _ := (Lib.alloc_old w.drew _ b hlt).trans hbk
  rw [Lib.cell_of_heap this]; rfl
 have c3 : (w.alloc (.view ⟨g, 0, none⟩ 5)).drew.cell? ⟨b, 1, none⟩ = some (.slice (some ⟨g, 0, none⟩) 0 0) := c2; have c0 : w.cell? ⟨b, 1, none⟩ = some (.slice (some ⟨g, 0, none⟩) 0 0) := c1
 go_enter Tryz.func25, Tryz.ntmps25
 go_wp2
 go_region
 all_goals (go_wp2; go_ret; exact ⟨rfl, hA.drew.alloc _, (Below.drew (Below.refl B w)).alloc hBw _, ((Lib.OthersKept.refl _ _ w).drew).alloc _⟩)
set_option maxHeartbeats 2000000 in
set_option maxRecDepth 100000 in
theorem String_room (T : TypeId) (B b g cap : Nat) (p : Value) (w : World) (hc0 : cap ≠ 0) (hbk : w.heap[b]? = some (.cells #[p, .slice (some ⟨g, 0, none⟩) 0 cap] T (0, 0))) (hA : Lib.BuilderAtF T 5 B b p [] w) :
 Calls Tryz.prog 25 #[.pointer (some ⟨b, 0, none⟩)] w fun e w' => e = .returned (.string ⟨#[]⟩) ∧ (Lib.BuilderAtF T 5 B b p [] w' ∧ Fb B b w w') := by
 have hUS := unsafeString_none'
 have c1 : w.drew.cell? ⟨b, 1, none⟩ = some (.slice (some ⟨g, 0, none⟩) 0 cap) := by
  have : w.drew.heap[b]? = some (.cells #[p, .slice (some ⟨g, 0, none⟩) 0 cap] T (0, 0)) := hbk
  rw [Lib.cell_of_heap this]; rfl
 have hSD : (Builtin.unsafeSliceData_ #[39] 95 #[.slice (some ⟨g, 0, none⟩) 0 cap]).run Tryz.prog w.drew = .ok (.pointer (some ⟨g, 0, none⟩)) w.drew :=
  Lib.run_unsafeSliceData_row _ _ _ _ _ _ hc0
 clear hc0
 go_enter Tryz.func25, Tryz.ntmps25
 go_wp2
 go_region
 all_goals (go_wp2; go_ret; exact ⟨rfl, hA.drew, Below.drew (Below.refl B w), (Lib.OthersKept.refl _ _ w).drew⟩)
theorem String_empty (T : TypeId) (B b : Nat) (w : World) (h : Lib.IsBuilderF T 5 B b [] w) (hBw : B ≤ w.heap.size) :
 Calls Tryz.prog 25 #[.pointer (some ⟨b, 0, none⟩)] w fun e w' => e = .returned (.string ⟨#[]⟩) ∧ (Lib.IsBuilderF T 5 B b [] w' ∧ Fb B b w w') := by
 obtain ⟨p, hp, hA⟩ : ∃ p, (p = .pointer none ∨ p = .pointer (some ⟨b, 0, none⟩)) ∧ Lib.BuilderAtF T 5 B b p [] w := by
  rcases h with h | h
  · exact ⟨_, .inl rfl, h⟩
  · exact ⟨_, .inr rfl, h⟩
 have fin : ∀ (e : Ending) (w' : World), (e = .returned (.string ⟨#[]⟩) ∧ (Lib.BuilderAtF T 5 B b p [] w' ∧ Fb B b w w')) → e = .returned (.string ⟨#[]⟩) ∧ (Lib.IsBuilderF T 5 B b [] w' ∧ Fb B b w w') := by
  rintro e w' ⟨he, hk, hb⟩
  rcases hp with rfl | rfl
  · exact ⟨he, .inl hk, hb⟩
  · exact ⟨he, .inr hk, hb⟩
 have hA' := hA; obtain ⟨hB, v, hbk, hown, hne⟩ := hA
 rcases hown.2 with ⟨rfl, _⟩ | ⟨g, cap, cur, fz, rfl, hbg, hg, _, _, _, _, _⟩
 · exact (String_nil T B b p w hbk hA').mono fin
 · by_cases hc0 : cap = 0
   · subst hc0
     exact (String_noroom T B b g p cur w hBw hbk fz hg hA').mono fin
   · exact (String_room T B b g cap p w hc0 hbk hA').mono fin
theorem String_any (T : TypeId) (B b : Nat) (l : List UInt8) (w : World) (h : Lib.IsBuilderF T 5 B b (Lib.byteCells l) w) (hBw : B ≤ w.heap.size) :
 Calls Tryz.prog 25 #[.pointer (some ⟨b, 0, none⟩)] w fun e w' => e = .returned (.string ⟨l.toArray⟩) ∧ (Lib.IsBuilderF T 5 B b (Lib.byteCells l) w' ∧ Fb B b w w') := by
 cases l with
 | nil => exact String_empty T B b w h hBw
 | cons x r => exact String_some T B b (x :: r) w h (by simp)
end Bk
namespace Bk
open Go Go.RowKit Go.Proofs
theorem btB : BT 56 := ⟨by kernel_rfl, by decide⟩
def U8 (w : World) (k : Nat) : Prop := ∃ c fz, w.heap[k]? = some (.cells c 5 fz)
structure BdF (w : World) (b : Nat) (l : List UInt8) (H : Nat) : Prop where
 is : Lib.IsBuilderF 56 5 b b (Lib.byteCells l) w
 own : ∀ p v, w.heap[b]? = some (.cells #[p, v] 56 (0, 0)) → ∀ g, v.ownBlock = some g → g < H
 lt : b < w.heap.size
theorem heap_lt {w : World} {b : Nat} {o : Obj} (h : w.heap[b]? = some o) : b < w.heap.size := by
 rcases Nat.lt_or_ge b w.heap.size with h' | h'
 · exact h'
 · rw [Array.getElem?_eq_none h'] at h; cases h
theorem BdF.fr {w w' : World} {b : Nat} {l : List UInt8} {H : Nat} {S : Nat → Prop} (h : BdF w b l H) (x : Fr S w w') (hs : ∀ k, S k → k ≠ b ∧ H ≤ k) : BdF w' b l H := by
 have hbb : w'.heap[b]? = w.heap[b]? := x.block b h.lt (fun hS => (hs b hS).1 rfl)
 have key : ∀ p, Lib.BuilderAtF 56 5 b b p (Lib.byteCells l) w → Lib.BuilderAtF 56 5 b b p (Lib.byteCells l) w' := by
  rintro p ⟨h1, v, h2, h3, h4⟩; refine ⟨h1, v, by rw [hbb]; exact h2, ?_, h4⟩; obtain ⟨k1, k2 | ⟨g, cap, cur, fz, rfl, k3, k4, k5⟩⟩ := h3
  · exact ⟨k1, Or.inl k2⟩
  · have hg := h.own p _ h2 g rfl
    exact ⟨k1, Or.inr ⟨g, cap, cur, fz, rfl, k3, by rw [x.block g (heap_lt k4) (fun hS => by have := (hs g hS).2; omega)]; exact k4, k5⟩⟩
 refine ⟨h.is.imp (key _) (key _), fun p v hv => h.own p v (by rw [← hbb]; exact hv), Nat.lt_of_lt_of_le h.lt x.size⟩
theorem BdF.ext {w w' : World} {b : Nat} {l : List UInt8} {H : Nat} (h : BdF w b l H) (x : Ext w w') : BdF w' b l H := h.fr (S := fun _ => False) (Fr.of_ext x) (fun _ h => h.elim)
theorem bdF_of {w : World} {b : Nat} {l : List UInt8} (h : Lib.IsBuilderF 56 5 b b (Lib.byteCells l) w) : BdF w b l w.heap.size := by
 refine ⟨h, fun p v hv g hg => ?_, ?_⟩
 · have key : ∀ q, Lib.BuilderAtF 56 5 b b q (Lib.byteCells l) w → g < w.heap.size := by
    rintro q ⟨-, v', h2, h3, -⟩; rw [hv] at h2; simp only [Option.some.injEq, Obj.cells.injEq, Array.mk.injEq, List.cons.injEq, and_true] at h2; obtain ⟨rfl, rfl⟩ := h2; obtain ⟨-, ⟨rfl, -⟩ | ⟨g', cap, cur, fz, rfl, -, k4, -⟩⟩ := h3
    · cases hg
    · simp only [Value.ownBlock, Option.some.injEq] at hg
      subst hg
      exact heap_lt k4
   exact h.elim (key _) (key _)
 · exact h.elim (fun ⟨_, _, h2, _⟩ => heap_lt h2) (fun ⟨_, _, h2, _⟩ => heap_lt h2)
theorem fr_fb {w w' : World} {b : Nat} (h : Below b w w') (h' : Lib.OthersKept 5 (some b) w w') : Fr (fun k => k = b ∨ (b ≤ k ∧ U8 w k)) w w' := by
 refine ⟨h.os, h.tape, h.output, h.size, fun k hk hS => ?_⟩
 by_cases hkb : k < b
 · exact h.block k hkb
 · have hne : k ≠ b := fun e => hS (Or.inl e)
   have hnu : ¬ U8 w k := fun e => hS (Or.inr ⟨by omega, e⟩)
   have ho : w.heap[k]? = some w.heap[k] := Array.getElem?_eq_getElem hk; rw [ho]
   exact h' k _ ho (by simpa using hne) (fun c fz e => hnu ⟨c, fz, by rw [ho, e]⟩)
theorem strCells_bytes (s : List UInt8) : Lib.strCells ⟨s.toArray⟩ = Lib.byteCells s := rfl
theorem writeF_c (b : Nat) (l s : List UInt8) (H : Nat) (w : World) (h : BdF w b l H) (hlen : l.length + s.length ≤ 140737488355328) :
 Calls Tryz.prog 22 #[.pointer (some ⟨b, 0, none⟩), str s] w fun e w' => e = .returned (.tuple #[.int .i64 s.length, .nilIface]) ∧ BdF w' b (l ++ s) w'.heap.size ∧ Fr (fun k => k = b ∨ (b ≤ k ∧ U8 w k)) w w' :=
 (WriteString_c 56 btB b b (Lib.byteCells l) ⟨s.toArray⟩ w h.is (by rw [Lib.byteCells_length]; exact hlen) (Nat.le_of_lt h.lt)).mono fun e w' ⟨h1, h2, h3⟩ =>
  ⟨h1, bdF_of (by rw [strCells_bytes] at h2; simpa [Lib.byteCells] using h2), fr_fb h3.below h3.kept⟩
theorem stringF_c (b : Nat) (l : List UInt8) (H : Nat) (w : World) (h : BdF w b l H) :
 Calls Tryz.prog 25 #[.pointer (some ⟨b, 0, none⟩)] w fun e w' => e = .returned (str l) ∧ Fr (fun k => k = b ∨ (b ≤ k ∧ U8 w k)) w w' :=
 (String_any 56 b b l w h.is (Nat.le_of_lt h.lt)).mono fun e w' ⟨h1, h2, h3⟩ => ⟨h1, fr_fb h3.below h3.kept⟩
theorem tb_not8 {w : World} {k : Nat} {vs : List Value} {T : TypeId} (h : TB w k vs T) (hT : T ≠ 5) : ¬ U8 w k := by
 rintro ⟨c, fz, e⟩; rw [TB] at h; rw [h] at e; simp only [Option.some.injEq, Obj.cells.injEq] at e
 exact hT e.2.1
end Bk
namespace Bk
open Go
theorem funName_short {s : List UInt8} (h : funName s = true) : s.length ≤ 12 := by
 unfold funName at h
 simp only [Bool.and_eq_true, decide_eq_true_eq] at h
 exact h.1.1.1.2
theorem seen_mem {v : Vis} {s : List UInt8} {b : Bool} (h : seen v s = some b) : (s, b) ∈ v := by
 unfold seen at h
 rw [Option.map_eq_some_iff] at h; obtain ⟨p, hp, rfl⟩ := h; have h1 := List.find?_some hp; have h2 := List.mem_of_find?_eq_some hp; simp only [decide_eq_true_eq] at h1; subst h1
 exact h2
theorem findF_name {lib : List FD} {s : List UInt8} {i : Nat} (h : findF lib s = some i) : ∃ f ∈ lib, f.name = s := by
 obtain ⟨h1, h2, -⟩ := List.findIdx?_eq_some_iff_getElem.1 h
 exact ⟨lib[i], List.getElem_mem h1, by simpa using h2⟩
mutual
theorem chk_okT {lib : List FD} (hlib : ∀ f ∈ lib, f.name.length ≤ 12) : ∀ (t : Nd) (v : Vis), t.wf → t.formed = true → (t.chk lib v).2 = 0 → (∀ p ∈ v, p.1.length ≤ 12) → t.okT
 | .mk k n s l, v, hw, hf, hc, hv => by
  simp only [Nd.wf] at hw; obtain ⟨-, -, -, w4, -, -, w7⟩ := hw; simp only [Nd.formed, Bool.and_eq_true] at hf; obtain ⟨f1, f2⟩ := hf; rw [Nd.chk] at hc
  split at hc
  · rename_i h; exact absurd hc h
  · rename_i hr
    have hr : reachF lib v k s l.length = 0 := Decidable.not_not.1 hr
    split at hc
    · rename_i h; exact absurd hc h
    · rename_i hrow
      have hrow : (rowChk lib v k s [] l).2 = 0 := Decidable.not_not.1 hrow
      have h84 : k = 84 → s.length ≤ 12 := fun h => by subst h; exact funName_short (formN_84 f1).1
      have hs : s.length ≤ 12 := by
       by_cases k1 : k = 81
       · subst k1
         simp only [reachF, if_true] at hr
         split at hr
         · rename_i hse
           obtain ⟨b, hb⟩ := Option.isSome_iff_exists.1 hse
           exact hv _ (seen_mem hb)
         · cases hr
       by_cases k4 : k = 84
       · exact h84 k4
       by_cases k5 : k = 85
       · subst k5
         simp only [reachF, show ¬ (85 : Int) = 81 by decide, show ¬ (85 : Int) = 84 by decide, if_false, if_true] at hr
         cases hff : findF lib s with
         | none => rw [hff] at hr; cases hr
         | some i =>
          obtain ⟨f, hf, rfl⟩ := findF_name hff
          exact hlib f hf
       have : s.isEmpty = true := by
        unfold formN at f1
        rw [if_neg k1, if_neg k4, if_neg k5] at f1
        repeat' split at f1
        all_goals simp at f1
        all_goals simp [f1]
       cases s with
       | nil => simp
       | cons _ _ => simp at this
      simp only [Nd.okT]
      exact ⟨f1, hs, w4, row_okT hlib l v k s [] w7 f2 hrow hv h84⟩
theorem row_okT {lib : List FD} (hlib : ∀ f ∈ lib, f.name.length ≤ 12) : ∀ (l : List Nd) (v : Vis) (k : Int) (s : List UInt8) (acc : List Bool), rowWf l → rowFormed l = true → (rowChk lib v k s acc l).2 = 0 → (∀ p ∈ v, p.1.length ≤ 12) → (k = 84 → s.length ≤ 12) → rowOkT l
 | [], _, _, _, _, _, _, _, _, _ => trivial
 | t :: r, v, k, s, acc, hw, hf, hc, hv, hs => by
  simp only [rowFormed, Bool.and_eq_true] at hf; rw [rowChk] at hc
  have hv2 : ∀ p ∈ (if k = 84 ∧ acc.length = 1 then (s, acc.getD 0 false) :: v else v), p.1.length ≤ 12 := fun p hp => by
   split at hp
   · rename_i h84
     rcases List.mem_cons.1 hp with rfl | hp
     · exact hs h84.1
     · exact hv p hp
   · exact hv p hp
  generalize (if k = 84 ∧ acc.length = 1 then (s, acc.getD 0 false) :: v else v) = v2 at hc hv2
  split at hc
  · rename_i h; exact absurd hc h
  · rename_i h
    have h := Decidable.not_not.1 h
    exact ⟨chk_okT hlib t _ hw.1 hf.1 h hv2, row_okT hlib r v k s _ hw.2 hf.2 hc hv hs⟩
end
theorem libErrFrom_none {lib : List FD} : ∀ (r : List FD) (j : Nat), libErrFrom lib j r = none → ∀ i (h : i < r.length), fnErr lib (j + i) r[i] = 0 := by
 intro r
 induction r with
 | nil => intro j _ i h; simp at h
 | cons f r ih =>
  intro j h i hi; rw [libErrFrom] at h
  split at h
  · cases h
  · rename_i hz
    cases i with
    | zero => simpa using hz
    | succ i =>
     have := ih (j + 1) h i (by simpa using hi); rw [show j + (i + 1) = j + 1 + i by omega]
     simpa using this
structure GoodFD (f : FD) : Prop where
 name : f.name.length ≤ 12
 len : f.params.length ≤ 8
 par : ∀ p ∈ f.params, p.name.length ≤ 12
 size : f.body.size ≤ 2000
 ok : f.body.okT
theorem fnErr_zero {lib : List FD} {i : Nat} {f : FD} (h : fnErr lib i f = 0) : i < 30 ∧ funName f.name = true ∧ paramErr f.params = 0 ∧ f.body.formed = true ∧ f.body.size ≤ 2000 ∧ (f.body.chk lib (f.params.map fun p => (p.name, p.list))).2 = 0 := by
 unfold fnErr at h
 split at h
 · cases h
 split at h
 · cases h
 split at h
 · cases h
 split at h
 · rename_i h1; exact absurd h h1
 split at h
 · cases h
 split at h
 · cases h
 split at h
 · cases h
 split at h
 · rename_i h1; exact absurd h h1
 rename_i k1 k2 k3 k4 k5 k6 k7 k8
 exact ⟨by omega, by simpa using k2, Decidable.not_not.1 k4, by simpa using k5, by omega, Decidable.not_not.1 k8⟩
theorem paramErr_zero {l : List FP} (h : paramErr l = 0) : l.length ≤ 8 ∧ (∀ p ∈ l, funName p.name = true) ∧ (l.map FP.name).Nodup := by
 unfold paramErr at h
 split at h
 · cases h
 · split at h
   · rename_i h1 h2
     split at h
     · rename_i h3; exact ⟨by omega, fun p hp => by simpa using List.all_eq_true.1 h2 p hp, h3⟩
     · cases h
   · cases h
theorem lib_good {lib : List FD} (h : libErr lib = none) (hw : ∀ f ∈ lib, f.body.wf) : lib.length ≤ 30 ∧ ∀ f ∈ lib, GoodFD f := by
 have hz := libErrFrom_none lib 0 h
 have hn : ∀ f ∈ lib, f.name.length ≤ 12 := fun f hf => by
  obtain ⟨i, hi, rfl⟩ := List.mem_iff_getElem.1 hf
  exact funName_short (fnErr_zero (hz i hi)).2.1
 refine ⟨?_, fun f hf => ?_⟩
 · rcases Nat.lt_or_ge 30 lib.length with hl | hl
   · have := (fnErr_zero (hz 30 hl)).1
     omega
   · exact hl
 · have hfw := hw f hf
   obtain ⟨i, hi, rfl⟩ := List.mem_iff_getElem.1 hf; obtain ⟨-, a2, a3, a4, a5, a6⟩ := fnErr_zero (hz i hi); obtain ⟨b1, b2, -⟩ := paramErr_zero a3; refine ⟨funName_short a2, b1, fun p hp => funName_short (b2 p hp), a5, chk_okT hn _ _ hfw a4 a6 (fun p hp => ?_)⟩; obtain ⟨q, hq, rfl⟩ := List.mem_map.1 hp
   exact funName_short (b2 q hq)
def typeT (b : Bool) : List UInt8 := if b then [115, 116, 97, 99, 107] else [105, 110, 116]
def paramT (p : FP) : List UInt8 := typeT p.list ++ [32] ++ p.name
def headT (f : FD) : List UInt8 := [112, 114, 111, 99, 32] ++ f.name ++ [40] ++ Lib.join (f.params.map paramT) [44, 32] ++ [41, 32]
def tailT (f : FD) : List UInt8 := typeT f.list ++ [32, 123, 32] ++ f.body.ftext ++ ([32, 125] ++ [10])
def funT (f : FD) : List UInt8 := headT f ++ tailT f
def libT (lib : List FD) : List UInt8 := (lib.map funT).flatten
def printL (lib : List FD) : List UInt8 × Int := match libErr lib with
 | none => (libT lib, 0)
 | some (_, e) => ([], e)
theorem typeT_len (b : Bool) : (typeT b).length ≤ 5 := by cases b <;> decide
theorem paramT_len {p : FP} (h : p.name.length ≤ 12) : (paramT p).length ≤ 18 := by
 have := typeT_len p.list
 unfold paramT
 simp only [List.length_append, List.length_cons, List.length_nil]
 omega
theorem sum_le {l : List (List UInt8)} {m : Nat} (h : ∀ x ∈ l, x.length ≤ m) : (l.map List.length).sum ≤ m * l.length := by
 induction l with
 | nil => simp
 | cons x r ih =>
  have h1 := h x (by simp); have h2 := ih (fun y hy => h y (by simp [hy])); simp only [List.map_cons, List.sum_cons, List.length_cons, Nat.mul_add, Nat.mul_one]
  omega
theorem join_params {f : FD} (h : GoodFD f) : (Lib.join (f.params.map paramT) [44, 32]).length ≤ 200 := by
 have h1 := join_len [44, 32] (f.params.map paramT)
 have h2 := sum_le (l := f.params.map paramT) (m := 18) (fun x hx => by
  obtain ⟨p, hp, rfl⟩ := List.mem_map.1 hx
  exact paramT_len (h.par p hp))
 have h3 := h.len; simp only [List.length_map, List.length_cons, List.length_nil] at h1 h2
 omega
theorem headT_len {f : FD} (h : GoodFD f) : (headT f).length ≤ 300 := by
 have h1 := join_params h; have h2 := h.name
 unfold headT
 simp only [List.length_append, List.length_cons, List.length_nil] at h1 ⊢
 omega
theorem tailT_len {f : FD} (h : GoodFD f) : (tailT f).length ≤ 90000 := by
 have h1 := ftext_len _ h.ok; have h2 := h.size; have h3 := typeT_len f.list
 unfold tailT
 simp only [List.length_append, List.length_cons, List.length_nil] at h1 ⊢
 omega
theorem libT_len {lib : List FD} (h : ∀ f ∈ lib, GoodFD f) : (libT lib).length ≤ 100000 * lib.length := by
 induction lib with
 | nil => simp [libT]
 | cons f r ih =>
  have h1 := ih (fun g hg => h g (by simp [hg])); have h2 := headT_len (h f (by simp)); have h3 := tailT_len (h f (by simp))
  unfold libT funT at h1 ⊢
  simp only [List.map_cons, List.flatten_cons, List.length_append, List.length_cons]
  omega
theorem libT_snoc {lib : List FD} {j : Nat} (hj : j < lib.length) : libT (lib.take (j + 1)) = libT (lib.take j) ++ headT lib[j] ++ tailT lib[j] := by
 unfold libT
 rw [List.take_succ_eq_append_getElem hj, List.map_append, List.flatten_append]
 simp [funT]
end Bk
namespace Bk
open Go Go.RowKit Go.Proofs
attribute [local irreducible] Go.Calls
theorem ftypeName_c (b : Bool) (w : World) : Calls Tryz.prog 21 #[.bool b] w fun e w' => e = .returned (str (typeT b)) ∧ Ext w w' := by
 have X := Ext.refl w
 cases b
 · refine calls_in Tryz.func21 Tryz.ntmps21 rfl rfl ?_
   focus
    refine cS (cA rfl rfl (cT (cw_seq (cS (cM rfl rfl (cT (cw_cond_f rfl (cw_skip (qw_then (cS (cA rfl rfl ?_))))))))))); refine cT (cw_ret (qw_ret1 rfl rfl ?_)); rotate_left 1
   exact ⟨rfl, X⟩
 · refine calls_in Tryz.func21 Tryz.ntmps21 rfl rfl ?_
   focus
    refine cS (cA rfl rfl (cT (cw_seq (cS (cM rfl rfl (cT (cw_cond_t rfl (cS (cA rfl rfl (cT (cw_ret ?_))))))))))); refine qw_then_ret (qw_ret1 rfl rfl ?_); rotate_left 1
   exact ⟨rfl, X⟩
def PrR (w : World) (q : List UInt8 × Int) (e : Ending) (w' : World) : Prop := e = .returned (.tuple #[str q.1, .int .i64 q.2]) ∧ Ext w w'
theorem prR {w w' : World} {q : List UInt8 × Int} {s : List UInt8} {e : Int} (h : q = (s, e)) (x : Ext w w') : PrR w q (.returned (.tuple #[str s, .int .i64 e])) w' := ⟨by rw [h], x⟩
theorem validF_v {lib : List FD} {i e : Int} (h : validI lib = (i, e)) (S : Nat → Prop) (a : Option Addr) (c : Nat) (w : World) (hl : LibFew lib) (hs : FDs S w lib a) :
 Calls Tryz.prog 15 #[.slice a lib.length c] w fun r w' => r = .returned (.tuple #[.int .i64 i, .int .i64 e]) ∧ Ext w w' := by
 have := Valid_c lib S a c w hl hs
 rw [h] at this; exact this
theorem libErrFrom_ne {lib : List FD} {i : Nat} {e : Int} : ∀ (r : List FD) (j : Nat), libErrFrom lib j r = some (i, e) → e ≠ 0 := by
 intro r
 induction r with
 | nil => intro j h; cases h
 | cons f r ih =>
  intro j h; rw [libErrFrom] at h
  split at h
  · rename_i hne
    simp only [Option.some.injEq, Prod.mk.injEq] at h; obtain ⟨rfl, rfl⟩ := h
    exact hne
  · exact ih _ h
theorem params_snoc {l : List FP} {j : Nat} (hj : j < l.length) : ((l.take (j + 1)).map paramT) = (l.take j).map paramT ++ [paramT l[j]] := by
 rw [List.take_succ_eq_append_getElem hj, List.map_append]; rfl
theorem bdF_new {w : World} {b : Nat} (h : TB w b [.pointer none, .slice none 0 0] 56) : BdF w b [] w.heap.size := by
 refine bdF_of (Or.inl ⟨Nat.le_refl _, .slice none 0 0, h, ⟨by simp [Lib.byteCells], Or.inl ⟨rfl, rfl⟩⟩, by simp [Value.ownBlock]⟩)
set_option maxRecDepth 100000 in
set_option maxHeartbeats 8000000 in
theorem Print_c (lib : List FD) (S : Nat → Prop) (a : Option Addr) (c : Nat) (w : World) (hl : LibFew lib) (hs : FDs S w lib a) (ht : TabsF w) :
 Calls Tryz.prog 9 #[.slice a lib.length c] w (PrR w (printL lib)) := by
 have X := Ext.refl w; have hg0 := ht.g; replace hs := hs.ltA; have hL := hl.len; have HL := Lib.hid hl
 cases hv : libErr lib with
 | some q =>
  obtain ⟨i, e⟩ := q; have hne := libErrFrom_ne lib 0 hv
  have hval : validI lib = ((i : Int), e) := by unfold validI; rw [hv]
  have HV := Lib.hid (validF_v hval); rw [show printL lib = ([], e) from by unfold printL; rw [hv]]; clear hval hv hl; refine calls_in Tryz.func9 Tryz.ntmps9 rfl rfl ?_
  focus
   refine cS (cA rfl rfl (cA rfl rfl (cT (cw_seq (cS (cM rfl rfl ?_)))))); refine cC (by kernel_rfl) rfl (HV.out _ _ _ _ HL.out (by assumption)) rfl ?_; rintro _ w2 ⟨⟨⟩, x1⟩; have z3 := x1.size; replace ht := ht.ext x1; replace X := X.ext x1; replace hs := hs.ext x1; clear x1; refine cM rfl rfl (lw_pure (pur_extract rfl rfl) rfl (lw_pure (pur_extract rfl rfl) rfl (cA rfl rfl (cA rfl rfl (cN (cM rfl rfl (lw_pure (pur_neq rfl rfl) rfl (cT ?_)))))))); refine cw_yes rfl (by assumption) ?_; refine cS (cM rfl rfl (cA rfl rfl (cA rfl rfl (cT (cw_ret (qw_then_ret (qw_ret2 rfl rfl rfl ?_))))))); rotate_left 1
  exact prR rfl X
 | none =>
  have hval : validI lib = (-1, 0) := by unfold validI; rw [hv]
  have HV := Lib.hid (validF_v hval); obtain ⟨hlen, hG⟩ := lib_good hv (fun f hf => (hl.all f hf).2.2.2.2); have HG := Lib.hid hG; rw [show printL lib = (libT lib, 0) from by unfold printL; rw [hv]]; clear hval hv hl hG; refine calls_in Tryz.func9 Tryz.ntmps9 rfl rfl ?_
  focus
   refine cS (cA rfl rfl (cA rfl rfl (cT (cw_seq (cS (cM rfl rfl ?_)))))); refine cC (by kernel_rfl) rfl (HV.out _ _ _ _ HL.out (by assumption)) rfl ?_; rintro _ wa2 ⟨⟨⟩, xa1⟩; have za3 := xa1.size; replace ht := ht.ext xa1; replace X := X.ext xa1; replace hs := hs.ext xa1; clear xa1; refine cM rfl rfl (lw_pure (pur_extract rfl rfl) rfl (lw_pure (pur_extract rfl rfl) rfl (cA rfl rfl (cA rfl rfl (cN (cM rfl rfl (lw_pure (pur_neq rfl rfl) rfl (cT ?_)))))))); refine cw_no rfl (by decide) ?_; refine cw_skip (qw_then (cS ?_)); (refine lw_allocT zOk rfl rfl ?_; intro ba4 wa5 na6 ta7); have xa9 := na6.ext; have pa10 := na6.pos; have za11 := na6.size; clear na6; replace ht := ht.ext xa9; replace X := X.ext xa9; replace hs := hs.ext xa9; clear xa9; refine cT (cw_seq (cS (cM rfl rfl (lw_pure (pur_len_slice tabOk rfl rfl) rfl (cM rfl rfl (cT (cw_block ?_))))))); rotate_left 1
  have hbd := bdF_new ta7; clear ta7; refine cw_loop (ι := Nat × Nat) (fun y => [(6, .pointer (some ⟨ba4, 0, none⟩)), (20, .slice a lib.length c), (21, .int .i64 lib.length), (22, .int .i64 y.1)])
   (fun y w' => BdF w' ba4 (libT (lib.take y.1)) y.2 ∧ y.2 ≤ w'.heap.size ∧ FDs (· < w.heap.size) w' lib a ∧ Ext w w' ∧ TabsF w' ∧ y.1 ≤ lib.length ∧ ba4 < w'.heap.size) (fun y => lib.length - y.1) (0, wa5.heap.size) (by (refine sub_cons rfl ?_; refine sub_cons rfl ?_; refine sub_cons rfl ?_; refine sub_cons rfl ?_; exact sub_nil)) ⟨hbd, Nat.le_refl _, hs, X, ht, Nat.zero_le _, by omega⟩ ?_
  clear hbd hs X ht HV; rintro ⟨j, H⟩ w1 ⟨hbd, hH, hs, X, ht, hj, hbz⟩; simp only at hbd hH hj; have hgl := ht.g; have hz := X.size; refine CW.sub (m := [(6, .pointer (some ⟨ba4, 0, none⟩)), (20, .slice a lib.length c), (21, .int .i64 lib.length), (22, .int .i64 j)]) ?_ (by (refine sub_cons rfl ?_; refine sub_cons rfl ?_; refine sub_cons rfl ?_; refine sub_cons rfl ?_; exact sub_nil))
  by_cases hlt : j < lib.length
  · have hs2 := hs
    obtain ⟨kb, ko, ⟨⟩, hkS, hk⟩ := Arr.get hs2 (by omega); obtain ⟨pa, pc, ba, bc, hr, hps, hbs⟩ := hk j lib[j] (List.getElem?_eq_getElem hlt); clear hk hs2; have hsn := libT_snoc hlt; have hgx := HG.out _ (List.getElem_mem hlt)
    have hll : (libT (lib.take j)).length ≤ 3000000 := by
     have h1 := libT_len (lib := lib.take j) (fun f hf => HG.out f (List.mem_of_mem_take hf)); rw [List.length_take] at h1
     omega
    generalize libT (lib.take j) = out at *
    generalize lib[j] = x at *
    have hjp := join_params hgx; have hnl := hgx.name; have hhl := headT_len hgx; have htl := tailT_len hgx; have hpn := hgx.len; have hbl := ftext_len _ hgx.ok; have hbs2 := hgx.size; have hty := typeT_len x.list; have HP := Lib.hid (fun (S : Nat → Prop) (a : Option Addr) (c : Nat) (w : World) h1 h2 => text_c (x.body.size + 1) x.body (by omega) (by omega) hgx.ok S a c w h1 h2); have HQ := Lib.hid hgx.par; clear hgx; simp only [FD.cells] at hr; have hH2 : H ≤ w1.heap.size := hH; clear hH
    focus
     refine cS (lw_pure (pur_lss rfl rfl) rfl (cT (cw_seq ?_))); refine cw_yes rfl (by omega) ?_; refine cw_skip (qw_then (cw_seq (cw_block (cS ?_)))); refine lw_pure (pur_indexAddr tabOk rfl rfl rfl rfl (by omega) (by omega)) rfl ?_; refine lw_loads_r0 tabOk rfl rfl rfl hr rfl rfl ?_; (refine lw_allocT zOk rfl rfl ?_; intro bb1 wb2 nb3 tb4); (refine lw_initT tabOk rfl rfl rfl rfl rfl rfl nb3 tb4 rfl ?_; clear nb3 tb4; clear wb2; intro wb5 nb3 tb4); have xb6 := nb3.ext; have pb7 := nb3.pos; have zb8 := nb3.size; clear nb3; replace X := X.ext xb6; replace ht := ht.ext xb6; replace hs := hs.ext xb6; replace hbd := hbd.ext xb6; replace hr := hr.ext xb6; replace hps := hps.ext xb6; replace hbs := Nd.sits.ext hbs xb6; clear xb6; refine cN (cA rfl rfl (cT (cw_seq (cS (lw_pure (pur_fieldAddr tabOk rfl rfl rfl) rfl (lw_load_b tabOk rfl rfl rfl (TB.blk tb4) rfl rfl (lw_pure (pur_len_slice tabOk rfl rfl) rfl (cM rfl rfl (cT (cw_block ?_)))))))))); rotate_left 1
    refine cw_loop (ι := Nat × Option Addr × Nat) (fun y => [(29, .int .i64 y.1), (28, .int .i64 x.params.length), (27, .slice pa x.params.length pc), (9, .slice y.2.1 ((x.params.take y.1).map paramT).length y.2.2), (8, .pointer (some ⟨bb1, 0, none⟩)), (6, .pointer (some ⟨ba4, 0, none⟩)), (20, .slice (some ⟨kb, ko, none⟩) lib.length c), (21, .int .i64 lib.length), (22, .int .i64 j)])
     (fun y w' => TB w' bb1 [str x.name, .slice pa x.params.length pc, .bool x.list, .int .u8 x.body.kind, .int .i64 x.body.num, str x.body.name, .slice ba x.body.kids.length bc] 51 ∧ OwnQ strShape w' (fun _ => False) (bb1 + 1) 9 (.slice y.2.1 ((x.params.take y.1).map paramT).length y.2.2) ((x.params.take y.1).map paramT) ∧ BdF w' ba4 out H ∧ FPs (· < w.heap.size) w' x.params pa ∧ x.body.sits (· < w.heap.size) w' ba ∧ FDs (· < w.heap.size) w' lib (some ⟨kb, ko, none⟩) ∧ Ext w w' ∧ TabsF w' ∧ y.1 ≤ x.params.length ∧ bb1 < w'.heap.size) (fun y => x.params.length - y.1) (0, none, 0) (by (refine sub_cons rfl ?_; refine sub_cons rfl ?_; refine sub_cons rfl ?_; refine sub_cons rfl ?_; refine sub_cons rfl ?_; refine sub_cons rfl ?_; refine sub_cons rfl ?_; refine sub_cons rfl ?_; refine sub_cons rfl ?_; exact sub_nil))
     ⟨tb4, OwnQ.nil, hbd, hps, hbs, hs, X, ht, Nat.zero_le _, by omega⟩ ?_
    clear tb4 hbd hps hbs hs X ht hr; rintro ⟨i, oa, oc⟩ w2 ⟨tb, hown, hbd, hps, hbs, hs, X, ht, hi, hz2⟩; simp only at hown hi; have hgl2 := ht.g
    have hob : ∀ g, (Value.slice oa ((x.params.take i).map paramT).length oc).ownBlock = some g → bb1 + 1 ≤ g ∧ g < w2.heap.size := fun g h => ⟨hown.ge h, hown.lt h⟩
    refine CW.sub (m := [(29, .int .i64 i), (28, .int .i64 x.params.length), (27, .slice pa x.params.length pc), (9, .slice oa ((x.params.take i).map paramT).length oc), (8, .pointer (some ⟨bb1, 0, none⟩)), (6, .pointer (some ⟨ba4, 0, none⟩)), (20, .slice (some ⟨kb, ko, none⟩) lib.length c), (21, .int .i64 lib.length), (22, .int .i64 j)]) ?_ (by (refine sub_cons rfl ?_; refine sub_cons rfl ?_; refine sub_cons rfl ?_; refine sub_cons rfl ?_; refine sub_cons rfl ?_; refine sub_cons rfl ?_; refine sub_cons rfl ?_; refine sub_cons rfl ?_; refine sub_cons rfl ?_; exact sub_nil))
    by_cases hit : i < x.params.length
    · have hps2 := hps
      obtain ⟨qb, qo, rfl, hqS, hkk⟩ := Arr.get hps2 (by omega); have r1 := hkk i _ (List.getElem?_eq_getElem hit); simp only [FPAt] at r1; have hsp := params_snoc hit; have hpl := HQ.out _ (List.getElem_mem hit)
      have hmm : ((x.params.take i).map paramT).length ≤ 1000 := by simp only [List.length_map, List.length_take]; omega
      clear hkk hps2
      generalize (x.params.take i).map paramT = os at *
      generalize x.params[i] = y at *
      have hyt := typeT_len y.list
      focus
       refine cS (lw_pure (pur_lss rfl rfl) rfl (cT (cw_seq ?_))); refine cw_yes rfl (by omega) ?_; refine cw_skip (qw_then (cw_seq (cw_block (cS ?_)))); refine lw_pure (pur_indexAddr tabOk rfl rfl rfl rfl (by omega) (by omega)) rfl ?_; refine lw_loads_r0 tabOk rfl rfl rfl r1 rfl rfl ?_; (refine lw_allocT zOk rfl rfl ?_; intro bc1 wc2 nc3 tc4); (refine lw_initT tabOk rfl rfl rfl rfl rfl rfl nc3 tc4 rfl ?_; clear nc3 tc4; clear wc2; intro wc5 nc3 tc4); have xc6 := nc3.ext; have pc7 := nc3.pos; have zc8 := nc3.size; clear nc3; replace hbd := hbd.ext xc6; replace hbs := Nd.sits.ext hbs xc6; replace hs := hs.ext xc6; replace X := X.ext xc6; replace ht := ht.ext xc6; replace tb := tb.ext xc6; replace hps := hps.ext xc6; replace hown := hown.ext xc6; replace r1 := r1.ext xc6; clear xc6; refine cT ?_; (refine cw_tdraw (fun wz => Ext wc5 wz) 9 (.pure 0 (.pure 1 (.pure 2 (.pure 5 (.pure 6 (.fork 3 (.pure 4 (.pure 7 (.fork 8 .tail .none))) .none)))))) mixed (by kernel_rfl) (panicOk_block (panicOk_then (panicOk_then (panicOk_block (panicOk_then (panicOk_block (panicOk_then (panicOk_then (panicOk_block (panicOk_then panicOk_body)))))))))) ?_; intro wc9 xc10 _); have qsc11 : (fun wz => Ext wc5 wz) wc9 := xc10; simp only at qsc11; have d_tc4 := tc4; have d_hbd := hbd; have d_hbs := hbs; have d_hs := hs; have d_ht := ht; have d_tb := tb; have d_hps := hps; have d_hown := hown; have d_r1 := r1; have zc12 := xc10.size; replace tc4 := tc4.ext xc10; replace hbd := hbd.ext xc10; replace hbs := Nd.sits.ext hbs xc10
       replace hs := hs.ext xc10; replace X := X.ext xc10; replace ht := ht.ext xc10; replace tb := tb.ext xc10; replace hps := hps.ext xc10; replace hown := hown.ext xc10; replace r1 := r1.ext xc10; clear xc10; refine ⟨qsc11, ?_⟩; refine tw_pure rfl (pur_move rfl) rfl (tw_pure rfl (pur_fieldAddr tabOk rfl rfl rfl) rfl (tw_pure rfl (pur_load tabOk rfl rfl rfl (fun wz hz => Blk.cell (Blk.ext (TB.blk d_tc4) hz) rfl)) rfl (tw_pure rfl (pur_fieldAddr0 tabOk rfl rfl rfl) rfl (tw_pure rfl (pur_load tabOk rfl rfl rfl (fun wz hz => Blk.cell (Blk.ext (TB.blk d_tc4) hz) rfl)) rfl ?_)))); refine tw_does rfl (does_call (by kernel_rfl) rfl (ftypeName_c _ _) (fun _ _ h => ⟨_, h.1⟩)) rfl ?_ (fun _ h => h) tw_none; rintro _ wc15 ⟨⟨⟩, xc14⟩; have zc16 := xc14.size; replace qsc11 := qsc11.ext xc14; replace tc4 := tc4.ext xc14; replace hbd := hbd.ext xc14; replace hbs := Nd.sits.ext hbs xc14; replace hs := hs.ext xc14; replace X := X.ext xc14; replace ht := ht.ext xc14; replace tb := tb.ext xc14; replace hps := hps.ext xc14; replace hown := hown.ext xc14; replace r1 := r1.ext xc14; clear xc14; refine ⟨qsc11, ?_⟩; refine tw_pure rfl (pur_sadd rfl rfl (by simp only [List.length_cons, List.length_nil]; omega)) rfl ?_; refine tw_pure rfl (pur_sadd rfl rfl (by simp only [List.length_append, List.length_cons, List.length_nil]; omega)) rfl ?_; (refine tw_does rfl (does_slice' [_] tabOk zOk rfl rfl rfl rfl rfl rfl rfl rfl rfl) rfl ?_ (fun _ h => h) tw_none; rintro _ wc19 ⟨bc18, rfl, nc20, tc21⟩); clear tc21
       have hc22 := nc20.blk; have xc23 := nc20.ext; have pc24 := nc20.pos; have zc25 := nc20.size; clear nc20; replace qsc11 := qsc11.ext xc23; replace tc4 := tc4.ext xc23; replace hbd := hbd.ext xc23; replace hbs := Nd.sits.ext hbs xc23; replace hs := hs.ext xc23; replace X := X.ext xc23; replace ht := ht.ext xc23; replace tb := tb.ext xc23; replace hps := hps.ext xc23; replace hown := hown.ext xc23; replace r1 := r1.ext xc23; clear xc23; refine ⟨qsc11, ?_⟩; clear d_tc4 d_hbd d_hbs d_hs d_ht d_tb d_hps d_hown d_r1 qsc11; refine tw_tail rfl ?_; refine lw_does (does_appendQ (R := fun _ => False) (sh := strShape) (z := paramT y) tabOk zOk rfl rfl rfl rfl (by kernel_rfl) rfl rfl rfl (by assumption) (fun _ h => by exact h) (Blk.row (by assumption)) rfl (by omega) (by omega)) rfl ?_ (fun _ h => h); rintro _ wc32 ⟨gc26, ⟨capc27, ⟨rfl, ⟨hc28, ⟨hc29, ⟨hc30, fc31⟩⟩⟩⟩⟩⟩; have zc33 := fc31.size; replace hc22 := Blk.fr hc22 fc31 (fun e => by have := hob _ e; omega); replace tc4 := TB.fr tc4 fc31 (fun e => by have := hob _ e; omega); replace hbd := BdF.fr hbd fc31 (fun k hk => by have := hob _ hk; omega); replace hbs := Nd.sits.fr hbs fc31 (fun b hb hT => by have := hob _ hT; (try dsimp only at hb); omega); replace hs := FDs.fr hs fc31 (fun b hb hT => by have := hob _ hT; (try dsimp only at hb); omega); replace X := Ext.fr X fc31 (fun k hk => by have := hob _ hk; omega); replace ht := TabsF.fr ht fc31 (fun k hk => by have := hob _ hk; omega); replace tb := TB.fr tb fc31 (fun e => by have := hob _ e; omega)
       replace hps := FPs.fr hps fc31 (fun b hb hT => by have := hob _ hT; (try dsimp only at hb); omega); clear hown r1 fc31; refine cA rfl rfl (lw_nil (qw_block_norm (qw_then (cw_region ?_)))); refine lw_pure (pur_add rfl rfl (IntWalk.i64_in _ (by omega))) rfl ?_; refine cM rfl rfl (lw_nil ?_); rotate_left 1
      refine qw_round (i + 1, some ⟨_, 0, none⟩, _) ?_ ⟨by assumption, by simp only; rw [hsp]; assumption, by assumption, by assumption, by assumption, by assumption, X, by assumption, by (try simp only); omega, by (try simp only); omega⟩ (by (try simp only); omega); simp only [hsp]; (refine sub_cons rfl ?_; refine sub_cons rfl ?_; refine sub_cons rfl ?_; refine sub_cons rfl ?_; refine sub_cons rfl ?_; refine sub_cons rfl ?_; refine sub_cons rfl ?_; refine sub_cons rfl ?_; refine sub_cons rfl ?_; exact sub_nil)
    · have hie : i = x.params.length := by omega
      subst hie; rw [List.take_length] at hown hob; rw [List.take_length]
      focus
       refine cS (lw_pure (pur_lss rfl rfl) rfl (cT (cw_seq ?_))); refine cw_no rfl (by omega) ?_; refine cw_exit (qw_then_exit (qw_then_exit (qw_block_exit (qw_then (cw_seq ?_))))); (refine cw_tdraw (fun wz => Ext w2 wz) 6 (.pure 0 (.pure 1 (.pure 2 (.pure 3 (.pure 4 (.fork 5 .tail .none)))))) mixed (by kernel_rfl) (panicOk_then (panicOk_block (panicOk_then (panicOk_then (panicOk_block (panicOk_then panicOk_body)))))) ?_; intro wd1 xd2 _); have qsd3 : (fun wz => Ext w2 wz) wd1 := xd2; simp only at qsd3; have d_tb := tb; have d_hbd := hbd; have d_hps := hps; have d_hbs := hbs; have d_hs := hs; have d_ht := ht; have d_hown := hown; have zd4 := xd2.size; replace tb := tb.ext xd2; replace hbd := hbd.ext xd2; replace hps := hps.ext xd2; replace hbs := Nd.sits.ext hbs xd2; replace hs := hs.ext xd2; replace X := X.ext xd2; replace ht := ht.ext xd2; replace hown := hown.ext xd2; clear xd2; refine ⟨qsd3, ?_⟩; refine tw_pure rfl (pur_fieldAddr0 tabOk rfl rfl rfl) rfl (tw_pure rfl (pur_load tabOk rfl rfl rfl (fun wz hz => Blk.cell (Blk.ext (TB.blk d_tb) hz) rfl)) rfl ?_); refine tw_pure rfl (pur_sadd rfl rfl (by simp only [List.length_cons, List.length_nil]; omega)) rfl ?_; refine tw_pure rfl (pur_sadd rfl rfl (by simp only [List.length_append, List.length_cons, List.length_nil]; omega)) rfl ?_; refine tw_pure rfl (pur_move rfl) rfl ?_; refine tw_does rfl (does_call (by kernel_rfl) rfl (joinQ_c _ (by assumption) (by simp only [List.length_map]; omega) (by omega)) (fun _ _ h => ⟨_, h.1⟩)) rfl ?_ (fun _ h => h) tw_none
       rintro _ wd7 ⟨⟨⟩, xd6⟩; have zd8 := xd6.size; replace qsd3 := qsd3.ext xd6; replace tb := tb.ext xd6; replace hbd := hbd.ext xd6; replace hps := hps.ext xd6; replace hbs := Nd.sits.ext hbs xd6; replace hs := hs.ext xd6; replace X := X.ext xd6; replace ht := ht.ext xd6; replace hown := hown.ext xd6; clear xd6; refine ⟨qsd3, ?_⟩; clear d_tb d_hbd d_hps d_hbs d_hs d_ht d_hown qsd3; refine tw_tail rfl ?_; refine lw_pure (pur_sadd rfl rfl (by simp only [List.length_append, List.length_cons, List.length_nil]; omega)) rfl ?_; refine lw_pure (pur_sadd rfl rfl (by simp only [List.length_append, List.length_cons, List.length_nil]; omega)) rfl ?_; refine cC (by kernel_rfl) rfl (writeF_c _ _ _ _ _ (by assumption) (by simp only [List.length_append, List.length_cons, List.length_nil]; omega)) rfl ?_; rintro _ wd11 ⟨⟨⟩, ⟨hd9, fd10⟩⟩; have zd12 := fd10.size; replace tb := TB.fr tb fd10 (fun e => e.elim (fun e => by omega) (fun e => tb_not8 (by assumption) (by decide) e.2)); clear hbd; replace hps := FPs.fr hps fd10 (fun b hb hT => hT.elim (fun e => by (try dsimp only at hb); omega) (fun e => by have := e.1; (try dsimp only at hb); omega)); replace hbs := Nd.sits.fr hbs fd10 (fun b hb hT => hT.elim (fun e => by (try dsimp only at hb); omega) (fun e => by have := e.1; (try dsimp only at hb); omega)); replace hs := FDs.fr hs fd10 (fun b hb hT => hT.elim (fun e => by (try dsimp only at hb); omega) (fun e => by have := e.1; (try dsimp only at hb); omega)); replace X := Ext.fr X fd10 (fun k hk => hk.elim (fun e => by omega) (fun e => by have := e.1; omega))
       replace ht := TabsF.fr ht fd10 (fun k hk => hk.elim (fun e => by omega) (fun e => by have := e.1; omega)); clear hown fd10; refine cT ?_; (refine cw_tdraw (fun wz => Ext wd11 wz) 7 (.pure 0 (.pure 1 (.pure 4 (.pure 5 (.fork 2 (.pure 3 (.fork 6 .tail .none)) .none))))) mixed (by kernel_rfl) (panicOk_block (panicOk_then (panicOk_then (panicOk_block (panicOk_then panicOk_body))))) ?_; intro wd13 xd14 _); have qsd15 : (fun wz => Ext wd11 wz) wd13 := xd14; simp only at qsd15; have d_hd9 := hd9; have d_tb := tb; have d_hps := hps; have d_hbs := hbs; have d_hs := hs; have d_ht := ht; have zd16 := xd14.size; replace hd9 := hd9.ext xd14; replace tb := tb.ext xd14; replace hps := hps.ext xd14; replace hbs := Nd.sits.ext hbs xd14; replace hs := hs.ext xd14; replace X := X.ext xd14; replace ht := ht.ext xd14; clear xd14; refine ⟨qsd15, ?_⟩; refine tw_pure rfl (pur_fieldAddr tabOk rfl rfl rfl) rfl (tw_pure rfl (pur_load tabOk rfl rfl rfl (fun wz hz => Blk.cell (Blk.ext (TB.blk d_tb) hz) rfl)) rfl (tw_pure rfl (pur_fieldAddr tabOk rfl rfl rfl) rfl (tw_pure rfl (pur_loads_blk' [_, _, _, _] tabOk rfl rfl rfl (fun wz hz => (Blk.ext (TB.blk d_tb) hz)) rfl rfl) rfl ?_))); refine tw_does rfl (does_call (by kernel_rfl) rfl (ftypeName_c _ _) (fun _ _ h => ⟨_, h.1⟩)) rfl ?_ (fun _ h => h) tw_none; rintro _ wd19 ⟨⟨⟩, xd18⟩; have zd20 := xd18.size; replace qsd15 := qsd15.ext xd18; replace hd9 := hd9.ext xd18; replace tb := tb.ext xd18; replace hps := hps.ext xd18; replace hbs := Nd.sits.ext hbs xd18
       replace hs := hs.ext xd18; replace X := X.ext xd18; replace ht := ht.ext xd18; clear xd18; refine ⟨qsd15, ?_⟩; refine tw_pure rfl (pur_sadd rfl rfl (by simp only [List.length_cons, List.length_nil]; omega)) rfl ?_; refine tw_does rfl (does_call (by kernel_rfl) rfl (HP.out _ _ _ _ (by assumption) (by assumption)) (fun _ _ h => ⟨_, h.1⟩)) rfl ?_ (fun _ h => h) tw_none; rintro _ wd23 ⟨⟨⟩, xd22⟩; have zd24 := xd22.size; replace qsd15 := qsd15.ext xd22; replace hd9 := hd9.ext xd22; replace tb := tb.ext xd22; replace hps := hps.ext xd22; replace hbs := Nd.sits.ext hbs xd22; replace hs := hs.ext xd22; replace X := X.ext xd22; replace ht := ht.ext xd22; clear xd22; refine ⟨qsd15, ?_⟩; clear d_hd9 d_tb d_hps d_hbs d_hs d_ht qsd15; refine tw_tail rfl ?_; refine lw_pure (pur_sadd rfl rfl (by simp only [List.length_append, List.length_cons, List.length_nil]; omega)) rfl ?_; refine lw_pure (pur_sadd rfl rfl (by simp only [List.length_append, List.length_cons, List.length_nil]; omega)) rfl ?_; refine cC (by kernel_rfl) rfl (writeF_c _ _ _ _ _ (by assumption) (by simp only [List.length_append, List.length_cons, List.length_nil]; omega)) rfl ?_; rintro _ wd27 ⟨⟨⟩, ⟨hd25, fd26⟩⟩; have zd28 := fd26.size; clear hd9; replace tb := TB.fr tb fd26 (fun e => e.elim (fun e => by omega) (fun e => tb_not8 (by assumption) (by decide) e.2)); replace hps := FPs.fr hps fd26 (fun b hb hT => hT.elim (fun e => by (try dsimp only at hb); omega) (fun e => by have := e.1; (try dsimp only at hb); omega)); replace hbs := Nd.sits.fr hbs fd26 (fun b hb hT => hT.elim (fun e => by (try dsimp only at hb); omega) (fun e => by have := e.1; (try dsimp only at hb); omega))
       replace hs := FDs.fr hs fd26 (fun b hb hT => hT.elim (fun e => by (try dsimp only at hb); omega) (fun e => by have := e.1; (try dsimp only at hb); omega)); replace X := Ext.fr X fd26 (fun k hk => hk.elim (fun e => by omega) (fun e => by have := e.1; omega)); replace ht := TabsF.fr ht fd26 (fun k hk => hk.elim (fun e => by omega) (fun e => by have := e.1; omega)); clear fd26; refine lw_nil (qw_block_norm (qw_then (cw_region ?_))); refine lw_pure (pur_add rfl rfl (IntWalk.i64_in _ (by omega))) rfl ?_; refine cM rfl rfl (lw_nil ?_); rotate_left 1
      refine qw_round (j + 1, wd27.heap.size) (by (refine sub_cons rfl ?_; refine sub_cons rfl ?_; refine sub_cons rfl ?_; refine sub_cons rfl ?_; exact sub_nil)) ⟨?_, Nat.le_refl _, hs, X, ht, by (try simp only); omega, by omega⟩ (by (try simp only); omega)
      show BdF wd27 ba4 (libT (lib.take (j + 1))) wd27.heap.size
      rw [hsn]
      exact hd25
  · have hje : j = lib.length := by omega
    subst hje; rw [List.take_length] at hbd
    focus
     refine cS (lw_pure (pur_lss rfl rfl) rfl (cT (cw_seq ?_))); refine cw_no rfl (by omega) ?_; refine cw_exit (qw_then_exit (qw_then_exit (qw_block_exit (qw_then (cS ?_))))); refine cC (by kernel_rfl) rfl (stringF_c _ _ _ _ (by assumption)) rfl ?_; rintro _ we2 ⟨⟨⟩, fe1⟩; have ze3 := fe1.size; replace hs := hs.fr fe1 (by omega); replace X := Ext.fr X fe1 (fun k hk => hk.elim (fun e => by omega) (fun e => by have := e.1; omega)); replace ht := TabsF.fr ht fe1 (fun k hk => hk.elim (fun e => by omega) (fun e => by have := e.1; omega)); clear hbd fe1; refine cA rfl rfl (cA rfl rfl (cT (cw_ret (qw_ret2 rfl rfl rfl ?_)))); rotate_left 1
    exact prR rfl X
end Bk
namespace Bk
open Go Go.RowKit Go.Proofs
attribute [local irreducible] Go.Calls
def exS : List UInt8 := [112, 114, 111, 99, 32, 108, 101, 110, 40, 115, 116, 97, 99, 107, 32, 120, 115, 41, 32, 105, 110, 116, 32, 123, 32, 105, 102, 32, 33, 120, 115, 32, 123, 32, 48, 32, 125, 32, 101, 108, 115, 101, 32, 123, 32, 49, 32, 43, 32, 108, 101, 110, 40, 112, 111, 112, 40, 120, 115, 41, 41, 32, 125, 32, 125] ++ [10]
def exF : FD := ⟨[108, 101, 110], [⟨[120, 115], true⟩], false, .mk 83 0 [] [.mk 90 0 [] [.mk 81 0 [120, 115] []], .mk 80 0 [] [], .mk 82 8 [] [.mk 80 1 [] [], .mk 85 0 [108, 101, 110] [.mk 89 0 [] [.mk 81 0 [120, 115] []]]]]⟩
theorem ex_parse : parseLib exS = ([exF], 0, 0) := by kernel_rfl
theorem ex_print : printL [exF] = (exS, 0) := by kernel_rfl
theorem ex_few : LibFew [exF] := ⟨by decide, fun f hf => by
 obtain rfl := List.mem_singleton.1 hf; refine ⟨by decide, by decide, by decide, by decide, ?_⟩
 simp [exF, Nd.wf, rowWf]⟩
set_option maxRecDepth 100000 in
set_option maxHeartbeats 4000000 in
theorem awake36_c (w : World) (ht : TabsF w) (hE : Errs w) : Calls Tryz.prog 7 #[] w fun e w' => e = .returned (.bool true) ∧ Ext w w' := by
 have X := Ext.refl w; have hS : Syms w := ⟨ht.t.sym⟩; have HA := Lib.hid (fun w hS hE => funParse_c exS w (by decide) hS hE); rw [ex_parse] at HA; have HB := Lib.hid (fun (S : Nat → Prop) (a : Option Addr) (c : Nat) (w : World) hs ht => Print_c [exF] S a c w ex_few hs ht); rw [ex_print] at HB; refine calls_in Tryz.func7 Tryz.ntmps7 rfl rfl ?_
 focus
  refine cS (cA rfl rfl (cN (cA rfl rfl (cN (cM rfl rfl ?_))))); refine cR (by kernel_rfl) rfl (HA.out _ (by assumption) (by assumption)) (fun _ _ h => h.ret) rfl ?_; rintro _ w5 ⟨la1, ⟨lc2, ⟨⟨⟩, ⟨h3, x4⟩⟩⟩⟩; have z6 := x4.size; replace ht := ht.ext x4; replace hE := hE.ext x4; replace X := X.ext x4; replace hS := hS.ext x4; clear x4; refine cM rfl rfl (lw_pure (pur_extract rfl rfl) rfl (lw_pure (pur_extract rfl rfl) rfl (lw_pure (pur_extract rfl rfl) rfl (cA rfl rfl (cA rfl rfl (cA rfl rfl (cT (cw_seq ?_)))))))); rotate_left 1
 have h3' : FDs (w.heap.size ≤ ·) w5 [exF] la1 := h3; have h9 := h3'; obtain ⟨kb, ko, rfl, hkS, hk⟩ := Arr.get h9 (by decide); obtain ⟨pa, pc, ba, bc, hr, -, -⟩ := hk 0 exF rfl; have hr' : Row w5 ⟨kb, ko + 0 * 7, none⟩ [str [108, 101, 110], .slice pa 1 pc, .bool false, .int .u8 83, .int .i64 0, str [], .slice ba 3 bc] := hr; clear hr hk h9 h3 HA
 focus
  refine cS (cM rfl rfl (lw_pure (pur_neq rfl rfl) rfl (cM rfl rfl ?_))); refine lw_on rfl rfl rfl (gd_ff (by decide)) ?_; refine cM rfl rfl ?_; refine lw_on rfl rfl rfl (gd_ff (by decide)) ?_; refine lw_pure (pur_neq rfl rfl) rfl ?_; refine lw_pure (pur_pick_no rfl rfl (by decide)) rfl ?_; refine cM rfl rfl ?_; refine lw_on rfl rfl rfl (gd_ff (by decide)) ?_; refine cM rfl rfl ?_; refine lw_on rfl rfl rfl (gd_ff (by decide)) ?_; refine lw_pure (pur_len_slice tabOk rfl rfl) rfl ?_; refine lw_on rfl rfl rfl (gd_ff (by decide)) ?_; refine lw_pure (pur_neq rfl rfl) rfl ?_; refine lw_pure (pur_pick_no rfl rfl (by decide)) rfl ?_; refine cM rfl rfl ?_; refine lw_on rfl rfl rfl (gd_ff (by decide)) ?_; refine cM rfl rfl ?_; refine lw_on rfl rfl rfl (gd_ff (by decide)) ?_; refine lw_pure (pur_indexAddr tabOk rfl rfl rfl rfl (by omega) (by simp only [List.length_cons, List.length_nil]; omega)) rfl ?_; refine lw_on rfl rfl rfl (gd_ff (by decide)) ?_; refine lw_pure (pur_fieldAddr0 tabOk rfl rfl rfl) rfl ?_; refine lw_on rfl rfl rfl (gd_ff (by decide)) ?_; refine lw_load_r tabOk rfl rfl rfl hr' rfl rfl ?_; refine lw_on rfl rfl rfl (gd_ff (by decide)) ?_; refine lw_pure (pur_sneq rfl rfl) rfl ?_; refine lw_pure (pur_pick_no rfl rfl (by decide)) rfl ?_; refine cM rfl rfl ?_; refine lw_on rfl rfl rfl (gd_ff (by decide)) ?_; refine cM rfl rfl ?_; refine lw_on rfl rfl rfl (gd_ff (by decide)) ?_; refine lw_pure (pur_indexAddr tabOk rfl rfl rfl rfl (by omega) (by simp only [List.length_cons, List.length_nil]; omega)) rfl ?_
  refine lw_on rfl rfl rfl (gd_ff (by decide)) ?_; refine lw_pure (pur_fieldAddr tabOk rfl rfl rfl) rfl ?_; refine lw_on rfl rfl rfl (gd_ff (by decide)) ?_; refine lw_load_r tabOk rfl rfl rfl hr' rfl rfl ?_; refine lw_pure (pur_pick_no rfl rfl (by decide)) rfl ?_; refine cM rfl rfl (lw_on rfl rfl rfl (rfl) (cM rfl rfl (lw_on rfl rfl rfl (rfl) ?_))); refine lw_pure (pur_indexAddr tabOk rfl rfl rfl rfl (by omega) (by simp only [List.length_cons, List.length_nil]; omega)) rfl ?_; refine lw_on rfl rfl rfl (rfl) (lw_pure (pur_fieldAddr tabOk rfl rfl rfl) rfl (lw_on rfl rfl rfl (rfl) (lw_pure (pur_fieldAddr0 tabOk rfl rfl rfl) rfl (lw_on rfl rfl rfl (rfl) (lw_load_r tabOk rfl rfl rfl hr' rfl rfl (lw_on rfl rfl rfl (rfl) (lw_pure (pur_neq rfl rfl) rfl (lw_pure (pur_pick_f rfl rfl rfl) rfl (cT ?_))))))))); refine cw_no rfl (by decide) ?_; refine cw_skip (qw_then (cS (cM rfl rfl ?_))); refine cC (by kernel_rfl) rfl (HB.out _ _ _ _ (by assumption) (by assumption)) rfl ?_; rintro _ wa2 ⟨⟨⟩, xa1⟩; have za3 := xa1.size; replace ht := ht.ext xa1; replace hE := hE.ext xa1; replace X := X.ext xa1; replace hS := hS.ext xa1; replace h3' := FDs.ext h3' xa1; replace hr' := Row.ext hr' xa1; clear xa1; refine cM rfl rfl (lw_pure (pur_extract rfl rfl) rfl (lw_pure (pur_extract rfl rfl) rfl (cA rfl rfl (cA rfl rfl (cN (cM rfl rfl (lw_pure (pur_eql rfl rfl) rfl (cM rfl rfl ?_)))))))); refine lw_on rfl rfl rfl (gd_tt (by decide)) ?_; refine cM rfl rfl ?_; refine lw_on rfl rfl rfl (gd_tt (by decide)) ?_
  refine cM rfl rfl ?_; refine lw_on rfl rfl rfl (gd_tt (by decide)) ?_; refine lw_pure (pur_seql rfl rfl) rfl ?_; refine lw_pure (pur_pick_yes rfl rfl (by decide)) rfl ?_; refine cA rfl rfl (cT (cw_ret (qw_ret1 rfl rfl ?_))); rotate_left 1
 exact ⟨rfl, X⟩
end Bk
namespace Bk
open Go Go.RowKit Go.Proofs
attribute [local irreducible] Go.Calls
theorem length_rowSize2 (l : List Nd) : l.length ≤ rowSize l := by
 induction l with
 | nil => simp [rowSize]
 | cons x r ih => have := Nd.size_pos x; simp only [rowSize, List.length_cons]; omega
set_option maxRecDepth 100000 in
set_option maxHeartbeats 1000000 in
theorem Equal_t (N : Nat) : ∀ (t : Nd) (S S' : Nat → Prop) (a a' : Option Addr) (c c' : Nat) (w : World), t.size < N → t.kids.length ≤ 1000000000 → rowSize t.kids ≤ 1000000000 → t.sits S w a → t.sits S' w a' →
 Calls Tryz.prog 39 #[t.val a c, t.val a' c'] w fun e w' => e = .returned (.bool true) ∧ Ext w w' := by
 induction N with
 | zero => intro t S S' a a' c c' w h; omega
 | succ N ih =>
  rintro ⟨k, n, s, l⟩ S S' a a' c c' w hN hM hR hs hs'
  have IH := Lib.hid ih; clear ih
  simp only [Nd.sits] at hs hs'; simp only [Nd.size, Nd.kids] at hN hM hR; simp only [Nd.val, Nd.kind, Nd.num, Nd.name, Nd.kids]; have X := Ext.refl w; refine calls_in Tryz.func39 Tryz.ntmps39 rfl rfl ?_
  focus
   refine cS ?_; (refine lw_box' [_, _, _, _] rfl rfl rfl ?_; intro b1 w2 n3); have h4 := n3.blk; have x5 := n3.ext; have p6 := n3.pos; have z7 := n3.size; clear n3; replace hs := Bk.rowSits.ext hs x5; replace hs' := Bk.rowSits.ext hs' x5; replace X := X.ext x5; clear x5; (refine lw_box' [_, _, _, _] rfl rfl rfl ?_; intro b8 w9 n10); have h11 := n10.blk; have x12 := n10.ext; have p13 := n10.pos; have z14 := n10.size; clear n10; replace h4 := h4.ext x12; replace hs := Bk.rowSits.ext hs x12; replace hs' := Bk.rowSits.ext hs' x12; replace X := X.ext x12; clear x12; refine cA rfl rfl (cT (cw_seq (cS (lw_pure (pur_fieldAddr0 tabOk rfl rfl rfl) rfl (lw_load_b tabOk rfl rfl rfl h4 rfl rfl (lw_pure (pur_fieldAddr0 tabOk rfl rfl rfl) rfl (lw_load_b tabOk rfl rfl rfl h11 rfl rfl (lw_pure (pur_neq rfl rfl) rfl (cM rfl rfl ?_))))))))); refine lw_on rfl rfl rfl (gd_ff (by omega)) ?_; refine lw_pure (pur_fieldAddr tabOk rfl rfl rfl) rfl ?_; refine lw_on rfl rfl rfl (gd_ff (by omega)) ?_; refine lw_load_b tabOk rfl rfl rfl h4 rfl rfl ?_; refine lw_on rfl rfl rfl (gd_ff (by omega)) ?_; refine lw_pure (pur_fieldAddr tabOk rfl rfl rfl) rfl ?_; refine lw_on rfl rfl rfl (gd_ff (by omega)) ?_; refine lw_load_b tabOk rfl rfl rfl h11 rfl rfl ?_; refine lw_on rfl rfl rfl (gd_ff (by omega)) ?_; refine lw_pure (pur_neq rfl rfl) rfl ?_; refine lw_pure (pur_pick_no rfl rfl (by omega)) rfl ?_; refine cM rfl rfl ?_; refine lw_on rfl rfl rfl (gd_ff (by omega)) ?_; refine lw_pure (pur_fieldAddr tabOk rfl rfl rfl) rfl ?_
   refine lw_on rfl rfl rfl (gd_ff (by omega)) ?_; refine lw_load_b tabOk rfl rfl rfl h4 rfl rfl ?_; refine lw_on rfl rfl rfl (gd_ff (by omega)) ?_; refine lw_pure (pur_fieldAddr tabOk rfl rfl rfl) rfl ?_; refine lw_on rfl rfl rfl (gd_ff (by omega)) ?_; refine lw_load_b tabOk rfl rfl rfl h11 rfl rfl ?_; refine lw_on rfl rfl rfl (gd_ff (by omega)) ?_; refine lw_pure (pur_sneq rfl rfl) rfl ?_; refine lw_pure (pur_pick_no rfl rfl (by omega)) rfl ?_; refine cM rfl rfl (lw_on rfl rfl rfl (gd_ff (not_not_intro rfl)) (lw_pure (pur_fieldAddr tabOk rfl rfl rfl) rfl (lw_on rfl rfl rfl (gd_ff (not_not_intro rfl)) (lw_load_b tabOk rfl rfl rfl h4 rfl rfl (lw_on rfl rfl rfl (gd_ff (not_not_intro rfl)) (lw_pure (pur_len_slice tabOk rfl rfl) rfl (lw_on rfl rfl rfl (gd_ff (not_not_intro rfl)) (lw_pure (pur_fieldAddr tabOk rfl rfl rfl) rfl (lw_on rfl rfl rfl (gd_ff (not_not_intro rfl)) (lw_load_b tabOk rfl rfl rfl h11 rfl rfl (lw_on rfl rfl rfl (gd_ff (not_not_intro rfl)) ?_))))))))))); refine lw_pure (pur_len_slice tabOk rfl rfl) rfl (lw_on rfl rfl rfl (gd_ff (not_not_intro rfl)) (lw_pure (pur_neq rfl rfl) rfl (lw_pure (pur_pick_no rfl rfl (not_not_intro rfl)) rfl (cT ?_)))); refine cw_no rfl (by omega) ?_; refine cw_skip (qw_then (cw_seq (cS (cA rfl rfl (cT (cw_block ?_)))))); rotate_left 1
  refine cw_loop (ι := Nat) (fun j => [(2, .pointer (some ⟨b1, 0, none⟩)), (3, .pointer (some ⟨b8, 0, none⟩)), (5, .int .i64 j)]) (fun j w' => rowSits S w' l a ∧ rowSits S' w' l a' ∧ Ext w w' ∧ Blk w' b1 [.int .u8 k, .int .i64 n, str s, .slice a l.length c] ∧ Blk w' b8 [.int .u8 k, .int .i64 n, str s, .slice a' l.length c'] ∧ j ≤ l.length) (fun j => l.length - j) 0 (by (refine sub_cons rfl ?_; refine sub_cons rfl ?_; refine sub_cons rfl ?_; exact sub_nil)) ⟨hs, hs', X, h4, h11, Nat.zero_le _⟩ ?_; rintro j w1 ⟨hs, hs', X, hb, hb', hj⟩; clear h4 h11
  by_cases hlt : j < l.length
  · obtain ⟨kb, ko, rfl, hkS, hkid⟩ := kidRows hs (by intro e; subst e; simp at hlt)
    obtain ⟨kb', ko', rfl, hkS', hkid'⟩ := kidRows hs' (by intro e; subst e; simp at hlt); obtain ⟨xa, xc, rx, sx⟩ := hkid j l[j] (List.getElem?_eq_getElem hlt); obtain ⟨ya, yc, ry, sy⟩ := hkid' j l[j] (List.getElem?_eq_getElem hlt); have hsz := size_mem (List.getElem_mem hlt)
    have hsz2 : l[j].size = 1 + rowSize l[j].kids := by cases l[j]; simp [Nd.size, Nd.kids]
    have hln := length_rowSize2 l[j].kids; clear hkid hkid'
    generalize l[j] = x at *
    focus
     refine cw_seq (cS (cM rfl rfl (lw_pure (pur_fieldAddr tabOk rfl rfl rfl) rfl (lw_load_b tabOk rfl rfl rfl hb rfl rfl (lw_pure (pur_len_slice tabOk rfl rfl) rfl (lw_pure (pur_lss rfl rfl) rfl (cT ?_))))))); refine cw_yes rfl (by omega) ?_; refine cw_skip (qw_then (cw_seq (cw_block (cw_seq ?_)))); (refine cw_tdraw (fun wz => Ext w1 wz) 10 (.pure 0 (.pure 1 (.pure 2 (.pure 3 (.pure 4 (.pure 5 (.pure 6 (.pure 7 (.pure 8 (.pure 9 .tail)))))))))) mixed (by kernel_rfl) (panicOk_then (panicOk_block (panicOk_then (panicOk_then (panicOk_block (panicOk_then panicOk_body)))))) ?_; intro wa1 xa2 _); have qsa3 : (fun wz => Ext w1 wz) wa1 := xa2; simp only at qsa3; have d_hs := hs; have d_hb := hb; have d_hs' := hs'; have d_hb' := hb'; have d_rx := rx; have d_sx := sx; have d_ry := ry; have d_sy := sy; have za4 := xa2.size; replace X := X.ext xa2; replace hs := Bk.rowSits.ext hs xa2; replace hb := hb.ext xa2; replace hs' := Bk.rowSits.ext hs' xa2; replace hb' := Blk.ext hb' xa2; replace rx := rx.ext xa2; replace sx := Nd.sits.ext sx xa2; replace ry := ry.ext xa2; replace sy := Nd.sits.ext sy xa2; clear xa2; refine ⟨qsa3, ?_⟩; refine tw_pure rfl (pur_fieldAddr tabOk rfl rfl rfl) rfl (tw_pure rfl (pur_load tabOk rfl rfl rfl (fun wz hz => Blk.cell (Blk.ext d_hb hz) rfl)) rfl (tw_pure rfl (pur_move rfl) rfl ?_)); refine tw_pure rfl (pur_indexAddr tabOk rfl rfl rfl rfl (by omega) (by omega)) rfl ?_; refine tw_pure rfl (pur_loads' tabOk rfl rfl rfl (fun wz hz => (Row.ext d_rx hz)) rfl) rfl (tw_pure rfl (pur_fieldAddr tabOk rfl rfl rfl) rfl (tw_pure rfl (pur_load tabOk rfl rfl rfl (fun wz hz => Blk.cell (Blk.ext d_hb' hz) rfl)) rfl (tw_pure rfl (pur_move rfl) rfl ?_)))
     refine tw_pure rfl (pur_indexAddr tabOk rfl rfl rfl rfl (by omega) (by omega)) rfl ?_; refine tw_pure rfl (pur_loads' tabOk rfl rfl rfl (fun wz hz => (Row.ext d_ry hz)) rfl) rfl ?_; clear qsa3 d_hs d_hb d_hs' d_hb' d_rx d_sx d_ry d_sy; refine tw_tail rfl ?_; refine cC (by kernel_rfl) rfl (IH.out x S S' _ _ _ _ _ (by omega) (by omega) (by omega) (by assumption) (by assumption)) rfl ?_; rintro _ wa6 ⟨⟨⟩, xa5⟩; have za7 := xa5.size; replace X := X.ext xa5; replace hs := Bk.rowSits.ext hs xa5; replace hb := hb.ext xa5; replace hs' := Bk.rowSits.ext hs' xa5; replace hb' := Blk.ext hb' xa5; replace rx := rx.ext xa5; replace sx := Nd.sits.ext sx xa5; replace ry := ry.ext xa5; replace sy := Nd.sits.ext sy xa5; clear xa5; refine lw_pure (pur_not rfl) rfl (cT (cw_cond_f rfl (cw_skip (qw_block_norm (qw_then (cw_region (cM rfl rfl ?_))))))); refine lw_pure (pur_add rfl rfl (IntWalk.i64_in _ (by omega))) rfl ?_; refine cA rfl rfl (lw_nil ?_); rotate_left 1
    exact qw_round (j + 1) (by (refine sub_cons rfl ?_; refine sub_cons rfl ?_; refine sub_cons rfl ?_; exact sub_nil)) ⟨hs, hs', X, hb, hb', by omega⟩ (by omega)
  · focus
     refine cw_seq (cS (cM rfl rfl (lw_pure (pur_fieldAddr tabOk rfl rfl rfl) rfl (lw_load_b tabOk rfl rfl rfl hb rfl rfl (lw_pure (pur_len_slice tabOk rfl rfl) rfl (lw_pure (pur_lss rfl rfl) rfl (cT ?_))))))); refine cw_no rfl (by omega) ?_; refine cw_exit (qw_then_exit (qw_then_exit (qw_block_exit (qw_then (cS (cA rfl rfl (cT (cw_ret (qw_ret1 rfl rfl ?_))))))))); rotate_left 1
    exact ⟨rfl, X⟩
end Bk
namespace Bk
open Go Go.RowKit Go.Proofs
theorem fp_fields : (Tryz.prog.fieldsOf 48).toList.map (fun f => (f.name == "_", f.type, f.offset)) = [(false, 9, 0), (false, 4, 1)] := by kernel_rfl
theorem fp_under : Tryz.prog.underlying 48 = some (.struct (Tryz.prog.fieldsOf 48)) := by kernel_rfl
theorem fp_stood : Tryz.prog.stoodInHeld 48 = false := by kernel_rfl
theorem fp_guard : Tryz.prog.eqGuardType Tryz.prog.depth 48 = false := by kernel_rfl
theorem eqFields_same {P : Program} {d : Nat} {xs : Array Value} {w : World} : ∀ (fs : List Field), (∀ f ∈ fs, ∃ v, (part f.type xs f.offset).run P w = .ok v w ∧ (Op.equalIn d f.type v v).run P w = .ok true w) → (Op.eqFields d xs xs fs).run P w = .ok true w
 | [], _ => by simp [Op.eqFields]
 | f :: fs, h => by
  obtain ⟨v, h1, h2⟩ := h f List.mem_cons_self; have ih := eqFields_same (P := P) (d := d) (xs := xs) (w := w) fs (fun g hg => h g (List.mem_cons_of_mem _ hg))
  unfold Op.eqFields
  split
  · simp only [Sem.run_bind, h1, h2, Result.andThen_ok, Bool.not_true, Bool.false_eq_true, if_false, ih]
  · exact ih
theorem run_part {P : Program} {tab : Tab} {t sz off : Nat} {s : Sk} {cs : List Value} {v : Value} (T : TabOk P tab) (ht : lookT tab t = some (s, sz)) (hs : s.agg = false) (hv : cs[off]? = some v) (w : World) : (part t cs.toArray off).run P w = .ok v w := by
 simp [part, Sem.run_bind, run_isAgg (T _ _ _ ht), hs, Result.andThen, hv]
theorem run_fp_same (v : FP) (w : World) : (Op.equalIn 10000 48 v.val v.val).run Tryz.prog w = .ok true w := by
 rw [show (10000 : Nat) = 9999 + 1 from rfl, run_equalIn_agg w 9999 _ _ _ fp_under fp_stood]; refine eqFields_same _ (fun f hf => ?_); have hm : (f.name == "_", f.type, f.offset) ∈ (Tryz.prog.fieldsOf 48).toList.map (fun f => (f.name == "_", f.type, f.offset)) := List.mem_map.2 ⟨f, hf, rfl⟩; rw [fp_fields] at hm; simp only [List.mem_cons, List.not_mem_nil, or_false, Prod.mk.injEq] at hm
 rcases hm with ⟨-, h1, h2⟩ | ⟨-, h1, h2⟩
 · rw [h1, h2]
   refine ⟨str v.name, run_part (cs := v.cells) tabOk rfl rfl rfl w, ?_⟩
   rw [run_equalIn_string w 9998 _ _ _ (show Tryz.prog.underlying 9 = some .string from (tabOk 9 .str 1 rfl).under)]; simp
 · rw [h1, h2]
   refine ⟨.bool v.list, run_part (cs := v.cells) tabOk rfl rfl rfl w, ?_⟩; have hu : Tryz.prog.underlying 4 = some .bool := (tabOk 4 .bool 1 rfl).under
   unfold Op.equalIn
   simp [run_underlying hu, Result.andThen]
theorem pur_fpneq {n : Nat} {l : Sl} {S : World → Prop} {ty t' : TypeId} {x y : Operand} {v : FP} (hx : ev l x = some v.val) (hy : ev l y = some v.val) : Pur Tryz.prog n l S (.binOp .neq 48 x y t') ty (.bool false) := by
 unfold Pur
 intro a w dst pos after g ha _; have e1 := run_eqGuard_agg (P := Tryz.prog) w .neq 48 x y v.cells.toArray v.cells.toArray fp_guard
 have e2 : (binOp .neq 48 v.val v.val).run Tryz.prog w = .ok (.bool false) w := by
  rw [run_neq_struct, run_fp_same]; rfl
 simp only [execOp, ha.ev hx, ha.ev hy, Sem.run_bind, e1, e2, Result.andThen_ok, Sem.run_pure]
end Bk
namespace Bk
open Go Go.RowKit Go.Proofs
attribute [local irreducible] Go.Calls
theorem kids_size36 (t : Nd) : t.kids.length ≤ t.size ∧ rowSize t.kids ≤ t.size := by
 obtain ⟨k, n, s, l⟩ := t; have := length_rowSize2 l
 show l.length ≤ 1 + rowSize l ∧ rowSize l ≤ 1 + rowSize l
 omega
set_option maxRecDepth 100000 in
set_option maxHeartbeats 8000000 in
theorem same36_t (lib : List FD) (S S' : Nat → Prop) (a a' : Option Addr) (c c' : Nat) (w : World) (hl : lib.length ≤ 1000000) (hf : ∀ f ∈ lib, f.params.length ≤ 1000000 ∧ f.body.size ≤ 1000000) (hs : FDs S w lib a) (hs' : FDs S' w lib a') :
 Calls Tryz.prog 14 #[.slice a lib.length c, .slice a' lib.length c'] w fun e w' => e = .returned (.bool true) ∧ Ext w w' := by
 have X := Ext.refl w; replace hs := hs.ltA; replace hs' := hs'.ltA; have HF := Lib.hid hf; clear hf; refine calls_in Tryz.func14 Tryz.ntmps14 rfl rfl ?_
 focus
  refine cS (cA rfl rfl (cT (cw_seq (cS (cM rfl rfl (lw_pure (pur_len_slice tabOk rfl rfl) rfl (cM rfl rfl (lw_pure (pur_len_slice tabOk rfl rfl) rfl (lw_pure (pur_neq rfl rfl) rfl (cT ?_)))))))))); refine cw_no rfl (by omega) ?_; refine cw_skip (qw_then (cw_seq (cS (cA rfl rfl (cT (cw_block ?_)))))); rotate_left 1
 refine cw_loop (ι := Nat) (fun j => [(0, .slice a lib.length c), (1, .slice a' lib.length c'), (5, .int .i64 j)]) (fun j w' => FDs (· < w.heap.size) w' lib a ∧ FDs (· < w.heap.size) w' lib a' ∧ Ext w w' ∧ j ≤ lib.length) (fun j => lib.length - j) 0 (by (refine sub_cons rfl ?_; refine sub_cons rfl ?_; refine sub_cons rfl ?_; exact sub_nil)) ⟨hs, hs', X, Nat.zero_le _⟩ ?_; clear hs hs' X; rintro j w1 ⟨hs, hs', X, hj⟩
 by_cases hlt : j < lib.length
 · have hs2 := hs
   have hs3 := hs'; obtain ⟨kb, ko, ⟨⟩, hkS, hk⟩ := Arr.get hs2 (by omega); obtain ⟨qb, qo, ⟨⟩, hqS, hq⟩ := Arr.get hs3 (by omega); obtain ⟨pa, pc, ba, bc, hr, h1, h2⟩ := hk j lib[j] (List.getElem?_eq_getElem hlt); obtain ⟨pa', pc', ba', bc', hr', h1', h2'⟩ := hq j lib[j] (List.getElem?_eq_getElem hlt); obtain ⟨f1, f2⟩ := HF.out _ (List.getElem_mem hlt); clear hk hq hs2 hs3; have g1 := kids_size36 lib[j].body; have HE := Lib.hid (fun (S S' : Nat → Prop) (a a' : Option Addr) (c c' : Nat) (w : World) => Equal_t (lib[j].body.size + 1) lib[j].body S S' a a' c c' w (by omega) (by omega) (by omega)); clear g1
   generalize lib[j] = x at *
   simp only [FD.cells] at hr hr'
   focus
    refine cw_seq (cS (cM rfl rfl (cM rfl rfl (lw_pure (pur_len_slice tabOk rfl rfl) rfl (lw_pure (pur_lss rfl rfl) rfl (cT ?_)))))); refine cw_yes rfl (by omega) ?_; refine cw_skip (qw_then (cw_seq (cw_block (cw_seq (cw_seq ?_))))); (refine cw_tdraw (fun wz => Ext w1 wz) 50 (.pure 0 (.pure 1 (.pure 2 (.pure 3 (.pure 4 (.pure 5 (.pure 6 (.pure 7 (.pure 8 (.pure 9 (.pure 10 (.pure 11 (.pure 12 (.pure 13 (.pure 14 (.pure 15 (.pure 16 (.pure 17 (.pure 18 (.pure 19 (.pure 20 (.pure 21 (.pure 22 (.pure 23 (.pure 24 (.pure 25 (.pure 26 (.pure 27 (.pure 28 (.pure 29 (.pure 30 (.pure 31 (.pure 32 (.pure 33 (.pure 34 (.pure 35 (.pure 36 (.pure 37 (.pure 38 (.pure 39 (.pure 40 (.pure 41 (.pure 42 (.pure 43 (.pure 44 (.pure 45 (.pure 46 (.pure 47 (.pure 48 (.pure 49 .tail)))))))))))))))))))))))))))))))))))))))))))))))))) mixed (by kernel_rfl) (panicOk_then (panicOk_then (panicOk_block (panicOk_then (panicOk_then (panicOk_block (panicOk_then panicOk_body))))))) ?_; intro wa1 xa2 _); have qsa3 : (fun wz => Ext w1 wz) wa1 := xa2; simp only at qsa3; have d_hs := hs; have d_hs' := hs'; have d_hr := hr; have d_h1 := h1; have d_h2 := h2; have d_hr' := hr'; have d_h1' := h1'; have d_h2' := h2'; have za4 := xa2.size; replace X := X.ext xa2; replace hs := hs.ext xa2; replace hs' := FDs.ext hs' xa2; replace hr := hr.ext xa2; replace h1 := h1.ext xa2; replace h2 := Nd.sits.ext h2 xa2; replace hr' := Row.ext hr' xa2; replace h1' := FPs.ext h1' xa2; replace h2' := Nd.sits.ext h2' xa2; clear xa2; refine ⟨qsa3, ?_⟩
    refine tw_pure rfl (pur_move rfl) rfl (tw_pure rfl (pur_move rfl) rfl ?_); refine tw_pure rfl (pur_indexAddr tabOk rfl rfl rfl rfl (by omega) (by omega)) rfl ?_; refine tw_pure rfl (pur_fieldAddr0 tabOk rfl rfl rfl) rfl (tw_pure rfl (pur_load tabOk rfl rfl rfl (fun wz hz => Row.at0 (Row.ext d_hr hz) rfl)) rfl (tw_pure rfl (pur_move rfl) rfl (tw_pure rfl (pur_move rfl) rfl ?_))); refine tw_pure rfl (pur_indexAddr tabOk rfl rfl rfl rfl (by omega) (by omega)) rfl ?_; refine tw_pure rfl (pur_fieldAddr0 tabOk rfl rfl rfl) rfl (tw_pure rfl (pur_load tabOk rfl rfl rfl (fun wz hz => Row.at0 (Row.ext d_hr' hz) rfl)) rfl (tw_pure rfl (pur_sneq rfl rfl) rfl (tw_pure rfl (pur_move rfl) rfl (tw_on rfl rfl rfl rfl (gd_ff (not_not_intro rfl)) (pur_move rfl) rfl (tw_on rfl rfl rfl rfl (gd_ff (not_not_intro rfl)) (pur_move rfl) rfl ?_))))); refine tw_on rfl rfl rfl rfl (gd_ff (not_not_intro rfl)) (pur_indexAddr tabOk rfl rfl rfl rfl (by omega) (by omega)) rfl ?_; refine tw_on rfl rfl rfl rfl (gd_ff (not_not_intro rfl)) (pur_fieldAddr tabOk rfl rfl rfl) rfl (tw_on rfl rfl rfl rfl (gd_ff (not_not_intro rfl)) (pur_load tabOk rfl rfl rfl (fun wz hz => Row.at (Row.ext d_hr hz) rfl)) rfl (tw_on rfl rfl rfl rfl (gd_ff (not_not_intro rfl)) (pur_move rfl) rfl (tw_on rfl rfl rfl rfl (gd_ff (not_not_intro rfl)) (pur_move rfl) rfl ?_))); refine tw_on rfl rfl rfl rfl (gd_ff (not_not_intro rfl)) (pur_indexAddr tabOk rfl rfl rfl rfl (by omega) (by omega)) rfl ?_; refine tw_on rfl rfl rfl rfl (gd_ff (not_not_intro rfl)) (pur_fieldAddr tabOk rfl rfl rfl) rfl (tw_on rfl rfl rfl rfl (gd_ff (not_not_intro rfl)) (pur_load tabOk rfl rfl rfl (fun wz hz => Row.at (Row.ext d_hr' hz) rfl)) rfl (tw_on rfl rfl rfl rfl (gd_ff (not_not_intro rfl)) (pur_bneqF tabOk rfl rfl rfl) rfl (tw_pure rfl (pur_pick_no rfl rfl (not_not_intro rfl)) rfl (tw_pure rfl (pur_move rfl) rfl (tw_on rfl rfl rfl rfl (gd_ff (not_not_intro rfl)) (pur_move rfl) rfl (tw_on rfl rfl rfl rfl (gd_ff (not_not_intro rfl)) (pur_move rfl) rfl ?_))))))
    refine tw_on rfl rfl rfl rfl (gd_ff (not_not_intro rfl)) (pur_indexAddr tabOk rfl rfl rfl rfl (by omega) (by omega)) rfl ?_; refine tw_on rfl rfl rfl rfl (gd_ff (not_not_intro rfl)) (pur_fieldAddr tabOk rfl rfl rfl) rfl (tw_on rfl rfl rfl rfl (gd_ff (not_not_intro rfl)) (pur_load tabOk rfl rfl rfl (fun wz hz => Row.at (Row.ext d_hr hz) rfl)) rfl (tw_on rfl rfl rfl rfl (gd_ff (not_not_intro rfl)) (pur_len_slice tabOk rfl rfl) rfl (tw_on rfl rfl rfl rfl (gd_ff (not_not_intro rfl)) (pur_move rfl) rfl (tw_on rfl rfl rfl rfl (gd_ff (not_not_intro rfl)) (pur_move rfl) rfl ?_)))); refine tw_on rfl rfl rfl rfl (gd_ff (not_not_intro rfl)) (pur_indexAddr tabOk rfl rfl rfl rfl (by omega) (by omega)) rfl ?_; refine tw_on rfl rfl rfl rfl (gd_ff (not_not_intro rfl)) (pur_fieldAddr tabOk rfl rfl rfl) rfl (tw_on rfl rfl rfl rfl (gd_ff (not_not_intro rfl)) (pur_load tabOk rfl rfl rfl (fun wz hz => Row.at (Row.ext d_hr' hz) rfl)) rfl (tw_on rfl rfl rfl rfl (gd_ff (not_not_intro rfl)) (pur_len_slice tabOk rfl rfl) rfl (tw_on rfl rfl rfl rfl (gd_ff (not_not_intro rfl)) (pur_neq rfl rfl) rfl (tw_pure rfl (pur_pick_no rfl rfl (not_not_intro rfl)) rfl (tw_pure rfl (pur_move rfl) rfl ?_))))); refine tw_on rfl rfl rfl rfl (gd_ff (by omega)) (pur_move rfl) rfl ?_; refine tw_on rfl rfl rfl rfl (gd_ff (by omega)) (pur_move rfl) rfl ?_; refine tw_on rfl rfl rfl rfl (gd_ff (by omega)) (pur_indexAddr tabOk rfl rfl rfl rfl (by omega) (by omega)) rfl ?_; refine tw_on rfl rfl rfl rfl (gd_ff (by omega)) (pur_fieldAddr tabOk rfl rfl rfl) rfl ?_
    refine tw_on rfl rfl rfl rfl (gd_ff (by omega)) (pur_loads_row' [_, _, _, _] tabOk rfl rfl rfl (fun wz hz => (Row.ext d_hr hz)) rfl rfl) rfl ?_; refine tw_on rfl rfl rfl rfl (gd_ff (by omega)) (pur_move rfl) rfl ?_; refine tw_on rfl rfl rfl rfl (gd_ff (by omega)) (pur_move rfl) rfl ?_; refine tw_on rfl rfl rfl rfl (gd_ff (by omega)) (pur_indexAddr tabOk rfl rfl rfl rfl (by omega) (by omega)) rfl ?_; refine tw_on rfl rfl rfl rfl (gd_ff (by omega)) (pur_fieldAddr tabOk rfl rfl rfl) rfl ?_; refine tw_on rfl rfl rfl rfl (gd_ff (by omega)) (pur_loads_row' [_, _, _, _] tabOk rfl rfl rfl (fun wz hz => (Row.ext d_hr' hz)) rfl rfl) rfl ?_; clear qsa3 d_hs d_hs' d_hr d_h1 d_h2 d_hr' d_h1' d_h2'; refine tw_tail rfl ?_; refine lw_on rfl rfl rfl (gd_ff (by omega)) ?_; refine cC (by kernel_rfl) rfl (HE.out _ _ _ _ _ _ _ (by assumption) (by assumption)) rfl ?_; rintro _ wa6 ⟨⟨⟩, xa5⟩; have za7 := xa5.size; replace X := X.ext xa5; replace hs := hs.ext xa5; replace hs' := FDs.ext hs' xa5; replace hr := hr.ext xa5; replace h1 := h1.ext xa5; replace h2 := Nd.sits.ext h2 xa5; replace hr' := Row.ext hr' xa5; replace h1' := FPs.ext h1' xa5; replace h2' := Nd.sits.ext h2' xa5; clear xa5; refine lw_on rfl rfl rfl (gd_ff (by omega)) ?_; refine lw_pure (pur_not rfl) rfl ?_; refine lw_pure (pur_pick_no rfl rfl (by omega)) rfl ?_; refine cT (cw_cond_f rfl (cw_skip (qw_then (cS (cA rfl rfl (cT (cw_block ?_))))))); rotate_left 1
   refine cw_loop (ι := Nat) (fun i => [(0, .slice (some ⟨kb, ko, none⟩) lib.length c), (1, .slice (some ⟨qb, qo, none⟩) lib.length c'), (5, .int .i64 j), (6, .int .i64 i)])
    (fun i w' => FDs (· < w.heap.size) w' lib (some ⟨kb, ko, none⟩) ∧ FDs (· < w.heap.size) w' lib (some ⟨qb, qo, none⟩) ∧ Row w' ⟨kb, ko + j * 7, none⟩ [str x.name, .slice pa x.params.length pc, .bool x.list, .int .u8 x.body.kind, .int .i64 x.body.num, str x.body.name, .slice ba x.body.kids.length bc] ∧ Row w' ⟨qb, qo + j * 7, none⟩ [str x.name, .slice pa' x.params.length pc', .bool x.list, .int .u8 x.body.kind, .int .i64 x.body.num, str x.body.name, .slice ba' x.body.kids.length bc'] ∧ FPs (· < w.heap.size) w' x.params pa ∧ FPs (· < w.heap.size) w' x.params pa' ∧ Ext w w' ∧ i ≤ x.params.length) (fun i => x.params.length - i) 0 (by (refine sub_cons rfl ?_; refine sub_cons rfl ?_; refine sub_cons rfl ?_; refine sub_cons rfl ?_; exact sub_nil)) ⟨hs, hs', hr, hr', h1, h1', X, Nat.zero_le _⟩ ?_
   clear hs hs' hr hr' h1 h1' h2 h2' X; rintro i w2 ⟨hs, hs', hr, hr', h1, h1', X, hi⟩
   by_cases hit : i < x.params.length
   · have g1 := h1
     have g2 := h1'; obtain ⟨ub, uo, rfl, huS, hu⟩ := Arr.get g1 (by omega); obtain ⟨vb, vo, rfl, hvS, hv⟩ := Arr.get g2 (by omega); have r1 : Row w2 ⟨ub, uo + i * 2, none⟩ x.params[i].cells := hu i _ (List.getElem?_eq_getElem hit); have r2 : Row w2 ⟨vb, vo + i * 2, none⟩ x.params[i].cells := hv i _ (List.getElem?_eq_getElem hit); clear hu hv g1 g2
     generalize x.params[i] = y at *
     focus
      refine cw_seq (cS (cM rfl rfl (cM rfl rfl (cM rfl rfl ?_)))); refine lw_pure (pur_indexAddr tabOk rfl rfl rfl rfl (by omega) (by omega)) rfl ?_; refine lw_pure (pur_fieldAddr tabOk rfl rfl rfl) rfl (lw_load_r tabOk rfl rfl rfl hr rfl rfl (lw_pure (pur_len_slice tabOk rfl rfl) rfl (lw_pure (pur_lss rfl rfl) rfl (cT ?_)))); refine cw_yes rfl (by omega) ?_; refine cw_skip (qw_then (cw_seq (cw_block (cw_seq ?_)))); (refine cw_tdraw (fun wz => Ext w2 wz) 16 (.pure 0 (.pure 1 (.pure 2 (.pure 3 (.pure 4 (.pure 5 (.pure 6 (.pure 7 (.pure 8 (.pure 9 (.pure 10 (.pure 11 (.pure 12 (.pure 13 (.pure 14 (.pure 15 .tail)))))))))))))))) mixed (by kernel_rfl) (panicOk_then (panicOk_block (panicOk_then (panicOk_then (panicOk_block (panicOk_block (panicOk_then (panicOk_then (panicOk_block (panicOk_then panicOk_body)))))))))) ?_; intro wb1 xb2 _); have qsb3 : (fun wz => Ext w2 wz) wb1 := xb2; simp only at qsb3; have d_hs := hs; have d_hs' := hs'; have d_hr := hr; have d_h1 := h1; have d_hr' := hr'; have d_h1' := h1'; have d_r1 := r1; have d_r2 := r2; have zb4 := xb2.size; replace hs := hs.ext xb2; replace hs' := FDs.ext hs' xb2; replace X := X.ext xb2; replace hr := hr.ext xb2; replace h1 := h1.ext xb2; replace hr' := Row.ext hr' xb2; replace h1' := FPs.ext h1' xb2; replace r1 := r1.ext xb2; replace r2 := r2.ext xb2; clear xb2; refine ⟨qsb3, ?_⟩; refine tw_pure rfl (pur_move rfl) rfl (tw_pure rfl (pur_move rfl) rfl ?_); refine tw_pure rfl (pur_indexAddr tabOk rfl rfl rfl rfl (by omega) (by omega)) rfl ?_
      refine tw_pure rfl (pur_fieldAddr tabOk rfl rfl rfl) rfl (tw_pure rfl (pur_load tabOk rfl rfl rfl (fun wz hz => Row.at (Row.ext d_hr hz) rfl)) rfl (tw_pure rfl (pur_move rfl) rfl ?_)); refine tw_pure rfl (pur_indexAddr tabOk rfl rfl rfl rfl (by omega) (by omega)) rfl ?_; refine tw_pure rfl (pur_loads' tabOk rfl rfl rfl (fun wz hz => (Row.ext d_r1 hz)) rfl) rfl (tw_pure rfl (pur_move rfl) rfl (tw_pure rfl (pur_move rfl) rfl ?_)); refine tw_pure rfl (pur_indexAddr tabOk rfl rfl rfl rfl (by omega) (by omega)) rfl ?_; refine tw_pure rfl (pur_fieldAddr tabOk rfl rfl rfl) rfl (tw_pure rfl (pur_load tabOk rfl rfl rfl (fun wz hz => Row.at (Row.ext d_hr' hz) rfl)) rfl (tw_pure rfl (pur_move rfl) rfl ?_)); refine tw_pure rfl (pur_indexAddr tabOk rfl rfl rfl rfl (by omega) (by omega)) rfl ?_; refine tw_pure rfl (pur_loads' tabOk rfl rfl rfl (fun wz hz => (Row.ext d_r2 hz)) rfl) rfl ?_; clear qsb3 d_hs d_hs' d_hr d_h1 d_hr' d_h1' d_r1 d_r2; refine tw_tail rfl (lw_pure (pur_fpneq (v := y) rfl rfl) rfl (cT (cw_cond_f rfl (cw_skip (qw_block_norm (qw_then (cw_region (cM rfl rfl ?_)))))))); refine lw_pure (pur_add rfl rfl (IntWalk.i64_in _ (by omega))) rfl ?_; refine cA rfl rfl (lw_nil ?_); rotate_left 1
     exact qw_round (i + 1) (by (refine sub_cons rfl ?_; refine sub_cons rfl ?_; refine sub_cons rfl ?_; refine sub_cons rfl ?_; exact sub_nil)) ⟨hs, hs', hr, hr', h1, h1', X, by omega⟩ (by omega)
   · focus
      refine cw_seq (cS (cM rfl rfl (cM rfl rfl (cM rfl rfl ?_)))); refine lw_pure (pur_indexAddr tabOk rfl rfl rfl rfl (by omega) (by omega)) rfl ?_; refine lw_pure (pur_fieldAddr tabOk rfl rfl rfl) rfl (lw_load_r tabOk rfl rfl rfl hr rfl rfl (lw_pure (pur_len_slice tabOk rfl rfl) rfl (lw_pure (pur_lss rfl rfl) rfl (cT ?_)))); refine cw_no rfl (by omega) ?_; refine cw_exit (qw_then_exit (qw_then_exit (qw_block_exit (qw_block_norm (qw_then (cw_region (cM rfl rfl ?_))))))); refine lw_pure (pur_add rfl rfl (IntWalk.i64_in _ (by omega))) rfl ?_; refine cA rfl rfl (lw_nil ?_); rotate_left 1
     exact qw_round (j + 1) (by (refine sub_cons rfl ?_; refine sub_cons rfl ?_; refine sub_cons rfl ?_; exact sub_nil)) ⟨hs, hs', X, by omega⟩ (by omega)
 · have hje : j = lib.length := by omega
   subst hje
   focus
    refine cw_seq (cS (cM rfl rfl (cM rfl rfl (lw_pure (pur_len_slice tabOk rfl rfl) rfl (lw_pure (pur_lss rfl rfl) rfl (cT ?_)))))); refine cw_no rfl (by omega) ?_; refine cw_exit (qw_then_exit (qw_then_exit (qw_block_exit (qw_then (cS (cA rfl rfl (cT (cw_ret (qw_ret1 rfl rfl ?_))))))))); rotate_left 1
   exact ⟨rfl, X⟩
end Bk
namespace Bk
open Go Go.RowKit Go.Proofs
attribute [local irreducible] Go.Calls
theorem LibFew.same {lib : List FD} (h : LibFew lib) : lib.length ≤ 1000000 ∧ ∀ f ∈ lib, f.params.length ≤ 1000000 ∧ f.body.size ≤ 1000000 := ⟨h.len, fun f hf => ⟨(h.all f hf).2.1, (h.all f hf).2.2.2.1⟩⟩
end Bk
namespace Bk
open Go Go.RowKit Go.Proofs
attribute [local irreducible] Go.Calls
section
variable {P : Program} {n : Nat} {l : Sl} {S : World → Prop} {tab : Tab} {ty : TypeId}
end
theorem FDs.take {S : Nat → Prop} {w : World} {lib : List FD} {a : Option Addr} (h : FDs S w lib a) (m : Nat) : FDs S w (lib.take m) a := by
 rcases h with rfl | ⟨b, o, h1, h2, h3⟩
 · exact Or.inl (by simp)
 · refine Or.inr ⟨b, o, h1, h2, fun i x hi => ?_⟩
   rw [List.getElem?_take] at hi
   split at hi
   · exact h3 i x hi
   · cases hi
theorem FDs.drop {S : Nat → Prop} {w : World} {lib : List FD} {a : Option Addr} {cap : Nat} (h : FDs S w lib a) (m : Nat) (hc : lib.length ≤ cap) : FDs S w (lib.drop m) (if cap = m then a else a.map (·.add (m * 7))) := by
 rcases h with rfl | ⟨b, o, rfl, h2, h3⟩
 · exact Or.inl (by simp)
 · by_cases hm : lib.length ≤ m
   · exact Or.inl (by rw [List.drop_eq_nil_iff]; exact hm)
   · rw [if_neg (by omega)]
     refine Or.inr ⟨b, o + m * 7, ?_, h2, fun i x hi => ?_⟩
     · unfold Addr.add
       by_cases h0 : m * 7 = 0 <;> simp [h0]
     · rw [List.getElem?_drop] at hi
       have := h3 _ x hi; rw [show o + (m + i) * 7 = o + m * 7 + i * 7 by omega] at this
       exact this
theorem few_lib {lib : List FD} (h : fewL lib = true) (hw : ∀ f ∈ lib, f.wfA) : LibFew lib := by
 unfold fewL at h
 simp only [Bool.and_eq_true, decide_eq_true_eq, List.all_eq_true] at h; refine ⟨by omega, fun f hf => ?_⟩; obtain ⟨⟨h1, h2⟩, h3⟩ := h.2 f hf; obtain ⟨-, -, w3, w4⟩ := hw f hf; have h4 := sizeL_eq _ _ h3
 exact ⟨by omega, by omega, w3, by omega, w4⟩
theorem printL_len {lib : List FD} (h : LibFew lib) : (printL lib).1.length ≤ 3000000 := by
 unfold printL
 cases hv : libErr lib with
 | none =>
  obtain ⟨h1, h2⟩ := lib_good hv (fun f hf => (h.all f hf).2.2.2.2); have := libT_len h2
  show (libT lib).length ≤ 3000000
  omega
 | some q => obtain ⟨i, e⟩ := q; simp
def BoolR (w : World) (q : Bool) (e : Ending) (w' : World) : Prop := e = .returned (.bool q) ∧ Ext w w'
end Bk
namespace Bk
open Go
def pre (acc : List Tok) (r : List Tok × Option Nat) : List Tok × Option Nat := match r.2 with
 | none => (acc ++ r.1, none)
 | some p => ([], some p)
theorem pre_pre (a b : List Tok) (r : List Tok × Option Nat) : pre a (pre b r) = pre (a ++ b) r := by
 rcases r with ⟨l, _ | p⟩ <;> simp [pre]
theorem lexGo_acc (s : List UInt8) : ∀ (k p : Nat) (acc : List Tok), lexGo k s p acc = pre acc (lexGo k s p [])
 | 0, p, acc => by simp [lexGo, pre]
 | k + 1, p, acc => by
  rw [lexGo, lexGo]
  split
  · split
    · simp [pre]
    · rw [lexGo_acc s k _ (acc ++ _), lexGo_acc s k _ ([] ++ _), pre_pre]
      simp
  · simp [pre]
theorem lexGo_fuel (s : List UInt8) : ∀ (k k' p : Nat) (acc : List Tok), s.length - p < k → s.length - p < k' → lexGo k s p acc = lexGo k' s p acc
 | 0, _, _, _, h, _ => by omega
 | _, 0, _, _, _, h => by omega
 | k + 1, k' + 1, p, acc, h, h' => by
  rw [lexGo, lexGo]
  split
  · split
    · rfl
    · exact lexGo_fuel s k k' _ _ (by omega) (by omega)
  · rfl
def lexFrom (s : List UInt8) (p : Nat) : List Tok × Option Nat := lexGo (s.length + 1) s p []
def tokAt (s : List UInt8) (p : Nat) : Tok := ⟨((firstTok (s.drop p)).1 : Nat), (s.drop p).take (firstTok (s.drop p)).2, (p : Int)⟩
theorem lexFrom_end {s : List UInt8} {p : Nat} (h : s.length ≤ p) : lexFrom s p = ([], none) := by
 unfold lexFrom; rw [lexGo, if_neg (by omega)]
theorem lexFrom_err {s : List UInt8} {p : Nat} (h : p < s.length) (h0 : (firstTok (s.drop p)).2 = 0) : lexFrom s p = ([], some p) := by
 unfold lexFrom; rw [lexGo, if_pos h, if_pos h0]
theorem lexFrom_step {s : List UInt8} {p : Nat} (h : p < s.length) (h0 : (firstTok (s.drop p)).2 ≠ 0) : lexFrom s p = pre [tokAt s p] (lexFrom s (p + (firstTok (s.drop p)).2)) := by
 unfold lexFrom
 rw [lexGo, if_pos h, if_neg h0, lexGo_acc]; rw [lexGo_fuel s s.length (s.length + 1) _ _ (by omega) (by omega)]
 rfl
def solidR (r : List Tok × Option Nat) : List Tok × Option Nat := match r.2 with
 | none => (solidT r.1, none)
 | some p => ([], some p)
def solidFrom (s : List UInt8) (p : Nat) : List Tok × Option Nat := solidR (lexFrom s p)
theorem solidR_pre (t : Tok) (r : List Tok × Option Nat) : solidR (pre [t] r) = if t.kind ≠ 4 ∧ t.kind ≠ 5 then pre [t] (solidR r) else solidR r := by
 rcases r with ⟨l, _ | p⟩
 · by_cases h : t.kind ≠ 4 ∧ t.kind ≠ 5
   · simp [pre, solidR, solidT, List.filter_cons, h]
   · rw [if_neg h]
     have : (decide (t.kind ≠ 4) && decide (t.kind ≠ 5)) = false := by
      simp only [Bool.and_eq_false_iff, decide_eq_false_iff_not]; omega
     simp only [pre, solidR, solidT, List.singleton_append, List.filter_cons, this]
     simp
 · simp [pre, solidR]
theorem solidFrom_end {s : List UInt8} {p : Nat} (h : s.length ≤ p) : solidFrom s p = ([], none) := by
 unfold solidFrom; rw [lexFrom_end h]; rfl
theorem solidFrom_err {s : List UInt8} {p : Nat} (h : p < s.length) (h0 : (firstTok (s.drop p)).2 = 0) : solidFrom s p = ([], some p) := by
 unfold solidFrom; rw [lexFrom_err h h0]; rfl
theorem solidFrom_tok {s : List UInt8} {p : Nat} (h : p < s.length) (h0 : (firstTok (s.drop p)).2 ≠ 0) (h4 : (firstTok (s.drop p)).1 ≠ 4) (h5 : (firstTok (s.drop p)).1 ≠ 5) :
 solidFrom s p = pre [tokAt s p] (solidFrom s (p + (firstTok (s.drop p)).2)) := by
 unfold solidFrom; rw [lexFrom_step h h0, solidR_pre, if_pos]
 constructor <;> simp only [tokAt] <;> omega
theorem solidFrom_skip {s : List UInt8} {p : Nat} (h : p < s.length) (h0 : (firstTok (s.drop p)).2 ≠ 0) (h4 : (firstTok (s.drop p)).1 = 4 ∨ (firstTok (s.drop p)).1 = 5) :
 solidFrom s p = solidFrom s (p + (firstTok (s.drop p)).2) := by
 unfold solidFrom; rw [lexFrom_step h h0, solidR_pre, if_neg]
 simp only [tokAt]; omega
theorem drop_at {s : List UInt8} {p : Nat} (h : p < s.length) : s.drop p = s[p] :: s.drop (p + 1) := List.drop_eq_getElem_cons h
theorem blank_parts {c : UInt8} (h : blank c = true) : letter c = false ∧ digit c = false ∧ c ≠ 35 := by
 simp only [blank, Bool.or_eq_true, decide_eq_true_eq] at h; refine ⟨?_, ?_, ?_⟩
 · simp only [letter, Bool.and_eq_false_iff, decide_eq_false_iff_not]; omega
 · simp only [digit, Bool.and_eq_false_iff, decide_eq_false_iff_not]; omega
 · rintro rfl; exact absurd h (by decide)
theorem firstTok_blank {c : UInt8} {r : List UInt8} (h : blank c = true) : firstTok (c :: r) = (4, 1 + span blank r) := by
 obtain ⟨h1, h2, -⟩ := blank_parts h
 simp [firstTok, h, h1, h2, span, List.takeWhile_cons]; omega
theorem firstTok_hash {r : List UInt8} : firstTok (35 :: r) = (5, 1 + span notLf r) := by
 have h1 : letter 35 = false := by decide
 have h2 : digit 35 = false := by decide
 have h3 : blank 35 = false := by decide
 have h4 : notLf 35 = true := by decide
 simp [firstTok, h1, h2, h3, h4, span, List.takeWhile_cons]; omega
theorem span_zero {p : UInt8 → Bool} {s : List UInt8} (h : ∀ c ∈ s.head?, p c = false) : span p s = 0 := by
 cases s with
 | nil => rfl
 | cons c r => simp [span, List.takeWhile_cons, h c (by simp)]
theorem solidFrom_blank {s : List UInt8} {p : Nat} (h : p < s.length) (hb : blank s[p] = true) : solidFrom s p = solidFrom s (p + 1) := by
 have e : firstTok (s.drop p) = (4, 1 + span blank (s.drop (p + 1))) := by rw [drop_at h]; exact firstTok_blank hb
 rw [solidFrom_skip h (by rw [e]; simp) (by rw [e]; simp), e]
 by_cases h1 : p + 1 < s.length
 · by_cases h2 : blank s[p + 1] = true
   · have e2 : firstTok (s.drop (p + 1)) = (4, 1 + span blank (s.drop (p + 1 + 1))) := by rw [drop_at h1]; exact firstTok_blank h2
     rw [solidFrom_skip h1 (by rw [e2]; simp) (by rw [e2]; simp), e2]
     have : span blank (s.drop (p + 1)) = 1 + span blank (s.drop (p + 1 + 1)) := by
      rw [drop_at h1]; simp only [span, List.takeWhile_cons, h2, if_true, List.length_cons]; omega
     rw [this]
     congr 1; omega
   · rw [span_zero (s := s.drop (p + 1))]
     rw [drop_at h1]; intro c hc; simp only [List.head?_cons, Option.mem_def, Option.some.injEq] at hc; rw [← hc]; simpa using h2
 · rw [span_zero (s := s.drop (p + 1))]
   rw [List.drop_eq_nil_of_le (by omega)]; simp
def signsL : List (List UInt8) := [[60, 61, 62], [58, 61], [43, 61], [45, 61], [94, 61], [61, 61], [33, 61], [60, 61], [62, 61], [38, 38], [124, 124], [43], [45], [42], [47], [37], [38], [124], [94], [33], [61], [60], [62], [40], [41], [123], [125], [91], [93], [59], [44]]
def pickLen (L : List (List UInt8)) (s : List UInt8) : Nat := ((L.find? (·.isPrefixOf s)).map List.length).getD 0
end Bk
namespace Bk
open Go
def Tok.sh (d : Nat) (t : Tok) : Tok := ⟨t.kind, t.text, t.pos + d⟩
def shR (d : Nat) (r : List Tok × Option Nat) : List Tok × Option Nat := (r.1.map (Tok.sh d), r.2.map (· + d))
theorem shR_pre (d : Nat) (t : Tok) (r : List Tok × Option Nat) : shR d (pre [t] r) = pre [t.sh d] (shR d r) := by
 obtain ⟨l, e⟩ := r
 cases e <;> simp [shR, pre]
theorem shR_0 (r : List Tok × Option Nat) : shR 0 r = r := by
 obtain ⟨l, e⟩ := r
 have : l.map (Tok.sh 0) = l := by
  conv => rhs; rw [← List.map_id l]
  congr 1
  funext t; cases t; simp [Tok.sh]
 cases e <;> simp [shR, this]
theorem shR_add (a b : Nat) (r : List Tok × Option Nat) : shR a (shR b r) = shR (b + a) r := by
 obtain ⟨l, e⟩ := r
 cases e <;> simp [shR, Tok.sh, Int.add_assoc, Nat.add_assoc]
theorem drop_shift (a u : List UInt8) (p : Nat) : (a ++ u).drop (a.length + p) = u.drop p := by
 rw [List.drop_append]; simp
theorem solidFrom_shift (a u : List UInt8) : ∀ (m p : Nat), u.length - p ≤ m → solidFrom (a ++ u) (a.length + p) = shR a.length (solidFrom u p) := by
 intro m
 induction m with
 | zero =>
  intro p h
  rw [solidFrom_end (by simp; omega), solidFrom_end (by omega)]; rfl
 | succ m ih =>
  intro p h
  by_cases hp : p < u.length
  · have hl : a.length + p < (a ++ u).length := by simp; omega
    have hd := drop_shift a u p
    by_cases h0 : (firstTok (u.drop p)).2 = 0
    · rw [solidFrom_err hl (by rw [hd]; exact h0), solidFrom_err hp h0]
      simp [shR, Nat.add_comm]
    · have hi := ih (p + (firstTok (u.drop p)).2) (by omega)
      by_cases h4 : (firstTok (u.drop p)).1 = 4 ∨ (firstTok (u.drop p)).1 = 5
      · rw [solidFrom_skip hl (by rw [hd]; exact h0) (by rw [hd]; exact h4), solidFrom_skip hp h0 h4, hd, Nat.add_assoc]
        exact hi
      · have h4' : (firstTok (u.drop p)).1 ≠ 4 ∧ (firstTok (u.drop p)).1 ≠ 5 := ⟨fun e => h4 (Or.inl e), fun e => h4 (Or.inr e)⟩
        rw [solidFrom_tok hl (by rw [hd]; exact h0) (by rw [hd]; exact h4'.1) (by rw [hd]; exact h4'.2), solidFrom_tok hp h0 h4'.1 h4'.2, hd, Nat.add_assoc, hi, shR_pre]
        congr 2
        unfold tokAt Tok.sh
        rw [hd]
        simp [Int.add_comm]
  · rw [solidFrom_end (by simp; omega), solidFrom_end (by omega)]; rfl
theorem solidFrom_cons (c : UInt8) (u : List UInt8) (p : Nat) : solidFrom (c :: u) (1 + p) = shR 1 (solidFrom u p) := solidFrom_shift [c] u _ p (Nat.le_refl _)
def sepC (c : UInt8) : Prop := blank c = true ∨ c = 35
theorem sep_not {c : UInt8} (h : sepC c) : wordish c = false ∧ digit c = false ∧ singles.contains c = false ∧ c ≠ 58 ∧ c ≠ 61 ∧ c ≠ 62 ∧ c ≠ 38 ∧ c ≠ 124 := by
 rcases h with h | rfl
 · have : c.toNat = 32 ∨ c.toNat = 9 ∨ c.toNat = 13 ∨ c.toNat = 10 := by
    simp only [blank, Bool.or_eq_true, decide_eq_true_eq] at h; omega
   have : c = 32 ∨ c = 9 ∨ c = 13 ∨ c = 10 := by
    rcases this with h | h | h | h
    · exact Or.inl (UInt8.toNat_inj.1 h)
    · exact Or.inr (Or.inl (UInt8.toNat_inj.1 h))
    · exact Or.inr (Or.inr (Or.inl (UInt8.toNat_inj.1 h)))
    · exact Or.inr (Or.inr (Or.inr (UInt8.toNat_inj.1 h)))
   rcases this with rfl | rfl | rfl | rfl <;> decide
 · decide
theorem span_sep {p : UInt8 → Bool} {c : UInt8} (h : p c = false) (r u : List UInt8) : span p (r ++ c :: u) = span p r := by
 unfold span
 induction r with
 | nil => simp [h]
 | cons x r ih =>
  simp only [List.cons_append, List.takeWhile_cons]
  split
  · simp [ih]
  · rfl
theorem pairs_second {c d : UInt8} (h : pairs.contains [c, d] = true) : d = 61 ∨ d = 38 ∨ d = 124 := by
 simp only [pairs, List.contains_cons, List.contains_nil, Bool.or_false, Bool.or_eq_true, beq_iff_eq, List.cons.injEq, and_true] at h
 rcases h with ⟨_, rfl⟩ | ⟨_, rfl⟩ | ⟨_, rfl⟩ | ⟨_, rfl⟩ | ⟨_, rfl⟩ | ⟨_, rfl⟩ | ⟨_, rfl⟩ | ⟨_, rfl⟩ | ⟨_, rfl⟩ | ⟨_, rfl⟩ <;> simp
end Bk
namespace Bk
open Go
theorem startOk {s : List UInt8} (h : ¬ 65536 < s.length) (h1 : (solidFrom s 0).2 = none) : startP s = ((solidFrom s 0).1, ⟨0, 0, 0⟩) := by
 unfold solidFrom lexFrom at *
 unfold startP lexT
 rw [if_neg h]
 generalize lexGo (s.length + 1) s 0 [] = r at *
 obtain ⟨l, e⟩ := r
 cases e with
 | none => rfl
 | some q => simp [solidR] at h1
theorem pairs_one (c : UInt8) : pairs.contains [c] = false := by
 cases hh : pairs.contains [c]
 · rfl
 · simp [pairs] at hh
structure CutAt (s : List UInt8) (p : Nat) (l : List Tok) (i : Nat) (q : Nat) : Prop where
 pos : (l.getD i Tok.zero).pos = (q : Int)
 le : p ≤ q
 ne : (l.getD i Tok.zero).text ≠ []
 text : (l.getD i Tok.zero).text = (s.drop q).take (l.getD i Tok.zero).text.length
 first : firstTok (s.drop q) = ((l.getD i Tok.zero).kind.toNat, (l.getD i Tok.zero).text.length)
 kind : (l.getD i Tok.zero).kind = (((firstTok (s.drop q)).1 : Nat) : Int)
 solid : (firstTok (s.drop q)).1 ≠ 4 ∧ (firstTok (s.drop q)).1 ≠ 5
 len : q + (l.getD i Tok.zero).text.length ≤ s.length
 before : solidFrom (s.take q) p = (l.take i, none)
 behind : solidFrom (s.take (q + (l.getD i Tok.zero).text.length)) p = (l.take (i + 1), none)
end Bk
namespace Bk
open Go
abbrev Txt := List (List UInt8)
inductive Nt where
 | ex (lv : Int) : Nt
 | cl (lv : Int) (x : Nd) : Nt
 | un : Nt
 | pl : Nt
def StopL (lv : Int) (b : Txt) : Prop := ∀ t ∈ b.head?, ∀ op, binOf t = some op → level op < lv
def NoBr (b : Txt) : Prop := ∀ t ∈ b.head?, t ≠ [91]
inductive G : Nt → Txt → Nd → Prop where
 | ex {lv : Int} {a b : Txt} {x y : Nd} : G .un a x → G (.cl lv x) b y → G (.ex lv) (a ++ b) y
 | cl0 {lv : Int} {x : Nd} : G (.cl lv x) [] x
 | cl1 {lv op : Int} {t : List UInt8} {a b : Txt} {x y z : Nd} : binOf t = some op → lv ≤ level op → G (.ex (level op + 1)) a y → StopL (level op + 1) b → G (.cl lv (.mk op 0 [] [x, y])) b z → G (.cl lv x) (t :: (a ++ b)) z
 | neg {a : Txt} {x : Nd} : G .un a x → G .un ([45] :: a) (.mk 6 0 [] [x])
 | not {a : Txt} {x : Nd} : G .un a x → G .un ([33] :: a) (.mk 7 0 [] [x])
 | num {t : List UInt8} : startsDigit t = true → (digitsVal t : Int) ≤ 9223372036854775807 → G .un [t] (.mk 1 (digitsVal t) [] [])
 | top {m : List UInt8} : isName m = true → G .un [[116, 111, 112], [40], m, [41]] (.mk 4 0 m [])
 | size {m : List UInt8} : isName m = true → G .un [[115, 105, 122, 101], [40], m, [41]] (.mk 5 0 m [])
 | par {a : Txt} {x : Nd} : G (.ex 1) a x → G .un ([40] :: (a ++ [[41]])) x
 | place {a : Txt} {x : Nd} : G .pl a x → G .un a x
 | var {m : List UInt8} : isName m = true → G .pl [m] (.mk 2 0 m [])
 | item {m : List UInt8} {a : Txt} {x : Nd} : isName m = true → G (.ex 1) a x → G .pl (m :: [91] :: (a ++ [[93]])) (.mk 3 0 m [x])
section
variable {ts : List Tok} {n : Int}
def txt (ts : List Tok) : Txt := ts.map Tok.text
def adv (σ : PS) (k : Nat) : PS := ⟨σ.at_ + k, σ.off, σ.err⟩
theorem adv_0 (σ : PS) : adv σ 0 = σ := rfl
theorem adv_adv (σ : PS) (a b : Nat) : adv (adv σ a) b = adv σ (a + b) := by simp [adv, Nat.add_assoc]
theorem next_adv (σ : PS) : nextP σ = adv σ 1 := rfl
def rem (ts : List Tok) (σ : PS) : Txt := (txt ts).drop σ.at_
theorem rem_len (σ : PS) : (rem ts σ).length = ts.length - σ.at_ := by simp [rem, txt]
theorem rem_adv {σ : PS} {a b : Txt} (h : rem ts σ = a ++ b) : rem ts (adv σ a.length) = b := by
 unfold rem adv at *
 simp only; rw [← List.drop_drop, h]
 simp
theorem rem_cons {σ : PS} {t : List UInt8} {b : Txt} (h : rem ts σ = t :: b) : rem ts (adv σ 1) = b := rem_adv (a := [t]) h
theorem rem_lt {σ : PS} {t : List UInt8} {b : Txt} (h : rem ts σ = t :: b) : σ.at_ < ts.length := by
 have := rem_len (ts := ts) σ; rw [h] at this
 simp at this
 omega
theorem peek_cons {σ : PS} {t : List UInt8} {b : Txt} (h : rem ts σ = t :: b) (he : σ.err = 0) : (peekP ts σ).text = t := by
 have hl := rem_lt h
 unfold peekP
 rw [if_neg (by rintro (h | h); exact h he; omega)]
 unfold rem txt at h
 rw [List.drop_eq_getElem_cons (by simpa using hl)] at h; simp only [List.getElem_map, List.cons.injEq] at h; rw [List.getD_eq_getElem?_getD, List.getElem?_eq_getElem hl]
 exact h.1
theorem peek_nil {σ : PS} (hw : σ.at_ ≤ ts.length) (h : rem ts σ = []) : (peekP ts σ).text = [] := by
 have := rem_len (ts := ts) σ; rw [h] at this
 rw [peek_end (by simp at this; omega)]; rfl
theorem peek_rem {σ : PS} (hw : σ.at_ ≤ ts.length) (he : σ.err = 0) : (peekP ts σ).text = ((rem ts σ).head?).getD [] := by
 cases h : rem ts σ with
 | nil => rw [peek_nil hw h]; rfl
 | cons t b => rw [peek_cons h he]; rfl
theorem has_cons {σ : PS} {t u : List UInt8} {b : Txt} (h : rem ts σ = t :: b) (he : σ.err = 0) : hasP ts σ u = decide (t = u) := by unfold hasP; rw [peek_cons h he]
theorem peek_mem {σ : PS} (hl : σ.at_ < ts.length) (he : σ.err = 0) : peekP ts σ ∈ ts := by
 unfold peekP
 rw [if_neg (by rintro (h | h); exact h he; omega), List.getD_eq_getElem?_getD, List.getElem?_eq_getElem hl]
 exact List.getElem_mem hl
theorem kind_dig (hd : DigitKinds ts) {σ : PS} {t : List UInt8} {b : Txt} (h : rem ts σ = t :: b) (he : σ.err = 0) : (peekP ts σ).kind = 2 ↔ startsDigit t = true := by
 rw [← peek_cons h he]
 exact hd _ (peek_mem (rem_lt h) he)
theorem expect_cons {σ : PS} {t : List UInt8} {b : Txt} (h : rem ts σ = t :: b) (he : σ.err = 0) : expectP ts n σ t = adv σ 1 := by unfold expectP; rw [has_cons h he]; simp [next_adv]
theorem name_cons {σ : PS} {t : List UInt8} {b : Txt} (h : rem ts σ = t :: b) (he : σ.err = 0) (ht : isName t = true) : nameP ts n σ = (t, adv σ 1) := by unfold nameP; rw [peek_cons h he, if_pos ht]; rfl
end
theorem name_not {m : List UInt8} (h : isName m = true) : m ≠ [45] ∧ m ≠ [33] ∧ m ≠ [40] ∧ m ≠ [116, 111, 112] ∧ m ≠ [115, 105, 122, 101] ∧ startsDigit m = false := by
 refine ⟨?_, ?_, ?_, ?_, ?_, ?_⟩
 · rintro rfl; revert h; decide
 · rintro rfl; revert h; decide
 · rintro rfl; revert h; decide
 · rintro rfl; revert h; decide
 · rintro rfl; revert h; decide
 · cases m with
   | nil => rfl
   | cons c r =>
    have hk : (firstTok (c :: r)).1 = 1 := by
     simp only [isName, Bool.and_eq_true, beq_iff_eq] at h
     exact h.1.1.2
    cases hd : startsDigit (c :: r)
    · rfl
    · exfalso
      have hdg : digit c = true := by simpa [startsDigit] using hd
      have hl : letter c = false := by
       cases hl : letter c
       · rfl
       · simp only [letter, digit, Bool.and_eq_true, decide_eq_true_eq] at hl hdg; omega
      simp [firstTok, hl, hdg] at hk
end Bk
namespace Bk
open Go
inductive Pc where
 | tk (t : List UInt8) : Pc
 | sp (s : List UInt8) : Pc
def flat : List Pc → List UInt8
 | [] => []
 | .tk t :: r => t ++ flat r
 | .sp s :: r => s ++ flat r
def toks : List Pc → Txt
 | [] => []
 | .tk t :: r => t :: toks r
 | .sp _ :: r => toks r
theorem flat_append : ∀ (a b : List Pc), flat (a ++ b) = flat a ++ flat b
 | [], b => rfl
 | .tk t :: r, b => by simp only [List.cons_append, flat, flat_append r b, List.append_assoc]
 | .sp t :: r, b => by simp only [List.cons_append, flat, flat_append r b, List.append_assoc]
theorem toks_append : ∀ (a b : List Pc), toks (a ++ b) = toks a ++ toks b
 | [], b => rfl
 | .tk t :: r, b => by simp only [List.cons_append, toks, toks_append r b]
 | .sp t :: r, b => by simp only [List.cons_append, toks, toks_append r b]
structure TokT (t : List UInt8) : Prop where
 ne : t ≠ []
 len : (firstTok t).2 = t.length
 kind : (firstTok t).1 = 1 ∨ (firstTok t).1 = 2 ∨ (firstTok t).1 = 3
structure Adj (t : List UInt8) (c : UInt8) : Prop where
 word : (firstTok t).1 = 1 → wordish c = false
 num : (firstTok t).1 = 2 → digit c = false
 sign : (firstTok t).1 = 3 → c ≠ 61 ∧ c ≠ 62 ∧ c ≠ 38 ∧ c ≠ 124
theorem adj_sep {t : List UInt8} {c : UInt8} (h : sepC c) : Adj t c := by
 obtain ⟨h1, h2, -, -, h61, h62, h38, h124⟩ := sep_not h
 exact ⟨fun _ => h1, fun _ => h2, fun _ => ⟨h61, h62, h38, h124⟩⟩
theorem signLen_adj {c : UInt8} (h61 : c ≠ 61) (h62 : c ≠ 62) (h38 : c ≠ 38) (h124 : c ≠ 124) (r u : List UInt8) (hr : r ≠ []) : signLen (r ++ c :: u) = signLen r := by
 cases r with
 | nil => exact absurd rfl hr
 | cons x r =>
  cases r with
  | nil =>
   have hp : pairs.contains [x, c] = false := by
    cases hh : pairs.contains [x, c]
    · rfl
    · rcases pairs_second hh with e | e | e
      · exact absurd e h61
      · exact absurd e h38
      · exact absurd e h124
   have hp1 := pairs_one x
   have h3 : List.isPrefixOf [60, 61, 62] ([x] ++ c :: u) = false := by
    simp only [List.cons_append, List.nil_append, List.isPrefixOf]
    have : (61 == c) = false := by simpa using fun e : 61 = c => h61 e.symm
    simp [this]
   have h31 : List.isPrefixOf [60, 61, 62] [x] = false := by simp [List.isPrefixOf]
   unfold signLen
   rw [h3, h31]; simp only [List.cons_append, List.nil_append, List.take_succ_cons, List.take_zero, List.take_nil, hp, hp1]
   rfl
  | cons y r =>
   have h3 : List.isPrefixOf [60, 61, 62] ((x :: y :: r) ++ c :: u) = List.isPrefixOf [60, 61, 62] (x :: y :: r) := by
    cases r with
    | nil =>
     simp only [List.cons_append, List.nil_append, List.isPrefixOf]
     have : (62 == c) = false := by simpa using fun e : 62 = c => h62 e.symm
     simp [this]
    | cons z r => simp [List.isPrefixOf]
   unfold signLen
   rw [h3]
   rfl
theorem firstTok_adj {t : List UInt8} {c : UInt8} (ht : TokT t) (h : Adj t c) (u : List UInt8) : firstTok (t ++ c :: u) = firstTok t := by
 obtain ⟨ne, hl, hk⟩ := ht
 cases t with
 | nil => exact absurd rfl ne
 | cons x r =>
  by_cases h1 : letter x = true
  · have hw := h.word (by simp [firstTok, h1])
    have e := span_sep hw (x :: r) u; simp only [List.cons_append] at e ⊢; simp only [firstTok, h1, if_true, e]
  · have h1' : letter x = false := by simpa using h1
    by_cases h2 : digit x = true
    · have hw := h.num (by simp [firstTok, h1', h2])
      have e := span_sep hw (x :: r) u; simp only [List.cons_append] at e ⊢; simp only [firstTok, h1', h2, if_true, if_false, Bool.false_eq_true, e]
    · have h2' : digit x = false := by simpa using h2
      by_cases h3 : blank x = true
      · exfalso; rw [firstTok_blank h3] at hk; simp at hk
      · have h3' : blank x = false := by simpa using h3
        by_cases h4 : x = 35
        · exfalso; subst h4; rw [firstTok_hash] at hk; simp at hk
        · obtain ⟨a, b, c', d⟩ := h.sign (by simp [firstTok, h1', h2', h3', h4])
          have e := signLen_adj a b c' d (x :: r) u (by simp); simp only [List.cons_append] at e ⊢; simp only [firstTok, h1', h2', h3', h4, if_false, Bool.false_eq_true, e]
def wf : Option (List UInt8) → List Pc → Prop
 | _, [] => True
 | p, .sp s :: r => (∀ c ∈ s, blank c = true) ∧ wf (if s.isEmpty then p else none) r
 | p, .tk t :: r => TokT t ∧ (∀ t0 ∈ p, ∀ c ∈ t.head?, Adj t0 c) ∧ wf (some t) r
def endOf : Option (List UInt8) → List Pc → Option (List UInt8)
 | p, [] => p
 | p, .sp s :: r => endOf (if s.isEmpty then p else none) r
 | _, .tk t :: r => endOf (some t) r
theorem wf_append : ∀ (a b : List Pc) (p : Option (List UInt8)), wf p (a ++ b) ↔ wf p a ∧ wf (endOf p a) b
 | [], b, p => by simp [wf, endOf]
 | .sp s :: r, b, p => by simp only [List.cons_append, wf, endOf, wf_append r b, and_assoc]
 | .tk t :: r, b, p => by simp only [List.cons_append, wf, endOf, wf_append r b, and_assoc]
theorem endOf_append : ∀ (a b : List Pc) (p : Option (List UInt8)), endOf p (a ++ b) = endOf (endOf p a) b
 | [], b, p => rfl
 | .sp s :: r, b, p => by simp only [List.cons_append, endOf, endOf_append r b]
 | .tk t :: r, b, p => by simp only [List.cons_append, endOf, endOf_append r b]
theorem wf_head : ∀ (r : List Pc) (t : List UInt8) (c : UInt8) (u : List UInt8), wf (some t) r → flat r = c :: u → Adj t c
 | [], t, c, u, _, h => by cases h
 | .sp s :: r, t, c, u, hw, h => by
  cases s with
  | nil => exact wf_head r t c u hw.2 h
  | cons d s =>
   simp only [flat, List.cons_append, List.cons.injEq] at h; rw [← h.1]
   exact adj_sep (Or.inl (hw.1 d (by simp)))
 | .tk t' :: r, t, c, u, hw, h => by
  cases t' with
  | nil => exact absurd rfl hw.1.ne
  | cons d s =>
   simp only [flat, List.cons_append, List.cons.injEq] at h; rw [← h.1]
   exact hw.2.1 t rfl d rfl
theorem blanks_step : ∀ (s u : List UInt8), (∀ c ∈ s, blank c = true) → solidFrom (s ++ u) 0 = shR s.length (solidFrom u 0)
 | [], u, _ => (shR_0 _).symm
 | c :: s, u, h => by
  have h1 := blanks_step s u (fun d hd => h d (by simp [hd])); rw [List.cons_append, solidFrom_blank (s := c :: (s ++ u)) (p := 0) (by simp) (h c (by simp))]; have h2 := solidFrom_cons c (s ++ u) 0; rw [Nat.add_comm] at h2
  rw [h2, h1, shR_add]; rfl
theorem pcs_solid : ∀ (L : List Pc) (p : Option (List UInt8)), wf p L → ∃ us, solidFrom (flat L) 0 = (us, none) ∧ txt us = toks L
 | [], p, _ => ⟨[], solidFrom_end (Nat.zero_le _), rfl⟩
 | .sp s :: r, p, h => by
  obtain ⟨us, h1, h2⟩ := pcs_solid r _ h.2; refine ⟨us.map (Tok.sh s.length), ?_, ?_⟩
  · show solidFrom (s ++ flat r) 0 = _
    rw [blanks_step s _ h.1, h1]; rfl
  · simp only [toks, ← h2]
    simp [txt, Tok.sh]
 | .tk t :: r, p, h => by
  obtain ⟨us, h1, h2⟩ := pcs_solid r _ h.2.2
  have hf : firstTok (t ++ flat r) = firstTok t := by
   cases hr : flat r with
   | nil => simp
   | cons c u => exact firstTok_adj h.1 (wf_head r t c u h.2.2 hr) u
  have hd0 : (t ++ flat r).drop 0 = t ++ flat r := rfl; have hl := h.1.len
  have hpos : t.length ≠ 0 := fun e => h.1.ne (List.eq_nil_of_length_eq_zero e)
  have hk4 : (firstTok t).1 ≠ 4 ∧ (firstTok t).1 ≠ 5 := by rcases h.1.kind with e | e | e <;> rw [e] <;> decide
  have hst := solidFrom_tok (s := t ++ flat r) (p := 0) (by simp; omega) (by rw [hd0, hf, hl]; exact hpos) (by rw [hd0, hf]; exact hk4.1) (by rw [hd0, hf]; exact hk4.2); have hsh := solidFrom_shift t (flat r) _ 0 (Nat.le_refl _); rw [Nat.add_zero] at hsh
  have ht : (tokAt (t ++ flat r) 0).text = t := by unfold tokAt; rw [hd0, hf, hl]; simp
  refine ⟨tokAt (t ++ flat r) 0 :: us.map (Tok.sh t.length), ?_, ?_⟩
  · show solidFrom (t ++ flat r) 0 = _
    rw [hst, hd0, hf, hl, Nat.zero_add, hsh, h1]; rfl
  · simp only [toks, ← h2]
    simp [txt, Tok.sh, ht]
theorem tokT_name {m : List UInt8} (h : isName m = true) : TokT m ∧ (firstTok m).1 = 1 := by
 simp only [isName, Bool.and_eq_true, beq_iff_eq, Bool.not_eq_true', decide_eq_true_eq] at h; obtain ⟨⟨⟨⟨h1, h2⟩, h3⟩, h4⟩, h5⟩ := h; refine ⟨⟨?_, h4, Or.inl h3⟩, h3⟩
 rintro rfl; simp at h1
theorem name_letter {m : List UInt8} (h : isName m = true) : ∀ c ∈ m.head?, letter c = true := by
 intro c hc
 cases m with
 | nil => cases hc
 | cons x r =>
  have : x = c := by simpa using hc
  subst this; have hk := (tokT_name h).2
  cases hl : letter x
  · exfalso
    simp only [firstTok, hl, if_false, Bool.false_eq_true] at hk
    split at hk
    · simp at hk
    · split at hk
      · simp at hk
      · split at hk <;> simp at hk
  · rfl
end Bk
namespace Bk
open Go
theorem dec_val (u : Nat) : digitsVal (Lib.decDigits u) = u ∧ (∀ c ∈ Lib.decDigits u, digit c = true) ∧ Lib.decDigits u ≠ [] := by
 induction u using Nat.strongRecOn with
 | _ u ih =>
  have hd : ∀ k, k < 10 → (UInt8.ofNat (48 + k)).toNat = 48 + k := fun k hk => by rw [UInt8.toNat_ofNat']; omega
  have hdig : ∀ k, k < 10 → digit (UInt8.ofNat (48 + k)) = true := fun k hk => by
   simp only [digit, hd k hk, Bool.and_eq_true, decide_eq_true_eq]; omega
  rw [Lib.decDigits]
  split
  · rename_i h
    refine ⟨?_, ?_, by simp⟩
    · unfold digitsVal
      simp only [List.foldl_cons, List.foldl_nil, hd u h]; omega
    · intro c hc
      have : c = UInt8.ofNat (48 + u) := by simpa using hc
      subst this; exact hdig u h
  · rename_i h
    obtain ⟨h1, h2, h3⟩ := ih (u / 10) (by omega); refine ⟨?_, ?_, by simp⟩
    · unfold digitsVal at *
      rw [List.foldl_append, h1]; simp only [List.foldl_cons, List.foldl_nil, hd (u % 10) (by omega)]
      omega
    · intro c hc
      rcases List.mem_append.1 hc with hc | hc
      · exact h2 c hc
      · have : c = UInt8.ofNat (48 + u % 10) := by simpa using hc
        subst this; exact hdig _ (by omega)
theorem itoa_dec {n : Int} (h : 0 ≤ n) : Lib.itoa n = Lib.decDigits n.toNat := by unfold Lib.itoa; rw [if_neg (by omega)]
theorem span_all' {p : UInt8 → Bool} : ∀ (s : List UInt8), (∀ c ∈ s, p c = true) → span p s = s.length
 | [], _ => rfl
 | c :: r, h => by
  have := span_all' r (fun d hd => h d (by simp [hd]))
  unfold span at *
  rw [List.takeWhile_cons, if_pos (h c (by simp)), List.length_cons, List.length_cons, this]
theorem tokT_num {ds : List UInt8} (hne : ds ≠ []) (h : ∀ c ∈ ds, digit c = true) : TokT ds ∧ (firstTok ds).1 = 2 := by
 have : firstTok ds = (2, ds.length) := by
  cases ds with
  | nil => exact absurd rfl hne
  | cons c r =>
   have hd := h c (by simp)
   have hl : letter c = false := by
    cases hl : letter c
    · rfl
    · rw [letter_digit c hl] at hd; cases hd
   have hs := span_all' (p := digit) (c :: r) h; simp only [firstTok, hl, hd, if_true, if_false, Bool.false_eq_true, hs]
 exact ⟨⟨hne, by rw [this], by rw [this]; exact Or.inr (Or.inl rfl)⟩, by rw [this]⟩
def pw (b : Bool) (L : List Pc) : List Pc := if b then .tk [40] :: (L ++ [.tk [41]]) else L
theorem flat_pw (b : Bool) (L : List Pc) : flat (pw b L) = wrap (flat L) b := by
 unfold pw wrap
 cases b
 · rfl
 · simp only [if_true, flat, flat_append, List.append_nil]; simp
theorem toks_pw (b : Bool) (L : List Pc) : toks (pw b L) = if b then [40] :: (toks L ++ [[41]]) else toks L := by
 unfold pw
 cases b
 · rfl
 · simp only [if_true, toks, toks_append]
def OpenP (p : Option (List UInt8)) : Prop := ∀ t ∈ p, (firstTok t).1 = 3
def CloseT (t : List UInt8) : Prop := Adj t 41 ∧ Adj t 93 ∧ Adj t 59 ∧ Adj t 44
theorem closeT_name {m : List UInt8} (h : (firstTok m).1 = 1) : CloseT m := by
 refine ⟨?_, ?_, ?_, ?_⟩ <;> exact ⟨fun _ => (by decide), fun e => (by rw [h] at e; cases e), fun e => (by rw [h] at e; cases e)⟩
theorem closeT_num {m : List UInt8} (h : (firstTok m).1 = 2) : CloseT m := by
 refine ⟨?_, ?_, ?_, ?_⟩ <;> exact ⟨fun e => (by rw [h] at e; cases e), fun _ => (by decide), fun e => (by rw [h] at e; cases e)⟩
theorem closeT_sign {m : List UInt8} (h : (firstTok m).1 = 3) : CloseT m := by
 refine ⟨?_, ?_, ?_, ?_⟩ <;> exact ⟨fun e => (by rw [h] at e; cases e), fun e => (by rw [h] at e; cases e), fun _ => (by decide)⟩
theorem adj_open {t : List UInt8} {c : UInt8} (h : (firstTok t).1 = 3) (hc : c ≠ 61 ∧ c ≠ 62 ∧ c ≠ 38 ∧ c ≠ 124) : Adj t c := ⟨fun e => (by rw [h] at e; cases e), fun e => (by rw [h] at e; cases e), fun _ => hc⟩
theorem letter_open {c : UInt8} (h : letter c = true) : c ≠ 61 ∧ c ≠ 62 ∧ c ≠ 38 ∧ c ≠ 124 := by
 simp only [letter, Bool.and_eq_true, decide_eq_true_eq] at h
 refine ⟨?_, ?_, ?_, ?_⟩ <;> (rintro rfl; simp at h)
theorem digit_open {c : UInt8} (h : digit c = true) : c ≠ 61 ∧ c ≠ 62 ∧ c ≠ 38 ∧ c ≠ 124 := by
 simp only [digit, Bool.and_eq_true, decide_eq_true_eq] at h
 refine ⟨?_, ?_, ?_, ?_⟩ <;> (rintro rfl; simp at h)
theorem tokT_lit {t : List UInt8} (h : (!t.isEmpty && ((firstTok t).2 == t.length) && (((firstTok t).1 == 1) || ((firstTok t).1 == 3))) = true) : TokT t := by
 simp only [Bool.and_eq_true, Bool.or_eq_true, beq_iff_eq, Bool.not_eq_true'] at h; obtain ⟨⟨h1, h2⟩, h3⟩ := h; refine ⟨by rintro rfl; simp at h1, h2, ?_⟩
 rcases h3 with h3 | h3
 · exact Or.inl h3
 · exact Or.inr (Or.inr h3)
theorem symbol_tok {k : Int} (h0 : 6 ≤ k) (h1 : k ≤ 23) : TokT (symbol k) ∧ (firstTok (symbol k)).1 = 3 := by
 have : k = 6 ∨ k = 7 ∨ k = 8 ∨ k = 9 ∨ k = 10 ∨ k = 11 ∨ k = 12 ∨ k = 13 ∨ k = 14 ∨ k = 15 ∨ k = 16 ∨ k = 17 ∨ k = 18 ∨ k = 19 ∨ k = 20 ∨ k = 21 ∨ k = 22 ∨ k = 23 := by omega
 rcases this with rfl | rfl | rfl | rfl | rfl | rfl | rfl | rfl | rfl | rfl | rfl | rfl | rfl | rfl | rfl | rfl | rfl | rfl <;> exact ⟨tokT_lit (by decide), by decide⟩
structure Nice (L : List Pc) : Prop where
 wf : ∀ p, OpenP p → wf p L
 fin : ∀ p, ∃ t, endOf p L = some t ∧ CloseT t
theorem openP_sign {t : List UInt8} (h : (firstTok t).1 = 3) : OpenP (some t) := fun u hu => by
 have : t = u := by simpa using hu
 rw [← this]; exact h
theorem openP_none : OpenP none := fun u hu => by cases hu
theorem Nice.par {L : List Pc} (h : Nice L) : Nice (.tk [40] :: (L ++ [.tk [41]])) := by
 have ho : TokT [40] := tokT_lit (by decide); have hc : TokT [41] := tokT_lit (by decide); refine ⟨fun p hp => ⟨ho, fun t ht c hc' => ?_, ?_⟩, fun p => ?_⟩
 · have : c = 40 := by simpa using hc'.symm
   subst this
   exact adj_open (hp t ht) (by decide)
 · rw [wf_append]
   refine ⟨h.wf _ (openP_sign (by decide)), ?_⟩; obtain ⟨t, e, ct⟩ := h.fin (some [40]); rw [e]
   exact ⟨hc, fun u hu c hc' => by
    have : c = 41 := by simpa using hc'.symm
    have : t = u := by simpa using hu
    subst_vars; exact ct.1, trivial⟩
 · refine ⟨[41], ?_, closeT_sign (by decide)⟩
   simp only [endOf, endOf_append]
theorem Nice.pw {L : List Pc} (h : Nice L) (b : Bool) : Nice (pw b L) := by
 unfold Bk.pw
 cases b
 · exact h
 · exact h.par
theorem nice_tok {t : List UInt8} (ht : TokT t) (ho : ∀ c ∈ t.head?, c ≠ 61 ∧ c ≠ 62 ∧ c ≠ 38 ∧ c ≠ 124) (hc : CloseT t) : Nice [.tk t] :=
 ⟨fun p hp => ⟨ht, fun u hu c hc => adj_open (hp u hu) (ho c hc), trivial⟩, fun p => ⟨t, rfl, hc⟩⟩
theorem head_of {t : List UInt8} {q : UInt8 → Prop} (h : ∀ c ∈ t, q c) : ∀ c ∈ t.head?, q c := fun c hc => by
 cases t with
 | nil => cases hc
 | cons x r => have : x = c := by simpa using hc
               subst this; exact h x (by simp)
end Bk
