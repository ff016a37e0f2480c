/- Contracts of name, num, bin and awake of the statements of layer 5: the examples of the chapter hold. -/
import Derived.Test.YtkadkafapjhhkaaDoorPBlock3
namespace Bk
open Go Go.RowKit Go.Proofs
theorem name_c (s : List UInt8) (w : World) : Calls Tryd.prog 19 #[str s] w fun e w' => e = .returned (.agg #[.int .u8 2, .int .i64 0, str s, .slice none 0 0]) ∧ Ext w w' := by
  go_enter Tryd.func19, Tryd.ntmps19
  go_wp2_with fail
  exact bodyPost_ret (v := .agg #[.int .u8 2, .int .i64 0, str s, .slice none 0 0]) (by simp [results, Tryd.results19, go_sem]) rfl ⟨rfl, (by repeat (first | exact Ext.refl _ | assumption | refine Ext.alloc ?_ _ | refine Ext.drew ?_ | refine Ext.trans ?_ (by assumption)))⟩
theorem num_c (n : Int) (w : World) : Calls Tryd.prog 20 #[.int .i64 n] w fun e w' => e = .returned (.agg #[.int .u8 1, .int .i64 n, str [], .slice none 0 0]) ∧ Ext w w' := by
  go_enter Tryd.func20, Tryd.ntmps20
  go_wp2_with fail
  exact bodyPost_ret (v := .agg #[.int .u8 1, .int .i64 n, str [], .slice none 0 0]) (by simp [results, Tryd.results20, go_sem]) rfl ⟨rfl, (by repeat (first | exact Ext.refl _ | assumption | refine Ext.alloc ?_ _ | refine Ext.drew ?_ | refine Ext.trans ?_ (by assumption)))⟩
def All : Nat → Prop := fun _ => True
theorem bin_c (k : Int) (x y : Nd) (xa ya : Option Addr) (xc yc : Nat) (w : World) (hx : x.sits All w xa) (hy : y.sits All w ya) :
    Calls Tryd.prog 18 #[.int .u8 k, x.val xa xc, y.val ya yc] w fun e w' => ∃ a c, e = .returned ((Nd.mk k 0 [] [x, y]).val a c) ∧ Ext w w' ∧ (Nd.mk k 0 [] [x, y]).sits All w' a := by
  have HX := Lib.hid hx; clear hx
  have HY := Lib.hid hy; clear hy
  obtain ⟨xk, xn, xs, xl⟩ := x
  obtain ⟨yk, yn, ys, yl⟩ := y
  simp only [Nd.kind, Nd.num, Nd.name, Nd.kids, Nd.val]
  go_enter Tryd.func18, Tryd.ntmps18
  go_wp2_with fail
  refine bodyPost_ret (v := .agg #[.int .u8 k, .int .i64 0, str [], .slice (some ⟨w.heap.size + 1 + 1 + 1, 0, none⟩) 2 2]) (by simp [results, Tryd.results18, go_sem]) rfl ⟨some ⟨w.heap.size + 1 + 1 + 1, 0, none⟩, 2, rfl, (by repeat (first | exact Ext.refl _ | assumption | refine Ext.alloc ?_ _ | refine Ext.drew ?_ | refine Ext.trans ?_ (by assumption))), ?_⟩
  simp only [Nd.sits, rowSits, Nd.kind, Nd.num, Nd.name, Nd.kids]
  refine ⟨w.heap.size + 1 + 1 + 1, 0, xa, xc, rfl, trivial, by go_simp, by go_simp, by go_simp, by go_simp, HX.out.ext (by repeat (first | exact Ext.refl _ | assumption | refine Ext.alloc ?_ _ | refine Ext.drew ?_ | refine Ext.trans ?_ (by assumption))), w.heap.size + 1 + 1 + 1, 0 + 4, ya, yc, rfl, trivial, by go_simp, by go_simp, by go_simp, by go_simp, HY.out.ext (by repeat (first | exact Ext.refl _ | assumption | refine Ext.alloc ?_ _ | refine Ext.drew ?_ | refine Ext.trans ?_ (by assumption))), trivial⟩
def ndX : Nd := .mk 2 0 [120] []
def ndY : Nd := .mk 2 0 [121] []
def ndZ : Nd := .mk 2 0 [122] []
def nd1 : Nd := .mk 1 1 [] []
def nd3 : Nd := .mk 1 3 [] []
def exA : Nd := .mk 10 0 [] [ndX, .mk 8 0 [] [ndY, nd1]]
def exB : Nd := .mk 9 0 [] [.mk 9 0 [] [ndX, ndY], ndZ]
def exC : Nd := .mk 57 0 [] [.mk 40 0 [] [ndX, nd3]]
theorem exA_text : exA.isExpr = true ∧ exA.text = [120, 32, 42, 32, 40, 121, 32, 43, 32, 49, 41] := by decide +kernel
theorem exB_text : exB.isExpr = true ∧ exB.text = [120, 32, 45, 32, 121, 32, 45, 32, 122] := by decide +kernel
theorem exC_text : exC.isBlock = true ∧ exC.linesT 0 = [120, 32, 43, 61, 32, 51, 59, 10] := by decide +kernel
theorem leaf_sits (k n : Int) (s : List UInt8) (w : World) (a : Option Addr) : (Nd.mk k n s []).sits All w a := by simp [Nd.sits, rowSits]
theorem exA_wf : exA.wf := by simp [exA, ndX, ndY, nd1, Nd.wf, rowWf]
theorem exB_wf : exB.wf := by simp [exB, ndX, ndY, ndZ, Nd.wf, rowWf]
theorem exC_wf : exC.wf := by simp [exC, ndX, nd3, Nd.wf, rowWf]
set_option maxHeartbeats 2000000 in
set_option maxRecDepth 100000 in
theorem awake5_c (w : World) (ht : Tabs w) (hg : Tryd.prog.globals.size ≤ w.heap.size) : Calls Tryd.prog 6 #[] w fun e w' => e = .returned (.bool true) ∧ Ext w w' := by
  have HT := Lib.hid ht; clear ht
  have HG := Lib.hid hg; clear hg
  go_enter Tryd.func6, Tryd.ntmps6
  go_wp2_with fail
  refine (name_c [120] _).mono ?_
  rintro e w1 ⟨rfl, hx1⟩
  simp only
  go_wp2_with fail
  refine (name_c [121] _).mono ?_
  rintro e w2 ⟨rfl, hx2⟩
  simp only
  go_wp2_with fail
  refine (num_c 1 _).mono ?_
  rintro e w3 ⟨rfl, hx3⟩
  simp only
  go_wp2_with fail
  refine (bin_c 8 ndY nd1 none none 0 0 _ (leaf_sits _ _ _ _ _) (leaf_sits _ _ _ _ _)).mono ?_
  rintro e w4 ⟨a4, c4, rfl, hx4, hs4⟩
  simp only
  go_wp2_with fail
  refine (bin_c 10 ndX (.mk 8 0 [] [ndY, nd1]) none a4 0 c4 _ (leaf_sits _ _ _ _ _) hs4).mono ?_
  rintro e w5 ⟨a5, c5, rfl, hx5, hs5⟩
  have hxx5 : Ext w w5 := (by repeat (first | exact Ext.refl _ | assumption | refine Ext.alloc ?_ _ | refine Ext.drew ?_ | refine Ext.trans ?_ (by assumption)))
  simp only
  go_wp2_with fail
  refine (Expr_c exA exA_wf (by decide) All a5 c5 _ (HT.out.ext hxx5 HG.out) (Nat.le_trans HG.out hxx5.size) hs5).mono ?_
  rintro e w6 ⟨rfl, hx6⟩
  rw [exA_text.1, exA_text.2]
  simp only [if_true]
  go_wp2_with fail
  refine (name_c [120] _).mono ?_
  rintro e w7 ⟨rfl, hx7⟩
  simp only
  go_wp2_with fail
  refine (name_c [121] _).mono ?_
  rintro e w8 ⟨rfl, hx8⟩
  simp only
  go_wp2_with fail
  refine (bin_c 9 ndX ndY none none 0 0 _ (leaf_sits _ _ _ _ _) (leaf_sits _ _ _ _ _)).mono ?_
  rintro e w9 ⟨a9, c9, rfl, hx9, hs9⟩
  simp only
  go_wp2_with fail
  refine (name_c [122] _).mono ?_
  rintro e w10 ⟨rfl, hx10⟩
  simp only
  go_wp2_with fail
  refine (bin_c 9 (.mk 9 0 [] [ndX, ndY]) ndZ a9 none c9 0 _ (hs9.ext hx10) (leaf_sits _ _ _ _ _)).mono ?_
  rintro e w11 ⟨a11, c11, rfl, hx11, hs11⟩
  have hxx11 : Ext w w11 := (by repeat (first | exact Ext.refl _ | assumption | refine Ext.alloc ?_ _ | refine Ext.drew ?_ | refine Ext.trans ?_ (by assumption)))
  simp only
  go_wp2_with fail
  refine (Expr_c exB exB_wf (by decide) All a11 c11 _ (HT.out.ext hxx11 HG.out) (Nat.le_trans HG.out hxx11.size) hs11).mono ?_
  rintro e w12 ⟨rfl, hx12⟩
  rw [exB_text.1, exB_text.2]
  simp only [if_true]
  go_wp2_with fail
  refine (name_c [120] _).mono ?_
  rintro e w13 ⟨rfl, hx13⟩
  simp only
  go_wp2_with fail
  refine (num_c 3 _).mono ?_
  rintro e w14 ⟨rfl, hx14⟩
  simp only
  go_wp2_with fail
  have hxx14 : Ext w ((w14.alloc (Obj.cells #[.int .u8 2, .int .i64 0, str [120], .slice none 0 0, .int .u8 1, .int .i64 3, str [], .slice none 0 0] 24)).alloc (Obj.cells #[.int .u8 40, .int .i64 0, .string { data := #[] }, .slice (some ⟨w14.heap.size, 0, none⟩) 2 2] 24)) := (by repeat (first | exact Ext.refl _ | assumption | refine Ext.alloc ?_ _ | refine Ext.drew ?_ | refine Ext.trans ?_ (by assumption)))
  have hsC : exC.sits All ((w14.alloc (Obj.cells #[.int .u8 2, .int .i64 0, str [120], .slice none 0 0, .int .u8 1, .int .i64 3, str [], .slice none 0 0] 24)).alloc (Obj.cells #[.int .u8 40, .int .i64 0, .string { data := #[] }, .slice (some ⟨w14.heap.size, 0, none⟩) 2 2] 24)) (some ⟨w14.heap.size + 1, 0, none⟩) := by
    simp only [exC, ndX, nd3, Nd.sits, rowSits, Nd.kind, Nd.num, Nd.name, Nd.kids, List.length_cons, List.length_nil]
    exact ⟨w14.heap.size + 1, 0, some ⟨w14.heap.size, 0, none⟩, 2, rfl, trivial, by go_simp, by go_simp, by go_simp, by go_simp, ⟨w14.heap.size, 0, none, 0, rfl, trivial, by go_simp, by go_simp, by go_simp, by go_simp, trivial, ⟨w14.heap.size, 0 + 4, none, 0, rfl, trivial, by go_simp, by go_simp, by go_simp, by go_simp, trivial, trivial⟩⟩, trivial⟩
  refine (Block_c exC exC_wf (by decide) All (some ⟨w14.heap.size + 1, 0, none⟩) 1 _ (HT.out.ext hxx14 HG.out) (Nat.le_trans HG.out hxx14.size) hsC).mono ?_
  rintro e w15 ⟨rfl, hx15⟩
  rw [exC_text.1, exC_text.2]
  simp only [if_true]
  go_wp2_with fail
  go_ret
  exact ⟨rfl, hxx14.trans hx15⟩
end Bk
