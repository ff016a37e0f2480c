/- Contract of printer.Expr: the text of a valid expression, ErrForm else. -/
import Derived.Test.YtkadkafapjhhkaaDoorPExpr4
import Derived.Lib.ItoaLen
namespace Bk
open Go Go.RowKit Go.Proofs
theorem expr_all (N : Nat) : ∀ t : Nd, t.size < N → t.wf → t.isExpr = true → Prints 22 Nd.text t := by
  induction N with
  | zero => intro t h; omega
  | succ N ih =>
    rintro ⟨k, n, s, l⟩ hN hwf he
    simp only [Nd.wf, Nd.size] at hwf hN
    obtain ⟨hk0, hk1, hn0, hn1, hsl, hll, hrw⟩ := hwf
    by_cases c1 : k = 1
    · subst c1; exact expr_1 n s l hn0 hn1
    by_cases c2 : k = 2
    · subst c2; exact expr_2 n s l
    by_cases c4 : k = 4
    · subst c4; exact expr_4 n s l
    by_cases c5 : k = 5
    · subst c5; exact expr_5 n s l
    rw [Nd.isExpr.eq_def] at he
    simp only [c1, c2, c4, c5, or_self, if_false, false_or] at he
    by_cases c3 : k = 3
    · subst c3
      rcases l with _ | ⟨x, _ | ⟨y, l⟩⟩
      · simp at he
      · simp at he
        simp only [rowSize, rowWf] at hN hrw
        exact expr_3 n s x (ih x (by omega) hrw.1 he.2)
      · simp at he
    simp only [c3, if_false] at he
    by_cases c6 : k = 6 ∨ k = 7
    · rcases l with _ | ⟨x, _ | ⟨y, l⟩⟩
      · simp [c6] at he
      · simp [c6] at he
        simp only [rowSize, rowWf] at hN hrw
        exact expr_un k n s x c6 (ih x (by omega) hrw.1 he.2)
      · simp [c6] at he
    simp only [c6, if_false] at he
    by_cases c8 : 8 ≤ k ∧ k ≤ 23
    · rcases l with _ | ⟨x, _ | ⟨y, _ | ⟨z, l⟩⟩⟩
      · simp [c8] at he
      · simp [c8] at he
      · simp [c8] at he
        simp only [rowSize, rowWf] at hN hrw
        exact expr_bin k n s x y c8.1 c8.2 (ih x (by omega) hrw.1 he.2.1) (ih y (by omega) hrw.2.1 he.2.2)
      · simp [c8] at he
    · simp [c8] at he
theorem expr_t (t : Nd) (hwf : t.wf) (he : t.isExpr = true) : Prints 22 Nd.text t := expr_all (t.size + 1) t (by omega) hwf he
theorem isName_len {s : List UInt8} (h : isName s = true) : s.length ≤ 16 := by
  simp only [isName, Bool.and_eq_true, decide_eq_true_eq] at h
  exact h.1.1.1.2
theorem wrap_len (s : List UInt8) (q : Bool) : (wrap s q).length ≤ s.length + 2 := by
  unfold wrap; split <;> simp
theorem symbol_len (k : Int) : (symbol k).length ≤ 2 := by
  by_cases h : k.toNat < 43
  · have key : ∀ i : Fin 43, (symbols.getD i.val []).length ≤ 2 := by decide
    exact key ⟨k.toNat, h⟩
  · unfold symbol
    rw [List.getD_eq_getElem?_getD, List.getElem?_eq_none (show 43 ≤ k.toNat by omega)]; simp
mutual
theorem rowSits_lt {S : Nat → Prop} {w : World} : ∀ (l : List Nd) (a : Option Addr), rowSits S w l a → rowSits (· < w.heap.size) w l a
  | [], _, _ => by simp [rowSits]
  | t :: r, a, h => by
    simp only [rowSits] at h ⊢
    obtain ⟨b, o, a', c, rfl, hb, h0, h1, h2, h3, hs, hr⟩ := h
    exact ⟨b, o, a', c, rfl, cell_lt h0, h0, h1, h2, h3, sits_lt t a' hs, rowSits_lt r _ hr⟩
theorem sits_lt {S : Nat → Prop} {w : World} : ∀ (t : Nd) (a : Option Addr), t.sits S w a → t.sits (· < w.heap.size) w a
  | .mk _ _ _ l, a, h => by
    simp only [Nd.sits] at h ⊢
    exact rowSits_lt l a h
end
theorem text_len (N : Nat) : ∀ t : Nd, t.size < N → t.wf → t.isExpr = true → t.text.length ≤ 30 * t.size := by
  induction N with
  | zero => intro t h; omega
  | succ N ih =>
    rintro ⟨k, n, s, l⟩ hN hwf he
    simp only [Nd.wf, Nd.size] at hwf hN ⊢
    obtain ⟨hk0, hk1, hn0, hn1, hsl, hll, hrw⟩ := hwf
    rw [Nd.isExpr.eq_def] at he
    rw [Nd.text.eq_def]
    simp only [] at he ⊢
    by_cases c1 : k = 1
    · have := Lib.itoa_length_le n hn0 hn1
      rw [if_pos c1]; omega
    rw [if_neg c1] at he ⊢
    by_cases c2 : k = 2 ∨ k = 4 ∨ k = 5
    · rw [if_pos c2] at he
      simp only [named, Bool.and_eq_true] at he
      have := isName_len he.1.2
      rcases c2 with rfl | rfl | rfl
      · simp; omega
      · simp; omega
      · simp; omega
    rw [if_neg c2] at he
    have e2 : ¬ k = 2 := by omega
    have e4 : ¬ k = 4 := by omega
    have e5 : ¬ k = 5 := by omega
    rw [if_neg e2]
    by_cases c3 : k = 3
    · rw [if_pos c3] at he ⊢
      rcases l with _ | ⟨x, _ | ⟨y, l⟩⟩
      · simp at he
      · simp only [named, Bool.and_eq_true] at he
        have := isName_len he.1.2
        simp only [rowSize, rowWf] at hN hrw ⊢
        have hx := ih x (by omega) hrw.1 he.2
        simp; omega
      · simp at he
    rw [if_neg c3] at he ⊢
    rw [if_neg e4, if_neg e5]
    have hsy := symbol_len k
    by_cases c6 : k = 6 ∨ k = 7
    · rw [if_pos c6] at he ⊢
      rcases l with _ | ⟨x, _ | ⟨y, l⟩⟩
      · simp at he
      · simp only [Bool.and_eq_true] at he
        simp only [rowSize, rowWf] at hN hrw ⊢
        have hx := ih x (by omega) hrw.1 he.2
        have hw := wrap_len x.text (isBin x.kind)
        simp only [List.length_append]; omega
      · simp at he
    rw [if_neg c6] at he ⊢
    by_cases c8 : 8 ≤ k ∧ k ≤ 23
    · rw [if_pos c8] at he
      rcases l with _ | ⟨x, _ | ⟨y, _ | ⟨z, l⟩⟩⟩
      · simp at he
      · simp at he
      · simp only [Bool.and_eq_true] at he
        simp only [rowSize, rowWf] at hN hrw ⊢
        have hx := ih x (by omega) hrw.1 he.2.1
        have hy := ih y (by omega) hrw.2.1 he.2.2
        have hw := wrap_len x.text (parenL x.kind k)
        have hv := wrap_len y.text (parenR y.kind k)
        simp only [List.length_append, List.length_cons, List.length_nil]; omega
      · simp at he
    · rw [if_neg c8] at he; simp at he
theorem Bld.new (w : World) (B : Nat) (hB : B ≤ w.heap.size) : Bld B w.heap.size [] (w.alloc (.cells #[.pointer none, .slice none 0 0] 50)) := by
  refine ⟨.inl ⟨hB, .slice none 0 0, ?_, ?_, by simp [Value.ownBlock]⟩, by simp; omega⟩
  · show (w.heap.push _)[w.heap.size]? = _; simp
  · exact ⟨rfl, .inl ⟨rfl, rfl⟩⟩
theorem Expr_c (t : Nd) (hwf : t.wf) (hsz : t.size ≤ 4000000000000) (S : Nat → Prop) (a : Option Addr) (c : Nat) (w : World) (ht : Tabs w) (hg : Tryd.prog.globals.size ≤ w.heap.size) (hs : t.sits S w a) :
    Calls Tryd.prog 8 #[t.val a c] w fun e w' => e = .returned (.tuple #[str (if t.isExpr then t.text else []), .int .i64 (if t.isExpr then 0 else 3)]) ∧ Ext w w' := by
  have HE := Lib.hid (IsExpr_t S t hwf)
  cases he : t.isExpr
  · have HT := Lib.hid he; clear he
    obtain ⟨k, n, s, l⟩ := t
    simp only [Nd.kind, Nd.num, Nd.name, Nd.kids, Nd.val]
    go_enter Tryd.func8, Tryd.ntmps8
    go_wp2_with (go_at_call 9; refine (HE.out a c _ (hs.ext (by repeat (first | exact Ext.refl _ | assumption | refine Ext.alloc ?_ _ | refine Ext.drew ?_ | refine Ext.trans ?_ (by assumption))))).mono ?_; rintro e w1 ⟨rfl, hx1⟩; rw [HT.out])
    go_ret2
    exact ⟨rfl, (by repeat (first | exact Ext.refl _ | assumption | refine Ext.alloc ?_ _ | refine Ext.drew ?_ | refine Ext.trans ?_ (by assumption)))⟩
  · have hp := expr_t t hwf he
    have hl := text_len (t.size + 1) t (by omega) hwf he
    have HP := Lib.hid hp; clear hp
    have HT := Lib.hid he; clear he
    obtain ⟨k, n, s, l⟩ := t
    have HS := Lib.hid (sits_lt _ _ hs)
    have hle : (Nd.mk k n s l).text.length ≤ 130000000000000 := by omega
    clear hl hsz hwf
    simp only [Nd.kind, Nd.num, Nd.name, Nd.kids, Nd.val]
    go_enter Tryd.func8, Tryd.ntmps8
    go_wp2_with fail
    refine (HE.out a c _ (hs.ext ((Ext.refl _).alloc _))).mono ?_
    rintro e w1 ⟨rfl, hx1⟩
    have hc1 := hx1.cells
    have hz1 : w.heap.size < w1.heap.size := by
      have := hx1.size
      simp at this
      omega
    rw [HT.out]
    simp only
    go_wp2_with fail
    have hxx1 : Ext w w1 := (by repeat (first | exact Ext.refl _ | assumption | refine Ext.alloc ?_ _ | refine Ext.drew ?_ | refine Ext.trans ?_ (by assumption)))
    have hlew : w.heap.size ≤ w1.heap.size := hxx1.size
    have hx2 : Ext w (w1.alloc (.cells #[.pointer none, .slice none 0 0] 50)) := (by repeat (first | exact Ext.refl _ | assumption | refine Ext.alloc ?_ _ | refine Ext.drew ?_ | refine Ext.trans ?_ (by assumption)))
    refine (HP.out w.heap.size w1.heap.size [] _ a c (Bld.new w1 w.heap.size hlew) (ht.ext hx2 hg) hg (HS.out.ext hx2) (by simp; omega)).mono ?_
    rintro e w3 ⟨rfl, hb3, hx3⟩
    simp only
    go_wp2_with fail
    refine (String_any 50 w.heap.size w1.heap.size _ _ hb3.is hb3.le).mono ?_
    rintro e w4 ⟨rfl, hb4, hx4⟩
    simp only
    go_wp2_with fail
    go_ret2
    exact ⟨by simp, Below.trans hx2 (Below.trans hx3.below hx4.below)⟩
end Bk
