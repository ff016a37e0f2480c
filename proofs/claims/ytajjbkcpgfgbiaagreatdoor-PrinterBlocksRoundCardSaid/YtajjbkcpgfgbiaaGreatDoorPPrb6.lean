/- Texts that the proofs of PrinterBlocksRound need. No condition. (Part 6 of 7.) -/
import Derived.Test.YtajjbkcpgfgbiaaGreatDoorPPrb5
set_option linter.unusedSimpArgs false
set_option linter.unusedVariables false
namespace Bk
open Go
theorem G.cl_mono {l1 l2 : Int} {x y : Nd} {b : Txt} (h : G (.cl l1 x) b y) (hl : l2 ≤ l1) : G (.cl l2 x) b y := by
 generalize hn : Nt.cl l1 x = nt at h
 induction h generalizing x with
 | ex _ _ => cases hn
 | cl0 => cases hn; exact G.cl0
 | cl1 h1 h2 h3 h4 h5 _ i5 => cases hn; exact G.cl1 h1 (by omega) h3 h4 (i5 rfl)
 | neg => cases hn
 | not => cases hn
 | num => cases hn
 | top => cases hn
 | size => cases hn
 | par => cases hn
 | place => cases hn
 | var => cases hn
 | item => cases hn
theorem G.ex_mono {l1 l2 : Int} {y : Nd} {b : Txt} (h : G (.ex l1) b y) (hl : l2 ≤ l1) : G (.ex l2) b y := by
 cases h with
 | ex h1 h2 => exact G.ex h1 (h2.cl_mono hl)
theorem G.un_ex {a : Txt} {x : Nd} (h : G .un a x) (lv : Int) : G (.ex lv) a x := by
 have := G.ex h (G.cl0 (lv := lv))
 rwa [List.append_nil] at this
theorem G.cl_snoc {lv op : Int} {t : List UInt8} {x y z : Nd} {b c : Txt} (h : G (.cl lv x) b y) (hb : binOf t = some op) (hl : level op = lv) (hc : G (.ex (level op + 1)) c z) : G (.cl lv x) (b ++ t :: c) (.mk op 0 [] [y, z]) := by
 generalize hn : Nt.cl lv x = nt at h
 induction h generalizing x with
 | ex _ _ => cases hn
 | @cl0 l x0 =>
  cases hn
  have := G.cl1 (lv := lv) (x := x0) hb (by omega) hc (fun u hu => by cases hu) (G.cl0 (lv := lv))
  rwa [List.append_nil] at this
 | @cl1 l o u a b x0 y0 z0 h1 h2 h3 h4 h5 _ i5 =>
  cases hn
  have := G.cl1 (lv := lv) (x := x0) h1 h2 h3 (b := b ++ t :: c) ?_ (i5 rfl)
  · rw [show u :: (a ++ (b ++ t :: c)) = u :: (a ++ b) ++ t :: c by simp] at this
    exact this
  · cases b with
    | nil =>
     intro v hv o' ho'
     have : t = v := by simpa using hv
     subst this
     rw [hb] at ho'; cases ho'
     omega
    | cons v r => exact fun w hw => h4 w (by simpa using hw)
 | neg => cases hn
 | not => cases hn
 | num => cases hn
 | top => cases hn
 | size => cases hn
 | par => cases hn
 | place => cases hn
 | var => cases hn
 | item => cases hn
theorem binOf_symbol {k : Int} (h0 : 8 ≤ k) (h1 : k ≤ 23) : binOf (symbol k) = some k := by
 have : k = 8 ∨ k = 9 ∨ k = 10 ∨ k = 11 ∨ k = 12 ∨ k = 13 ∨ k = 14 ∨ k = 15 ∨ k = 16 ∨ k = 17 ∨ k = 18 ∨ k = 19 ∨ k = 20 ∨ k = 21 ∨ k = 22 ∨ k = 23 := by omega
 rcases this with rfl | rfl | rfl | rfl | rfl | rfl | rfl | rfl | rfl | rfl | rfl | rfl | rfl | rfl | rfl | rfl <;> decide
structure Said (t : Nd) : Prop where
 bin : isBin t.kind = true → G (.ex (level t.kind)) (toks t.pcs) t
 un : isBin t.kind = false → G .un (toks t.pcs) t
 pl : t.isPlace = true → G .pl (toks t.pcs) t
theorem Said.ex {t : Nd} (h : Said t) {lv : Int} (hl : isBin t.kind = true → lv ≤ level t.kind) : G (.ex lv) (toks t.pcs) t := by
 cases hb : isBin t.kind
 · exact (h.un hb).un_ex lv
 · exact (h.bin hb).ex_mono (hl hb)
theorem bin_level {k : Int} (h : isBin k = true) : 1 ≤ level k := by
 simp only [isBin, Bool.and_eq_true, decide_eq_true_eq] at h
 exact (level_bd h.1 h.2).1
theorem Said.par {t : Nd} (h : Said t) : G .un (toks (pw true t.pcs)) t := by
 rw [toks_pw]
 exact G.par (h.ex (fun hb => bin_level hb))
theorem Said.opd {t : Nd} (h : Said t) {lv : Int} {b : Bool} (hb : b = false → isBin t.kind = true → lv ≤ level t.kind) : G (.ex lv) (toks (pw b t.pcs)) t := by
 cases b
 · exact h.ex (hb rfl)
 · exact h.par.un_ex lv
theorem pcs_said (N : Nat) : ∀ t : Nd, t.size < N → t.isExpr = true → t.wf → Said t := by
 induction N with
 | zero => intro t h; omega
 | succ N ih =>
  intro t hs he hw; obtain ⟨k, n, s, l⟩ := t; simp only [Nd.size] at hs; have he0 := he
  unfold Nd.isExpr at he
  have nb : ¬ (8 ≤ k ∧ k ≤ 23) → isBin k = false := fun h => by
   cases hb : isBin k
   · rfl
   · simp only [isBin, Bool.and_eq_true, decide_eq_true_eq] at hb; exact absurd hb h
  by_cases c1 : k = 1
  · rw [if_pos c1] at he
    subst c1; simp only [Bool.and_eq_true, decide_eq_true_eq, List.isEmpty_iff] at he; obtain ⟨⟨h0, rfl⟩, rfl⟩ := he; obtain ⟨v1, v2, v3⟩ := dec_val n.toNat
    have e : (Nd.mk 1 n [] []).pcs = [.tk (Lib.decDigits n.toNat)] := by unfold Nd.pcs; rw [if_pos rfl, itoa_dec h0]
    have hsd : startsDigit (Lib.decDigits n.toNat) = true := by
     cases hd : Lib.decDigits n.toNat with
     | nil => exact absurd hd v3
     | cons c r => simpa [startsDigit] using v2 c (by rw [hd]; simp)
    have hmax : n ≤ 9223372036854775807 := hw.2.2.2.1; have hg : G .un [Lib.decDigits n.toNat] (.mk 1 (digitsVal (Lib.decDigits n.toNat)) [] []) := G.num hsd (by rw [v1]; omega); rw [v1, show ((n.toNat : Nat) : Int) = n by omega] at hg; refine ⟨fun h => (by simp [isBin, Nd.kind] at h), fun _ => by rw [e]; exact hg, fun h => (by simp [Nd.isPlace, Nd.kind] at h)⟩
  rw [if_neg c1] at he
  by_cases c245 : k = 2 ∨ k = 4 ∨ k = 5
  · rw [if_pos c245] at he
    simp only [Bool.and_eq_true, named, beq_iff_eq, List.isEmpty_iff] at he; obtain ⟨⟨rfl, hn⟩, rfl⟩ := he
    rcases c245 with rfl | rfl | rfl
    · have e : (Nd.mk 2 0 s []).pcs = [.tk s] := by unfold Nd.pcs; rw [if_neg (by decide), if_pos rfl]
      refine ⟨fun h => (by simp [isBin, Nd.kind] at h), fun _ => by rw [e]; exact G.place (G.var hn), fun _ => by rw [e]; exact G.var hn⟩
    · have e : (Nd.mk 4 0 s []).pcs = [.tk [116, 111, 112], .tk [40], .tk s, .tk [41]] := by unfold Nd.pcs; rw [if_neg (by decide), if_neg (by decide), if_neg (by decide), if_pos rfl]
      refine ⟨fun h => (by simp [isBin, Nd.kind] at h), fun _ => by rw [e]; exact G.top hn, fun h => (by simp [Nd.isPlace, Nd.kind] at h)⟩
    · have e : (Nd.mk 5 0 s []).pcs = [.tk [115, 105, 122, 101], .tk [40], .tk s, .tk [41]] := by unfold Nd.pcs; rw [if_neg (by decide), if_neg (by decide), if_neg (by decide), if_neg (by decide), if_pos rfl]
      refine ⟨fun h => (by simp [isBin, Nd.kind] at h), fun _ => by rw [e]; exact G.size hn, fun h => (by simp [Nd.isPlace, Nd.kind] at h)⟩
  rw [if_neg c245] at he
  by_cases c3 : k = 3
  · rw [if_pos c3] at he
    subst c3; simp only [Bool.and_eq_true, named, beq_iff_eq] at he; obtain ⟨⟨rfl, hn⟩, hx⟩ := he
    split at hx
    · rename_i x
      simp only [rowSize] at hs; have hi := ih x (by omega) hx hw.2.2.2.2.2.2.1
      have e : (Nd.mk 3 0 s [x]).pcs = .tk s :: .tk [91] :: (x.pcs ++ [.tk [93]]) := by
       conv => lhs; unfold Nd.pcs
       rw [if_neg (by decide), if_neg (by decide), if_pos rfl]
      have hg : G .pl (toks (Nd.mk 3 0 s [x]).pcs) (.mk 3 0 s [x]) := by
       rw [e]; simp only [toks, toks_append]
       exact G.item hn (hi.ex (fun hb => bin_level hb))
      exact ⟨fun h => (by simp [isBin, Nd.kind] at h), fun _ => G.place hg, fun _ => hg⟩
    · cases hx
  rw [if_neg c3] at he
  by_cases c6 : k = 6 ∨ k = 7
  · rw [if_pos c6] at he
    simp only [Bool.and_eq_true, plain, beq_iff_eq, List.isEmpty_iff] at he; obtain ⟨⟨rfl, rfl⟩, hx⟩ := he
    split at hx
    · rename_i x
      simp only [rowSize] at hs; have hi := ih x (by omega) hx hw.2.2.2.2.2.2.1
      have hu : G .un (toks (pw (isBin x.kind) x.pcs)) x := by
       cases hb : isBin x.kind
       · exact hi.un hb
       · exact hi.par
      have e : (Nd.mk k 0 [] [x]).pcs = .tk (symbol k) :: pw (isBin x.kind) x.pcs := by
       conv => lhs; unfold Nd.pcs
       rw [if_neg (by omega), if_neg (by omega), if_neg (by omega), if_neg (by omega), if_neg (by omega), if_pos c6]
      refine ⟨fun h => (by rw [show (Nd.mk k 0 [] [x]).kind = k from rfl, nb (by omega)] at h; cases h), fun _ => ?_, fun h => ?_⟩
      · rw [e]
        simp only [toks]
        rcases c6 with rfl | rfl
        · exact G.neg hu
        · exact G.not hu
      · exfalso
        simp only [Nd.isPlace, Nd.kind, Bool.and_eq_true, Bool.or_eq_true, beq_iff_eq] at h
        omega
    · cases hx
  rw [if_neg c6] at he
  by_cases c8 : 8 ≤ k ∧ k ≤ 23
  · rw [if_pos c8] at he
    simp only [Bool.and_eq_true, plain, beq_iff_eq, List.isEmpty_iff] at he; obtain ⟨⟨rfl, rfl⟩, hx⟩ := he
    split at hx
    · rename_i x y
      simp only [rowSize] at hs; simp only [Bool.and_eq_true] at hx; have h1 := ih x (by omega) hx.1 hw.2.2.2.2.2.2.1; have h2 := ih y (by omega) hx.2 hw.2.2.2.2.2.2.2.1; have hb := binOf_symbol c8.1 c8.2
      have g1 : G (.ex (level k)) (toks (pw (parenL x.kind k) x.pcs)) x := h1.opd (fun hp hb => by
       simp only [parenL, hb, Bool.true_and, decide_eq_false_iff_not] at hp; omega)
      have g2 : G (.ex (level k + 1)) (toks (pw (parenR y.kind k) y.pcs)) y := h2.opd (fun hp hb => by
       simp only [parenR, hb, Bool.true_and, decide_eq_false_iff_not] at hp; omega)
      have e : (Nd.mk k 0 [] [x, y]).pcs = pw (parenL x.kind k) x.pcs ++ (.sp [32] :: .tk (symbol k) :: .sp [32] :: pw (parenR y.kind k) y.pcs) := by
       conv => lhs; unfold Nd.pcs
       rw [if_neg (by omega), if_neg (by omega), if_neg (by omega), if_neg (by omega), if_neg (by omega), if_neg (by omega)]
      have hbk : isBin k = true := by simp only [isBin, Bool.and_eq_true, decide_eq_true_eq]; exact c8
      refine ⟨fun _ => ?_, fun h => (by rw [show (Nd.mk k 0 [] [x, y]).kind = k from rfl, hbk] at h; cases h), fun h => ?_⟩
      · rw [e]
        simp only [toks_append, toks]
        show G (.ex (level k)) _ _
        generalize toks (pw (parenL x.kind k) x.pcs) = A at *
        cases g1 with
        | @ex _ a b x0 _ gu gc =>
         rw [List.append_assoc]
         exact G.ex gu (gc.cl_snoc hb rfl g2)
      · exfalso
        simp only [Nd.isPlace, Nd.kind, Bool.and_eq_true, Bool.or_eq_true, beq_iff_eq] at h
        omega
    · cases hx
  · rw [if_neg c8] at he; cases he
end Bk
namespace Bk
open Go Go.RowKit Go.Proofs
attribute [local irreducible] Go.Calls
structure Tabs5 (w : World) : Prop where
 t : Tabs w
 g : Tryz.prog.globals.size ≤ w.heap.size
theorem Tabs5.ext {w w' : World} (h : Tabs5 w) (x : Ext w w') : Tabs5 w' := ⟨h.t.ext x h.g, Nat.le_trans h.g x.size⟩
mutual
theorem small_depth : ∀ (t : Nd) (d m : Int), 0 ≤ d → (t.small d m).1 = true → t.depth ≤ d
 | .mk k n s l, d, m, hd, h => by
  unfold Nd.small at h
  split at h
  · cases h
  · have := rowSmall_depth l (d - 1) (m - 1) (by omega) h
    simp only [Nd.depth]; omega
theorem rowSmall_depth : ∀ (l : List Nd) (d m : Int), 0 ≤ d → (rowSmall l d m).1 = true → rowDepth l ≤ d
 | [], d, m, hd, _ => by simp only [rowDepth]; exact hd
 | t :: r, d, m, hd, h => by
  unfold rowSmall at h
  split at h
  · rename_i h1
    have a := small_depth t d m hd h1; have b := rowSmall_depth r d _ hd h
    simp only [rowDepth]; omega
  · cases h
end
theorem great_y {t : Nd} (hwf : t.wf) (h : (t.small 24 200).1 = false) (S : Nat → Prop) (a : Option Addr) (c : Nat) (w : World) (hs : t.sits S w a) : Calls Tryz.prog 9 #[t.val a c] w fun e w' => e = .returned (.bool true) ∧ Ext w w' := by
 have := great_c t hwf S a c w hs
 rw [h] at this; exact this
theorem great_n {t : Nd} (hwf : t.wf) (h : (t.small 24 200).1 = true) (S : Nat → Prop) (a : Option Addr) (c : Nat) (w : World) (hs : t.sits S w a) : Calls Tryz.prog 9 #[t.val a c] w fun e w' => e = .returned (.bool false) ∧ Ext w w' := by
 have := great_c t hwf S a c w hs
 rw [h] at this; exact this
end Bk
namespace Bk
open Go
def wt : Txt → Nat
 | [] => 0
 | t :: r => t.length + wt r
theorem wt_append : ∀ a b : Txt, wt (a ++ b) = wt a + wt b
 | [], b => by simp [wt]
 | t :: r, b => by simp only [List.cons_append, wt, wt_append r b]; omega
theorem wt_pw (b : Bool) (L : List Pc) : wt (toks (pw b L)) = wt (toks L) + (if b then 2 else 0) := by
 rw [toks_pw]
 cases b
 · simp
 · simp only [if_true, wt, wt_append, List.length_cons, List.length_nil]; omega
theorem decLen (m : Nat) : ∀ u, u < 10 ^ m → 1 ≤ m → (Lib.decDigits u).length ≤ m := by
 induction m with
 | zero => intro u _ h; omega
 | succ m ih =>
  intro u hu _; rw [Lib.decDigits]
  split
  · simp
  · rename_i h
    have hp : 10 ^ (m + 1) = 10 ^ m * 10 := Nat.pow_succ 10 m
    have hm : 1 ≤ m := by
     rcases m with _ | m
     · exfalso; simp at hu; omega
     · omega
    have := ih (u / 10) (by rw [hp] at hu; omega) hm
    simp only [List.length_append, List.length_cons, List.length_nil]; omega
theorem foldl_lt : ∀ (t : List UInt8) (a : Nat), (∀ c ∈ t, digit c = true) → t.foldl (fun a c => a * 10 + (c.toNat - 48)) a < (a + 1) * 10 ^ t.length
 | [], a, _ => by simp
 | c :: r, a, h => by
  have hc := h c (by simp); simp only [digit, Bool.and_eq_true, decide_eq_true_eq] at hc; have ih := foldl_lt r (a * 10 + (c.toNat - 48)) (fun d hd => h d (by simp [hd])); rw [List.foldl_cons]; refine Nat.lt_of_lt_of_le ih ?_; rw [List.length_cons, Nat.pow_succ, Nat.mul_comm (10 ^ r.length) 10, ← Nat.mul_assoc]
  exact Nat.mul_le_mul_right _ (by omega)
theorem num_len {t : List UInt8} (hne : t ≠ []) (h : ∀ c ∈ t, digit c = true) : (Lib.decDigits (digitsVal t)).length ≤ t.length := by
 have h1 := foldl_lt t 0 h; refine decLen t.length _ (by unfold digitsVal; simpa using h1) ?_
 cases t with
 | nil => exact absurd rfl hne
 | cons c r => simp
theorem G.pl_bin {a : Txt} {x : Nd} (h : G .pl a x) : isBin x.kind = false := by
 cases h with
 | var _ => rfl
 | item _ _ => rfl
def Heavy : Nt → Txt → Nd → Prop
 | .un, a, x => wt (toks x.pcs) + (if isBin x.kind then 2 else 0) ≤ wt a
 | .pl, a, x => wt (toks x.pcs) ≤ wt a
 | .ex lv, a, x => wt (toks x.pcs) + (if isBin x.kind && decide (level x.kind < lv) then 2 else 0) ≤ wt a
 | .cl lv x0, a, x => ∀ N, wt (toks x0.pcs) ≤ N → (∀ t r op, a = t :: r → binOf t = some op → wt (toks (pw (parenL x0.kind op) x0.pcs)) ≤ N) → wt (toks x.pcs) ≤ N + wt a ∧ ((a = [] ∧ x = x0) ∨ (isBin x.kind = true ∧ lv ≤ level x.kind))
theorem pcs_bin {k : Int} {x y : Nd} (h0 : 8 ≤ k) (h1 : k ≤ 23) : (Nd.mk k 0 [] [x, y]).pcs = pw (parenL x.kind k) x.pcs ++ (.sp [32] :: .tk (symbol k) :: .sp [32] :: pw (parenR y.kind k) y.pcs) := by
 conv => lhs; unfold Nd.pcs
 rw [if_neg (by omega), if_neg (by omega), if_neg (by omega), if_neg (by omega), if_neg (by omega), if_neg (by omega)]
theorem isBin_of {k : Int} (h0 : 8 ≤ k) (h1 : k ≤ 23) : isBin k = true := by simp only [isBin, Bool.and_eq_true, decide_eq_true_eq]; exact ⟨h0, h1⟩
theorem G.heavy {nt : Nt} {a : Txt} {x : Nd} (h : G nt a x) : (∀ t ∈ a, startsDigit t = true → ∀ c ∈ t, digit c = true) → Heavy nt a x := by
 induction h with
 | @ex lv a b x y h1 h2 i1 i2 =>
  intro hd; have j1 := i1 (fun t ht => hd t (by simp [ht])); have j2 := i2 (fun t ht => hd t (by simp [ht])) (wt a); simp only [Heavy] at j1 ⊢
  obtain ⟨k1, k2⟩ := j2 (by split at j1 <;> omega) (fun t r op _ _ => by
   rw [wt_pw]
   cases hb : isBin x.kind
   · simp only [parenL, hb, Bool.false_and]; rw [hb] at j1; simpa using j1
   · rw [hb] at j1; simp only [if_true] at j1
     split <;> omega)
  rw [wt_append]
  rcases k2 with ⟨rfl, rfl⟩ | ⟨k2, k3⟩
  · simp only [wt, Nat.add_zero]
    cases hb : isBin y.kind
    · simp; rw [hb] at j1; simpa using j1
    · rw [hb] at j1; simp only [if_true] at j1
      split <;> omega
  · rw [k2]
    rw [if_neg (by simp only [Bool.true_and, decide_eq_true_eq]; omega)]
    exact k1
 | @cl0 lv x =>
  intro hd N hN _
  exact ⟨by simp only [wt]; omega, Or.inl ⟨rfl, rfl⟩⟩
 | @cl1 lv op t a b x y z h1 h2 h3 h4 h5 i3 i5 =>
  intro hd N hN hN2; have j3 := i3 (fun u hu => hd u (by simp [hu])); have j5 := i5 (fun u hu => hd u (by simp [hu])) (N + t.length + wt a); obtain ⟨-, h8, h23, hsy⟩ := binOf_ne h1; have hx := hN2 t (a ++ b) op rfl h1; simp only [Heavy] at j3
  have hy : wt (toks (pw (parenR y.kind op) y.pcs)) ≤ wt a := by
   rw [wt_pw]
   cases hb : isBin y.kind
   · rw [hb] at j3; simp only [parenR, hb, Bool.false_and] ; simpa using j3
   · rw [hb] at j3
     simp only [parenR, hb, Bool.true_and, decide_eq_true_eq] at j3 ⊢
     by_cases hl : level y.kind ≤ level op
     · rw [if_pos (by omega)] at j3; rw [if_pos hl]; exact j3
     · rw [if_neg hl]; split at j3 <;> omega
  have hw : wt (toks (Nd.mk op 0 [] [x, y]).pcs) ≤ N + t.length + wt a := by
   rw [pcs_bin h8 h23]; simp only [toks_append, toks, wt_append, wt, hsy]
   omega
  obtain ⟨k1, k2⟩ := j5 hw (fun u r op2 hb2 ho2 => by
   have hst := h4 u (by rw [hb2]; rfl) op2 ho2
   have : parenL (Nd.mk op 0 [] [x, y]).kind op2 = false := by
    show parenL op op2 = false
    simp only [parenL, Bool.and_eq_false_iff, decide_eq_false_iff_not]
    right; omega
   rw [this]
   exact hw)
  refine ⟨by simp only [wt, wt_append]; omega, Or.inr ?_⟩
  rcases k2 with ⟨-, rfl⟩ | k2
  · exact ⟨isBin_of h8 h23, h2⟩
  · exact k2
 | @neg a x h1 i1 =>
  intro hd; have j1 := i1 (fun t ht => hd t (by simp [ht])); simp only [Heavy] at j1 ⊢
  have e : (Nd.mk 6 0 [] [x]).pcs = .tk (symbol 6) :: pw (isBin x.kind) x.pcs := by
   conv => lhs; unfold Nd.pcs
   rw [if_neg (by decide), if_neg (by decide), if_neg (by decide), if_neg (by decide), if_neg (by decide), if_pos (by decide)]
  rw [e, show isBin (Nd.mk 6 0 [] [x]).kind = false from rfl]; simp only [toks, wt, wt_pw]
  have : (symbol 6).length = 1 := by decide
  simp only [this, List.length_cons, List.length_nil, Bool.false_eq_true, if_false]
  omega
 | @not a x h1 i1 =>
  intro hd; have j1 := i1 (fun t ht => hd t (by simp [ht])); simp only [Heavy] at j1 ⊢
  have e : (Nd.mk 7 0 [] [x]).pcs = .tk (symbol 7) :: pw (isBin x.kind) x.pcs := by
   conv => lhs; unfold Nd.pcs
   rw [if_neg (by decide), if_neg (by decide), if_neg (by decide), if_neg (by decide), if_neg (by decide), if_pos (by decide)]
  rw [e, show isBin (Nd.mk 7 0 [] [x]).kind = false from rfl]; simp only [toks, wt, wt_pw]
  have : (symbol 7).length = 1 := by decide
  simp only [this, List.length_cons, List.length_nil, Bool.false_eq_true, if_false]
  omega
 | @num t h1 h2 =>
  intro hd; have hdig := hd t (by simp) h1
  have hne : t ≠ [] := by rintro rfl; simp [startsDigit] at h1
  simp only [Heavy]
  have e : (Nd.mk 1 (digitsVal t) [] []).pcs = [.tk (Lib.decDigits (digitsVal t))] := by
   unfold Nd.pcs
   rw [if_pos rfl, itoa_dec (by omega)]
   simp
  rw [e, show isBin (Nd.mk 1 (digitsVal t) [] []).kind = false from rfl]; simp only [toks, wt, Bool.false_eq_true, if_false]; have := num_len hne hdig
  omega
 | @top m h1 =>
  intro hd; simp only [Heavy]
  have e : (Nd.mk 4 0 m []).pcs = [.tk [116, 111, 112], .tk [40], .tk m, .tk [41]] := by unfold Nd.pcs; rw [if_neg (by decide), if_neg (by decide), if_neg (by decide), if_pos rfl]
  rw [e, show isBin (Nd.mk 4 0 m []).kind = false from rfl]
  simp [toks]
 | @size m h1 =>
  intro hd; simp only [Heavy]
  have e : (Nd.mk 5 0 m []).pcs = [.tk [115, 105, 122, 101], .tk [40], .tk m, .tk [41]] := by unfold Nd.pcs; rw [if_neg (by decide), if_neg (by decide), if_neg (by decide), if_neg (by decide), if_pos rfl]
  rw [e, show isBin (Nd.mk 5 0 m []).kind = false from rfl]
  simp [toks]
 | @par a x h1 i1 =>
  intro hd; have j1 := i1 (fun t ht => hd t (by simp [ht])); simp only [Heavy] at j1 ⊢; simp only [wt, wt_append, List.length_cons, List.length_nil]
  split <;> split at j1 <;> omega
 | @place a x h1 i1 =>
  intro hd; have j1 := i1 hd; simp only [Heavy] at j1 ⊢
  rw [h1.pl_bin]; simpa using j1
 | @var m h1 =>
  intro hd; simp only [Heavy]
  have e : (Nd.mk 2 0 m []).pcs = [.tk m] := by unfold Nd.pcs; rw [if_neg (by decide), if_pos rfl]
  rw [e]
  simp [toks]
 | @item m a x h1 h2 i2 =>
  intro hd; have j2 := i2 (fun t ht => hd t (by simp [ht])); simp only [Heavy] at j2 ⊢
  have e : (Nd.mk 3 0 m [x]).pcs = .tk m :: .tk [91] :: (x.pcs ++ [.tk [93]]) := by
   conv => lhs; unfold Nd.pcs
   rw [if_neg (by decide), if_neg (by decide), if_pos rfl]
  rw [e]; simp only [toks, toks_append, wt, wt_append, List.length_cons, List.length_nil]
  split at j2 <;> omega
end Bk
namespace Bk
open Go
def cnt (s : List UInt8) : Nat := (s.filter (fun c => !blank c)).length
def without (s : List UInt8) (i j : Nat) : List UInt8 := (s.take i ++ (s.take j).drop (i + 1)) ++ s.drop (j + 1)
def dep : List UInt8 → Int
 | [] => 0
 | c :: r => (if c = 40 then 1 else if c = 41 then -1 else 0) + dep r
theorem dep_append : ∀ a b : List UInt8, dep (a ++ b) = dep a + dep b
 | [], b => by simp [dep]
 | c :: r, b => by simp only [List.cons_append, dep, dep_append r b]; omega
structure Bal (s : List UInt8) : Prop where
 tot : dep s = 0
 pre : ∀ k, 0 ≤ dep (s.take k)
theorem Bal.nil : Bal [] := ⟨rfl, fun k => by simp [dep]⟩
theorem Bal.append {a b : List UInt8} (h : Bal a) (k : Bal b) : Bal (a ++ b) := by
 refine ⟨by rw [dep_append, h.tot, k.tot]; rfl, fun n => ?_⟩; rw [List.take_append, dep_append]; have := h.pre n; have := k.pre (n - a.length)
 omega
theorem Bal.par {a : List UInt8} (h : Bal a) : Bal ([40] ++ a ++ [41]) := by
 refine ⟨by rw [dep_append, dep_append, h.tot]; decide, fun n => ?_⟩
 have h1 : dep [40] = 1 := by decide
 rw [List.append_assoc, List.take_append, dep_append, List.take_append, dep_append]
 rcases n with _ | n
 · simp [dep]
 · have e : ([40] : List UInt8).take (n + 1) = [40] := by simp [List.take_succ_cons]
   rw [e, h1]; have := h.pre (n + 1 - [40].length)
   have h41 : -1 ≤ dep (([41] : List UInt8).take (n + 1 - [40].length - a.length)) := by
    rcases (n + 1 - [40].length - a.length) with _ | k
    · decide
    · have : ([41] : List UInt8).take (k + 1) = [41] := by simp [List.take_succ_cons]
      rw [this]; decide
   omega
theorem dep_none : ∀ s : List UInt8, (∀ c ∈ s, c ≠ 40 ∧ c ≠ 41) → dep s = 0
 | [], _ => rfl
 | c :: r, h => by
  have hc := h c (by simp)
  rw [dep, if_neg hc.1, if_neg hc.2, dep_none r (fun d hd => h d (by simp [hd]))]; rfl
theorem Bal.none {s : List UInt8} (h : ∀ c ∈ s, c ≠ 40 ∧ c ≠ 41) : Bal s := ⟨dep_none s h, fun k => by rw [dep_none _ (fun c hc => h c (List.mem_of_mem_take hc))]; exact Int.le_refl _⟩
theorem Bal.wrap {a : List UInt8} (h : Bal a) (b : Bool) : Bal (wrap a b) := by
 unfold Bk.wrap
 cases b
 · exact h
 · exact h.par
end Bk
namespace Bk
end Bk
namespace Bk
open Go Go.RowKit Go.Proofs
attribute [local irreducible] Go.Calls
def natShape : Shape Nat where
 sz := 1
 rep := fun _ _ v cs => cs = [.int .i64 (v : Int)]
 len := fun h => by rw [h]; rfl
 one := fun h => by rw [h]; rfl
 mono := fun h _ _ => h
 lt := fun h => h
mutual
theorem rowSits_ltB {S : Nat → Prop} {w : World} : ∀ (l : List Nd) (a : Option Addr), rowSits S w l a → rowSits (fun b => S b ∧ b < w.heap.size) w l a
 | [], _, _ => by simp [rowSits]
 | t :: r, a, h => by
  simp only [rowSits] at h ⊢; obtain ⟨b, o, a', c, rfl, hb, h0, h1, h2, h3, hs, hr⟩ := h
  exact ⟨b, o, a', c, rfl, ⟨hb, cell_lt h0⟩, h0, h1, h2, h3, sits_ltB t a' hs, rowSits_ltB r _ hr⟩
theorem sits_ltB {S : Nat → Prop} {w : World} : ∀ (t : Nd) (a : Option Addr), t.sits S w a → t.sits (fun b => S b ∧ b < w.heap.size) w a
 | .mk _ _ _ l, a, h => by
  simp only [Nd.sits] at h ⊢
  exact rowSits_ltB l a h
end
def ParseL (w : World) (r : Nd × Int × Int) : Ending → World → Prop := fun e w' => ∃ a k, e = .returned (.tuple #[r.1.val a k, .int .i64 r.2.1, .int .i64 r.2.2]) ∧ r.1.sits (fun b => w.heap.size ≤ b ∧ b < w'.heap.size) w' a ∧ Ext w w'
theorem ParseL.ret {w : World} {r : Nd × Int × Int} {e : Ending} {w' : World} (h : ParseL w r e w') : ∃ v, e = .returned v := by
 obtain ⟨_, _, h, -⟩ := h
 exact ⟨_, h⟩
end Bk
namespace Bk
open Go Go.RowKit
def Cells (S : Nat → Prop) (w : World) : List Nd → List Value → Prop
 | [], cs => cs = []
 | t :: r, cs => ∃ a c ds, cs = t.cells a c ++ ds ∧ t.sits S w a ∧ Cells S w r ds
theorem Cells.len {S : Nat → Prop} {w : World} : ∀ {l : List Nd} {cs : List Value}, Cells S w l cs → cs.length = l.length * 4
 | [], _, h => by rw [show _ = [] from h]; rfl
 | t :: r, _, ⟨a, c, ds, e, _, h⟩ => by
  have := h.len; rw [e, List.length_append, this, List.length_cons]
  simp only [List.length_cons, List.length_nil]; omega
theorem Cells.one {S : Nat → Prop} {w : World} : ∀ {l : List Nd} {cs : List Value}, Cells S w l cs → cs.all Value.one = true
 | [], _, h => by rw [show _ = [] from h]; rfl
 | t :: r, _, ⟨a, c, ds, e, _, h⟩ => by rw [e, List.all_append, h.one]; rfl
theorem Cells.app {S : Nat → Prop} {w : World} : ∀ {l q : List Nd} {cs ds : List Value}, Cells S w l cs → Cells S w q ds → Cells S w (l ++ q) (cs ++ ds)
 | [], _, _, _, h, k => by rw [show _ = [] from h]; exact k
 | t :: r, q, _, ds, ⟨a, c, es, e, hs, h⟩, k => ⟨a, c, es ++ ds, by rw [e, List.append_assoc], hs, h.app k⟩
theorem Cells.fr {S T : Nat → Prop} {w w' : World} (x : Fr T w w') (hd : ∀ b, S b → ¬ T b) : ∀ {l : List Nd} {cs : List Value}, Cells S w l cs → Cells S w' l cs
 | [], _, h => h
 | t :: r, _, ⟨a, c, ds, e, hs, h⟩ => ⟨a, c, ds, e, hs.fr x hd, Cells.fr x hd h⟩
theorem row_app {w : World} {b o : Nat} {us vs : List Value} (h1 : Row w ⟨b, o, none⟩ us) (h2 : Row w ⟨b, o + us.length, none⟩ vs) : Row w ⟨b, o, none⟩ (us ++ vs) := fun i v hi => by
 rcases Nat.lt_or_ge i us.length with hlt | hge
 · rw [List.getElem?_append_left hlt] at hi
   exact h1 i v hi
 · rw [List.getElem?_append_right hge] at hi
   have h := h2.at hi
   have e : (⟨b, o, none⟩ : Addr).add i = ⟨b, o + i, none⟩ := by unfold Addr.add; by_cases h0 : i = 0 <;> simp [h0]
   rw [e, show o + i = o + us.length + (i - us.length) by omega]; exact h
theorem rowSits_cells {S : Nat → Prop} {w : World} : ∀ (l : List Nd) (b o : Nat), rowSits S w l (some ⟨b, o, none⟩) → ∃ cs, Row w ⟨b, o, none⟩ cs ∧ Cells S w l cs
 | [], _, _, _ => ⟨[], fun i v hi => by simp at hi, rfl⟩
 | t :: r, b, o, h => by
  simp only [rowSits] at h; obtain ⟨b', o', a', c, e, hS, h0, h1, h2, h3, hs, hr⟩ := h; simp only [Option.some.injEq, Addr.mk.injEq, and_true] at e; obtain ⟨rfl, rfl⟩ := e; obtain ⟨ds, d1, d2⟩ := rowSits_cells r b (o + 4) hr
  exact ⟨t.cells a' c ++ ds, row_app (row_of_cells h0 h1 h2 h3) d1, a', c, ds, rfl, hs, d2⟩
theorem rowSits_addr {S : Nat → Prop} {w : World} {l : List Nd} {a : Option Addr} (h : rowSits S w l a) (hl : l ≠ []) : ∃ b o, a = some ⟨b, o, none⟩ := by
 cases l with
 | nil => exact absurd rfl hl
 | cons t r =>
  simp only [rowSits] at h; obtain ⟨b', o', a', c, e, -⟩ := h
  exact ⟨b', o', e⟩
theorem cells_sits {S S' : Nat → Prop} {w : World} (hS : ∀ b, S b → S' b) : ∀ (l : List Nd) (g o : Nat) (cs : List Value), S' g → Row w ⟨g, o, none⟩ cs → Cells S w l cs → rowSits S' w l (some ⟨g, o, none⟩)
 | [], _, _, _, _, _, _ => by simp [rowSits]
 | t :: r, g, o, _, hg, hr, ⟨a, c, ds, e, hs, h⟩ => by
  subst e; simp only [rowSits]
  have hd : Row w ⟨g, o + 4, none⟩ ds := by
   have := hr.sub 4 ds.length
   simpa using this
  exact ⟨g, o, a, c, rfl, hg, hr.at0 rfl, hr.at (i := 1) rfl, hr.at (i := 2) rfl, hr.at (i := 3) rfl, Nd.sits.wide hs hS, cells_sits hS r g (o + 4) ds hg hd h⟩
def OwnG (e B : Nat) (w : World) (g cap : Nat) (l : List Nd) : Prop := B ≤ g ∧ ∃ cs, Own w g e 4 (.slice (some ⟨g, 0, none⟩) l.length cap) l.length cs ∧ Cells (· < B) w l cs
theorem OwnG.lt {e B : Nat} {w : World} {g cap : Nat} {l : List Nd} (h : OwnG e B w g cap l) : g < w.heap.size := by
 obtain ⟨-, cs, h1, -⟩ := h
 exact (h1.blk (k := g) rfl).2
theorem OwnG.fr {e B : Nat} {T : Nat → Prop} {w w' : World} {g cap : Nat} {l : List Nd} (h : OwnG e B w g cap l) (x : Fr T w w') (hs : ∀ k, T k → B ≤ k ∧ k ≠ g) : OwnG e B w' g cap l := by
 obtain ⟨h0, cs, h1, h2⟩ := h; refine ⟨h0, cs, h1.fr x (fun k hk hT => ?_), h2.fr x (fun b hb hT => ?_)⟩
 · simp only [Value.ownBlock, Option.some.injEq] at hk
   exact (hs k hT).2 hk.symm
 · have := (hs b hT).1; omega
theorem OwnG.ext {e B : Nat} {w w' : World} {g cap : Nat} {l : List Nd} (h : OwnG e B w g cap l) (x : Ext w w') : OwnG e B w' g cap l := by
 obtain ⟨h0, cs, h1, h2⟩ := h
 exact ⟨h0, cs, h1.ext x, h2.fr (T := fun _ => False) (.of_ext x) (fun _ _ h => h)⟩
theorem OwnG.sits {e B : Nat} {w : World} {g cap : Nat} {l : List Nd} (h : OwnG e B w g cap l) : rowSits (fun b => b < B ∨ b = g) w l (some ⟨g, 0, none⟩) := by
 obtain ⟨h0, cs, h1, h2⟩ := h
 rcases h1.row with ⟨hv, -⟩ | ⟨g', cap', hv, -, -, hr⟩
 · simp at hv
 · simp only [Value.slice.injEq, Option.some.injEq, Addr.mk.injEq, and_true] at hv
   obtain ⟨rfl, -⟩ := hv
   exact cells_sits (fun b hb => Or.inl hb) l g 0 cs (Or.inr rfl) hr h2
theorem run_append_none0 {P : Program} (w : World) (t ty e : TypeId) (i : TypeInfo) (ht : P.underlying t = some (.slice e)) (hi : P.info? e = some i) (g n cap c : Nat) (hn : n ≤ cap) :
 (Builtin.append_ #[t, t] ty #[.slice (some ⟨g, 0, none⟩) n cap, .slice none 0 c]).run P w = .ok (.slice (some ⟨g, 0, none⟩) n cap) w := by
 simp [Builtin.append_, run_underlying ht, Go.sizeOf, typeInfo, hi, Builtin.lenOf, Builtin.firstCells, hn, storeCells]
def OnSome (K : Value → World → Prop) : Option Value → World → Prop
 | some v, w => K v w
 | none, _ => False
section
variable {P : Program} {n : Nat} {l : Sl} {w : World} {tab : Tab} {zt : ZTab} {ty : TypeId}
theorem does_slice0 {t e sz1 sz B : Nat} {sE : Sk} (T : TabOk P tab) (ht : lookT tab t = some (.slice e, sz1)) (hE : lookT tab e = some (sE, sz)) (hB : B ≤ w.heap.size) :
 Does P n l (.buildSlice t 0 #[]) ty w (OnSome fun o w' => ∃ g, o = .slice (some ⟨g, 0, none⟩) 0 0 ∧ OwnG e B w' g 0 [] ∧ w.heap.size ≤ g ∧ g < w'.heap.size ∧ Ext w w') := by
 unfold Does
 intro a dst pos after g next Q ha hn _; obtain ⟨i, hi, hs⟩ := (T _ _ _ hE).info; have hu := (T _ _ _ ht).under
 have e1 : (Instr.buildSlice t 0 #[]).run P w = .ok (.slice (some ⟨w.heap.size, 0, none⟩) 0 0) (w.alloc (.cells #[] e)) := by
  simp [Instr.buildSlice, run_underlying hu, Go.sizeOf, typeInfo, hi, Instr.fill, newRow, show Array.range 0 = #[] from rfl]
 have e2 : (execOp a.eval ⟨dst, .buildSlice t 0 #[], ty, pos, after, g⟩).run P w = .ok (.value (.slice (some ⟨w.heap.size, 0, none⟩) 0 0)) (w.alloc (.cells #[] e)) := by
  simp [execOp, Sem.run_bind, e1, Result.andThen_ok]
 unfold Oper.wp
 rw [e2]; have hx : Ext w (w.alloc (.cells #[] e)) := (new_alloc w [] e).ext; refine hn _ _ ⟨w.heap.size, rfl, ⟨hB, [], ⟨rfl, Or.inr ⟨w.heap.size, 0, #[], rfl, Nat.le_refl _, ?_, Nat.le_refl _, by unfold maxLen; omega, by simp, by simp⟩⟩, rfl⟩, Nat.le_refl _, ?_, hx⟩
 · rw [show (w.alloc (Obj.cells #[] e)).heap = w.heap.push (.cells #[] e) from rfl]; simp
 · rw [show (w.alloc (Obj.cells #[] e)).heap = w.heap.push (.cells #[] e) from rfl]; simp
theorem does_appendG {x y : Operand} {t e sz1 B g cap c : Nat} {sE : Sk} {zs : List Value} {a : Option Addr} {xs us ys : List Nd} (he : xs ++ us = ys) (T : TabOk P tab) (Z : ZTabOk P zt) (ht : lookT tab t = some (.slice e, sz1)) (hE : lookT tab e = some (sE, 4)) (hz : lookZ zt e = some zs) (hzl : zs.length = 4)
 (hby : bytesOk P e = true) (hx : ev l x = some (.slice (some ⟨g, 0, none⟩) xs.length cap)) (hy : ev l y = some (.slice a us.length c)) (hown : OwnG e B w g cap xs) (hs : rowSits (· < B) w us a) (hkm : ys.length ≤ 100000000000) :
 Does P n l (.call ⟨.builtin .append, #[x, y], #[t, t]⟩) ty w (OnSome fun o w' => ∃ g' cap', o = .slice (some ⟨g', 0, none⟩) ys.length cap' ∧ OwnG e B w' g' cap' ys ∧ (g' = g ∨ w.heap.size ≤ g') ∧ g' < w'.heap.size ∧ Fr (fun k => k = g) w w') := by
 subst he; have hlt := hown.lt; obtain ⟨h0, cs, h1, h2⟩ := hown
 by_cases hu : us = []
 · subst hu
   have hncap : xs.length ≤ cap := by
    rcases h1.2 with ⟨hv, -⟩ | ⟨g', cap', cur, hv, -, -, hc, -⟩
    · simp at hv
    · simp only [Value.slice.injEq] at hv
      obtain ⟨-, -, rfl⟩ := hv; exact hc
   unfold Does
   intro act dst pos after gd next Q ha hn _; obtain ⟨i, hi, hsz⟩ := (T _ _ _ hE).info; have hun := (T _ _ _ ht).under
   have key : ∃ w', (Builtin.append_ #[t, t] ty #[.slice (some ⟨g, 0, none⟩) xs.length cap, .slice a 0 c]).run P w = .ok (.slice (some ⟨g, 0, none⟩) xs.length cap) w' ∧ Own w' g e 4 (.slice (some ⟨g, 0, none⟩) xs.length cap) xs.length cs ∧ Fr (fun k => k = g) w w' := by
    cases a with
    | none => exact ⟨w, run_append_none0 w t ty e i hun hi g xs.length cap c hncap, h1, .of_ext (Ext.refl w)⟩
    | some p =>
     obtain ⟨w', r1, r2, r3⟩ := run_append_fits (P := P) w g t ty e i 4 hun hi hsz g xs.length cap cs h1 p 0 c [] rfl (fun j u hj => by simp at hj) (fun u hu => by cases hu) (by omega); refine ⟨w', by simpa using r1, by simpa using r2, ?_⟩; have := Fr.of_grown r3
     exact this.weaken (fun b hb => by simpa using hb)
   obtain ⟨w', hrun, ho, hf⟩ := key
   have e1 : (execOp act.eval ⟨dst, .call ⟨.builtin .append, #[x, y], #[t, t]⟩, ty, pos, after, gd⟩).run P w = .ok (.value (.slice (some ⟨g, 0, none⟩) xs.length cap)) w' := by
    simp only [execOp, resolve, invoke, builtin, Sem.run_bind, Sem.run_pure, Result.andThen_ok, List.map_toArray, List.map_cons, List.map_nil, ha.ev hx, ha.ev hy, List.length_nil, hrun]
   unfold Oper.wp
   rw [e1]; have hsz' := hf.size; refine hn _ _ ⟨g, cap, by simp, ⟨h0, cs, by simpa using ho, by simpa using h2.fr hf (fun b hb e => by omega)⟩, Or.inl rfl, by omega, hf⟩
 · obtain ⟨pb, po, rfl⟩ := rowSits_addr hs hu
   obtain ⟨ds, d1, d2⟩ := rowSits_cells us pb po hs; have hpos : 0 < us.length := List.length_pos_iff.2 hu; have hlen : (xs ++ us).length = xs.length + us.length := List.length_append; have hd := does_append (P := P) (n := n) (l := l) (ty := ty) T Z ht hE hz hzl hby rfl hx hy h1 d1 d2.len d2.one (by omega) (by omega) (by omega)
   unfold Does at hd ⊢
   intro act dst pos after gd next Q ha hn hn0; refine hd act dst pos after gd next Q ha (fun v' w' hG => ?_) (fun w' hG => hG.elim); obtain ⟨g1, g2, g', cap', g3, g4⟩ := hG; have hf : Fr (fun k => k = g) w w' := g2.weaken (fun b hb => by simpa [Value.ownBlock] using hb.symm); subst g3; have hgg := g1.blk (k := g') rfl; refine hn _ w' ⟨g', cap', by rw [hlen], ⟨by omega, cs ++ ds, ?_, ?_⟩, ?_, hgg.2, hf⟩
   · rw [hlen]
     obtain ⟨k1, k2 | ⟨g2', cap2, cur, k3, k4, k5⟩⟩ := g1
     · simp at k2
     · simp only [Value.slice.injEq, Option.some.injEq, Addr.mk.injEq, and_true, true_and] at k3
       obtain ⟨rfl, rfl⟩ := k3
       exact ⟨k1, Or.inr ⟨g', cap', cur, rfl, Nat.le_refl _, k5⟩⟩
   · exact (h2.app d2).fr hf (fun b hb e => by omega)
   · rcases g4 with h | h
     · simp only [Value.ownBlock, Option.some.injEq] at h
       exact Or.inl h.symm
     · exact Or.inr h
end
end Bk
namespace Bk
open Go
inductive NtS where
 | st : NtS
 | bl : NtS
 | ls : NtS
def varN (m : List UInt8) : Nd := .mk 2 0 m []
def argT (l : Txt) : Txt := l.flatMap fun m => [[44], m]
def stackKw : List (List UInt8 × Int) := [([112, 117, 115, 104], 44), ([112, 111, 112], 45)]
def tapeKw : List (List UInt8 × Int) := [([114, 101, 97, 100], 46), ([117, 110, 114, 101, 97, 100], 47), ([119, 114, 105, 116, 101], 48), ([117, 110, 119, 114, 105, 116, 101], 49)]
def callKw : List (List UInt8 × Int) := [([99, 97, 108, 108], 50), ([117, 110, 99, 97, 108, 108], 51)]
def branchKw : List (List UInt8 × Int × List UInt8 × List UInt8) := [([105, 102], 52, [101, 108, 115, 101], [102, 105]), ([102, 114, 111, 109], 53, [108, 111, 111, 112], [117, 110, 116, 105, 108])]
inductive GS : NtS → Txt → List Nd → Prop where
 | stack {kw m : List UInt8} {kd : Int} {a : Txt} {x : Nd} : (kw, kd) ∈ stackKw → G .pl a x → isName m = true → GS .st (kw :: (a ++ [[44], m])) [.mk kd 0 m [x]]
 | tape {kw : List UInt8} {kd : Int} {a : Txt} {x : Nd} : (kw, kd) ∈ tapeKw → G .pl a x → GS .st (kw :: a) [.mk kd 0 [] [x]]
 | call0 {kw m : List UInt8} {kd : Int} : (kw, kd) ∈ callKw → isName m = true → GS .st [kw, m, [40], [41]] [.mk kd 0 m []]
 | call1 {kw m u : List UInt8} {kd : Int} {l : Txt} : (kw, kd) ∈ callKw → isName m = true → isName u = true → (∀ v ∈ l, isName v = true) → l.length ≤ 7 → GS .st (kw :: m :: [40] :: u :: (argT l ++ [[41]])) [.mk kd 0 m ((u :: l).map varN)]
 | branch {kw mid last : List UInt8} {kd : Int} {a b c d : Txt} {x y z u : Nd} : (kw, kd, mid, last) ∈ branchKw → G (.ex 1) a x → GS .bl b [y] → GS .bl c [z] → G (.ex 1) d u → GS .st (kw :: (a ++ (b ++ (mid :: (c ++ (last :: d)))))) [.mk kd 0 [] [x, y, z, u]]
 | lstack {m : List UInt8} {b : Txt} {x : Nd} : isName m = true → GS .bl b [x] → GS .st ([108, 111, 99, 97, 108] :: [115, 116, 97, 99, 107] :: m :: b) [.mk 55 0 m [x]]
 | local_ {m : List UInt8} {a b d : Txt} {x y z : Nd} : isName m = true → G (.ex 1) a x → GS .bl b [y] → G (.ex 1) d z → GS .st ([108, 111, 99, 97, 108] :: m :: [61] :: (a ++ (b ++ ([100, 101, 108, 111, 99, 97, 108] :: d)))) [.mk 54 0 m [x, y, z]]
 | upd {t : List UInt8} {a b : Txt} {x y : Nd} : G .pl a x → updKind t ≠ 0 → G (.ex 1) b y → GS .st (a ++ t :: b) [.mk (updKind t) 0 [] [x, y]]
 | swap {a b : Txt} {x y : Nd} : G .pl a x → G .pl b y → GS .st (a ++ [60, 61, 62] :: b) [.mk 43 0 [] [x, y]]
 | bl {a : Txt} {l : List Nd} : GS .ls a l → GS .bl ([123] :: (a ++ [[125]])) [.mk 57 0 [] l]
 | ls0 : GS .ls [] []
 | ls1 {a b : Txt} {x : Nd} {l : List Nd} : GS .st a [x] → GS .ls b l → GS .ls (a ++ [59] :: b) (x :: l)
theorem name_kw {m : List UInt8} (h : isName m = true) {t : List UInt8} (ht : keyword t = true) : m ≠ t := by
 rintro rfl; simp only [isName, Bool.and_eq_true, Bool.not_eq_true'] at h; rw [ht] at h
 cases h.2
theorem name_sign {m : List UInt8} (h : isName m = true) {t : List UInt8} (ht : isName t = false) : m ≠ t := by
 rintro rfl; rw [h] at ht; cases ht
section
variable {ts : List Tok} {n : Int}
theorem args_read (k : Nat) : ∀ (l acc0 : Txt) (acc : List Nd) (σ : PS) (rest : Txt), σ.at_ ≤ ts.length → σ.err = 0 → rem ts σ = argT l ++ rest → (∀ t ∈ rest.head?, t ≠ [44]) → (∀ v ∈ l, isName v = true) → acc.length + l.length ≤ 8 → l.length + 1 ≤ k →
 argsP ts n k acc σ = (acc ++ l.map varN, adv σ (2 * l.length)) := by
 induction k with
 | zero => intro l _ acc σ rest _ _ _ _ _ _ h; omega
 | succ k ih =>
  intro l acc0 acc σ rest hw he hr hc hl h8 hk; rw [argsP]
  cases l with
  | nil =>
   have hh : hasP ts σ [44] = false := by
    rw [has_rem hw he, hr]
    cases rest with
    | nil => rfl
    | cons t r => exact decide_eq_false (hc t rfl)
   rw [if_neg (by rw [hh]; decide)]
   simp [adv]
  | cons m l =>
   have hr1 : rem ts σ = [44] :: (m :: (argT l ++ rest)) := by rw [hr]; simp [argT]
   have hr2 := rem_cons hr1; have hm := hl m (by simp); rw [if_pos (by rw [has_cons hr1 he]; decide), if_neg (by simp only [List.length_cons] at h8; omega)]
   unfold argP
   rw [next_adv, name_cons hr2 he hm]; simp only; simp only [List.length_cons] at h8 hk; have hl2 := rem_lt hr2; rw [ih l [] _ (adv (adv σ 1) 1) rest hl2 he (rem_cons hr2) hc (fun v hv => hl v (by simp [hv])) (by simp only [List.length_append, List.length_cons, List.length_nil]; omega) (by omega), adv_adv, adv_adv]; refine Prod.ext ?_ (congrArg (adv σ) (by simp only [List.length_cons]; omega))
   simp [varN]
theorem GS.st_head {a : Txt} {l : List Nd} (h : GS .st a l) : ∃ t r, a = t :: r ∧ t ≠ [125] ∧ t ≠ [] := by
 cases h with
 | stack h => refine ⟨_, _, rfl, ?_⟩; simp only [stackKw, List.mem_cons, Prod.mk.injEq, List.not_mem_nil, or_false] at h; rcases h with ⟨rfl, -⟩ | ⟨rfl, -⟩ <;> decide
 | tape h => refine ⟨_, _, rfl, ?_⟩; simp only [tapeKw, List.mem_cons, Prod.mk.injEq, List.not_mem_nil, or_false] at h; rcases h with ⟨rfl, -⟩ | ⟨rfl, -⟩ | ⟨rfl, -⟩ | ⟨rfl, -⟩ <;> decide
 | call0 h => refine ⟨_, _, rfl, ?_⟩; simp only [callKw, List.mem_cons, Prod.mk.injEq, List.not_mem_nil, or_false] at h; rcases h with ⟨rfl, -⟩ | ⟨rfl, -⟩ <;> decide
 | call1 h => refine ⟨_, _, rfl, ?_⟩; simp only [callKw, List.mem_cons, Prod.mk.injEq, List.not_mem_nil, or_false] at h; rcases h with ⟨rfl, -⟩ | ⟨rfl, -⟩ <;> decide
 | branch h => refine ⟨_, _, rfl, ?_⟩; simp only [branchKw, List.mem_cons, Prod.mk.injEq, List.not_mem_nil, or_false] at h; rcases h with ⟨rfl, -⟩ | ⟨rfl, -⟩ <;> decide
 | lstack => exact ⟨_, _, rfl, by decide⟩
 | local_ => exact ⟨_, _, rfl, by decide⟩
 | upd h => obtain ⟨m, r, rfl, hm⟩ := h.pl_head; exact ⟨m, _, rfl, name_sign hm (by decide), isName_ne hm⟩
 | swap h => obtain ⟨m, r, rfl, hm⟩ := h.pl_head; exact ⟨m, _, rfl, name_sign hm (by decide), isName_ne hm⟩
theorem GS.bl_head {a : Txt} {l : List Nd} (h : GS .bl a l) : ∃ r, a = [123] :: r := by
 cases h with
 | bl _ => exact ⟨_, rfl⟩
def ReadsS (ts : List Tok) (n : Int) : NtS → Txt → List Nd → Prop
 | .st, a, l => ∀ (σ : PS) (k : Nat) (rest : Txt), σ.at_ ≤ ts.length → σ.err = 0 → rem ts σ = a ++ ([59] :: rest) → 4 * a.length + 6 ≤ k → ([(stmtP ts n k σ).1], (stmtP ts n k σ).2) = (l, adv σ a.length)
 | .bl, a, l => ∀ (σ : PS) (k : Nat) (rest : Txt), σ.at_ ≤ ts.length → σ.err = 0 → rem ts σ = a ++ rest → 4 * a.length + 4 ≤ k → ([(blockP ts n k σ).1], (blockP ts n k σ).2) = (l, adv σ a.length)
 | .ls, a, l => (∀ (σ : PS) (k : Nat) (acc : List Nd) (rest : Txt), σ.at_ ≤ ts.length → σ.err = 0 → rem ts σ = a ++ ([125] :: rest) → 4 * a.length + 7 ≤ k → stmtsP ts n k acc σ = (acc ++ l, adv σ (a.length + 1))) ∧
  (∀ (σ : PS) (k : Nat) (acc : List Nd), σ.at_ ≤ ts.length → σ.err = 0 → rem ts σ = a → 4 * a.length + 7 ≤ k → linesP ts n k acc σ = (acc ++ l, adv σ a.length))
theorem pair_one {x : Nd} {σ σ' : PS} {p : Nd × PS} (h : p = (x, σ')) : ([p.1], p.2) = ([x], σ') := by rw [h]
theorem one_pair {x : Nd} {σ' : PS} {p : Nd × PS} (h : ([p.1], p.2) = ([x], σ')) : p = (x, σ') := by
 simp only [Prod.mk.injEq, List.cons.injEq, and_true] at h
 exact Prod.ext h.1 h.2
theorem G.reads_ex (hd : DigitKinds ts) {lv : Int} {a : Txt} {x : Nd} (h : G (.ex lv) a x) {σ : PS} {k : Nat} {rest : Txt} (hw : σ.at_ ≤ ts.length) (he : σ.err = 0) (hr : rem ts σ = a ++ rest) (hs : StopL lv rest) (hb : NoBr rest) (hk : 4 * a.length + 4 ≤ k) : exprP ts n k lv σ = (x, adv σ a.length) := h.reads hd σ k rest hw he hr hs hb hk
theorem G.reads_pl (hd : DigitKinds ts) {a : Txt} {x : Nd} (h : G .pl a x) {σ : PS} {k : Nat} {rest : Txt} (hw : σ.at_ ≤ ts.length) (he : σ.err = 0) (hr : rem ts σ = a ++ rest) (hb : NoBr rest) (hk : 4 * a.length + 1 ≤ k) : placeP ts n k σ = (x, adv σ a.length) := h.reads hd σ k rest hw he hr hb hk
theorem upd_not {t : List UInt8} (h : updKind t ≠ 0) : t ≠ [91] ∧ t ≠ [60, 61, 62] ∧ binOf t = none := by
 unfold updKind at h
 by_cases h1 : t = [43, 61]
 · subst h1; decide
 by_cases h2 : t = [45, 61]
 · subst h2; decide
 by_cases h3 : t = [94, 61]
 · subst h3; decide
 by_cases h4 : t = [58, 61]
 · subst h4; decide
 simp [h1, h2, h3, h4] at h
theorem upd_peek {σ : PS} {m : List UInt8} {b : Txt} (hr : rem ts σ = m :: b) (he : σ.err = 0) (hm : isName m = true) (k : Nat) : stmtP ts n (k + 1) σ = updateP ts n k σ := by
 rw [stmtP, peek_cons hr he, if_neg (name_kw hm (by decide)), if_neg (name_kw hm (by decide)), if_neg (name_kw hm (by decide)), if_neg (name_kw hm (by decide)), if_neg (name_kw hm (by decide)), if_neg (name_kw hm (by decide)), if_neg (name_kw hm (by decide)), if_neg (name_kw hm (by decide)), if_neg (name_kw hm (by decide)), if_neg (name_kw hm (by decide)), if_neg (name_kw hm (by decide))]
end
end Bk
namespace Bk
open Go
section
variable {ts : List Tok} {n : Int}
theorem rem_lt1 {σ : PS} {t : List UInt8} {b : Txt} (h : rem ts σ = t :: b) : (adv σ 1).at_ ≤ ts.length := rem_lt h
theorem argT_len (l : Txt) : (argT l).length = 2 * l.length := by
 induction l with
 | nil => rfl
 | cons x r ih =>
  have e : argT (x :: r) = [44] :: x :: argT r := rfl; rw [e]
  simp only [List.length_cons, ih]; omega
theorem stmt_stack {σ : PS} {kw : List UInt8} {kd : Int} (h : (kw, kd) ∈ stackKw) (hp : (peekP ts σ).text = kw) (k : Nat) : stmtP ts n (k + 1) σ = stackP ts n k kd σ := by
 simp only [stackKw, List.mem_cons, Prod.mk.injEq, List.not_mem_nil, or_false] at h
 rcases h with ⟨rfl, rfl⟩ | ⟨rfl, rfl⟩
 · rw [stmtP, hp, if_pos rfl]
 · rw [stmtP, hp, if_neg (by decide), if_pos rfl]
theorem stmt_tape {σ : PS} {kw : List UInt8} {kd : Int} (h : (kw, kd) ∈ tapeKw) (hp : (peekP ts σ).text = kw) (k : Nat) : stmtP ts n (k + 1) σ = tapeP ts n k kd σ := by
 simp only [tapeKw, List.mem_cons, Prod.mk.injEq, List.not_mem_nil, or_false] at h
 rcases h with ⟨rfl, rfl⟩ | ⟨rfl, rfl⟩ | ⟨rfl, rfl⟩ | ⟨rfl, rfl⟩
 · rw [stmtP, hp, if_neg (by decide), if_neg (by decide), if_pos rfl]
 · rw [stmtP, hp, if_neg (by decide), if_neg (by decide), if_neg (by decide), if_pos rfl]
 · rw [stmtP, hp, if_neg (by decide), if_neg (by decide), if_neg (by decide), if_neg (by decide), if_pos rfl]
 · rw [stmtP, hp, if_neg (by decide), if_neg (by decide), if_neg (by decide), if_neg (by decide), if_neg (by decide), if_pos rfl]
theorem stmt_call {σ : PS} {kw : List UInt8} {kd : Int} (h : (kw, kd) ∈ callKw) (hp : (peekP ts σ).text = kw) (k : Nat) : stmtP ts n (k + 1) σ = callP ts n k kd σ := by
 simp only [callKw, List.mem_cons, Prod.mk.injEq, List.not_mem_nil, or_false] at h
 rcases h with ⟨rfl, rfl⟩ | ⟨rfl, rfl⟩
 · rw [stmtP, hp, if_neg (by decide), if_neg (by decide), if_neg (by decide), if_neg (by decide), if_neg (by decide), if_neg (by decide), if_pos rfl]
 · rw [stmtP, hp, if_neg (by decide), if_neg (by decide), if_neg (by decide), if_neg (by decide), if_neg (by decide), if_neg (by decide), if_neg (by decide), if_pos rfl]
theorem stmt_branch {σ : PS} {kw mid last : List UInt8} {kd : Int} (h : (kw, kd, mid, last) ∈ branchKw) (hp : (peekP ts σ).text = kw) (k : Nat) : stmtP ts n (k + 1) σ = branchesP ts n k kd mid last σ := by
 simp only [branchKw, List.mem_cons, Prod.mk.injEq, List.not_mem_nil, or_false] at h
 rcases h with ⟨rfl, rfl, rfl, rfl⟩ | ⟨rfl, rfl, rfl, rfl⟩
 · rw [stmtP, hp, if_neg (by decide), if_neg (by decide), if_neg (by decide), if_neg (by decide), if_neg (by decide), if_neg (by decide), if_neg (by decide), if_neg (by decide), if_pos rfl]
 · rw [stmtP, hp, if_neg (by decide), if_neg (by decide), if_neg (by decide), if_neg (by decide), if_neg (by decide), if_neg (by decide), if_neg (by decide), if_neg (by decide), if_neg (by decide), if_pos rfl]
theorem stmt_local {σ : PS} (hp : (peekP ts σ).text = [108, 111, 99, 97, 108]) (k : Nat) : stmtP ts n (k + 1) σ = localP ts n k σ := by
 rw [stmtP, hp, if_neg (by decide), if_neg (by decide), if_neg (by decide), if_neg (by decide), if_neg (by decide), if_neg (by decide), if_neg (by decide), if_neg (by decide), if_neg (by decide), if_neg (by decide), if_pos rfl]
theorem GS.reads (hd : DigitKinds ts) {nt : NtS} {a : Txt} {l : List Nd} (h : GS nt a l) : ReadsS ts n nt a l := by
 induction h with
 | @stack kw m kd a x h1 h2 h3 =>
  intro σ k rest hw he hr hk; simp only [List.length_cons, List.length_append, List.length_nil] at hk ⊢; obtain ⟨k, rfl⟩ : ∃ j, k = j + 1 := ⟨k - 1, by omega⟩
  have hr1 : rem ts σ = kw :: (a ++ ([44] :: m :: ([59] :: rest))) := by rw [hr]; simp
  have hr2 := rem_cons hr1; have hr3 := rem_adv hr2; have hr4 := rem_cons hr3; refine pair_one (σ := σ) ?_; rw [stmt_stack h1 (peek_cons hr1 he)]
  unfold stackP
  simp only; rw [next_adv, h2.reads_pl hd (rem_lt1 hr1) he hr2 (nobr_lit (by decide)) (by omega)]; simp only; rw [expect_cons hr3 he, name_cons hr4 he h3]; simp only [adv_adv]
  exact Prod.ext rfl (congrArg (adv σ) (by omega))
 | @tape kw kd a x h1 h2 =>
  intro σ k rest hw he hr hk; simp only [List.length_cons] at hk ⊢; obtain ⟨k, rfl⟩ : ∃ j, k = j + 1 := ⟨k - 1, by omega⟩; have hr1 : rem ts σ = kw :: (a ++ ([59] :: rest)) := hr; have hr2 := rem_cons hr1; refine pair_one (σ := σ) ?_; rw [stmt_tape h1 (peek_cons hr1 he)]
  unfold tapeP
  rw [next_adv, h2.reads_pl hd (rem_lt1 hr1) he hr2 (nobr_lit (by decide)) (by omega)]; simp only [adv_adv]
  exact Prod.ext rfl (congrArg (adv σ) (by omega))
 | @call0 kw m kd h1 h2 =>
  intro σ k rest hw he hr hk; simp only [List.length_cons, List.length_nil] at hk ⊢; obtain ⟨k, rfl⟩ : ∃ j, k = j + 1 := ⟨k - 1, by omega⟩; have hr1 : rem ts σ = kw :: (m :: ([40] :: ([41] :: ([59] :: rest)))) := hr; have hr2 := rem_cons hr1; have hr3 := rem_cons hr2; have hr4 := rem_cons hr3; refine pair_one (σ := σ) ?_; rw [stmt_call h1 (peek_cons hr1 he)]
  unfold callP
  simp only; rw [next_adv, name_cons hr2 he h2]; simp only; rw [expect_cons hr3 he, has_cons hr4 he, if_pos (by decide)]; simp only [next_adv, adv_adv]
 | @call1 kw m u kd l h1 h2 h3 h4 h5 =>
  intro σ k rest hw he hr hk; have hla := argT_len l; simp only [List.length_cons, List.length_append, List.length_nil] at hk ⊢; obtain ⟨k, rfl⟩ : ∃ j, k = j + 1 := ⟨k - 1, by omega⟩
  have hr1 : rem ts σ = kw :: (m :: ([40] :: (u :: (argT l ++ ([41] :: ([59] :: rest)))))) := by rw [hr]; simp
  have hr2 := rem_cons hr1; have hr3 := rem_cons hr2; have hr4 := rem_cons hr3; have hr5 := rem_cons hr4; have hr6 := rem_adv hr5; refine pair_one (σ := σ) ?_; rw [stmt_call h1 (peek_cons hr1 he)]
  unfold callP argP
  simp only; rw [next_adv, name_cons hr2 he h2]; simp only; rw [expect_cons hr3 he, has_cons hr4 he, if_neg (by simpa using name_sign h3 (by decide)), name_cons hr4 he h3]; simp only; rw [args_read k l [] _ _ _ (rem_lt1 hr4) he hr5 (by simp) h4 (by simp only [List.length_cons, List.length_nil]; omega) (by omega)]; simp only; rw [hla] at hr6; rw [expect_cons hr6 he]; simp only [adv_adv]
  exact Prod.ext (by simp [varN]) (congrArg (adv σ) (by omega))
 | @branch kw mid last kd a b c d x y z u h1 h2 h3 h4 h5 i3 i4 =>
  intro σ k rest hw he hr hk; simp only [List.length_cons, List.length_append] at hk ⊢; obtain ⟨k, rfl⟩ : ∃ j, k = j + 2 := ⟨k - 2, by omega⟩
  have hr1 : rem ts σ = kw :: (a ++ (b ++ (mid :: (c ++ (last :: (d ++ ([59] :: rest))))))) := by rw [hr]; simp
  have hr2 := rem_cons hr1; have hr3 := rem_adv hr2; have hr4 := rem_adv hr3; have hr5 := rem_cons hr4; have hr6 := rem_adv hr5; have hr7 := rem_cons hr6; obtain ⟨b', hb'⟩ := h3.bl_head; have w2 := rem_lt1 hr1; have w3 := rem_wf w2 hr2; have w5 := rem_lt1 hr4; have w7 := rem_lt1 hr6; refine pair_one (σ := σ) ?_; rw [stmt_branch h1 (peek_cons hr1 he), branchesP]; (try simp only); rw [next_adv, h2.reads_ex hd w2 he hr2 (by rw [hb']; exact stop_lit (by decide)) (by rw [hb']; exact nobr_lit (by decide)) (by omega)]; simp only; rw [one_pair (i3 (adv (adv σ 1) a.length) k _ w3 he hr3 (by omega))]; simp only; rw [expect_cons hr4 he, one_pair (i4 _ k _ w5 he hr5 (by omega))]; simp only; rw [expect_cons hr6 he, h5.reads_ex hd w7 he hr7 (stop_lit (by decide)) (nobr_lit (by decide)) (by omega)]; simp only [adv_adv]
  exact Prod.ext rfl (congrArg (adv σ) (by omega))
 | @lstack m b x h1 h2 i2 =>
  intro σ k rest hw he hr hk; simp only [List.length_cons] at hk ⊢; obtain ⟨k, rfl⟩ : ∃ j, k = j + 2 := ⟨k - 2, by omega⟩; have hr1 : rem ts σ = [108, 111, 99, 97, 108] :: ([115, 116, 97, 99, 107] :: (m :: (b ++ ([59] :: rest)))) := hr; have hr2 := rem_cons hr1; have hr3 := rem_cons hr2; have hr4 := rem_cons hr3; refine pair_one (σ := σ) ?_; rw [stmt_local (peek_cons hr1 he), localP]; simp only; rw [next_adv, if_pos (by rw [has_cons hr2 he]; decide), next_adv, name_cons hr3 he h1]; simp only; rw [one_pair (i2 (adv (adv (adv σ 1) 1) 1) k _ (rem_lt1 hr3) he hr4 (by omega))]; simp only [adv_adv]
  exact Prod.ext rfl (congrArg (adv σ) (by omega))
 | @local_ m a b d x y z h1 h2 h3 h4 i3 =>
  intro σ k rest hw he hr hk; simp only [List.length_cons, List.length_append] at hk ⊢; obtain ⟨k, rfl⟩ : ∃ j, k = j + 2 := ⟨k - 2, by omega⟩
  have hr1 : rem ts σ = [108, 111, 99, 97, 108] :: (m :: ([61] :: (a ++ (b ++ ([100, 101, 108, 111, 99, 97, 108] :: (d ++ ([59] :: rest))))))) := by rw [hr]; simp
  have hr2 := rem_cons hr1; have hr3 := rem_cons hr2; have hr4 := rem_cons hr3; have hr5 := rem_adv hr4; have hr6 := rem_adv hr5; have hr7 := rem_cons hr6; obtain ⟨b', hb'⟩ := h3.bl_head; have w4 := rem_lt1 hr3; have w5 := rem_wf w4 hr4; have w7 := rem_lt1 hr6; refine pair_one (σ := σ) ?_; rw [stmt_local (peek_cons hr1 he), localP]; simp only; rw [next_adv, if_neg (by rw [has_cons hr2 he]; simpa using name_kw h1 (by decide)), name_cons hr2 he h1]; simp only; rw [expect_cons hr3 he, h2.reads_ex hd w4 he hr4 (by rw [hb']; exact stop_lit (by decide)) (by rw [hb']; exact nobr_lit (by decide)) (by omega)]; simp only; rw [one_pair (i3 _ k _ w5 he hr5 (by omega))]; simp only; rw [expect_cons hr6 he, h4.reads_ex hd w7 he hr7 (stop_lit (by decide)) (nobr_lit (by decide)) (by omega)]; simp only [adv_adv]
  exact Prod.ext rfl (congrArg (adv σ) (by omega))
 | @upd t a b x y h1 h2 h3 =>
  intro σ k rest hw he hr hk; simp only [List.length_cons, List.length_append] at hk ⊢; obtain ⟨k, rfl⟩ : ∃ j, k = j + 1 := ⟨k - 1, by omega⟩; obtain ⟨n1, n2, n3⟩ := upd_not h2
  have hr1 : rem ts σ = a ++ (t :: (b ++ ([59] :: rest))) := by rw [hr]; simp
  have hr2 := rem_adv hr1; have hr3 := rem_cons hr2; obtain ⟨m, r, rfl, hm⟩ := h1.pl_head; refine pair_one (σ := σ) ?_; rw [upd_peek hr1 he hm]
  unfold updateP
  simp only; rw [h1.reads_pl hd hw he hr1 (nobr_lit n1) (by omega)]; simp only; rw [if_neg (by rw [has_cons hr2 he]; simpa using n2), peek_cons hr2 he, if_neg h2, next_adv, h3.reads_ex hd (rem_lt1 hr2) he hr3 (stop_lit (by decide)) (nobr_lit (by decide)) (by omega)]; simp only [adv_adv]
  exact Prod.ext rfl (congrArg (adv σ) (by omega))
 | @swap a b x y h1 h2 =>
  intro σ k rest hw he hr hk; simp only [List.length_cons, List.length_append] at hk ⊢; obtain ⟨k, rfl⟩ : ∃ j, k = j + 1 := ⟨k - 1, by omega⟩
  have hr1 : rem ts σ = a ++ ([60, 61, 62] :: (b ++ ([59] :: rest))) := by rw [hr]; simp
  have hr2 := rem_adv hr1; have hr3 := rem_cons hr2; obtain ⟨m, r, rfl, hm⟩ := h1.pl_head; refine pair_one (σ := σ) ?_; rw [upd_peek hr1 he hm]
  unfold updateP
  simp only; rw [h1.reads_pl hd hw he hr1 (nobr_lit (by decide)) (by omega)]; simp only; rw [if_pos (by rw [has_cons hr2 he]; decide), next_adv, h2.reads_pl hd (rem_lt1 hr2) he hr3 (nobr_lit (by decide)) (by omega)]; simp only [adv_adv]
  exact Prod.ext rfl (congrArg (adv σ) (by omega))
 | @bl a l h1 i1 =>
  intro σ k rest hw he hr hk; simp only [List.length_cons, List.length_append, List.length_nil] at hk ⊢; obtain ⟨k, rfl⟩ : ∃ j, k = j + 1 := ⟨k - 1, by omega⟩
  have hr1 : rem ts σ = [123] :: (a ++ ([125] :: rest)) := by rw [hr]; simp
  have hr2 := rem_cons hr1; refine pair_one (σ := σ) ?_; rw [blockP]; (try simp only); rw [expect_cons hr1 he, i1.1 (adv σ 1) k [] rest (rem_lt1 hr1) he hr2 (by omega)]; simp only [List.nil_append, adv_adv]
  exact Prod.ext rfl (congrArg (adv σ) (by omega))
 | ls0 =>
  refine ⟨fun σ k acc rest hw he hr hk => ?_, fun σ k acc hw he hr hk => ?_⟩
  · obtain ⟨k, rfl⟩ : ∃ j, k = j + 1 := ⟨k - 1, by omega⟩
    have hr1 : rem ts σ = [125] :: rest := hr; rw [stmtsP, if_neg (fun h => h he), has_cons hr1 he, if_pos (by decide)]
    simp [next_adv]
  · obtain ⟨k, rfl⟩ : ∃ j, k = j + 1 := ⟨k - 1, by omega⟩
    have := rem_len (ts := ts) σ; rw [hr] at this; rw [linesP, if_neg (fun h => by simp at this; omega)]
    simp [adv]
 | @ls1 a b x l h1 h2 i1 i2 =>
  obtain ⟨t, r, rfl, ht, -⟩ := h1.st_head; refine ⟨fun σ k acc rest hw he hr hk => ?_, fun σ k acc hw he hr hk => ?_⟩
  · simp only [List.length_append, List.length_cons] at hk ⊢
    obtain ⟨k, rfl⟩ : ∃ j, k = j + 1 := ⟨k - 1, by omega⟩
    have hr1 : rem ts σ = (t :: r) ++ ([59] :: (b ++ ([125] :: rest))) := by rw [hr]; simp
    have hr2 := rem_adv hr1; have hr3 := rem_cons hr2; rw [stmtsP, if_neg (fun h => h he), has_cons hr1 he, if_neg (by simpa using ht), one_pair (i1 σ k _ hw he hr1 (by simp only [List.length_cons]; omega))]; simp only; rw [expect_cons hr2 he, i2.1 _ k _ rest (rem_lt1 hr2) he hr3 (by omega)]; simp only [adv_adv, List.length_cons]
    exact Prod.ext (by simp) (congrArg (adv σ) (by omega))
  · simp only [List.length_append, List.length_cons] at hk ⊢
    obtain ⟨k, rfl⟩ : ∃ j, k = j + 1 := ⟨k - 1, by omega⟩; have hr1 : rem ts σ = (t :: r) ++ ([59] :: b) := hr; have hr2 := rem_adv hr1; have hr3 := rem_cons hr2; rw [linesP, if_pos ⟨he, rem_lt hr1⟩, one_pair (i1 σ k _ hw he hr1 (by simp only [List.length_cons]; omega))]; simp only; rw [expect_cons hr2 he, i2.2 _ k _ (rem_lt1 hr2) he hr3 (by omega)]; simp only [adv_adv, List.length_cons]
    exact Prod.ext (by simp) (congrArg (adv σ) (by omega))
end
end Bk
namespace Bk
open Go
def bpcs (L : List Pc) (d : Nat) : List Pc := .sp [32] :: .tk [123] :: .sp [10] :: (L ++ [.sp (tabT d), .tk [125]])
def argPcs : List (List UInt8) → List Pc
 | [] => []
 | m :: r => .tk [44] :: .sp [32] :: .tk m :: argPcs r
def callPcs : List Nd → List Pc
 | [] => []
 | x :: r => .tk x.name :: argPcs (r.map Nd.name)
def kwT (k : Int) : List UInt8 :=
 if k = 44 then [112, 117, 115, 104] else if k = 45 then [112, 111, 112] else if k = 46 then [114, 101, 97, 100] else if k = 47 then [117, 110, 114, 101, 97, 100] else if k = 48 then [119, 114, 105, 116, 101] else if k = 49 then [117, 110, 119, 114, 105, 116, 101]
 else if k = 50 then [99, 97, 108, 108] else if k = 51 then [117, 110, 99, 97, 108, 108] else if k = 52 then [105, 102] else if k = 53 then [102, 114, 111, 109] else [108, 111, 99, 97, 108]
def midT (k : Int) : List UInt8 := if k = 52 then [101, 108, 115, 101] else [108, 111, 111, 112]
def lastT (k : Int) : List UInt8 := if k = 52 then [102, 105] else [117, 110, 116, 105, 108]
mutual
def Nd.spcs : Nd → Nat → List Pc
 | .mk k _ s l, d =>
  if k = 40 ∨ k = 41 ∨ k = 42 ∨ k = 56 ∨ k = 43 then match l with | [x, y] => x.pcs ++ (.sp [32] :: .tk (updSign k) :: .sp [32] :: y.pcs) | _ => []
  else if k = 44 ∨ k = 45 then match l with | [x] => .tk (kwT k) :: .sp [32] :: (x.pcs ++ [.tk [44], .sp [32], .tk s]) | _ => []
  else if 46 ≤ k ∧ k ≤ 49 then match l with | [x] => .tk (kwT k) :: .sp [32] :: x.pcs | _ => []
  else if k = 50 ∨ k = 51 then .tk (kwT k) :: .sp [32] :: .tk s :: .tk [40] :: (callPcs l ++ [.tk [41]])
  else if k = 52 ∨ k = 53 then match l with | [x, y, z, u] => .tk (kwT k) :: .sp [32] :: (x.pcs ++ (bpcs (y.lpcs (d + 1)) d ++ (.sp [32] :: .tk (midT k) :: (bpcs (z.lpcs (d + 1)) d ++ (.sp [32] :: .tk (lastT k) :: .sp [32] :: u.pcs))))) | _ => []
  else if k = 54 then match l with | [x, y, z] => .tk [108, 111, 99, 97, 108] :: .sp [32] :: .tk s :: .sp [32] :: .tk [61] :: .sp [32] :: (x.pcs ++ (bpcs (y.lpcs (d + 1)) d ++ (.sp [32] :: .tk [100, 101, 108, 111, 99, 97, 108] :: .sp [32] :: z.pcs))) | _ => []
  else if k = 55 then match l with | [x] => .tk [108, 111, 99, 97, 108] :: .sp [32] :: .tk [115, 116, 97, 99, 107] :: .sp [32] :: .tk s :: bpcs (x.lpcs (d + 1)) d | _ => []
  else []
def Nd.lpcs : Nd → Nat → List Pc
 | .mk _ _ _ l, d => rowPcs l d
def rowPcs : List Nd → Nat → List Pc
 | [], _ => []
 | t :: r, d => .sp (tabT d) :: (t.spcs d ++ (.tk [59] :: .sp [10] :: rowPcs r d))
end
theorem wf_sp {p : Option (List UInt8)} {s : List UInt8} {r : List Pc} (hs : ∀ c ∈ s, blank c = true) (hne : s ≠ []) (h : wf none r) : wf p (.sp s :: r) := by
 refine ⟨hs, ?_⟩
 cases s with
 | nil => exact absurd rfl hne
 | cons c s => exact h
theorem wf_sp1 {p : Option (List UInt8)} {r : List Pc} (h : wf none r) : wf p (.sp [32] :: r) := wf_sp (by decide) (by decide) h
theorem end_sp1 {p : Option (List UInt8)} {r : List Pc} : endOf p (.sp [32] :: r) = endOf none r := rfl
theorem wf_tk0 {t : List UInt8} {r : List Pc} (ht : TokT t) (h : wf (some t) r) : wf none (.tk t :: r) := ⟨ht, fun u hu => (by cases hu), h⟩
theorem wf_tk1 {t0 t : List UInt8} {r : List Pc} (ht : TokT t) (ha : ∀ c ∈ t.head?, Adj t0 c) (h : wf (some t) r) : wf (some t0) (.tk t :: r) := ⟨ht, fun u hu => by
 have : t0 = u := by simpa using hu
 rw [← this]; exact ha, h⟩
theorem tab_blank (d : Nat) : ∀ c ∈ tabT d, blank c = true := fun c hc => by
 have : c = 9 := (List.mem_replicate.1 hc).2
 subst this; decide
theorem wf_tabs {d : Nat} {r : List Pc} (h : wf none r) : wf none (.sp (tabT d) :: r) := by
 refine ⟨tab_blank d, ?_⟩
 split <;> exact h
theorem end_tabs {d : Nat} {r : List Pc} : endOf none (.sp (tabT d) :: r) = endOf none r := by
 simp only [endOf]
 split <;> rfl
structure NiceL (L : List Pc) : Prop where
 wf : wf none L
 fin : endOf none L = none
theorem NiceL.wf_b {L : List Pc} (h : NiceL L) (d : Nat) {r : List Pc} (hr : Bk.wf (some [125]) r) (p : Option (List UInt8)) : Bk.wf p (bpcs L d ++ r) := by
 have ho : TokT [123] := tokT_lit (by decide); have hc : TokT [125] := tokT_lit (by decide)
 unfold bpcs
 simp only [List.cons_append, List.append_assoc]; refine wf_sp1 (wf_tk0 ho (wf_sp (by decide) (by decide) ?_)); rw [wf_append, h.fin]
 exact ⟨h.wf, wf_tabs (wf_tk0 hc hr)⟩
theorem NiceL.end_b {L : List Pc} (h : NiceL L) (d : Nat) (r : List Pc) (p : Option (List UInt8)) : endOf p (bpcs L d ++ r) = endOf (some [125]) r := by
 unfold bpcs
 simp only [List.cons_append, List.append_assoc]; rw [end_sp1]; simp only [endOf]
 show endOf none (L ++ _) = _
 rw [endOf_append, h.fin]; simp only [List.cons_append, List.nil_append]; rw [end_tabs]
 rfl
theorem flat_b (L : List Pc) (d : Nat) : flat (bpcs L d) = [32, 123, 10] ++ flat L ++ tabT d ++ [125] := by
 unfold bpcs
 simp only [flat, flat_append]
 simp
theorem toks_b (L : List Pc) (d : Nat) : toks (bpcs L d) = [123] :: (toks L ++ [[125]]) := by
 unfold bpcs
 simp only [toks, toks_append]
structure NiceS (L : List Pc) : Prop where
 wf : wf none L
 fin : ∃ t, endOf none L = some t ∧ CloseT t
theorem Nice.then_ {L r : List Pc} {p : Option (List UInt8)} (h : Nice L) (hp : OpenP p) (hr : ∀ t, CloseT t → Bk.wf (some t) r) : Bk.wf p (L ++ r) := by
 rw [wf_append]; obtain ⟨t, e, ct⟩ := h.fin p; rw [e]
 exact ⟨h.wf p hp, hr t ct⟩
theorem Nice.end_ {L r : List Pc} {p : Option (List UInt8)} (h : Nice L) {q : Option (List UInt8)} (hr : ∀ t, endOf (some t) r = q) : endOf p (L ++ r) = q := by
 rw [endOf_append]; obtain ⟨t, e, ct⟩ := h.fin p
 rw [e]; exact hr t
theorem comma_adj {t : List UInt8} (h : CloseT t) : ∀ c ∈ ([44] : List UInt8).head?, Adj t c := fun c hc => by
 have : c = 44 := by simpa using hc.symm
 subst this; exact h.2.2.2
theorem close_adj {t : List UInt8} (h : CloseT t) : ∀ c ∈ ([41] : List UInt8).head?, Adj t c := fun c hc => by
 have : c = 41 := by simpa using hc.symm
 subst this; exact h.1
theorem open_adj {t : List UInt8} (h : (firstTok t).1 = 1) : ∀ c ∈ ([40] : List UInt8).head?, Adj t c := fun c hc => by
 have : c = 40 := by simpa using hc.symm
 subst this
 exact ⟨fun _ => (by decide), fun e => (by rw [h] at e; cases e), fun e => (by rw [h] at e; cases e)⟩
theorem kw_tok (k : Int) : TokT (kwT k) ∧ (firstTok (kwT k)).1 = 1 := by
 unfold kwT
 repeat' split
 all_goals exact ⟨tokT_lit (by decide), by decide⟩
theorem mid_tok (k : Int) : TokT (midT k) := by unfold midT; split <;> exact tokT_lit (by decide)
theorem last_tok (k : Int) : TokT (lastT k) := by unfold lastT; split <;> exact tokT_lit (by decide)
theorem upd_tok {k : Int} (h : k = 40 ∨ k = 41 ∨ k = 42 ∨ k = 56 ∨ k = 43) : TokT (updSign k) := by
 rcases h with rfl | rfl | rfl | rfl | rfl <;> exact tokT_lit (by decide)
theorem isVar_of {x : Nd} (h : x.isVar = true) : x = varN x.name ∧ isName x.name = true ∧ x.text = x.name := by
 obtain ⟨k, n, s, l⟩ := x; simp only [Nd.isVar, Nd.kind, Bool.and_eq_true, beq_iff_eq] at h; obtain ⟨rfl, h⟩ := h
 unfold Nd.isExpr at h
 rw [if_neg (by decide), if_pos (by decide)] at h; simp only [Bool.and_eq_true, named, beq_iff_eq, List.isEmpty_iff] at h; obtain ⟨⟨rfl, hn⟩, rfl⟩ := h; refine ⟨rfl, hn, ?_⟩
 unfold Nd.text
 rw [if_neg (by decide), if_pos rfl]; rfl
theorem args_flat : ∀ r : List Nd, (∀ x ∈ r, x.isVar = true) → flat (argPcs (r.map Nd.name)) = argsT false r
 | [], _ => rfl
 | x :: r, h => by
  have hx := isVar_of (h x (by simp)); simp only [List.map_cons, argPcs, flat, argsT, args_flat r (fun y hy => h y (by simp [hy])), hx.2.2]
  simp
theorem args_toks : ∀ ms : List (List UInt8), toks (argPcs ms) = argT ms
 | [] => rfl
 | m :: r => by
  simp only [argPcs, toks, args_toks r]
  rfl
theorem args_wf : ∀ (ms : List (List UInt8)) (m0 : List UInt8) (r : List Pc), (firstTok m0).1 = 1 → (∀ m ∈ ms, isName m = true) → (∀ m, (firstTok m).1 = 1 → wf (some m) r) → wf (some m0) (argPcs ms ++ r)
 | [], m0, r, h0, _, hr => hr m0 h0
 | m :: ms, m0, r, h0, hm, hr => by
  have hn := tokT_name (hm m (by simp)); simp only [argPcs, List.cons_append]
  exact wf_tk1 (tokT_lit (by decide)) (comma_adj (closeT_name h0)) (wf_sp1 (wf_tk0 hn.1 (args_wf ms m r hn.2 (fun x hx => hm x (by simp [hx])) hr)))
theorem args_end : ∀ (ms : List (List UInt8)) (m0 : List UInt8) (u : List UInt8), endOf (some m0) (argPcs ms ++ [.tk u]) = some u
 | [], m0, u => rfl
 | m :: ms, m0, u => by
  simp only [argPcs, List.cons_append, endOf]
  exact args_end ms m u
end Bk
namespace Bk
open Go
theorem place_expr {x : Nd} (h : x.isPlace = true) : x.isExpr = true := by
 simp only [Nd.isPlace, Bool.and_eq_true] at h; exact h.2
theorem pc_nice {x : Nd} (h : x.isExpr = true) : Nice x.pcs := pcs_nice (x.size + 1) x (by omega) h
theorem pc_flat {x : Nd} (h : x.isExpr = true) : flat x.pcs = x.text := flat_pcs (x.size + 1) x (by omega) h
theorem pc_ex {x : Nd} (h : x.isExpr = true) (hw : x.wf) : G (.ex 1) (toks x.pcs) x := (pcs_said (x.size + 1) x (by omega) h hw).ex (fun hb => bin_level hb)
theorem pc_pl {x : Nd} (h : x.isPlace = true) (hw : x.wf) : G .pl (toks x.pcs) x := (pcs_said (x.size + 1) x (by omega) (place_expr h) hw).pl h
structure SaidS (t : Nd) (d : Nat) : Prop where
 flat : flat (t.spcs d) = t.stmtT d
 nice : NiceS (t.spcs d)
 gs : GS .st (toks (t.spcs d)) [t]
structure SaidL (t : Nd) (d : Nat) : Prop where
 flat : flat (t.lpcs d) = t.linesT d
 nice : NiceL (t.lpcs d)
 gs : GS .ls (toks (t.lpcs d)) t.kids
theorem saidS_mk {t : Nd} {d : Nat} {A : List Pc} {B : List UInt8} (e : t.spcs d = A) (et : t.stmtT d = B) (h : Bk.flat A = B ∧ NiceS A ∧ GS .st (toks A) [t]) : SaidS t d := by
 subst e et
 exact ⟨h.1, h.2.1, h.2.2⟩
theorem rows_said (d : Nat) : ∀ l : List Nd, (∀ t ∈ l, SaidS t d) → flat (rowPcs l d) = rowLines l d ∧ NiceL (rowPcs l d) ∧ GS .ls (toks (rowPcs l d)) l
 | [], _ => ⟨by simp [rowPcs, rowLines, flat], ⟨by simp [rowPcs, wf], by simp [rowPcs, endOf]⟩, by simp only [rowPcs, toks]; exact GS.ls0⟩
 | t :: r, h => by
  obtain ⟨h1, h2, h3⟩ := rows_said d r (fun x hx => h x (by simp [hx])); have ht := h t (by simp); obtain ⟨u, e, cu⟩ := ht.nice.fin
  have hsemi : ∀ c ∈ ([59] : List UInt8).head?, Adj u c := fun c hc => by
   have : c = 59 := by simpa using hc.symm
   subst this; exact cu.2.2.1
  refine ⟨?_, ⟨?_, ?_⟩, ?_⟩
  · simp only [rowPcs, rowLines, flat, flat_append, ht.flat, h1]
    simp
  · simp only [rowPcs]
    refine wf_tabs ?_; rw [wf_append, e]
    exact ⟨ht.nice.wf, wf_tk1 (tokT_lit (by decide)) hsemi (wf_sp (by decide) (by decide) h2.wf)⟩
  · simp only [rowPcs]
    rw [end_tabs, endOf_append, e]; simp only [endOf]
    exact h2.fin
  · simp only [rowPcs, toks, toks_append]
    exact GS.ls1 ht.gs h3
theorem SaidL.bl {y : Nd} {d : Nat} (h : SaidL y d) (hb : y.isBlock = true) (e : Nat) : GS .bl (toks (bpcs (y.lpcs d) e)) [y] := by
 rw [toks_b]; have := GS.bl h.gs; obtain ⟨k, n, s, l⟩ := y
 unfold Nd.isBlock at hb
 simp only [Bool.and_eq_true, plain, beq_iff_eq, List.isEmpty_iff] at hb; obtain ⟨⟨rfl, rfl, rfl⟩, -⟩ := hb
 exact this
theorem upd_kind {k : Int} (h : k = 40 ∨ k = 41 ∨ k = 42 ∨ k = 56) : updKind (updSign k) = k := by
 rcases h with rfl | rfl | rfl | rfl <;> decide
theorem rowWf_mem : ∀ {l : List Nd}, rowWf l → ∀ x ∈ l, x.wf
 | [], _, x, hx => by cases hx
 | t :: r, h, x, hx => by
  rcases List.mem_cons.1 hx with rfl | hx
  · exact h.1
  · exact rowWf_mem h.2 x hx
theorem rowSize_mem : ∀ {l : List Nd} {x : Nd}, x ∈ l → x.size ≤ rowSize l
 | [], x, hx => by cases hx
 | t :: r, x, hx => by
  simp only [rowSize]
  rcases List.mem_cons.1 hx with rfl | hx
  · omega
  · have := rowSize_mem hx; omega
theorem rowStmt_mem : ∀ {l : List Nd}, rowStmt l = true → ∀ x ∈ l, x.isStmt = true
 | [], _, x, hx => by cases hx
 | t :: r, h, x, hx => by
  simp only [rowStmt, Bool.and_eq_true] at h
  rcases List.mem_cons.1 hx with rfl | hx
  · exact h.1
  · exact rowStmt_mem h.2 x hx
theorem stmts_said (N : Nat) : (∀ (t : Nd) (d : Nat), t.size < N → t.isStmt = true → t.wf → SaidS t d) ∧ (∀ (t : Nd) (d : Nat), t.size < N → t.isBlock = true → t.wf → SaidL t d) := by
 induction N with
 | zero => exact ⟨fun t d h => by omega, fun t d h => by omega⟩
 | succ N ih =>
  obtain ⟨iS, iB⟩ := ih
  constructor
  · intro t d hs he hw
    obtain ⟨k, n, s, l⟩ := t; simp only [Nd.size] at hs; have hwl := hw.2.2.2.2.2.2
    unfold Nd.isStmt at he
    by_cases c1 : k = 40 ∨ k = 41 ∨ k = 42 ∨ k = 56
    · rw [if_pos c1] at he
      simp only [Bool.and_eq_true, plain, beq_iff_eq, List.isEmpty_iff] at he; obtain ⟨⟨rfl, rfl⟩, hx⟩ := he
      split at hx
      · rename_i x y
        simp only [Bool.and_eq_true] at hx
        have c1' : k = 40 ∨ k = 41 ∨ k = 42 ∨ k = 56 ∨ k = 43 := by omega
        have e : (Nd.mk k 0 [] [x, y]).spcs d = x.pcs ++ (.sp [32] :: .tk (updSign k) :: .sp [32] :: y.pcs) := by
         conv => lhs; unfold Nd.spcs
         rw [if_pos c1']
        have et : (Nd.mk k 0 [] [x, y]).stmtT d = x.text ++ [32] ++ updSign k ++ [32] ++ y.text := by
         conv => lhs; unfold Nd.stmtT
         rw [if_pos c1']
        have nx := pc_nice (place_expr hx.1); have ny := pc_nice hx.2; refine ⟨?_, ⟨?_, ?_⟩, ?_⟩
        · rw [e, et]
          simp only [flat_append, flat, pc_flat (place_expr hx.1), pc_flat hx.2]
          simp
        · rw [e]
          exact nx.then_ openP_none (fun t ct => wf_sp1 (wf_tk0 (upd_tok c1') (wf_sp1 (ny.wf none openP_none))))
        · rw [e]
          obtain ⟨u, hu, cu⟩ := ny.fin none
          exact ⟨u, nx.end_ (fun t => hu), cu⟩
        · rw [e]
          simp only [toks_append, toks]; have := GS.upd (t := updSign k) (pc_pl hx.1 hwl.1) (by rw [upd_kind c1]; omega) (pc_ex hx.2 hwl.2.1)
          rwa [upd_kind c1] at this
      · cases hx
    rw [if_neg c1] at he
    by_cases c2 : k = 43
    · rw [if_pos c2] at he
      subst c2; simp only [Bool.and_eq_true, plain, beq_iff_eq, List.isEmpty_iff] at he; obtain ⟨⟨rfl, rfl⟩, hx⟩ := he
      split at hx
      · rename_i x y
        simp only [Bool.and_eq_true] at hx
        have e : (Nd.mk 43 0 [] [x, y]).spcs d = x.pcs ++ (.sp [32] :: .tk (updSign 43) :: .sp [32] :: y.pcs) := by
         conv => lhs; unfold Nd.spcs
         rw [if_pos (by decide)]
        have et : (Nd.mk 43 0 [] [x, y]).stmtT d = x.text ++ [32] ++ updSign 43 ++ [32] ++ y.text := by
         conv => lhs; unfold Nd.stmtT
         rw [if_pos (by decide)]
        have nx := pc_nice (place_expr hx.1); have ny := pc_nice (place_expr hx.2); refine ⟨?_, ⟨?_, ?_⟩, ?_⟩
        · rw [e, et]
          simp only [flat_append, flat, pc_flat (place_expr hx.1), pc_flat (place_expr hx.2)]
          simp
        · rw [e]
          exact nx.then_ openP_none (fun t ct => wf_sp1 (wf_tk0 (upd_tok (by decide)) (wf_sp1 (ny.wf none openP_none))))
        · rw [e]
          obtain ⟨u, hu, cu⟩ := ny.fin none
          exact ⟨u, nx.end_ (fun t => hu), cu⟩
        · rw [e]
          simp only [toks_append, toks]
          exact GS.swap (pc_pl hx.1 hwl.1) (pc_pl hx.2 hwl.2.1)
      · cases hx
    rw [if_neg c2] at he
    by_cases c3 : k = 44 ∨ k = 45
    · rw [if_pos c3] at he
      simp only [Bool.and_eq_true, named, beq_iff_eq] at he; obtain ⟨⟨rfl, hn⟩, hx⟩ := he
      split at hx
      · rename_i x
        have e : (Nd.mk k 0 s [x]).spcs d = .tk (kwT k) :: .sp [32] :: (x.pcs ++ [.tk [44], .sp [32], .tk s]) := by
         conv => lhs; unfold Nd.spcs
         rw [if_neg (by omega), if_pos c3]
        have et : (Nd.mk k 0 s [x]).stmtT d = kword k ++ x.text ++ [44, 32] ++ s := by
         conv => lhs; unfold Nd.stmtT
         rw [if_neg (by omega), if_pos c3]
        have hk : kword k = kwT k ++ [32] := by rcases c3 with rfl | rfl <;> decide
        have nx := pc_nice (place_expr hx); have hnt := tokT_name hn; refine ⟨?_, ⟨?_, ?_⟩, ?_⟩
        · rw [e, et, hk]
          simp only [flat_append, flat, pc_flat (place_expr hx)]
          simp
        · rw [e]
          exact wf_tk0 (kw_tok k).1 (wf_sp1 (nx.then_ openP_none (fun t ct => wf_tk1 (tokT_lit (by decide)) (comma_adj ct) (wf_sp1 (wf_tk0 hnt.1 trivial)))))
        · rw [e]
          exact ⟨s, nx.end_ (p := none) (fun t => rfl), closeT_name hnt.2⟩
        · rw [e]
          simp only [toks_append, toks]
          exact GS.stack (by rcases c3 with rfl | rfl <;> decide) (pc_pl hx hwl.1) hn
      · cases hx
    rw [if_neg c3] at he
    by_cases c4 : 46 ≤ k ∧ k ≤ 49
    · rw [if_pos c4] at he
      simp only [Bool.and_eq_true, plain, beq_iff_eq, List.isEmpty_iff] at he; obtain ⟨⟨rfl, rfl⟩, hx⟩ := he
      split at hx
      · rename_i x
        have e : (Nd.mk k 0 [] [x]).spcs d = .tk (kwT k) :: .sp [32] :: x.pcs := by
         conv => lhs; unfold Nd.spcs
         rw [if_neg (by omega), if_neg (by omega), if_pos c4]
        have et : (Nd.mk k 0 [] [x]).stmtT d = kword k ++ x.text := by
         conv => lhs; unfold Nd.stmtT
         rw [if_neg (by omega), if_neg (by omega), if_pos c4]
        have hk : kword k = kwT k ++ [32] ∧ (kwT k, k) ∈ tapeKw := by
         have : k = 46 ∨ k = 47 ∨ k = 48 ∨ k = 49 := by omega
         rcases this with rfl | rfl | rfl | rfl <;> decide
        have nx := pc_nice (place_expr hx); refine ⟨?_, ⟨?_, ?_⟩, ?_⟩
        · rw [e, et, hk.1]
          simp only [flat, pc_flat (place_expr hx)]
          simp
        · rw [e]
          exact wf_tk0 (kw_tok k).1 (wf_sp1 (nx.wf none openP_none))
        · rw [e]; exact nx.fin none
        · rw [e]
          simp only [toks]
          exact GS.tape hk.2 (pc_pl hx hwl.1)
      · cases hx
    rw [if_neg c4] at he
    by_cases c5 : k = 50 ∨ k = 51
    · rw [if_pos c5] at he
      simp only [Bool.and_eq_true, named, beq_iff_eq, decide_eq_true_eq, List.all_eq_true] at he; obtain ⟨⟨⟨rfl, hn⟩, h8⟩, hv⟩ := he; have hnt := tokT_name hn
      have hk : kword k = kwT k ++ [32] ∧ (kwT k, k) ∈ callKw := by rcases c5 with rfl | rfl <;> decide
      have e : (Nd.mk k 0 s l).spcs d = .tk (kwT k) :: .sp [32] :: .tk s :: .tk [40] :: (callPcs l ++ [.tk [41]]) := by
       conv => lhs; unfold Nd.spcs
       rw [if_neg (by omega), if_neg (by omega), if_neg (by omega), if_pos c5]
      have et : (Nd.mk k 0 s l).stmtT d = kword k ++ s ++ [40] ++ argsT true l ++ [41] := by
       conv => lhs; unfold Nd.stmtT
       rw [if_neg (by omega), if_neg (by omega), if_neg (by omega), if_pos c5]
      rw [hk.1] at et; refine saidS_mk e et ?_
      cases l with
      | nil =>
       simp only [callPcs]; refine ⟨?_, ⟨?_, ?_⟩, ?_⟩
       · simp [flat, argsT]
       · exact wf_tk0 (kw_tok k).1 (wf_sp1 (wf_tk0 hnt.1 (wf_tk1 (tokT_lit (by decide)) (open_adj hnt.2) (wf_tk1 (tokT_lit (by decide)) (close_adj (closeT_sign (by decide))) trivial))))
       · exact ⟨[41], rfl, closeT_sign (by decide)⟩
       · simp only [toks, List.nil_append]
         exact GS.call0 hk.2 hn
      | cons x r =>
       have hx := isVar_of (hv x (by simp))
       have hr : ∀ y ∈ r, y.isVar = true := fun y hy => hv y (by simp [hy])
       have hrn : ∀ m ∈ r.map Nd.name, isName m = true := fun m hm => by
        obtain ⟨y, hy, rfl⟩ := List.mem_map.1 hm
        exact (isVar_of (hr y hy)).2.1
       have hxt := tokT_name hx.2.1; simp only [callPcs]; refine ⟨?_, ⟨?_, ?_⟩, ?_⟩
       · simp only [List.cons_append, flat, flat_append, args_flat r hr, argsT, hx.2.2]
         simp
       · simp only [List.cons_append]
         exact wf_tk0 (kw_tok k).1 (wf_sp1 (wf_tk0 hnt.1 (wf_tk1 (tokT_lit (by decide)) (open_adj hnt.2) (wf_tk1 hxt.1 (fun c hc => adj_open (by decide) (letter_open (name_letter hx.2.1 c hc)))
          (args_wf _ _ _ hxt.2 hrn (fun m hm => wf_tk1 (tokT_lit (by decide)) (close_adj (closeT_name hm)) trivial))))))
       · refine ⟨[41], ?_, closeT_sign (by decide)⟩
         simp only [List.cons_append, endOf]
         exact args_end _ _ _
       · simp only [List.cons_append, toks, toks_append, args_toks]
         have hg := GS.call1 (kw := kwT k) (m := s) (u := x.name) (kd := k) (l := r.map Nd.name) hk.2 hn hx.2.1 hrn (by simp only [List.length_map, List.length_cons] at h8 ⊢; omega)
         have hl : (x.name :: r.map Nd.name).map varN = x :: r := by
          rw [List.map_cons, ← hx.1, List.map_map]
          congr 1
          conv => rhs; rw [← List.map_id r]
          refine List.map_congr_left (fun y hy => ?_)
          exact (isVar_of (hr y hy)).1.symm
         rw [hl] at hg
         exact hg
    rw [if_neg c5] at he
    by_cases c6 : k = 52 ∨ k = 53
    · rw [if_pos c6] at he
      simp only [Bool.and_eq_true, plain, beq_iff_eq, List.isEmpty_iff] at he; obtain ⟨⟨rfl, rfl⟩, hx⟩ := he
      split at hx
      · rename_i x y z u
        simp only [Bool.and_eq_true] at hx; obtain ⟨⟨⟨hx1, hy1⟩, hz1⟩, hu1⟩ := hx; simp only [rowSize] at hs; have by_ := iB y (d + 1) (by omega) hy1 hwl.2.1; have bz := iB z (d + 1) (by omega) hz1 hwl.2.2.1
        have e : (Nd.mk k 0 [] [x, y, z, u]).spcs d = .tk (kwT k) :: .sp [32] :: (x.pcs ++ (bpcs (y.lpcs (d + 1)) d ++ (.sp [32] :: .tk (midT k) :: (bpcs (z.lpcs (d + 1)) d ++ (.sp [32] :: .tk (lastT k) :: .sp [32] :: u.pcs))))) := by
         conv => lhs; unfold Nd.spcs
         rw [if_neg (by omega), if_neg (by omega), if_neg (by omega), if_neg (by omega), if_pos c6]
        have et : (Nd.mk k 0 [] [x, y, z, u]).stmtT d = kwT k ++ [32] ++ x.text ++ ([32, 123, 10] ++ y.linesT (d + 1) ++ tabT d ++ [125]) ++ ([32] ++ midT k) ++ ([32, 123, 10] ++ z.linesT (d + 1) ++ tabT d ++ [125]) ++ ([32] ++ lastT k ++ [32]) ++ u.text := by
         conv => lhs; unfold Nd.stmtT
         rw [if_neg (by omega), if_neg (by omega), if_neg (by omega), if_neg (by omega)]
         rcases c6 with rfl | rfl
         · rw [if_pos rfl]; rfl
         · rw [if_neg (by decide), if_pos rfl]; rfl
        have nx := pc_nice hx1; have nu := pc_nice hu1; refine ⟨?_, ⟨?_, ?_⟩, ?_⟩
        · rw [e, et]
          simp only [flat, flat_append, flat_b, pc_flat hx1, pc_flat hu1, by_.flat, bz.flat]
          simp
        · rw [e]
          refine wf_tk0 (kw_tok k).1 (wf_sp1 (nx.then_ openP_none (fun t ct => by_.nice.wf_b d ?_ _))); refine wf_sp1 (wf_tk0 (mid_tok k) (bz.nice.wf_b d ?_ _))
          exact wf_sp1 (wf_tk0 (last_tok k) (wf_sp1 (nu.wf none openP_none)))
        · rw [e]
          obtain ⟨v, hv, cv⟩ := nu.fin none; refine ⟨v, ?_, cv⟩
          show endOf none (x.pcs ++ _) = _
          refine nx.end_ (fun t => ?_); rw [by_.nice.end_b]
          show endOf (some (midT k)) (bpcs _ _ ++ _) = _
          rw [bz.nice.end_b]
          exact hv
        · rw [e]
          simp only [toks, toks_append]
          exact GS.branch (by rcases c6 with rfl | rfl <;> decide) (pc_ex hx1 hwl.1) (by_.bl hy1 d) (bz.bl hz1 d) (pc_ex hu1 hwl.2.2.2.1)
      · cases hx
    rw [if_neg c6] at he
    by_cases c7 : k = 54
    · rw [if_pos c7] at he
      subst c7; simp only [Bool.and_eq_true, named, beq_iff_eq] at he; obtain ⟨⟨rfl, hn⟩, hx⟩ := he
      split at hx
      · rename_i x y z
        simp only [Bool.and_eq_true] at hx; obtain ⟨⟨hx1, hy1⟩, hz1⟩ := hx; simp only [rowSize] at hs; have by_ := iB y (d + 1) (by omega) hy1 hwl.2.1
        have e : (Nd.mk 54 0 s [x, y, z]).spcs d = .tk [108, 111, 99, 97, 108] :: .sp [32] :: .tk s :: .sp [32] :: .tk [61] :: .sp [32] :: (x.pcs ++ (bpcs (y.lpcs (d + 1)) d ++ (.sp [32] :: .tk [100, 101, 108, 111, 99, 97, 108] :: .sp [32] :: z.pcs))) := by
         conv => lhs; unfold Nd.spcs
         rw [if_neg (by decide), if_neg (by decide), if_neg (by decide), if_neg (by decide), if_neg (by decide), if_pos rfl]
        have et : (Nd.mk 54 0 s [x, y, z]).stmtT d = [108, 111, 99, 97, 108, 32] ++ s ++ [32, 61, 32] ++ x.text ++ ([32, 123, 10] ++ y.linesT (d + 1) ++ tabT d ++ [125]) ++ [32, 100, 101, 108, 111, 99, 97, 108, 32] ++ z.text := by
         conv => lhs; unfold Nd.stmtT
         rw [if_neg (by decide), if_neg (by decide), if_neg (by decide), if_neg (by decide), if_neg (by decide), if_neg (by decide), if_pos rfl]
         rfl
        have nx := pc_nice hx1; have nz := pc_nice hz1; have hnt := tokT_name hn; refine ⟨?_, ⟨?_, ?_⟩, ?_⟩
        · rw [e, et]
          simp only [flat, flat_append, flat_b, pc_flat hx1, pc_flat hz1, by_.flat]
          simp
        · rw [e]
          refine wf_tk0 (tokT_lit (by decide)) (wf_sp1 (wf_tk0 hnt.1 (wf_sp1 (wf_tk0 (tokT_lit (by decide)) (wf_sp1 (nx.then_ openP_none (fun t ct => by_.nice.wf_b d ?_ _)))))))
          exact wf_sp1 (wf_tk0 (tokT_lit (by decide)) (wf_sp1 (nz.wf none openP_none)))
        · rw [e]
          obtain ⟨v, hv, cv⟩ := nz.fin none; refine ⟨v, ?_, cv⟩
          show endOf none (x.pcs ++ _) = _
          refine nx.end_ (fun t => ?_); rw [by_.nice.end_b]
          exact hv
        · rw [e]
          simp only [toks, toks_append]
          exact GS.local_ hn (pc_ex hx1 hwl.1) (by_.bl hy1 d) (pc_ex hz1 hwl.2.2.1)
      · cases hx
    rw [if_neg c7] at he
    by_cases c8 : k = 55
    · rw [if_pos c8] at he
      subst c8; simp only [Bool.and_eq_true, named, beq_iff_eq] at he; obtain ⟨⟨rfl, hn⟩, hx⟩ := he
      split at hx
      · rename_i x
        simp only [rowSize] at hs; have bx := iB x (d + 1) (by omega) hx hwl.1
        have e : (Nd.mk 55 0 s [x]).spcs d = .tk [108, 111, 99, 97, 108] :: .sp [32] :: .tk [115, 116, 97, 99, 107] :: .sp [32] :: .tk s :: bpcs (x.lpcs (d + 1)) d := by
         conv => lhs; unfold Nd.spcs
         rw [if_neg (by decide), if_neg (by decide), if_neg (by decide), if_neg (by decide), if_neg (by decide), if_neg (by decide), if_pos rfl]
        have et : (Nd.mk 55 0 s [x]).stmtT d = [108, 111, 99, 97, 108, 32, 115, 116, 97, 99, 107, 32] ++ s ++ ([32, 123, 10] ++ x.linesT (d + 1) ++ tabT d ++ [125]) := by
         conv => lhs; unfold Nd.stmtT
         rw [if_neg (by decide), if_neg (by decide), if_neg (by decide), if_neg (by decide), if_neg (by decide), if_neg (by decide), if_neg (by decide), if_pos rfl]
         rfl
        have hnt := tokT_name hn; refine ⟨?_, ⟨?_, ?_⟩, ?_⟩
        · rw [e, et]
          simp only [flat, flat_b, bx.flat]
          simp
        · rw [e]
          have := bx.nice.wf_b d (r := []) trivial (some s); rw [List.append_nil] at this
          exact wf_tk0 (tokT_lit (by decide)) (wf_sp1 (wf_tk0 (tokT_lit (by decide)) (wf_sp1 (wf_tk0 hnt.1 this))))
        · rw [e]
          refine ⟨[125], ?_, closeT_sign (by decide)⟩; have := bx.nice.end_b d [] (some s); rw [List.append_nil] at this
          exact this
        · rw [e]
          simp only [toks]
          exact GS.lstack hn (bx.bl hx d)
      · cases hx
    · rw [if_neg c8] at he; cases he
  · intro t d hs he hw
    obtain ⟨k, n, s, l⟩ := t; simp only [Nd.size] at hs; have hwl := hw.2.2.2.2.2.2
    unfold Nd.isBlock at he
    simp only [Bool.and_eq_true] at he; have hr := rows_said d l (fun t ht => iS t d (by have := rowSize_mem ht; omega) (rowStmt_mem he.2 t ht) (rowWf_mem hwl t ht))
    have e : (Nd.mk k n s l).lpcs d = rowPcs l d := by unfold Nd.lpcs; rfl
    have et : (Nd.mk k n s l).linesT d = rowLines l d := by unfold Nd.linesT; rfl
    refine ⟨?_, ?_, ?_⟩
    · rw [e, et]; exact hr.1
    · rw [e]; exact hr.2.1
    · rw [e]; exact hr.2.2
end Bk
namespace Bk
open Go
section
variable {ts : List Tok} {n : Int} {I : PS → Prop}
structure Clo (ts : List Tok) (n : Int) (I : PS → Prop) : Prop where
 next : ∀ σ, In ts σ → I σ → I (nextP σ)
 unexp : ∀ σ, σ.at_ ≤ ts.length → I σ → I (unexpP ts n σ)
 full : ∀ σ, In ts σ → I σ → I (failP σ (peekP ts σ).pos 5)
 range : ∀ σ, In ts σ → I σ → I (failP (nextP σ) (peekP ts σ).pos 2)
theorem Clo.expect (C : Clo ts n I) {σ : PS} {t : List UInt8} (h : σ.at_ ≤ ts.length) (ht : t ≠ []) (i : I σ) : I (expectP ts n σ t) := by
 unfold expectP
 split
 · rename_i hh; exact C.next _ (has_in h hh ht) i
 · exact C.unexp _ h i
theorem Clo.name (C : Clo ts n I) {σ : PS} (h : σ.at_ ≤ ts.length) (i : I σ) : I (nameP ts n σ).2 := by
 unfold nameP
 split
 · rename_i hh; exact C.next _ (peek_in h (Or.inl (isName_ne hh))) i
 · exact C.unexp _ h i
theorem Clo.number (C : Clo ts n I) {a b : Int} {σ : PS} (h : σ.at_ ≤ ts.length) (i : I σ) : I (numberP ts n a b σ).2 := by
 unfold numberP
 split
 · rename_i hh
   have hn := peek_in h (Or.inr (by rw [hh]; decide))
   split
   · exact C.next _ hn i
   · exact C.range _ hn i
 · exact C.unexp _ h i
theorem Clo.exprs (C : Clo ts n I) (k : Nat) : (∀ lv σ, σ.at_ ≤ ts.length → I σ → I (exprP ts n k lv σ).2) ∧ (∀ lv x σ, σ.at_ ≤ ts.length → I σ → I (climbP ts n k lv x σ).2) ∧
 (∀ σ, σ.at_ ≤ ts.length → I σ → I (unaryP ts n k σ).2) ∧ (∀ σ, σ.at_ ≤ ts.length → I σ → I (primaryP ts n k σ).2) ∧ (∀ σ, σ.at_ ≤ ts.length → I σ → I (placeP ts n k σ).2) := by
 induction k with
 | zero =>
  refine ⟨fun lv σ h i => ?_, fun lv x σ h i => ?_, fun σ h i => ?_, fun σ h i => ?_, fun σ h i => ?_⟩
  · rw [exprP]; exact i
  · rw [climbP]; exact i
  · rw [unaryP]; exact i
  · rw [primaryP]; exact i
  · rw [placeP]; exact i
 | succ k ih =>
  obtain ⟨iE, iC, iU, iP, iL⟩ := ih; obtain ⟨vE, vC, vU, vP, vL⟩ := expr_inv (ts := ts) (n := n) k; refine ⟨fun lv σ h i => ?_, fun lv x σ h i => ?_, fun σ h i => ?_, fun σ h i => ?_, fun σ h i => ?_⟩
  · rw [exprP]
    exact iC _ _ _ (vU σ h).1.wf (iU _ h i)
  · rw [climbP]
    split
    · exact i
    · rename_i op hop
      obtain ⟨hne, -⟩ := binOf_ne hop; have hn := peek_in h (Or.inl hne)
      split
      · exact i
      · have h1 := next_le hn
        have h2 := vE (level op + 1) (nextP σ) h1.wf
        exact iC _ _ _ h2.1.wf (iE _ _ h1.wf (C.next _ hn i))
  · rw [unaryP]
    split
    · rename_i hh
      have hn := has_in h hh (by decide)
      exact iU _ (next_le hn).wf (C.next _ hn i)
    · split
      · rename_i hh
        have hn := has_in h hh (by decide)
        exact iU _ (next_le hn).wf (C.next _ hn i)
      · exact iP _ h i
  · rw [primaryP]
    split
    · exact C.number h i
    · split
      · rename_i hh
        have hn := has_in h hh (by decide); have h1 := next_le hn; have h2 := expect_le (n := n) (t := [40]) h1.wf (by decide); have h3 := name_le (n := n) h2.wf
        exact C.expect h3.wf (by decide) (C.name h2.wf (C.expect h1.wf (by decide) (C.next _ hn i)))
      · split
        · rename_i hh
          have hn := has_in h hh (by decide); have h1 := next_le hn; have h2 := expect_le (n := n) (t := [40]) h1.wf (by decide); have h3 := name_le (n := n) h2.wf
          exact C.expect h3.wf (by decide) (C.name h2.wf (C.expect h1.wf (by decide) (C.next _ hn i)))
        · split
          · rename_i hh
            have hn := has_in h hh (by decide); have h1 := next_le hn
            exact C.expect (vE 1 _ h1.wf).1.wf (by decide) (iE _ _ h1.wf (C.next _ hn i))
          · exact iL _ h i
  · rw [placeP]
    have h0 := name_le (n := n) h
    split
    · rename_i hh
      have hn := has_in h0.wf hh (by decide); have h1 := next_le hn
      exact C.expect (vE 1 _ h1.wf).1.wf (by decide) (iE _ _ h1.wf (C.next _ hn (C.name h i)))
    · exact C.name h i
theorem Clo.expr (C : Clo ts n I) {k : Nat} {lv : Int} {σ : PS} (h : σ.at_ ≤ ts.length) (i : I σ) : I (exprP ts n k lv σ).2 := (C.exprs k).1 lv σ h i
theorem Clo.place (C : Clo ts n I) {k : Nat} {σ : PS} (h : σ.at_ ≤ ts.length) (i : I σ) : I (placeP ts n k σ).2 := (C.exprs k).2.2.2.2 σ h i
theorem place_le' {k : Nat} {σ : PS} (h : σ.at_ ≤ ts.length) : Le ts σ (placeP ts n k σ).2 := ((expr_inv (ts := ts) (n := n) k).2.2.2.2 σ h).1
theorem Clo.args (C : Clo ts n I) (k : Nat) : ∀ acc σ, σ.at_ ≤ ts.length → I σ → I (argsP ts n k acc σ).2 := by
 induction k with
 | zero => intro acc σ h i; rw [argsP]; exact i
 | succ k ih =>
  intro acc σ h i; rw [argsP]
  split
  · rename_i hh
    have hn := has_in h hh (by decide); have h1 := next_le hn; have i1 := C.next _ hn i
    split
    · rename_i h8
      have l2 := fail_le (ts := ts) h1.wf (peekP ts (nextP σ)).pos 5
      exact ih _ _ (name_le (n := n) l2.wf).wf (C.name l2.wf (C.full _ (peek_in h1.wf (Or.inl (isName_ne h8.2))) i1))
    · exact ih _ _ (name_le (n := n) h1.wf).wf (C.name h1.wf i1)
  · exact i
theorem args_le' (k : Nat) : ∀ acc σ, σ.at_ ≤ ts.length → Le ts σ (argsP ts n k acc σ).2 := by
 induction k with
 | zero => intro acc σ h; rw [argsP]; exact Le.refl h
 | succ k ih =>
  intro acc σ h; rw [argsP]
  split
  · rename_i hh
    have h1 := next_le (has_in h hh (by decide))
    split
    · have l2 := h1.trans (fail_le (ts := ts) h1.wf (peekP ts (nextP σ)).pos 5)
      have l3 := l2.trans (name_le (n := n) l2.wf)
      exact l3.trans (ih _ _ l3.wf)
    · have l3 := h1.trans (name_le (n := n) h1.wf)
      exact l3.trans (ih _ _ l3.wf)
  · exact Le.refl h
theorem Clo.call (C : Clo ts n I) {k : Nat} {kind : Int} {σ : PS} (h : In ts σ) (i : I σ) : I (callP ts n k kind σ).2 := by
 unfold callP
 have h1 := next_le h; have h2 := name_le (n := n) h1.wf; have h3 := expect_le (n := n) (t := [40]) h2.wf (by decide); have i3 := C.expect (t := [40]) h2.wf (by decide) (C.name h1.wf (C.next _ h i)); simp only
 split
 · rename_i hh; exact C.next _ (has_in h3.wf hh (by decide)) i3
 · have h4 := name_le (n := n) h3.wf
   exact C.expect (args_le' k _ _ h4.wf).wf (by decide) (C.args k _ _ h4.wf (C.name h3.wf i3))
theorem Clo.update (C : Clo ts n I) {k : Nat} {σ : PS} (h : σ.at_ ≤ ts.length) (i : I σ) : I (updateP ts n k σ).2 := by
 unfold updateP
 have h1 := place_le' (n := n) (k := k) h; have i1 := C.place (k := k) h i; simp only
 split
 · rename_i hh
   have hn := has_in h1.wf hh (by decide)
   exact C.place (next_le hn).wf (C.next _ hn i1)
 · split
   · exact C.unexp _ h1.wf i1
   · rename_i hh
     have hn := peek_in h1.wf (Or.inl (upd_ne hh))
     exact C.expr (next_le hn).wf (C.next _ hn i1)
theorem Clo.stack (C : Clo ts n I) {k : Nat} {kind : Int} {σ : PS} (h : In ts σ) (i : I σ) : I (stackP ts n k kind σ).2 := by
 unfold stackP
 have h1 := next_le h; have h2 := place_le' (n := n) (k := k) h1.wf; have h3 := expect_le (n := n) (t := [44]) h2.wf (by decide)
 exact C.name h3.wf (C.expect h2.wf (by decide) (C.place h1.wf (C.next _ h i)))
theorem Clo.tape (C : Clo ts n I) {k : Nat} {kind : Int} {σ : PS} (h : In ts σ) (i : I σ) : I (tapeP ts n k kind σ).2 := by
 unfold tapeP
 exact C.place (next_le h).wf (C.next _ h i)
theorem Clo.stmts (C : Clo ts n I) (k : Nat) : (∀ σ, σ.at_ ≤ ts.length → I σ → I (stmtP ts n k σ).2) ∧ (∀ kind mid last σ, In ts σ → mid ≠ [] → last ≠ [] → I σ → I (branchesP ts n k kind mid last σ).2) ∧ (∀ σ, In ts σ → I σ → I (localP ts n k σ).2) ∧
 (∀ σ, σ.at_ ≤ ts.length → I σ → I (blockP ts n k σ).2) ∧ (∀ acc σ, σ.at_ ≤ ts.length → I σ → I (stmtsP ts n k acc σ).2) := by
 induction k with
 | zero =>
  refine ⟨fun σ h i => ?_, fun kind mid last σ h _ _ i => ?_, fun σ h i => ?_, fun σ h i => ?_, fun acc σ h i => ?_⟩
  · rw [stmtP]; exact i
  · rw [branchesP]; exact i
  · rw [localP]; exact i
  · rw [blockP]; exact i
  · rw [stmtsP]; exact i
 | succ k ih =>
  obtain ⟨iS, iB, iL, iK, iT⟩ := ih; obtain ⟨vS, vB, vL, vK, vT⟩ := stmt_inv (ts := ts) (n := n) k; refine ⟨fun σ h i => ?_, fun kind mid last σ hn hmid hlast i => ?_, fun σ hn i => ?_, fun σ h i => ?_, fun acc σ h i => ?_⟩
  · rw [stmtP]
    have hin : ∀ t : List UInt8, t ≠ [] → (peekP ts σ).text = t → In ts σ := fun t ht e => peek_in h (Or.inl (by rw [e]; exact ht))
    by_cases c : (peekP ts σ).text = [112, 117, 115, 104]
    · rw [if_pos c]; exact C.stack (hin _ (by decide) c) i
    rw [if_neg c]; clear c
    by_cases c : (peekP ts σ).text = [112, 111, 112]
    · rw [if_pos c]; exact C.stack (hin _ (by decide) c) i
    rw [if_neg c]; clear c
    by_cases c : (peekP ts σ).text = [114, 101, 97, 100]
    · rw [if_pos c]; exact C.tape (hin _ (by decide) c) i
    rw [if_neg c]; clear c
    by_cases c : (peekP ts σ).text = [117, 110, 114, 101, 97, 100]
    · rw [if_pos c]; exact C.tape (hin _ (by decide) c) i
    rw [if_neg c]; clear c
    by_cases c : (peekP ts σ).text = [119, 114, 105, 116, 101]
    · rw [if_pos c]; exact C.tape (hin _ (by decide) c) i
    rw [if_neg c]; clear c
    by_cases c : (peekP ts σ).text = [117, 110, 119, 114, 105, 116, 101]
    · rw [if_pos c]; exact C.tape (hin _ (by decide) c) i
    rw [if_neg c]; clear c
    by_cases c : (peekP ts σ).text = [99, 97, 108, 108]
    · rw [if_pos c]; exact C.call (hin _ (by decide) c) i
    rw [if_neg c]; clear c
    by_cases c : (peekP ts σ).text = [117, 110, 99, 97, 108, 108]
    · rw [if_pos c]; exact C.call (hin _ (by decide) c) i
    rw [if_neg c]; clear c
    by_cases c : (peekP ts σ).text = [105, 102]
    · rw [if_pos c]; exact iB _ _ _ _ (hin _ (by decide) c) (by decide) (by decide) i
    rw [if_neg c]; clear c
    by_cases c : (peekP ts σ).text = [102, 114, 111, 109]
    · rw [if_pos c]; exact iB _ _ _ _ (hin _ (by decide) c) (by decide) (by decide) i
    rw [if_neg c]; clear c
    by_cases c : (peekP ts σ).text = [108, 111, 99, 97, 108]
    · rw [if_pos c]; exact iL _ (hin _ (by decide) c) i
    rw [if_neg c]; clear c
    exact C.update h i
  · rw [branchesP]
    have h1 := next_le hn; have h2 := expr_le (n := n) (k := k) (lv := 1) h1.wf; have h3 := vK _ h2.wf; have h4 := expect_le (n := n) (t := mid) h3.wf hmid; have h5 := vK _ h4.wf; have h6 := expect_le (n := n) (t := last) h5.wf hlast
    exact C.expr h6.wf (C.expect h5.wf hlast (iK _ h4.wf (C.expect h3.wf hmid (iK _ h2.wf (C.expr h1.wf (C.next _ hn i))))))
  · rw [localP]
    have h1 := next_le hn; have i1 := C.next _ hn i
    split
    · rename_i hh
      have hn2 := has_in h1.wf hh (by decide); have h2 := next_le hn2
      exact iK _ (name_le (n := n) h2.wf).wf (C.name h2.wf (C.next _ hn2 i1))
    · have h2 := name_le (n := n) h1.wf
      have h3 := expect_le (n := n) (t := [61]) h2.wf (by decide); have h4 := expr_le (n := n) (k := k) (lv := 1) h3.wf; have h5 := vK _ h4.wf; have h6 := expect_le (n := n) (t := [100, 101, 108, 111, 99, 97, 108]) h5.wf (by decide)
      exact C.expr h6.wf (C.expect h5.wf (by decide) (iK _ h4.wf (C.expr h3.wf (C.expect h2.wf (by decide) (C.name h1.wf i1)))))
  · rw [blockP]
    exact iT _ _ (expect_le (n := n) (t := [123]) h (by decide)).wf (C.expect h (by decide) i)
  · rw [stmtsP]
    split
    · exact i
    · split
      · rename_i hh; exact C.next _ (has_in h hh (by decide)) i
      · have h1 := vS _ h
        exact iT _ _ (expect_le (n := n) (t := [59]) h1.wf (by decide)).wf (C.expect h1.wf (by decide) (iS _ h i))
theorem Clo.decl (C : Clo ts n I) {σ : PS} (h : σ.at_ ≤ ts.length) (i : I σ) : I (declP ts n σ).2 := by
 unfold declP
 split
 · rename_i hh
   have hn := has_in h hh (by decide)
   exact C.name (next_le hn).wf (C.next _ hn i)
 · split
   · rename_i hh
     have hn := has_in h hh (by decide)
     exact C.name (next_le hn).wf (C.next _ hn i)
   · split
     · rename_i hh
       have hn := has_in h hh (by decide); have h1 := next_le hn; have h2 := name_le (n := n) h1.wf; have h3 := expect_le (n := n) (t := [91]) h2.wf (by decide); have h4 := number_le (n := n) (a := 1) (b := 16) h3.wf
       exact C.expect h4.wf (by decide) (C.number h3.wf (C.expect h2.wf (by decide) (C.name h1.wf (C.next _ hn i))))
     · exact C.unexp _ h i
theorem atDecl_in {σ : PS} (h : σ.at_ ≤ ts.length) (hd : atDeclP ts σ = true) : In ts σ := by
 simp only [atDeclP, Bool.or_eq_true] at hd
 rcases hd with (c | c) | c <;> exact has_in h c (by decide)
theorem Clo.params (C : Clo ts n I) (k : Nat) : ∀ acc σ, σ.at_ ≤ ts.length → I σ → I (paramsP ts n k acc σ).2 := by
 induction k with
 | zero => intro acc σ h i; rw [paramsP]; exact i
 | succ k ih =>
  intro acc σ h i; rw [paramsP]
  split
  · rename_i hh
    have hn := has_in h hh (by decide); have h1 := next_le hn; have i1 := C.next _ hn i; simp only
    split
    · rename_i h8
      have l2 := fail_le (ts := ts) h1.wf (peekP ts (nextP σ)).pos 5
      exact ih _ _ (decl_le (n := n) l2.wf).wf (C.decl l2.wf (C.full _ (atDecl_in h1.wf h8.2) i1))
    · exact ih _ _ (decl_le (n := n) h1.wf).wf (C.decl h1.wf i1)
  · exact i
structure CloL (ts : List Tok) (n : Int) (I : PS → Prop) : Prop extends Clo ts n I where
 lim : ∀ σ x τ, σ.at_ ≤ ts.length → I σ → I τ → I (limitP x (peekP ts σ).pos τ)
theorem CloL.body (C : CloL ts n I) {k : Nat} {σ : PS} (h : σ.at_ ≤ ts.length) (i : I σ) : I (bodyP ts n k σ).2 := by
 unfold bodyP
 exact C.lim _ _ _ h i ((C.toClo.stmts k).2.2.2.1 _ h i)
theorem CloL.proc (C : CloL ts n I) {k : Nat} {σ : PS} (h : σ.at_ ≤ ts.length) (i : I σ) : I (procP ts n k σ).2 := by
 rw [procP_at]; have h1 := expect_le (n := n) (t := [112, 114, 111, 99]) h (by decide); have h2 := name_le (n := n) h1.wf; have h3 := expect_le (n := n) (t := [40]) h2.wf (by decide); have i3 := C.expect (t := [40]) h2.wf (by decide) (C.name h1.wf (C.expect (t := [112, 114, 111, 99]) h (by decide) i)); have h4 := procQ_le (n := n) (k := k) h3.wf; refine C.body h4.wf ?_
 unfold procQ
 split
 · rename_i hh; exact C.next _ (has_in h3.wf hh (by decide)) i3
 · have h5 := decl_le (n := n) h3.wf
   exact C.expect (params_le (n := n) k _ _ h5.wf).wf (by decide) (C.params k _ _ h5.wf (C.decl h3.wf i3))
theorem CloL.vars (C : CloL ts n I) (k : Nat) : ∀ acc σ, σ.at_ ≤ ts.length → I σ → I (varsP ts n k acc σ).2 := by
 induction k with
 | zero => intro acc σ h i; rw [varsP]; exact i
 | succ k ih =>
  intro acc σ h i; rw [varsP]
  split
  · rename_i hh
    simp only
    split
    · have l2 := fail_le (ts := ts) h (peekP ts σ).pos 5
      exact ih _ _ (decl_le (n := n) l2.wf).wf (C.decl l2.wf (C.full _ (atDecl_in h hh) i))
    · exact ih _ _ (decl_le (n := n) h).wf (C.decl h i)
  · exact i
theorem CloL.procs (C : CloL ts n I) (k : Nat) : ∀ acc σ, σ.at_ ≤ ts.length → I σ → I (procsP ts n k acc σ).2 := by
 induction k with
 | zero => intro acc σ h i; rw [procsP]; exact i
 | succ k ih =>
  intro acc σ h i; rw [procsP]
  split
  · rename_i hh
    simp only
    split
    · have l2 := fail_le (ts := ts) h (peekP ts σ).pos 5
      exact ih _ _ (procP_le (n := n) (k := k) l2.wf).wf (C.proc l2.wf (C.full _ (has_in h hh (by decide)) i))
    · exact ih _ _ (procP_le (n := n) (k := k) h).wf (C.proc h i)
  · exact i
theorem CloL.program (C : CloL ts n I) {k : Nat} {σ : PS} (h : σ.at_ ≤ ts.length) (i : I σ) : I (programP ts n k σ).2 := by
 unfold programP
 have h1 := vars_le (n := n) k [] σ h; have h2 := procs_le (n := n) k [] _ h1.wf
 exact C.body (expect_le (n := n) (t := [109, 97, 105, 110]) h2.wf (by decide)).wf (C.expect h2.wf (by decide) (C.procs k _ _ h1.wf (C.vars k _ _ h i)))
end
end Bk
namespace Bk
open Go
section
variable {ts : List Tok} {n : Int}
end
theorem var_valid (l : Txt) (h : ∀ v ∈ l, isName v = true) : (l.map varN).all Nd.isVar = true := by
 rw [List.all_eq_true]; intro x hx; obtain ⟨v, hv, rfl⟩ := List.mem_map.1 hx
 simp [varN, Nd.isVar, Nd.isExpr, Nd.kind, named, h v hv]
theorem GS.valid {nt : NtS} {a : Txt} {l : List Nd} (h : GS nt a l) : match nt with
 | .st => ∀ x, l = [x] → x.isStmt = true
 | .bl => ∀ x, l = [x] → x.isBlock = true
 | .ls => rowStmt l = true := by
 induction h with
 | stack h1 h2 h3 =>
  rintro x ⟨⟩; have := h2.valid; simp only [stackKw, List.mem_cons, Prod.mk.injEq, List.not_mem_nil, or_false] at h1
  rcases h1 with ⟨-, rfl⟩ | ⟨-, rfl⟩ <;> (unfold Nd.isStmt; simp only at this; simp [named, h3, this])
 | tape h1 h2 =>
  rintro x ⟨⟩; have := h2.valid; simp only [tapeKw, List.mem_cons, Prod.mk.injEq, List.not_mem_nil, or_false] at h1
  rcases h1 with ⟨-, rfl⟩ | ⟨-, rfl⟩ | ⟨-, rfl⟩ | ⟨-, rfl⟩ <;> (unfold Nd.isStmt; simp only at this; simp [plain, this])
 | call0 h1 h2 =>
  rintro x ⟨⟩; simp only [callKw, List.mem_cons, Prod.mk.injEq, List.not_mem_nil, or_false] at h1
  rcases h1 with ⟨-, rfl⟩ | ⟨-, rfl⟩ <;> (unfold Nd.isStmt; simp [named, h2])
 | @call1 kw m u kd l h1 h2 h3 h4 h5 =>
  rintro x ⟨⟩; have hv := var_valid (u :: l) (fun v hv => by rcases List.mem_cons.1 hv with rfl | hv; exact h3; exact h4 v hv)
  have hl : ((u :: l).map varN).length ≤ 8 := by simp only [List.length_map, List.length_cons]; omega
  simp only [callKw, List.mem_cons, Prod.mk.injEq, List.not_mem_nil, or_false] at h1
  generalize (u :: l).map varN = q at *
  rcases h1 with ⟨-, rfl⟩ | ⟨-, rfl⟩ <;> (unfold Nd.isStmt; simp [named, h2, hl, hv])
 | branch h1 h2 h3 h4 h5 i3 i4 =>
  rintro x ⟨⟩; have v2 := h2.valid; have v5 := h5.valid; have v3 := i3 _ rfl; have v4 := i4 _ rfl; simp only [branchKw, List.mem_cons, Prod.mk.injEq, List.not_mem_nil, or_false] at h1; simp only at v2 v5
  rcases h1 with ⟨-, rfl, -⟩ | ⟨-, rfl, -⟩ <;> (unfold Nd.isStmt; simp [plain, v2, v3, v4, v5])
 | lstack h1 h2 i2 =>
  rintro x ⟨⟩; have v2 := i2 _ rfl
  unfold Nd.isStmt; simp [named, h1, v2]
 | local_ h1 h2 h3 h4 i3 =>
  rintro x ⟨⟩; have v2 := h2.valid; have v3 := i3 _ rfl; have v4 := h4.valid; simp only at v2 v4
  unfold Nd.isStmt; simp [named, h1, v2, v3, v4]
 | @upd t a b x y h1 h2 h3 =>
  rintro z ⟨⟩; have v1 := h1.valid; have v3 := h3.valid; simp only at v1 v3
  have hk : updKind t = 40 ∨ updKind t = 41 ∨ updKind t = 42 ∨ updKind t = 56 := by
   unfold updKind at h2 ⊢
   by_cases c1 : t = [43, 61]
   · simp [c1]
   by_cases c2 : t = [45, 61]
   · simp [c2]
   by_cases c3 : t = [94, 61]
   · simp [c3]
   by_cases c4 : t = [58, 61]
   · simp [c4]
   simp [c1, c2, c3, c4] at h2
  unfold Nd.isStmt
  rw [if_pos hk]; simp [plain, v1, v3]
 | swap h1 h2 =>
  rintro x ⟨⟩; have v1 := h1.valid; have v2 := h2.valid; simp only at v1 v2
  unfold Nd.isStmt; simp [plain, v1, v2]
 | bl h1 i1 =>
  rintro x ⟨⟩; simp only at i1
  unfold Nd.isBlock; simp [plain, i1]
 | ls0 => simp [rowStmt]
 | ls1 h1 h2 i1 i2 =>
  have := i1 _ rfl; simp only at i2; simp only [rowStmt, this, i2, Bool.and_self]
end Bk
namespace Bk
open Go
theorem parseB_of {s : List UInt8} {ts : List Tok} {l : List Nd} (hs : ¬ 65536 < s.length) (h : solidFrom s 0 = (ts, none)) (g : GS .ls (txt ts) l) (h1 : (Nd.mk 57 0 [] l).depth ≤ 80) (h2 : (Nd.mk 57 0 [] l).size ≤ 2000) : parseBlock s = (.mk 57 0 [] l, 0, 0) := by
 have hst := startOk hs (by rw [h]); rw [h] at hst; simp only at hst; have hd := digitKinds_start s; have hl := start_len s; rw [hst] at hd hl; simp only at hd hl; have hr := (g.reads (n := s.length) hd).2 ⟨0, 0, 0⟩ (fuelP s) [] (Nat.zero_le _) rfl rem_st (by rw [txt_len]; unfold fuelP; omega)
 unfold parseBlock
 rw [hst]; simp only; rw [hr]; simp only [List.nil_append]
 have hl : limitP (.mk 57 0 [] l) 0 (adv ⟨0, 0, 0⟩ (txt ts).length) = adv ⟨0, 0, 0⟩ (txt ts).length := by
  unfold limitP
  rw [if_neg (by simp [adv]), if_neg (by omega), if_neg (by omega)]
 rw [hl, if_neg (by simp [adv])]
theorem block_shape {t : Nd} (hb : t.isBlock = true) : t = .mk 57 0 [] t.kids := by
 obtain ⟨k, n, s, l⟩ := t
 unfold Nd.isBlock at hb
 simp only [Bool.and_eq_true, plain, beq_iff_eq, List.isEmpty_iff] at hb; obtain ⟨⟨rfl, rfl, rfl⟩, -⟩ := hb
 rfl
theorem lines_said {t : Nd} (hb : t.isBlock = true) (hw : t.wf) (d : Nat) : SaidL t d := (stmts_said (t.size + 1)).2 t d (by omega) hb hw
theorem parse_lines {t : Nd} (hb : t.isBlock = true) (hw : t.wf) (hd : t.depth ≤ 80) (hz : t.size ≤ 2000) (hl : (t.linesT 0).length ≤ 65536) : parseBlock (t.linesT 0) = (t, 0, 0) := by
 have h := lines_said hb hw 0; obtain ⟨us, h1, h2⟩ := pcs_solid _ none h.nice.wf; rw [h.flat] at h1; have e := block_shape hb; have := parseB_of (l := t.kids) (by omega) h1 (by rw [h2]; exact h.gs) (by rw [← e]; exact hd) (by rw [← e]; exact hz); rw [← e] at this
 exact this
theorem wrap_lenV (s : List UInt8) (b : Bool) : (wrap s b).length = s.length + (if b then 2 else 0) := by
 unfold wrap
 cases b
 · rfl
 · simp
theorem text_wt (N : Nat) : ∀ t : Nd, t.size < N → t.isExpr = true → t.text.length ≤ 3 * wt (toks t.pcs) := by
 induction N with
 | zero => intro t h; omega
 | succ N ih =>
  intro t hs he; obtain ⟨k, n, s, l⟩ := t; simp only [Nd.size] at hs
  unfold Nd.isExpr at he
  unfold Nd.pcs Nd.text
  by_cases c1 : k = 1
  · rw [if_pos c1, if_pos c1]; simp only [toks, wt]; omega
  rw [if_neg c1] at he ⊢; rw [if_neg c1]
  by_cases c2 : k = 2
  · rw [if_pos c2, if_pos c2]; simp only [toks, wt]; omega
  rw [if_neg c2, if_neg c2]
  by_cases c3 : k = 3
  · rw [if_neg (by omega), if_pos c3] at he
    rw [if_pos c3, if_pos c3]; simp only [Bool.and_eq_true] at he; obtain ⟨-, hx⟩ := he
    split at hx
    · rename_i x
      simp only [rowSize] at hs; have := ih x (by omega) hx; simp only [toks, toks_append, wt, wt_append, List.length_append, List.length_cons, List.length_nil]
      omega
    · cases hx
  rw [if_neg c3, if_neg c3]
  by_cases c4 : k = 4
  · rw [if_pos c4, if_pos c4]; simp only [toks, wt, List.length_append, List.length_cons, List.length_nil]; omega
  rw [if_neg c4, if_neg c4]
  by_cases c5 : k = 5
  · rw [if_pos c5, if_pos c5]; simp only [toks, wt, List.length_append, List.length_cons, List.length_nil]; omega
  rw [if_neg c5, if_neg c5]; rw [if_neg (by omega), if_neg (by omega)] at he
  by_cases c6 : k = 6 ∨ k = 7
  · rw [if_pos c6] at he
    rw [if_pos c6, if_pos c6]; simp only [Bool.and_eq_true] at he; obtain ⟨-, hx⟩ := he
    split at hx
    · rename_i x
      simp only [rowSize] at hs; have := ih x (by omega) hx; simp only [toks, wt, wt_pw, List.length_append, wrap_lenV]
      split <;> omega
    · cases hx
  rw [if_neg c6] at he; rw [if_neg c6, if_neg c6]
  by_cases c8 : 8 ≤ k ∧ k ≤ 23
  · rw [if_pos c8] at he
    simp only [Bool.and_eq_true] at he; obtain ⟨-, hx⟩ := he
    split at hx
    · rename_i x y
      simp only [rowSize] at hs; simp only [Bool.and_eq_true] at hx; have h1 := ih x (by omega) hx.1; have h2 := ih y (by omega) hx.2
      have h3 : (symbol k).length ≠ 0 := fun e => (symbol_tok (k := k) (by omega) (by omega)).1.ne (List.eq_nil_of_length_eq_zero e)
      simp only [toks, toks_append, wt, wt_append, wt_pw, List.length_append, wrap_lenV, List.length_cons, List.length_nil]
      split <;> split <;> omega
    · cases hx
  · rw [if_neg c8] at he; cases he
def DigT (a : Txt) : Prop := ∀ t ∈ a, startsDigit t = true → ∀ c ∈ t, digit c = true
theorem DigT.app {a b : Txt} (h : DigT (a ++ b)) : DigT a ∧ DigT b := ⟨fun t ht => h t (List.mem_append_left _ ht), fun t ht => h t (List.mem_append_right _ ht)⟩
theorem DigT.tl {t : List UInt8} {b : Txt} (h : DigT (t :: b)) : DigT b := fun u hu => h u (List.mem_cons_of_mem _ hu)
theorem span_full {p : UInt8 → Bool} : ∀ (s : List UInt8), span p s = s.length → ∀ c ∈ s, p c = true
 | [], _ => by simp
 | x :: r, h => by
  unfold span at h
  rw [List.takeWhile_cons] at h
  split at h
  · rename_i hx
    intro c hc
    rcases List.mem_cons.1 hc with rfl | hc
    · exact hx
    · exact span_full r (by unfold span; simpa using h) c hc
  · simp at h
theorem tokT_dig {t : List UInt8} (h : TokT t) (hs : startsDigit t = true) : ∀ c ∈ t, digit c = true := by
 cases t with
 | nil => simp [startsDigit] at hs
 | cons x r =>
  have hd : digit x = true := by simpa [startsDigit] using hs
  have hl : letter x = false := by
   cases hl : letter x
   · rfl
   · rw [letter_digit x hl] at hd; cases hd
  have := h.len; simp only [firstTok, hl, hd, if_true, if_false, Bool.false_eq_true] at this
  exact span_full _ this
theorem pcs_dig : ∀ (L : List Pc) (p : Option (List UInt8)), wf p L → DigT (toks L)
 | [], _, _ => fun t ht => by cases ht
 | .sp _ :: r, _, h => pcs_dig r _ h.2
 | .tk t :: r, _, h => fun u hu => by
  simp only [toks] at hu
  rcases List.mem_cons.1 hu with rfl | hu
  · exact tokT_dig h.1
  · exact pcs_dig r _ h.2.2 u hu
theorem ex_len {a : Txt} {x : Nd} (h : G (.ex 1) a x) (hd : DigT a) (hw : x.wf) : x.isExpr = true ∧ x.text.length ≤ 3 * wt a ∧ x.text.length ≤ 30 * x.size := by
 have he : x.isExpr = true := h.valid; have h1 := text_wt (x.size + 1) x (by omega) he; have h2 := h.heavy hd; simp only [Heavy] at h2
 exact ⟨he, by split at h2 <;> omega, text_len (x.size + 1) x (by omega) hw he⟩
theorem pl_len {a : Txt} {x : Nd} (h : G .pl a x) (hd : DigT a) (hw : x.wf) : x.isExpr = true ∧ x.text.length ≤ 3 * wt a ∧ x.text.length ≤ 30 * x.size := by
 have hp := h.valid; simp only at hp; have he := place_expr hp; have h1 := text_wt (x.size + 1) x (by omega) he; have h2 := h.heavy hd; simp only [Heavy] at h2
 exact ⟨he, by omega, text_len (x.size + 1) x (by omega) hw he⟩
end Bk
namespace Bk
open Go
def VD.ok (v : VD) : Bool := isName v.name && if v.kind = 1 ∨ v.kind = 3 then v.len == 0 else if v.kind = 2 then decide (1 ≤ v.len) && decide (v.len ≤ 16) else false
def allOk (l : List VD) : Bool := l.all VD.ok
mutual
def Nd.lim : Nd → Int → Int → Bool × Int
 | .mk _ _ _ l, d, m => if d = 0 ∨ m = 0 then (false, m) else rowLim l (d - 1) (m - 1)
def rowLim : List Nd → Int → Int → Bool × Int
 | [], _, m => (true, m)
 | t :: r, d, m => if (t.lim d m).1 then rowLim r d (t.lim d m).2 else (false, (t.lim d m).2)
end
def bodyOk (t : Nd) : Bool := (t.lim 80 2000).1 && t.isBlock
def PD.ok (p : PD) : Bool := isName p.name && decide (p.params.length ≤ 8) && allOk p.params && bodyOk p.body
def PG.ok (g : PG) : Bool := decide (g.vars.length ≤ 32) && decide (g.procs.length ≤ 64) && allOk g.vars && g.procs.all PD.ok && bodyOk g.main
end Bk
namespace Bk
open Go
mutual
theorem lim_ok : ∀ (t : Nd) (d m : Int), t.depth ≤ d → (t.size : Int) ≤ m → t.lim d m = (true, m - t.size)
 | .mk _ _ _ l, d, m, hd, hm => by
  simp only [Nd.depth] at hd; simp only [Nd.size] at hm; have h0 : 0 ≤ rowDepth l := rowDepth_nn l
  unfold Nd.lim
  rw [if_neg (by omega), rowLim_ok l (d - 1) (m - 1) (by omega) (by omega)]; simp only [Nd.size]
  congr 1
  omega
theorem rowLim_ok : ∀ (l : List Nd) (d m : Int), rowDepth l ≤ d → (rowSize l : Int) ≤ m → rowLim l d m = (true, m - rowSize l)
 | [], d, m, _, _ => by simp [rowLim, rowSize]
 | t :: r, d, m, hd, hm => by
  simp only [rowDepth] at hd; simp only [rowSize] at hm; have h1 := lim_ok t d m (by omega) (by omega)
  unfold rowLim
  rw [h1]; simp only [if_true]; rw [rowLim_ok r d _ (by omega) (by omega)]; simp only [rowSize]
  congr 1
  omega
theorem rowDepth_nn : ∀ l : List Nd, 0 ≤ rowDepth l
 | [] => by simp [rowDepth]
 | t :: r => by have := rowDepth_nn r; simp only [rowDepth]; omega
end
section
variable {ts : List Tok} {n : Int}
def OffIn (n : Int) (σ : PS) : Prop := σ.err ≠ 0 → 0 ≤ σ.off ∧ σ.off ≤ n
end
end Bk
namespace Bk
open Go
def LenS : NtS → Txt → List Nd → Prop
 | .st, a, l => ∀ d : Nat, rowDepth l + 2 * (d : Int) ≤ 82 → (rowLines l d).length ≤ 32 * wt a + 32 ∧ (rowLines l d).length ≤ 200 * rowSize l
 | .bl, a, l => ∀ (d : Nat) (y : Nd), l = [y] → y.depth + 2 * (d : Int) ≤ 81 → (y.linesT (d + 1)).length + d + 4 ≤ 32 * wt a ∧ (y.linesT (d + 1)).length + 200 ≤ 200 * y.size
 | .ls, a, l => ∀ d : Nat, rowDepth l + 2 * (d : Int) ≤ 82 → (rowLines l d).length ≤ 32 * wt a ∧ (rowLines l d).length ≤ 200 * rowSize l
theorem varN_text (m : List UInt8) : (varN m).text = m := by simp [varN, Nd.text]
theorem args_short : ∀ (l : Txt), (∀ v ∈ l, isName v = true) → (argsT false (l.map varN)).length ≤ 2 * wt (argT l) ∧ (argsT false (l.map varN)).length ≤ 18 * l.length
 | [], _ => by simp [argsT]
 | m :: r, h => by
  obtain ⟨h1, h2⟩ := args_short r (fun v hv => h v (by simp [hv])); have h3 := isName_len (h m (by simp))
  have e : argT (m :: r) = [44] :: m :: argT r := by simp [argT]
  rw [e]; simp only [List.map_cons, argsT, varN_text, Bool.false_eq_true, if_false, List.length_append, List.length_cons, List.length_nil, wt]
  omega
theorem rowSize_map (l : Txt) : rowSize (l.map varN) = l.length := by
 induction l with
 | nil => rfl
 | cons m r ih => simp only [List.map_cons, rowSize, ih, List.length_cons, varN, Nd.size]; omega
theorem kwordL_len (k : Int) : (kword k).length ≤ 12 := by
 unfold kword
 by_cases h1 : k = 44
 · rw [if_pos h1]; decide
 rw [if_neg h1]
 by_cases h45 : k = 45
 · rw [if_pos h45]; decide
 rw [if_neg h45]
 by_cases h46 : k = 46
 · rw [if_pos h46]; decide
 rw [if_neg h46]
 by_cases h47 : k = 47
 · rw [if_pos h47]; decide
 rw [if_neg h47]
 by_cases h48 : k = 48
 · rw [if_pos h48]; decide
 rw [if_neg h48]
 by_cases h49 : k = 49
 · rw [if_pos h49]; decide
 rw [if_neg h49]
 by_cases h50 : k = 50
 · rw [if_pos h50]; decide
 rw [if_neg h50]
 by_cases h51 : k = 51
 · rw [if_pos h51]; decide
 rw [if_neg h51]
 by_cases h52 : k = 52
 · rw [if_pos h52]; decide
 rw [if_neg h52]
 by_cases h53 : k = 53
 · rw [if_pos h53]; decide
 rw [if_neg h53]
 by_cases h54 : k = 54
 · rw [if_pos h54]; decide
 rw [if_neg h54]
 by_cases h55 : k = 55
 · rw [if_pos h55]; decide
 rw [if_neg h55]
 decide
set_option maxHeartbeats 4000000 in
theorem GS.len {nt : NtS} {a : Txt} {l : List Nd} (h : GS nt a l) : DigT a → rowWf l → LenS nt a l := by
 induction h with
 | @stack kw m kd a x hk hp hm =>
  intro hd hw d hdd; obtain ⟨-, h1, h2⟩ := pl_len hp hd.tl.app.1 hw.1.2.2.2.2.2.2.1; have hn := isName_len hm; have hkw := kwordL_len kd; simp only [stackKw, List.mem_cons, Prod.mk.injEq, List.not_mem_nil, or_false] at hk; simp only [rowDepth, Nd.depth] at hdd
  rcases hk with ⟨rfl, rfl⟩ | ⟨rfl, rfl⟩ <;>
  · simp only [rowLines, rowSize, Nd.size, wt, wt_append]
    rw [Nd.stmtT.eq_def]; simp only [tabT]
    simp [-List.length_append]
    simp only [List.length_append, List.length_cons, List.length_nil, List.length_replicate]
    omega
 | @tape kw kd a x hk hp =>
  intro hd hw d hdd; obtain ⟨-, h1, h2⟩ := pl_len hp hd.tl hw.1.2.2.2.2.2.2.1; have hkw := kwordL_len kd; simp only [tapeKw, List.mem_cons, Prod.mk.injEq, List.not_mem_nil, or_false] at hk; simp only [rowDepth, Nd.depth] at hdd
  rcases hk with ⟨rfl, rfl⟩ | ⟨rfl, rfl⟩ | ⟨rfl, rfl⟩ | ⟨rfl, rfl⟩ <;>
  · simp only [rowLines, rowSize, Nd.size, wt]
    rw [Nd.stmtT.eq_def]; simp only [tabT]
    simp [-List.length_append]
    simp only [List.length_append, List.length_cons, List.length_nil, List.length_replicate]
    omega
 | @call0 kw m kd hk hm =>
  intro hd hw d hdd; have hn := isName_len hm; have hkw := kwordL_len kd; simp only [callKw, List.mem_cons, Prod.mk.injEq, List.not_mem_nil, or_false] at hk; simp only [rowDepth, Nd.depth] at hdd
  rcases hk with ⟨rfl, rfl⟩ | ⟨rfl, rfl⟩ <;>
  · simp only [rowLines, rowSize, Nd.size, wt]
    rw [Nd.stmtT.eq_def]; simp only [tabT]
    simp [-List.length_append, argsT]
    simp only [List.length_append, List.length_cons, List.length_nil, List.length_replicate]
    omega
 | @call1 kw m u kd l hk hm hu hl h7 =>
  intro hd hw d hdd; have hn := isName_len hm; have hun := isName_len hu; obtain ⟨a1, a2⟩ := args_short l hl; have hz := rowSize_map l
  have ht : argsT true ((u :: l).map varN) = u ++ argsT false (l.map varN) := by simp [argsT, varN_text]
  have hdn : 0 ≤ rowDepth ((u :: l).map varN) := rowDepth_nn _; have hkw := kwordL_len kd; simp only [callKw, List.mem_cons, Prod.mk.injEq, List.not_mem_nil, or_false] at hk; simp only [rowDepth, Nd.depth] at hdd
  have hzz : rowSize ((u :: l).map varN) = l.length + 1 := by rw [rowSize_map]; rfl
  rcases hk with ⟨rfl, rfl⟩ | ⟨rfl, rfl⟩ <;>
  · simp only [rowLines, rowSize, Nd.size, wt, wt_append, hzz]
    rw [Nd.stmtT.eq_def]; simp only [tabT, ht]
    simp [-List.length_append, -List.map_cons]
    simp only [ht, List.length_append, List.length_cons, List.length_nil, List.length_replicate]
    omega
 | @branch kw mid last kd a b c e x y z u hk hx hy hz hu iy iz =>
  intro hd hw d hdd; have hd1 := hd.tl.app; have hd2 := hd1.2.app; have hd3 := hd2.2.tl.app; have hwl := hw.1.2.2.2.2.2.2; obtain ⟨-, h1, h2⟩ := ex_len hx hd1.1 hwl.1; obtain ⟨-, h3, h4⟩ := ex_len hu hd3.2.tl hwl.2.2.2.1; have i1 := iy hd2.1 ⟨hwl.2.1, trivial⟩; have i2 := iz hd3.1 ⟨hwl.2.2.1, trivial⟩; simp only [rowDepth, Nd.depth] at hdd; obtain ⟨j1, j2⟩ := i1 d y rfl (by omega); obtain ⟨j3, j4⟩ := i2 d z rfl (by omega); have hkw := kwordL_len kd; simp only [branchKw, List.mem_cons, Prod.mk.injEq, List.not_mem_nil, or_false] at hk
  rcases hk with ⟨rfl, rfl, rfl, rfl⟩ | ⟨rfl, rfl, rfl, rfl⟩ <;>
  · simp only [rowLines, rowSize, Nd.size, wt, wt_append]
    rw [Nd.stmtT.eq_def]; simp only [tabT]
    simp [-List.length_append]
    simp only [List.length_append, List.length_cons, List.length_nil, List.length_replicate]
    omega
 | @lstack m b x hm hx ix =>
  intro hd hw d hdd; have hn := isName_len hm; have hwl := hw.1.2.2.2.2.2.2; have i1 := ix hd.tl.tl.tl ⟨hwl.1, trivial⟩; simp only [rowDepth, Nd.depth] at hdd; obtain ⟨j1, j2⟩ := i1 d x rfl (by omega); have hkw := kwordL_len 55; simp only [rowLines, rowSize, Nd.size, wt]; rw [Nd.stmtT.eq_def]; simp only [tabT]
  simp [-List.length_append]
  simp only [List.length_append, List.length_cons, List.length_nil, List.length_replicate]
  omega
 | @local_ m a b e x y z hm hx hy hz iy =>
  intro hd hw d hdd; have hn := isName_len hm; have hd1 := hd.tl.tl.tl.app; have hd2 := hd1.2.app; have hwl := hw.1.2.2.2.2.2.2; obtain ⟨-, h1, h2⟩ := ex_len hx hd1.1 hwl.1; obtain ⟨-, h3, h4⟩ := ex_len hz hd2.2.tl hwl.2.2.1; have i1 := iy hd2.1 ⟨hwl.2.1, trivial⟩; simp only [rowDepth, Nd.depth] at hdd; obtain ⟨j1, j2⟩ := i1 d y rfl (by omega); have hkw := kwordL_len 54; simp only [rowLines, rowSize, Nd.size, wt, wt_append]; rw [Nd.stmtT.eq_def]; simp only [tabT]
  simp [-List.length_append]
  simp only [List.length_append, List.length_cons, List.length_nil, List.length_replicate]
  omega
 | @upd t a b x y hx ht hy =>
  intro hd hw d hdd; have hd1 := hd.app; have hwl := hw.1.2.2.2.2.2.2; obtain ⟨-, h1, h2⟩ := pl_len hx hd1.1 hwl.1; obtain ⟨-, h3, h4⟩ := ex_len hy hd1.2.tl hwl.2.1; simp only [rowDepth, Nd.depth] at hdd
  have hk : (t = [43, 61] ∧ updKind t = 40) ∨ (t = [45, 61] ∧ updKind t = 41) ∨ (t = [94, 61] ∧ updKind t = 42) ∨ (t = [58, 61] ∧ updKind t = 56) := by
   unfold updKind at ht ⊢
   by_cases h1 : t = [43, 61]
   · exact Or.inl ⟨h1, by rw [if_pos h1]⟩
   by_cases h2 : t = [45, 61]
   · exact Or.inr (Or.inl ⟨h2, by rw [if_neg h1, if_pos h2]⟩)
   by_cases h3 : t = [94, 61]
   · exact Or.inr (Or.inr (Or.inl ⟨h3, by rw [if_neg h1, if_neg h2, if_pos h3]⟩))
   by_cases h4 : t = [58, 61]
   · exact Or.inr (Or.inr (Or.inr ⟨h4, by rw [if_neg h1, if_neg h2, if_neg h3, if_pos h4]⟩))
   simp [h1, h2, h3, h4] at ht
  rcases hk with ⟨rfl, hk⟩ | ⟨rfl, hk⟩ | ⟨rfl, hk⟩ | ⟨rfl, hk⟩ <;>
  · rw [hk]
    simp only [rowLines, rowSize, Nd.size, wt, wt_append]; rw [Nd.stmtT.eq_def]; simp only [tabT]
    simp [-List.length_append, updSign, symbol, symbols]
    simp only [List.length_append, List.length_cons, List.length_nil, List.length_replicate]
    omega
 | @swap a b x y hx hy =>
  intro hd hw d hdd; have hd1 := hd.app; have hwl := hw.1.2.2.2.2.2.2; obtain ⟨-, h1, h2⟩ := pl_len hx hd1.1 hwl.1; obtain ⟨-, h3, h4⟩ := pl_len hy hd1.2.tl hwl.2.1; simp only [rowDepth, Nd.depth] at hdd; simp only [rowLines, rowSize, Nd.size, wt, wt_append]; rw [Nd.stmtT.eq_def]; simp only [tabT]
  simp [-List.length_append, updSign]
  simp only [List.length_append, List.length_cons, List.length_nil, List.length_replicate]
  omega
 | @bl a l h ih =>
  intro hd hw d y hy hdd
  obtain rfl : Nd.mk 57 0 [] l = y := by simpa using hy
  have i1 := ih hd.tl.app.1 hw.1.2.2.2.2.2.2; simp only [Nd.depth] at hdd; obtain ⟨j1, j2⟩ := i1 (d + 1) (by omega); have hnn := rowDepth_nn l; simp only [Nd.linesT, Nd.size, wt, wt_append, List.length_cons, List.length_nil]
  omega
 | ls0 =>
  intro hd hw d hdd
  simp [rowLines]
 | @ls1 a b x l hx hl ix il =>
  intro hd hw d hdd; have hd1 := hd.app; simp only [rowDepth] at hdd; have i1 := ix hd1.1 ⟨hw.1, trivial⟩; have i2 := il hd1.2.tl hw.2; obtain ⟨j1, j2⟩ := i1 d (by simp only [rowDepth]; have := rowDepth_nn l; omega); obtain ⟨j3, j4⟩ := i2 d (by omega); simp only [rowLines, List.length_append, rowSize, List.length_nil, wt, wt_append, List.length_cons] at j1 j2 j3 j4 ⊢
  omega
theorem lines_shortD {t : Nd} (hb : t.isBlock = true) (hw : t.wf) (d : Nat) (hd : t.depth + 2 * (d : Int) ≤ 83) : (t.linesT d).length ≤ 200 * t.size := by
 have h := lines_said hb hw d; have e := block_shape hb
 have hwl : rowWf t.kids := by obtain ⟨k, n, s, l⟩ := t; exact hw.2.2.2.2.2.2
 have hl := h.gs.len (pcs_dig _ _ h.nice.wf) hwl; simp only [LenS] at hl; obtain ⟨k, n, s, l⟩ := t; simp only [Nd.kids] at hl; simp only [Nd.depth] at hd; have := (hl d (by omega)).2; simp only [Nd.linesT, Nd.size]
 omega
end Bk
namespace Bk
open Go Go.RowKit Go.Proofs
structure VD.wf (v : VD) : Prop where
 name : v.name.length ≤ 9223372036854775807
 k0 : 0 ≤ v.kind
 k1 : v.kind ≤ 255
 l0 : -9223372036854775808 ≤ v.len
 l1 : v.len ≤ 9223372036854775807
end Bk
namespace Bk
open Go Go.RowKit Go.Proofs
mutual
theorem lim_le : ∀ (t : Nd) (d m : Int), 0 ≤ m → 0 ≤ (t.lim d m).2 ∧ (t.lim d m).2 ≤ m
 | .mk _ _ s l, d, m, hm => by
  simp only [Nd.lim]
  split
  · exact ⟨hm, Int.le_refl _⟩
  · have := rowLim_le l (d - 1) (m - 1) (by omega)
    omega
theorem rowLim_le : ∀ (l : List Nd) (d m : Int), 0 ≤ m → 0 ≤ (rowLim l d m).2 ∧ (rowLim l d m).2 ≤ m
 | [], d, m, hm => by simp only [rowLim]; omega
 | t :: r, d, m, hm => by
  have h1 := lim_le t d m hm; simp only [rowLim]
  split
  · have := rowLim_le r d (t.lim d m).2 h1.1
    omega
  · omega
end
end Bk
namespace Bk
open Go Go.RowKit Go.Proofs
structure PD.wf (p : PD) : Prop where
 name : p.name.length ≤ 9223372036854775807
 len : p.params.length ≤ 9223372036854775807
 params : ∀ v ∈ p.params, v.wf
 body : p.body.wf
structure PG.wf (g : PG) : Prop where
 nv : g.vars.length ≤ 9223372036854775807
 np : g.procs.length ≤ 9223372036854775807
 vars : ∀ v ∈ g.vars, v.wf
 procs : ∀ p ∈ g.procs, p.wf
 main : g.main.wf
end Bk
namespace Bk
open Go Go.RowKit Go.Proofs
def cat {α : Type} (f : α → List UInt8) (l : List α) : List UInt8 := (l.map f).flatten
def commas {α : Type} (f : α → List UInt8) : Bool → List α → List UInt8
 | _, [] => []
 | q, x :: r => (if q then [] else [44, 32]) ++ f x ++ commas f false r
def VD.text (v : VD) : List UInt8 := if v.kind = 1 then [105, 110, 116, 32] ++ v.name else if v.kind = 2 then [97, 114, 114, 97, 121, 32] ++ v.name ++ [91] ++ Lib.itoa v.len ++ [93] else [115, 116, 97, 99, 107, 32] ++ v.name
def VD.line (v : VD) : List UInt8 := v.text ++ [10]
def PD.text (p : PD) : List UInt8 := [112, 114, 111, 99, 32] ++ p.name ++ [40] ++ commas VD.text true p.params ++ [41, 32, 123, 10] ++ p.body.linesT 1 ++ [125, 10]
def PG.text (g : PG) : List UInt8 := cat VD.line g.vars ++ cat PD.text g.procs ++ [109, 97, 105, 110, 32, 123, 10] ++ g.main.linesT 1 ++ [125, 10]
theorem itoa_len16 (n : Int) (h0 : 1 ≤ n) (h1 : n ≤ 16) : (Lib.itoa n).length ≤ 21 := Lib.itoa_length_le n (by omega) (by omega)
theorem VD.text_len (v : VD) (h : v.ok = true) : v.text.length ≤ 60 := by
 simp only [VD.ok, Bool.and_eq_true] at h; have h1 := isName_len h.1; have h2 := h.2
 unfold VD.text
 split
 · simp only [List.length_append, List.length_cons, List.length_nil]; omega
 · split
   · rename_i c1 c2
     rw [if_neg (by omega), if_pos c2] at h2; simp only [Bool.and_eq_true, decide_eq_true_eq] at h2; have := itoa_len16 v.len h2.1 h2.2
     simp only [List.length_append, List.length_cons, List.length_nil]; omega
   · simp only [List.length_append, List.length_cons, List.length_nil]; omega
theorem cat_len {α : Type} (f : α → List UInt8) (B : Nat) : ∀ (l : List α), (∀ x ∈ l, (f x).length ≤ B) → (cat f l).length ≤ l.length * B
 | [], _ => by simp [cat]
 | x :: r, h => by
  have h1 := h x List.mem_cons_self; have h2 := cat_len f B r (fun y hy => h y (List.mem_cons_of_mem _ hy))
  have e : cat f (x :: r) = f x ++ cat f r := by simp [cat]
  rw [e, List.length_append, List.length_cons, Nat.add_mul, Nat.one_mul]; omega
theorem commas_len {α : Type} (f : α → List UInt8) (B : Nat) : ∀ (l : List α) (q : Bool), (∀ x ∈ l, (f x).length ≤ B) → (commas f q l).length ≤ l.length * (B + 2)
 | [], q, _ => by simp [commas]
 | x :: r, q, h => by
  have h1 := h x List.mem_cons_self; have h2 := commas_len f B r false (fun y hy => h y (List.mem_cons_of_mem _ hy)); simp only [commas, List.length_append, List.length_cons, Nat.add_mul, Nat.one_mul]
  split <;> simp <;> omega
mutual
theorem lim_size : ∀ (t : Nd) (d m : Int), 0 ≤ m → (t.lim d m).1 = true → (t.size : Int) + (t.lim d m).2 ≤ m
 | .mk _ _ s l, d, m, hm, h => by
  simp only [Nd.lim] at h ⊢
  split at h
  · simp at h
  · rename_i hn
    rw [if_neg hn]; have := rowLim_size l (d - 1) (m - 1) (by omega) h
    simp only [Nd.size]; omega
theorem rowLim_size : ∀ (l : List Nd) (d m : Int), 0 ≤ m → (rowLim l d m).1 = true → (rowSize l : Int) + (rowLim l d m).2 ≤ m
 | [], d, m, hm, _ => by simp only [rowLim, rowSize]; omega
 | t :: r, d, m, hm, h => by
  simp only [rowLim] at h ⊢
  split at h
  · rename_i ht
    rw [if_pos ht]; have h1 := lim_size t d m hm ht; have h0 := lim_le t d m hm; have h2 := rowLim_size r d (t.lim d m).2 h0.1 h
    simp only [rowSize]; omega
  · simp at h
end
theorem body_len (t : Nd) (hwf : t.wf) (h : bodyOk t = true) : t.size ≤ 2000 ∧ t.isBlock = true ∧ (t.linesT 1).length ≤ 8001000000 := by
 simp only [bodyOk, Bool.and_eq_true] at h; have h1 := lim_size t 80 2000 (by omega) h.1; have h2 := lim_le t 80 2000 (by omega)
 have hsz : t.size ≤ 2000 := by omega
 have := linesLen t 1 hwf h.2 (by omega)
 exact ⟨hsz, h.2, by omega⟩
theorem PD.text_len (p : PD) (hwf : p.wf) (h : p.ok = true) : p.text.length ≤ 8002000000 := by
 simp only [PD.ok, Bool.and_eq_true, decide_eq_true_eq] at h; have h1 := isName_len h.1.1.1; have h2 := body_len p.body hwf.body h.2; have h3 := commas_len VD.text 60 p.params true (fun v hv => VD.text_len v (by have := h.1.2; unfold allOk at this; exact List.all_eq_true.1 this v hv)); have h4 := h.1.1.2
 unfold PD.text
 simp only [List.length_append, List.length_cons, List.length_nil]; have : p.params.length * 62 ≤ 8 * 62 := Nat.mul_le_mul_right _ h4
 omega
theorem PG.text_len (g : PG) (hwf : g.wf) (h : g.ok = true) : g.text.length ≤ 1000000000000 := by
 simp only [PG.ok, Bool.and_eq_true, decide_eq_true_eq] at h; obtain ⟨⟨⟨⟨h1, h2⟩, h3⟩, h4⟩, h5⟩ := h
 have a1 := cat_len VD.line 61 g.vars (fun v hv => by
  have := VD.text_len v (by unfold allOk at h3; exact List.all_eq_true.1 h3 v hv)
  simp only [VD.line, List.length_append, List.length_cons, List.length_nil]; omega)
 have a2 := cat_len PD.text 8002000000 g.procs (fun p hp => PD.text_len p (hwf.procs p hp) (List.all_eq_true.1 h4 p hp)); have a3 := body_len g.main hwf.main h5; have b1 : g.vars.length * 61 ≤ 32 * 61 := Nat.mul_le_mul_right _ h1; have b2 : g.procs.length * 8002000000 ≤ 64 * 8002000000 := Nat.mul_le_mul_right _ h2
 unfold PG.text
 simp only [List.length_append, List.length_cons, List.length_nil]
 omega
end Bk
namespace Bk
open Go
inductive GV : Txt → VD → Prop where
 | int {m : List UInt8} : isName m = true → GV [[105, 110, 116], m] ⟨m, 1, 0⟩
 | stack {m : List UInt8} : isName m = true → GV [[115, 116, 97, 99, 107], m] ⟨m, 3, 0⟩
 | array {m t : List UInt8} : isName m = true → startsDigit t = true → 1 ≤ digitsVal t → digitsVal t ≤ 16 → GV [[97, 114, 114, 97, 121], m, [91], t, [93]] ⟨m, 2, (digitsVal t : Int)⟩
inductive GVs : Txt → List VD → Prop where
 | nil : GVs [] []
 | cons {a b : Txt} {v : VD} {l : List VD} : GV a v → GVs b l → GVs (a ++ b) (v :: l)
inductive GC : Txt → List VD → Prop where
 | nil : GC [] []
 | cons {a b : Txt} {v : VD} {l : List VD} : GV a v → GC b l → GC ([44] :: (a ++ b)) (v :: l)
inductive GPr : Txt → PD → Prop where
 | p0 {m : List UInt8} {b : Txt} {x : Nd} : isName m = true → GS .bl b [x] → GPr ([112, 114, 111, 99] :: m :: [40] :: [41] :: b) ⟨m, [], x⟩
 | p1 {m : List UInt8} {a c b : Txt} {v : VD} {l : List VD} {x : Nd} : isName m = true → GV a v → GC c l → GS .bl b [x] → GPr ([112, 114, 111, 99] :: m :: [40] :: (a ++ (c ++ ([41] :: b)))) ⟨m, v :: l, x⟩
inductive GPs : Txt → List PD → Prop where
 | nil : GPs [] []
 | cons {a b : Txt} {p : PD} {l : List PD} : GPr a p → GPs b l → GPs (a ++ b) (p :: l)
inductive GPG : Txt → PG → Prop where
 | mk {a b c : Txt} {vs : List VD} {ps : List PD} {x : Nd} : GVs a vs → GPs b ps → GS .bl c [x] → GPG (a ++ (b ++ ([109, 97, 105, 110] :: c))) ⟨vs, ps, x⟩
section
variable {ts : List Tok} {n : Int}
theorem GV.reads (hd : DigitKinds ts) {a : Txt} {v : VD} (h : GV a v) {σ : PS} {rest : Txt} (hr : rem ts σ = a ++ rest) (he : σ.err = 0) : declP ts n σ = (v, adv σ a.length) := by
 cases h with
 | @int m hm =>
  have hr1 : rem ts σ = [105, 110, 116] :: (m :: rest) := hr
  unfold declP
  rw [if_pos (by rw [has_cons hr1 he]; decide), next_adv, name_cons (rem_cons hr1) he hm, adv_adv]
  rfl
 | @stack m hm =>
  have hr1 : rem ts σ = [115, 116, 97, 99, 107] :: (m :: rest) := hr
  unfold declP
  rw [if_neg (by rw [has_cons hr1 he]; decide), if_pos (by rw [has_cons hr1 he]; decide), next_adv, name_cons (rem_cons hr1) he hm, adv_adv]
  rfl
 | @array m t hm ht h1 h2 =>
  have hr1 : rem ts σ = [97, 114, 114, 97, 121] :: (m :: [91] :: t :: [93] :: rest) := hr; have hr2 := rem_cons hr1; have hr3 := rem_cons hr2; have hr4 := rem_cons hr3; have hr5 := rem_cons hr4
  unfold declP
  rw [if_neg (by rw [has_cons hr1 he]; decide), if_neg (by rw [has_cons hr1 he]; decide), if_pos (by rw [has_cons hr1 he]; decide), next_adv, name_cons hr2 he hm]; simp only; rw [expect_cons hr3 he]
  have hn : numberP ts n 1 16 (adv (adv (adv σ 1) 1) 1) = ((digitsVal t : Int), adv (adv (adv (adv σ 1) 1) 1) 1) := by
   unfold numberP
   rw [if_pos ((kind_dig hd hr4 he).2 ht), peek_cons hr4 he, if_pos ⟨by omega, by omega, by omega⟩]
   rfl
  rw [hn]; simp only; rw [expect_cons hr5 he, adv_adv, adv_adv, adv_adv, adv_adv]
  rfl
theorem GV.head {a : Txt} {v : VD} (h : GV a v) : ∃ t r, a = t :: r ∧ (t = [105, 110, 116] ∨ t = [97, 114, 114, 97, 121] ∨ t = [115, 116, 97, 99, 107]) ∧ r ≠ [] := by
 cases h <;> exact ⟨_, _, rfl, by simp, by simp⟩
theorem GPr.head {a : Txt} {p : PD} (h : GPr a p) : ∃ r, a = [112, 114, 111, 99] :: r := by
 cases h <;> exact ⟨_, rfl⟩
end
def VD.pcs (v : VD) : List Pc := if v.kind = 1 then [.tk [105, 110, 116], .sp [32], .tk v.name] else if v.kind = 2 then [.tk [97, 114, 114, 97, 121], .sp [32], .tk v.name, .tk [91], .tk (Lib.itoa v.len), .tk [93]] else [.tk [115, 116, 97, 99, 107], .sp [32], .tk v.name]
theorem VD.shape {v : VD} (h : v.ok = true) : isName v.name = true ∧ ((v.kind = 1 ∧ v.len = 0) ∨ (v.kind = 3 ∧ v.len = 0) ∨ (v.kind = 2 ∧ 1 ≤ v.len ∧ v.len ≤ 16)) := by
 simp only [VD.ok, Bool.and_eq_true] at h; refine ⟨h.1, ?_⟩; have h2 := h.2
 split at h2
 · rename_i c
   have : v.len = 0 := by simpa using h2
   rcases c with c | c
   · exact Or.inl ⟨c, this⟩
   · exact Or.inr (Or.inl ⟨c, this⟩)
 · split at h2
   · rename_i c
     simp only [Bool.and_eq_true, decide_eq_true_eq] at h2
     exact Or.inr (Or.inr ⟨c, h2⟩)
   · cases h2
def varPcs : List VD → List Pc
 | [] => []
 | v :: r => v.pcs ++ (.sp [10] :: varPcs r)
def commaPcs : List VD → List Pc
 | [] => []
 | v :: r => .tk [44] :: .sp [32] :: (v.pcs ++ commaPcs r)
def paramPcs : List VD → List Pc
 | [] => []
 | v :: r => v.pcs ++ commaPcs r
def PD.pcs (p : PD) : List Pc := .tk [112, 114, 111, 99] :: .sp [32] :: .tk p.name :: .tk [40] :: (paramPcs p.params ++ (.tk [41] :: (bpcs (p.body.lpcs 1) 0 ++ [.sp [10]])))
mutual
theorem lim_depth : ∀ (t : Nd) (d m : Int), 0 ≤ d → (t.lim d m).1 = true → t.depth ≤ d
 | .mk _ _ s l, d, m, hd, h => by
  simp only [Nd.lim] at h
  split at h
  · simp at h
  · have := rowLim_depth l (d - 1) (m - 1) (by omega) h
    simp only [Nd.depth]; omega
theorem rowLim_depth : ∀ (l : List Nd) (d m : Int), 0 ≤ d → (rowLim l d m).1 = true → rowDepth l ≤ d
 | [], d, m, hd, _ => by simp only [rowDepth]; exact hd
 | t :: r, d, m, hd, h => by
  simp only [rowLim] at h
  split at h
  · rename_i ht
    have h1 := lim_depth t d m hd ht; have h2 := rowLim_depth r d _ hd h
    simp only [rowDepth]; omega
  · simp at h
end
theorem NiceL.app {A B : List Pc} (h : NiceL A) (k : NiceL B) : NiceL (A ++ B) := ⟨by rw [wf_append, h.fin]; exact ⟨h.wf, k.wf⟩, by rw [endOf_append, h.fin]; exact k.fin⟩
def procPcs : List PD → List Pc
 | [] => []
 | p :: r => p.pcs ++ procPcs r
def PG.pcs (g : PG) : List Pc := varPcs g.vars ++ (procPcs g.procs ++ (.tk [109, 97, 105, 110] :: (bpcs (g.main.lpcs 1) 0 ++ [.sp [10]])))
end Bk
namespace Bk
open Go Go.RowKit Go.Proofs
structure Few5 (g : PG) : Prop where
 nv : g.vars.length ≤ 8
 np : g.procs.length ≤ 5
 main : (g.main.small 24 200).1 = true
 procs : ∀ p ∈ g.procs, (p.body.small 24 200).1 = true
end Bk
namespace Bk
open Go Go.RowKit Go.Proofs
end Bk
namespace Bk
open Go Go.RowKit Go.Proofs
attribute [local irreducible] Go.Calls
theorem eqb_same (t : Nd) : t.eqb t = true := (eqb_iff t t).2 rfl
theorem equalA_t (t : Nd) (hz : t.size ≤ 1000000) (S S' : Nat → Prop) (a a' : Option Addr) (c c' : Nat) (w : World) (hs : t.sits S w a) (hs' : t.sits S' w a') : Calls Tryz.prog 13 #[t.val a c, t.val a' c'] w fun e w' => e = .returned (.bool true) ∧ Ext w w' := by
 have := Equal_b (t.size + 1) t t S S' a a' c c' w (by omega) (by omega) hs hs'
 rw [eqb_same] at this; exact this
structure PG.few (g : PG) : Prop where
 nv : g.vars.length ≤ 1000000
 np : g.procs.length ≤ 1000000
 main : g.main.size ≤ 1000000
 procs : ∀ p ∈ g.procs, p.params.length ≤ 1000000 ∧ p.body.size ≤ 1000000
end Bk
namespace Bk
open Go
theorem small_block {t : Nd} (hwf : t.wf) (hg : (t.small 24 200).1 = true) (he : t.isBlock = true) : t.size ≤ 200 ∧ t.depth ≤ 24 ∧ (∀ d : Nat, d ≤ 20 → (t.linesT d).length ≤ 40000) := by
 have h1 := small_size t 24 200 (by omega) hg; have h2 := small_le t 24 200 (by omega) hg; have h3 := small_depth t 24 200 (by omega) hg
 have hz : t.size ≤ 200 := by omega
 exact ⟨hz, h3, fun d hd => by have := lines_shortD he hwf d (by omega); omega⟩
end Bk
namespace Bk
open Go Go.RowKit Go.Proofs
attribute [local irreducible] Go.Calls
theorem block_v {t : Nd} (hwf : t.wf) (h : t.isBlock = true) (hz : t.size ≤ 1000000) (S : Nat → Prop) (a : Option Addr) (c : Nat) (w : World) (ht : Tabs5 w) (hs : t.sits S w a) : Calls Tryz.prog 15 #[t.val a c] w fun e w' => e = .returned (.tuple #[str (t.linesT 0), .int .i64 0]) ∧ Ext w w' := by
 have := Block_c t hwf hz S a c w ht.t ht.g hs
 rw [h] at this; exact this
theorem isBlock_v {t : Nd} (hwf : t.wf) {b : Bool} (h : t.isBlock = b) (S : Nat → Prop) (a : Option Addr) (c : Nat) (w : World) (hs : t.sits S w a) : Calls Tryz.prog 14 #[t.val a c] w fun e w' => e = .returned (.bool b) ∧ Ext w w' := by
 have := IsBlock_t S t hwf a c w hs
 rw [h] at this; exact this
def joinNd (t u : Nd) : Nd := .mk 57 0 [] (t.kids ++ u.kids)
theorem rowStmt_append : ∀ l q : List Nd, rowStmt l = true → rowStmt q = true → rowStmt (l ++ q) = true
 | [], q, _, h => h
 | t :: r, q, h, k => by
  simp only [rowStmt, Bool.and_eq_true, List.cons_append] at h ⊢
  exact ⟨h.1, rowStmt_append r q h.2 k⟩
theorem rowWf_append : ∀ l q : List Nd, rowWf l → rowWf q → rowWf (l ++ q)
 | [], q, _, h => h
 | t :: r, q, h, k => by
  simp only [rowWf, List.cons_append] at h ⊢
  exact ⟨h.1, rowWf_append r q h.2 k⟩
theorem join_facts {t u : Nd} (ht : t.wf) (hu : u.wf) (h1 : t.isBlock = true) (h2 : u.isBlock = true) (z1 : t.size ≤ 200) (z2 : u.size ≤ 200) : (joinNd t u).wf ∧ (joinNd t u).isBlock = true ∧ (joinNd t u).size ≤ 400 ∧ (joinNd t u).linesT 0 = t.linesT 0 ++ u.linesT 0 ∧ (t.kids ++ u.kids).length ≤ 400 := by
 obtain ⟨k, n, s, l⟩ := t; obtain ⟨k', n', s', q⟩ := u
 unfold Nd.isBlock at h1 h2
 simp only [Bool.and_eq_true] at h1 h2; simp only [Nd.size] at z1 z2; have e := rowSize_append l q; have hl := length_rowA (l ++ q)
 have hl2 : (l ++ q).length ≤ 400 := by omega
 refine ⟨?_, ?_, ?_, ?_, hl2⟩
 · simp only [joinNd, Nd.wf, Nd.kids]
   exact ⟨by omega, by omega, by omega, by omega, by simp, by omega, rowWf_append l q ht.2.2.2.2.2.2 hu.2.2.2.2.2.2⟩
 · simp only [joinNd, Nd.isBlock, Nd.kids, rowStmt_append l q h1.2 h2.2, Bool.and_true]
   rfl
 · simp only [joinNd, Nd.size, Nd.kids]; omega
 · simp only [joinNd, Nd.linesT, Nd.kids, rowLines_append]
theorem Tabs5.fr {S : Nat → Prop} {w w' : World} (h : Tabs5 w) (x : Fr S w w') (hs : ∀ k, S k → Tryz.prog.globals.size ≤ k) : Tabs5 w' :=
 ⟨h.t.below (B := Tryz.prog.globals.size) ⟨x.os, x.tape, x.output, x.size, fun k hk => x.block k (Nat.lt_of_lt_of_le hk h.g) (fun hS => by have := hs k hS; omega)⟩ (Nat.le_refl _), Nat.le_trans h.g x.size⟩
theorem parseLB_of (s : List UInt8) (w : World) (hl : s.length ≤ 1000000) (hS : Syms w) (hE : Errs w) : Calls Tryz.prog 16 #[str s] w (ParseL w (parseBlock s)) := by
 refine (Block_p s w hl hS hE).mono ?_; rintro e w' ⟨a, k, he, hs, x⟩
 exact ⟨a, k, he, sits_ltB _ _ hs, x⟩
theorem kidsSits {S : Nat → Prop} {w : World} {t : Nd} {a : Option Addr} (h : t.sits S w a) : rowSits S w t.kids a := by
 obtain ⟨k, n, s, l⟩ := t
 exact h
set_option maxRecDepth 100000 in
set_option maxHeartbeats 40000000 in
theorem PrinterBlocksRound_c (t : Nd) (a : Option Addr) (c : Nat) (u : Nd) (a' : Option Addr) (c' : Nat) (w : World) (hwf : t.wf) (S : Nat → Prop) (hs : t.sits S w a) (hwf' : u.wf) (S' : Nat → Prop) (hs' : u.sits S' w a') (ht : Tabs5 w ∧ Syms w) (hE : Errs w) :
 Calls Tryz.prog 5 #[t.val a c, u.val a' c'] w fun e w' => e = .returned (.bool true) ∧ Ext w w' := by
 have X := Ext.refl w; obtain ⟨ht, hS⟩ := ht; replace hs := sits_ltA _ _ hs; replace hs' := sits_ltA _ _ hs'
 cases hg : (t.small 24 200).1
 · have HG := Lib.hid (great_y hwf hg)
   clear hg hwf hwf'; refine calls_in Tryz.func5 Tryz.ntmps5 rfl rfl ?_
   focus
    refine cS ?_; (refine lw_box' [_, _, _, _] rfl rfl rfl ?_; intro b1 w2 n3); have h4 := n3.blk; have x5 := n3.ext; have p6 := n3.pos; have z7 := n3.size; clear n3; replace hE := hE.ext x5; replace X := X.ext x5; replace ht := ht.ext x5; replace hS := hS.ext x5; replace hs := Nd.sits.ext hs x5; replace hs' := Nd.sits.ext hs' x5; clear x5; (refine lw_box' [_, _, _, _] rfl rfl rfl ?_; intro b8 w9 n10); have h11 := n10.blk; have x12 := n10.ext; have p13 := n10.pos; have z14 := n10.size; clear n10; replace h4 := h4.ext x12; replace hE := hE.ext x12; replace X := X.ext x12; replace ht := ht.ext x12; replace hS := hS.ext x12; replace hs := Nd.sits.ext hs x12; replace hs' := Nd.sits.ext hs' x12; clear x12; refine cA rfl rfl (cT (cw_seq (cS ?_))); refine cC (by kernel_rfl) rfl (awake5_c _ (Tabs5.t (by assumption)) (Tabs5.g (by assumption))) rfl ?_; rintro _ w16 ⟨⟨⟩, x15⟩; have z17 := x15.size; replace h11 := h11.ext x15; replace h4 := h4.ext x15; replace hE := hE.ext x15; replace X := X.ext x15; replace ht := ht.ext x15; replace hS := hS.ext x15; replace hs := Nd.sits.ext hs x15; replace hs' := Nd.sits.ext hs' x15; clear x15; refine lw_pure (pur_not rfl) rfl (cT (cw_cond_f rfl (cw_skip (qw_then (cw_seq (cS (lw_loads_b' [_, _, _, _] tabOk rfl rfl rfl h4 rfl rfl rfl ?_))))))); refine cC (by kernel_rfl) rfl (HG.out _ _ _ _ (by assumption)) rfl ?_; rintro _ w19 ⟨⟨⟩, x18⟩; have z20 := x18.size; replace h11 := h11.ext x18; replace h4 := h4.ext x18; replace hE := hE.ext x18; replace X := X.ext x18
    replace ht := ht.ext x18; replace hS := hS.ext x18; replace hs := Nd.sits.ext hs x18; replace hs' := Nd.sits.ext hs' x18; clear x18; refine cM rfl rfl (lw_off rfl rfl rfl (rfl) rfl (lw_off rfl rfl rfl (rfl) rfl (lw_pure (pur_pick_t rfl rfl rfl) rfl (cM rfl rfl (lw_off rfl rfl rfl (rfl) rfl (lw_off rfl rfl rfl (rfl) rfl (lw_off rfl rfl rfl (rfl) rfl (lw_pure (pur_pick_t rfl rfl rfl) rfl (cM rfl rfl (lw_off rfl rfl rfl (rfl) rfl (lw_off rfl rfl rfl (rfl) rfl ?_))))))))))); refine lw_off rfl rfl rfl (rfl) rfl (lw_pure (pur_pick_t rfl rfl rfl) rfl (cT (cw_cond_t rfl (cS (cA rfl rfl (cT (cw_ret (qw_then_ret (qw_ret1 rfl rfl ?_))))))))); rotate_left 1
   exact ⟨rfl, X⟩
 cases hg' : (u.small 24 200).1
 · have HG := Lib.hid (great_n hwf hg)
   have HG' := Lib.hid (great_y hwf' hg'); clear hg hwf hwf' hg'; refine calls_in Tryz.func5 Tryz.ntmps5 rfl rfl ?_
   focus
    refine cS ?_; (refine lw_box' [_, _, _, _] rfl rfl rfl ?_; intro ba1 wa2 na3); have ha4 := na3.blk; have xa5 := na3.ext; have pa6 := na3.pos; have za7 := na3.size; clear na3; replace hE := hE.ext xa5; replace X := X.ext xa5; replace ht := ht.ext xa5; replace hS := hS.ext xa5; replace hs := Nd.sits.ext hs xa5; replace hs' := Nd.sits.ext hs' xa5; clear xa5; (refine lw_box' [_, _, _, _] rfl rfl rfl ?_; intro ba8 wa9 na10); have ha11 := na10.blk; have xa12 := na10.ext; have pa13 := na10.pos; have za14 := na10.size; clear na10; replace ha4 := ha4.ext xa12; replace hE := hE.ext xa12; replace X := X.ext xa12; replace ht := ht.ext xa12; replace hS := hS.ext xa12; replace hs := Nd.sits.ext hs xa12; replace hs' := Nd.sits.ext hs' xa12; clear xa12; refine cA rfl rfl (cT (cw_seq (cS ?_))); refine cC (by kernel_rfl) rfl (awake5_c _ (Tabs5.t (by assumption)) (Tabs5.g (by assumption))) rfl ?_; rintro _ wa16 ⟨⟨⟩, xa15⟩; have za17 := xa15.size; replace ha11 := ha11.ext xa15; replace ha4 := ha4.ext xa15; replace hE := hE.ext xa15; replace X := X.ext xa15; replace ht := ht.ext xa15; replace hS := hS.ext xa15; replace hs := Nd.sits.ext hs xa15; replace hs' := Nd.sits.ext hs' xa15; clear xa15; refine lw_pure (pur_not rfl) rfl (cT (cw_cond_f rfl (cw_skip (qw_then (cw_seq (cS (lw_loads_b' [_, _, _, _] tabOk rfl rfl rfl ha4 rfl rfl rfl ?_))))))); refine cC (by kernel_rfl) rfl (HG.out _ _ _ _ (by assumption)) rfl ?_; rintro _ wa19 ⟨⟨⟩, xa18⟩; have za20 := xa18.size; replace ha11 := ha11.ext xa18; replace ha4 := ha4.ext xa18
    replace hE := hE.ext xa18; replace X := X.ext xa18; replace ht := ht.ext xa18; replace hS := hS.ext xa18; replace hs := Nd.sits.ext hs xa18; replace hs' := Nd.sits.ext hs' xa18; clear xa18; refine cM rfl rfl (lw_on rfl rfl rfl (rfl) (lw_loads_b' [_, _, _, _] tabOk rfl rfl rfl ha11 rfl rfl rfl (lw_on rfl rfl rfl (rfl) ?_))); refine cC (by kernel_rfl) rfl (HG'.out _ _ _ _ (by assumption)) rfl ?_; rintro _ wa22 ⟨⟨⟩, xa21⟩; have za23 := xa21.size; replace ha11 := ha11.ext xa21; replace ha4 := ha4.ext xa21; replace hE := hE.ext xa21; replace X := X.ext xa21; replace ht := ht.ext xa21; replace hS := hS.ext xa21; replace hs := Nd.sits.ext hs xa21; replace hs' := Nd.sits.ext hs' xa21; clear xa21; refine lw_pure (pur_pick_f rfl rfl rfl) rfl (cM rfl rfl (lw_off rfl rfl rfl (rfl) rfl (lw_off rfl rfl rfl (rfl) rfl (lw_off rfl rfl rfl (rfl) rfl (lw_pure (pur_pick_t rfl rfl rfl) rfl (cM rfl rfl (lw_off rfl rfl rfl (rfl) rfl (lw_off rfl rfl rfl (rfl) rfl (lw_off rfl rfl rfl (rfl) rfl (lw_pure (pur_pick_t rfl rfl rfl) rfl (cT ?_))))))))))); refine cw_cond_t rfl (cS (cA rfl rfl (cT (cw_ret (qw_then_ret (qw_ret1 rfl rfl ?_)))))); rotate_left 1
   exact ⟨rfl, X⟩
 cases he : t.isBlock
 · have HG := Lib.hid (great_n hwf hg)
   have HG' := Lib.hid (great_n hwf' hg'); have HI := Lib.hid (isBlock_v hwf he); clear hg hwf hwf' hg' he; refine calls_in Tryz.func5 Tryz.ntmps5 rfl rfl ?_
   focus
    refine cS ?_; (refine lw_box' [_, _, _, _] rfl rfl rfl ?_; intro bb1 wb2 nb3); have hb4 := nb3.blk; have xb5 := nb3.ext; have pb6 := nb3.pos; have zb7 := nb3.size; clear nb3; replace hE := hE.ext xb5; replace X := X.ext xb5; replace ht := ht.ext xb5; replace hS := hS.ext xb5; replace hs := Nd.sits.ext hs xb5; replace hs' := Nd.sits.ext hs' xb5; clear xb5; (refine lw_box' [_, _, _, _] rfl rfl rfl ?_; intro bb8 wb9 nb10); have hb11 := nb10.blk; have xb12 := nb10.ext; have pb13 := nb10.pos; have zb14 := nb10.size; clear nb10; replace hb4 := hb4.ext xb12; replace hE := hE.ext xb12; replace X := X.ext xb12; replace ht := ht.ext xb12; replace hS := hS.ext xb12; replace hs := Nd.sits.ext hs xb12; replace hs' := Nd.sits.ext hs' xb12; clear xb12; refine cA rfl rfl (cT (cw_seq (cS ?_))); refine cC (by kernel_rfl) rfl (awake5_c _ (Tabs5.t (by assumption)) (Tabs5.g (by assumption))) rfl ?_; rintro _ wb16 ⟨⟨⟩, xb15⟩; have zb17 := xb15.size; replace hb11 := hb11.ext xb15; replace hb4 := hb4.ext xb15; replace hE := hE.ext xb15; replace X := X.ext xb15; replace ht := ht.ext xb15; replace hS := hS.ext xb15; replace hs := Nd.sits.ext hs xb15; replace hs' := Nd.sits.ext hs' xb15; clear xb15; refine lw_pure (pur_not rfl) rfl (cT (cw_cond_f rfl (cw_skip (qw_then (cw_seq (cS (lw_loads_b' [_, _, _, _] tabOk rfl rfl rfl hb4 rfl rfl rfl ?_))))))); refine cC (by kernel_rfl) rfl (HG.out _ _ _ _ (by assumption)) rfl ?_; rintro _ wb19 ⟨⟨⟩, xb18⟩; have zb20 := xb18.size; replace hb11 := hb11.ext xb18; replace hb4 := hb4.ext xb18
    replace hE := hE.ext xb18; replace X := X.ext xb18; replace ht := ht.ext xb18; replace hS := hS.ext xb18; replace hs := Nd.sits.ext hs xb18; replace hs' := Nd.sits.ext hs' xb18; clear xb18; refine cM rfl rfl (lw_on rfl rfl rfl (rfl) (lw_loads_b' [_, _, _, _] tabOk rfl rfl rfl hb11 rfl rfl rfl (lw_on rfl rfl rfl (rfl) ?_))); refine cC (by kernel_rfl) rfl (HG'.out _ _ _ _ (by assumption)) rfl ?_; rintro _ wb22 ⟨⟨⟩, xb21⟩; have zb23 := xb21.size; replace hb11 := hb11.ext xb21; replace hb4 := hb4.ext xb21; replace hE := hE.ext xb21; replace X := X.ext xb21; replace ht := ht.ext xb21; replace hS := hS.ext xb21; replace hs := Nd.sits.ext hs xb21; replace hs' := Nd.sits.ext hs' xb21; clear xb21; refine lw_pure (pur_pick_f rfl rfl rfl) rfl (cM rfl rfl (lw_on rfl rfl rfl (rfl) (lw_loads_b' [_, _, _, _] tabOk rfl rfl rfl hb4 rfl rfl rfl (lw_on rfl rfl rfl (rfl) ?_)))); refine cC (by kernel_rfl) rfl (HI.out _ _ _ _ (by assumption)) rfl ?_; rintro _ wb25 ⟨⟨⟩, xb24⟩; have zb26 := xb24.size; replace hb11 := hb11.ext xb24; replace hb4 := hb4.ext xb24; replace hE := hE.ext xb24; replace X := X.ext xb24; replace ht := ht.ext xb24; replace hS := hS.ext xb24; replace hs := Nd.sits.ext hs xb24; replace hs' := Nd.sits.ext hs' xb24; clear xb24; refine lw_on rfl rfl rfl (rfl) (lw_pure (pur_not rfl) rfl (lw_pure (pur_pick_f rfl rfl rfl) rfl (cM rfl rfl (lw_off rfl rfl rfl (rfl) rfl (lw_off rfl rfl rfl (rfl) rfl (lw_off rfl rfl rfl (rfl) rfl (lw_pure (pur_pick_t rfl rfl rfl) rfl (cT (cw_cond_t rfl (cS (cA rfl rfl ?_)))))))))))
    refine cT (cw_ret (qw_then_ret (qw_ret1 rfl rfl ?_))); rotate_left 1
   exact ⟨rfl, X⟩
 cases he' : u.isBlock
 · have HG := Lib.hid (great_n hwf hg)
   have HG' := Lib.hid (great_n hwf' hg'); have HI := Lib.hid (isBlock_v hwf he); have HI' := Lib.hid (isBlock_v hwf' he'); clear hg hwf hwf' hg' he he'; refine calls_in Tryz.func5 Tryz.ntmps5 rfl rfl ?_
   focus
    refine cS ?_; (refine lw_box' [_, _, _, _] rfl rfl rfl ?_; intro bc1 wc2 nc3); have hc4 := nc3.blk; have xc5 := nc3.ext; have pc6 := nc3.pos; have zc7 := nc3.size; clear nc3; replace hE := hE.ext xc5; replace X := X.ext xc5; replace ht := ht.ext xc5; replace hS := hS.ext xc5; replace hs := Nd.sits.ext hs xc5; replace hs' := Nd.sits.ext hs' xc5; clear xc5; (refine lw_box' [_, _, _, _] rfl rfl rfl ?_; intro bc8 wc9 nc10); have hc11 := nc10.blk; have xc12 := nc10.ext; have pc13 := nc10.pos; have zc14 := nc10.size; clear nc10; replace hc4 := hc4.ext xc12; replace hE := hE.ext xc12; replace X := X.ext xc12; replace ht := ht.ext xc12; replace hS := hS.ext xc12; replace hs := Nd.sits.ext hs xc12; replace hs' := Nd.sits.ext hs' xc12; clear xc12; refine cA rfl rfl (cT (cw_seq (cS ?_))); refine cC (by kernel_rfl) rfl (awake5_c _ (Tabs5.t (by assumption)) (Tabs5.g (by assumption))) rfl ?_; rintro _ wc16 ⟨⟨⟩, xc15⟩; have zc17 := xc15.size; replace hc11 := hc11.ext xc15; replace hc4 := hc4.ext xc15; replace hE := hE.ext xc15; replace X := X.ext xc15; replace ht := ht.ext xc15; replace hS := hS.ext xc15; replace hs := Nd.sits.ext hs xc15; replace hs' := Nd.sits.ext hs' xc15; clear xc15; refine lw_pure (pur_not rfl) rfl (cT (cw_cond_f rfl (cw_skip (qw_then (cw_seq (cS (lw_loads_b' [_, _, _, _] tabOk rfl rfl rfl hc4 rfl rfl rfl ?_))))))); refine cC (by kernel_rfl) rfl (HG.out _ _ _ _ (by assumption)) rfl ?_; rintro _ wc19 ⟨⟨⟩, xc18⟩; have zc20 := xc18.size; replace hc11 := hc11.ext xc18; replace hc4 := hc4.ext xc18
    replace hE := hE.ext xc18; replace X := X.ext xc18; replace ht := ht.ext xc18; replace hS := hS.ext xc18; replace hs := Nd.sits.ext hs xc18; replace hs' := Nd.sits.ext hs' xc18; clear xc18; refine cM rfl rfl (lw_on rfl rfl rfl (rfl) (lw_loads_b' [_, _, _, _] tabOk rfl rfl rfl hc11 rfl rfl rfl (lw_on rfl rfl rfl (rfl) ?_))); refine cC (by kernel_rfl) rfl (HG'.out _ _ _ _ (by assumption)) rfl ?_; rintro _ wc22 ⟨⟨⟩, xc21⟩; have zc23 := xc21.size; replace hc11 := hc11.ext xc21; replace hc4 := hc4.ext xc21; replace hE := hE.ext xc21; replace X := X.ext xc21; replace ht := ht.ext xc21; replace hS := hS.ext xc21; replace hs := Nd.sits.ext hs xc21; replace hs' := Nd.sits.ext hs' xc21; clear xc21; refine lw_pure (pur_pick_f rfl rfl rfl) rfl (cM rfl rfl (lw_on rfl rfl rfl (rfl) (lw_loads_b' [_, _, _, _] tabOk rfl rfl rfl hc4 rfl rfl rfl (lw_on rfl rfl rfl (rfl) ?_)))); refine cC (by kernel_rfl) rfl (HI.out _ _ _ _ (by assumption)) rfl ?_; rintro _ wc25 ⟨⟨⟩, xc24⟩; have zc26 := xc24.size; replace hc11 := hc11.ext xc24; replace hc4 := hc4.ext xc24; replace hE := hE.ext xc24; replace X := X.ext xc24; replace ht := ht.ext xc24; replace hS := hS.ext xc24; replace hs := Nd.sits.ext hs xc24; replace hs' := Nd.sits.ext hs' xc24; clear xc24; refine lw_on rfl rfl rfl (rfl) (lw_pure (pur_not rfl) rfl (lw_pure (pur_pick_f rfl rfl rfl) rfl (cM rfl rfl (lw_on rfl rfl rfl (rfl) (lw_loads_b' [_, _, _, _] tabOk rfl rfl rfl hc11 rfl rfl rfl (lw_on rfl rfl rfl (rfl) ?_)))))); refine cC (by kernel_rfl) rfl (HI'.out _ _ _ _ (by assumption)) rfl ?_
    rintro _ wc28 ⟨⟨⟩, xc27⟩; have zc29 := xc27.size; replace hc11 := hc11.ext xc27; replace hc4 := hc4.ext xc27; replace hE := hE.ext xc27; replace X := X.ext xc27; replace ht := ht.ext xc27; replace hS := hS.ext xc27; replace hs := Nd.sits.ext hs xc27; replace hs' := Nd.sits.ext hs' xc27; clear xc27; refine lw_on rfl rfl rfl (rfl) (lw_pure (pur_not rfl) rfl (lw_pure (pur_pick_f rfl rfl rfl) rfl (cT (cw_cond_t rfl (cS (cA rfl rfl (cT (cw_ret (qw_then_ret (qw_ret1 rfl rfl ?_)))))))))); rotate_left 1
   exact ⟨rfl, X⟩
 obtain ⟨z1, d1, n1⟩ := small_block hwf hg he; obtain ⟨z2, d2, n2⟩ := small_block hwf' hg' he'; obtain ⟨j1, j2, j3, j4, j5⟩ := join_facts hwf hwf' he he' z1 z2; have HG := Lib.hid (great_n hwf hg); have HG' := Lib.hid (great_n hwf' hg'); have HI := Lib.hid (isBlock_v hwf he); have HI' := Lib.hid (isBlock_v hwf' he'); have HB := Lib.hid (block_v hwf he (by omega)); have HB' := Lib.hid (block_v hwf' he' (by omega)); have l1 := n1 0 (by omega); have l2 := n2 0 (by omega); have hp := parse_lines he hwf (by omega) (by omega) (by omega)
 have hJ : ∀ (B g cap : Nat) (w : World), Tabs5 w → OwnG 24 B w g cap (t.kids ++ u.kids) → Calls Tryz.prog 15 #[(joinNd t u).val (some ⟨g, 0, none⟩) cap] w fun e w' => e = .returned (.tuple #[str (t.linesT 0 ++ u.linesT 0), .int .i64 0]) ∧ Ext w w' := fun B g cap w h1 h2 => by
  have := block_v j1 j2 (by omega) _ (some ⟨g, 0, none⟩) cap w h1 (sits_mk h2.sits)
  rw [j4] at this; exact this
 have HJ := Lib.hid hJ
 have hE1 : ∀ w, Syms w → Errs w → Calls Tryz.prog 16 #[str (t.linesT 0)] w (ParseL w (parseBlock (t.linesT 0))) := fun w => parseLB_of _ w (by omega)
 rw [hp] at hE1; have HE := Lib.hid hE1; have HQ := Lib.hid (equalA_t t (by omega)); clear hg hwf hwf' hg' he he' hJ hE1 hp n1 n2 j1 j2 j3 j4; have hge := hE.lt; have hgs := hS.lt; have hgg := ht.g; refine calls_in Tryz.func5 Tryz.ntmps5 rfl rfl ?_
 focus
  refine cS ?_; (refine lw_box' [_, _, _, _] rfl rfl rfl ?_; intro bd1 wd2 nd3); have hd4 := nd3.blk; have xd5 := nd3.ext; have pd6 := nd3.pos; have zd7 := nd3.size; clear nd3; replace hE := hE.ext xd5; replace X := X.ext xd5; replace ht := ht.ext xd5; replace hS := hS.ext xd5; replace hs := Nd.sits.ext hs xd5; replace hs' := Nd.sits.ext hs' xd5; clear xd5; (refine lw_box' [_, _, _, _] rfl rfl rfl ?_; intro bd8 wd9 nd10); have hd11 := nd10.blk; have xd12 := nd10.ext; have pd13 := nd10.pos; have zd14 := nd10.size; clear nd10; replace hd4 := hd4.ext xd12; replace hE := hE.ext xd12; replace X := X.ext xd12; replace ht := ht.ext xd12; replace hS := hS.ext xd12; replace hs := Nd.sits.ext hs xd12; replace hs' := Nd.sits.ext hs' xd12; clear xd12; refine cA rfl rfl (cT (cw_seq (cS ?_))); refine cC (by kernel_rfl) rfl (awake5_c _ (Tabs5.t (by assumption)) (Tabs5.g (by assumption))) rfl ?_; rintro _ wd16 ⟨⟨⟩, xd15⟩; have zd17 := xd15.size; replace hd11 := hd11.ext xd15; replace hd4 := hd4.ext xd15; replace hE := hE.ext xd15; replace X := X.ext xd15; replace ht := ht.ext xd15; replace hS := hS.ext xd15; replace hs := Nd.sits.ext hs xd15; replace hs' := Nd.sits.ext hs' xd15; clear xd15; refine lw_pure (pur_not rfl) rfl (cT (cw_cond_f rfl (cw_skip (qw_then (cw_seq (cS (lw_loads_b' [_, _, _, _] tabOk rfl rfl rfl hd4 rfl rfl rfl ?_))))))); refine cC (by kernel_rfl) rfl (HG.out _ _ _ _ (by assumption)) rfl ?_; rintro _ wd19 ⟨⟨⟩, xd18⟩; have zd20 := xd18.size; replace hd11 := hd11.ext xd18; replace hd4 := hd4.ext xd18
  replace hE := hE.ext xd18; replace X := X.ext xd18; replace ht := ht.ext xd18; replace hS := hS.ext xd18; replace hs := Nd.sits.ext hs xd18; replace hs' := Nd.sits.ext hs' xd18; clear xd18; refine cM rfl rfl (lw_on rfl rfl rfl (rfl) (lw_loads_b' [_, _, _, _] tabOk rfl rfl rfl hd11 rfl rfl rfl (lw_on rfl rfl rfl (rfl) ?_))); refine cC (by kernel_rfl) rfl (HG'.out _ _ _ _ (by assumption)) rfl ?_; rintro _ wd22 ⟨⟨⟩, xd21⟩; have zd23 := xd21.size; replace hd11 := hd11.ext xd21; replace hd4 := hd4.ext xd21; replace hE := hE.ext xd21; replace X := X.ext xd21; replace ht := ht.ext xd21; replace hS := hS.ext xd21; replace hs := Nd.sits.ext hs xd21; replace hs' := Nd.sits.ext hs' xd21; clear xd21; refine lw_pure (pur_pick_f rfl rfl rfl) rfl (cM rfl rfl (lw_on rfl rfl rfl (rfl) (lw_loads_b' [_, _, _, _] tabOk rfl rfl rfl hd4 rfl rfl rfl (lw_on rfl rfl rfl (rfl) ?_)))); refine cC (by kernel_rfl) rfl (HI.out _ _ _ _ (by assumption)) rfl ?_; rintro _ wd25 ⟨⟨⟩, xd24⟩; have zd26 := xd24.size; replace hd11 := hd11.ext xd24; replace hd4 := hd4.ext xd24; replace hE := hE.ext xd24; replace X := X.ext xd24; replace ht := ht.ext xd24; replace hS := hS.ext xd24; replace hs := Nd.sits.ext hs xd24; replace hs' := Nd.sits.ext hs' xd24; clear xd24; refine lw_on rfl rfl rfl (rfl) (lw_pure (pur_not rfl) rfl (lw_pure (pur_pick_f rfl rfl rfl) rfl (cM rfl rfl (lw_on rfl rfl rfl (rfl) (lw_loads_b' [_, _, _, _] tabOk rfl rfl rfl hd11 rfl rfl rfl (lw_on rfl rfl rfl (rfl) ?_)))))); refine cC (by kernel_rfl) rfl (HI'.out _ _ _ _ (by assumption)) rfl ?_
  rintro _ wd28 ⟨⟨⟩, xd27⟩; have zd29 := xd27.size; replace hd11 := hd11.ext xd27; replace hd4 := hd4.ext xd27; replace hE := hE.ext xd27; replace X := X.ext xd27; replace ht := ht.ext xd27; replace hS := hS.ext xd27; replace hs := Nd.sits.ext hs xd27; replace hs' := Nd.sits.ext hs' xd27; clear xd27; refine lw_on rfl rfl rfl (rfl) (lw_pure (pur_not rfl) rfl (lw_pure (pur_pick_f rfl rfl rfl) rfl (cT (cw_cond_f rfl (cw_skip (qw_then (cS (lw_loads_b' [_, _, _, _] tabOk rfl rfl rfl hd4 rfl rfl rfl ?_)))))))); refine cC (by kernel_rfl) rfl (HB.out _ _ _ _ (by assumption) (by assumption)) rfl ?_; rintro _ wd31 ⟨⟨⟩, xd30⟩; have zd32 := xd30.size; replace hd11 := hd11.ext xd30; replace hd4 := hd4.ext xd30; replace hE := hE.ext xd30; replace X := X.ext xd30; replace ht := ht.ext xd30; replace hS := hS.ext xd30; replace hs := Nd.sits.ext hs xd30; replace hs' := Nd.sits.ext hs' xd30; clear xd30; refine cM rfl rfl (lw_pure (pur_extract rfl rfl) rfl (lw_pure (pur_extract rfl rfl) rfl (cA rfl rfl (cA rfl rfl (cN (lw_loads_b' [_, _, _, _] tabOk rfl rfl rfl hd11 rfl rfl rfl ?_)))))); refine cC (by kernel_rfl) rfl (HB'.out _ _ _ _ (by assumption) (by assumption)) rfl ?_; rintro _ wd34 ⟨⟨⟩, xd33⟩; have zd35 := xd33.size; replace hd11 := hd11.ext xd33; replace hd4 := hd4.ext xd33; replace hE := hE.ext xd33; replace X := X.ext xd33; replace ht := ht.ext xd33; replace hS := hS.ext xd33; replace hs := Nd.sits.ext hs xd33; replace hs' := Nd.sits.ext hs' xd33; clear xd33; refine cM rfl rfl (lw_pure (pur_extract rfl rfl) rfl (lw_pure (pur_extract rfl rfl) rfl (cA rfl rfl (cA rfl rfl (cN (cM rfl rfl ?_))))))
  refine cR (by kernel_rfl) rfl (HE.out _ (by assumption) (by assumption)) (fun _ _ h => h.ret) rfl ?_; rintro _ wd40 ⟨ad36, ⟨kd37, ⟨⟨⟩, ⟨hd38, xd39⟩⟩⟩⟩; have zd41 := xd39.size; replace hd11 := hd11.ext xd39; replace hd4 := hd4.ext xd39; replace hE := hE.ext xd39; replace X := X.ext xd39; replace ht := ht.ext xd39; replace hS := hS.ext xd39; replace hs := Nd.sits.ext hs xd39; replace hs' := Nd.sits.ext hs' xd39; clear xd39; refine cM rfl rfl (lw_pure (pur_extract rfl rfl) rfl (lw_pure (pur_extract rfl rfl) rfl (lw_pure (pur_extract rfl rfl) rfl ?_))); (refine lw_alloc' [_, _, _, _] zOk rfl rfl ?_; intro bd42 wd43 nd44); (refine lw_init' [_, _, _, _] tabOk rfl rfl rfl rfl rfl rfl nd44 rfl ?_; clear nd44; clear wd43; intro wd45 nd44); have hd46 := nd44.blk; dsimp only at hd46; have xd47 := nd44.ext; have pd48 := nd44.pos; have zd49 := nd44.size; clear nd44; replace hd38 := Nd.sits.ext hd38 xd47; replace hd11 := hd11.ext xd47; replace hd4 := hd4.ext xd47; replace hE := hE.ext xd47; replace X := X.ext xd47; replace ht := ht.ext xd47; replace hS := hS.ext xd47; replace hs := Nd.sits.ext hs xd47; replace hs' := Nd.sits.ext hs' xd47; clear xd47; refine cA rfl rfl (cA rfl rfl (cT (cw_seq ?_))); (refine cw_tdraw (fun wz => Ext wd45 wz) 9 (.pure 1 (.pure 2 (.pure 4 (.pure 5 (.fork 0 (.fork 3 (.fork 6 (.pure 7 (.fork 8 .tail .none)) (.fork 8 (.fork 6 (.pure 7 .tail) .none) .none)) (.fork 8 (.fork 3 (.fork 6 (.pure 7 .tail) .none) .none) .none)) (.fork 8 (.fork 0 (.fork 3 (.fork 6 (.pure 7 .tail) .none) .none) .none) .none)))))) mixed (by kernel_rfl) (panicOk_then panicOk_body) ?_; intro wd50 xd51 _)
  have qsd52 : (fun wz => Ext wd45 wz) wd50 := xd51; simp only at qsd52; have d_hd46 := hd46; have d_hd38 := hd38; have d_hd11 := hd11; have d_hd4 := hd4; have d_hE := hE; have d_ht := ht; have d_hS := hS; have d_hs := hs; have d_hs' := hs'; have zd53 := xd51.size; replace hd46 := hd46.ext xd51; replace hd38 := Nd.sits.ext hd38 xd51; replace hd11 := hd11.ext xd51; replace hd4 := hd4.ext xd51; replace hE := hE.ext xd51; replace X := X.ext xd51; replace ht := ht.ext xd51; replace hS := hS.ext xd51; replace hs := Nd.sits.ext hs xd51; replace hs' := Nd.sits.ext hs' xd51; clear xd51; refine ⟨qsd52, ?_⟩; refine tw_pure rfl (pur_fieldAddr tabOk rfl rfl rfl) rfl (tw_pure rfl (pur_load tabOk rfl rfl rfl (fun wz hz => Blk.cell (Blk.ext d_hd4 hz) rfl)) rfl (tw_pure rfl (pur_fieldAddr tabOk rfl rfl rfl) rfl (tw_pure rfl (pur_load tabOk rfl rfl rfl (fun wz hz => Blk.cell (Blk.ext d_hd11 hz) rfl)) rfl ?_))); refine tw_does rfl (does_slice0 (B := w.heap.size) tabOk rfl rfl (by omega)) rfl ?_ (fun _ h => h) ?krd54; rintro _ wd60 ⟨gd55, ⟨rfl, ⟨hd56, ⟨hd57, ⟨hd58, xd59⟩⟩⟩⟩⟩; have zd61 := xd59.size; replace qsd52 := qsd52.ext xd59; replace hd46 := hd46.ext xd59; replace hd38 := Nd.sits.ext hd38 xd59; replace hd11 := hd11.ext xd59; replace hd4 := hd4.ext xd59; replace hE := hE.ext xd59; replace X := X.ext xd59; replace ht := ht.ext xd59; replace hS := hS.ext xd59; replace hs := Nd.sits.ext hs xd59; replace hs' := Nd.sits.ext hs' xd59; clear xd59; refine ⟨qsd52, ?_⟩; refine tw_does rfl (does_appendG (B := w.heap.size) (List.nil_append t.kids) tabOk zOk rfl rfl rfl rfl (by kernel_rfl) rfl rfl (by assumption) (kidsSits (by assumption)) (by simp only [List.length_append] at j5; omega)) rfl ?_ (fun _ h => h) ?krd62
  rintro _ wd69 ⟨g'd63, ⟨cap'd64, ⟨rfl, ⟨hd65, ⟨hd66, ⟨hd67, fd68⟩⟩⟩⟩⟩⟩; have zd70 := fd68.size; clear hd56; replace qsd52 := qsd52.fr fd68 (by omega); replace hd46 := hd46.fr fd68 (by omega); replace hd38 := Nd.sits.fr hd38 fd68 (by omega); replace hd11 := hd11.fr fd68 (by omega); replace hd4 := hd4.fr fd68 (by omega); replace hE := hE.fr fd68 (by omega); replace X := X.fr fd68 (by omega); replace ht := ht.fr fd68 (by omega); replace hS := hS.fr fd68 (by omega); replace hs := Nd.sits.fr hs fd68 (by omega); replace hs' := Nd.sits.fr hs' fd68 (by omega); clear fd68; refine ⟨qsd52, ?_⟩; refine tw_does rfl (does_appendG (B := w.heap.size) (xs := t.kids) (us := u.kids) rfl tabOk zOk rfl rfl rfl rfl (by kernel_rfl) rfl rfl (by assumption) (kidsSits (by assumption)) (by omega)) rfl ?_ (fun _ h => h) ?krd71; rintro _ wd78 ⟨g'd72, ⟨cap'd73, ⟨rfl, ⟨hd74, ⟨hd75, ⟨hd76, fd77⟩⟩⟩⟩⟩⟩; have zd79 := fd77.size; clear hd65; replace qsd52 := qsd52.fr fd77 (by omega); replace hd46 := hd46.fr fd77 (by omega); replace hd38 := Nd.sits.fr hd38 fd77 (by omega); replace hd11 := hd11.fr fd77 (by omega); replace hd4 := hd4.fr fd77 (by omega); replace hE := hE.fr fd77 (by omega); replace X := X.fr fd77 (by omega); replace ht := ht.fr fd77 (by omega); replace hS := hS.fr fd77 (by omega); replace hs := Nd.sits.fr hs fd77 (by omega); replace hs' := Nd.sits.fr hs' fd77 (by omega); clear fd77; refine ⟨qsd52, ?_⟩; refine tw_pure rfl (pur_build' [_, _, _, _] tabOk zOk rfl rfl rfl rfl) rfl ?_; (refine tw_does rfl (does_alloc zOk rfl) rfl ?_ (fun _ h => h) tw_none; rintro _ wd82 ⟨bd81, rfl, nd83⟩)
  have hd84 := nd83.blk; dsimp only at hd84; have xd85 := nd83.ext; have pd86 := nd83.pos; have zd87 := nd83.size; clear nd83; replace hd74 := hd74.ext xd85; replace qsd52 := qsd52.ext xd85; replace hd46 := hd46.ext xd85; replace hd38 := Nd.sits.ext hd38 xd85; replace hd11 := hd11.ext xd85; replace hd4 := hd4.ext xd85; replace hE := hE.ext xd85; replace X := X.ext xd85; replace ht := ht.ext xd85; replace hS := hS.ext xd85; replace hs := Nd.sits.ext hs xd85; replace hs' := Nd.sits.ext hs' xd85; clear xd85; refine ⟨qsd52, ?_⟩; clear d_hd46 d_hd38 d_hd11 d_hd4 d_hE d_ht d_hS d_hs d_hs' qsd52; refine tw_tail rfl ?_; (refine lw_store' [_, _, _, _] [_, _, _, _] tabOk rfl rfl rfl rfl rfl rfl hd84 rfl rfl ?_; intro wd88 nd89); have hd92 := nd89.blk; have fd90 := nd89.fr; have zd91 := nd89.size; clear nd89 hd84; replace hd74 := hd74.fr fd90 (by omega); replace hd46 := hd46.fr fd90 (by omega); replace hd38 := Nd.sits.fr hd38 fd90 (by omega); replace hd11 := hd11.fr fd90 (by omega); replace hd4 := hd4.fr fd90 (by omega); replace hE := hE.fr fd90 (by omega); replace X := X.fr fd90 (by omega); replace ht := ht.fr fd90 (by omega); replace hS := hS.fr fd90 (by omega); replace hs := Nd.sits.fr hs fd90 (by omega); replace hs' := Nd.sits.fr hs' fd90 (by omega); clear fd90; refine cN (lw_loads_b' [_, _, _, _] tabOk rfl rfl rfl hd92 rfl rfl rfl ?_); refine cC (by kernel_rfl) rfl (HJ.out _ _ _ _ (by assumption) (by assumption)) rfl ?_; rintro _ wd94 ⟨⟨⟩, xd93⟩; have zd95 := xd93.size; replace hd92 := hd92.ext xd93
  replace hd74 := hd74.ext xd93; replace hd46 := hd46.ext xd93; replace hd38 := Nd.sits.ext hd38 xd93; replace hd11 := hd11.ext xd93; replace hd4 := hd4.ext xd93; replace hE := hE.ext xd93; replace X := X.ext xd93; replace ht := ht.ext xd93; replace hS := hS.ext xd93; replace hs := Nd.sits.ext hs xd93; replace hs' := Nd.sits.ext hs' xd93; clear xd93; refine cM rfl rfl (lw_pure (pur_extract rfl rfl) rfl (lw_pure (pur_extract rfl rfl) rfl (cA rfl rfl (cA rfl rfl (cN (cM rfl rfl (lw_pure (pur_eql rfl rfl) rfl (cM rfl rfl ?_)))))))); refine lw_on rfl rfl rfl (gd_tt (by decide)) ?_; refine cM rfl rfl ?_; refine lw_on rfl rfl rfl (gd_tt (by decide)) ?_; refine lw_pure (pur_eql rfl rfl) rfl ?_; refine lw_pure (pur_pick_yes rfl rfl (by decide)) rfl ?_; refine cM rfl rfl ?_; refine lw_on rfl rfl rfl (gd_tt (by decide)) ?_; refine cM rfl rfl ?_; refine lw_on rfl rfl rfl (gd_tt (by decide)) ?_; refine lw_pure (pur_eql rfl rfl) rfl ?_; refine lw_pure (pur_pick_yes rfl rfl (by decide)) rfl ?_; refine cM rfl rfl (lw_on rfl rfl rfl (gd_tt (rfl)) (lw_loads_b' [_, _, _, _] tabOk rfl rfl rfl hd46 rfl rfl rfl (lw_on rfl rfl rfl (gd_tt (rfl)) (lw_loads_b' [_, _, _, _] tabOk rfl rfl rfl hd4 rfl rfl rfl (lw_on rfl rfl rfl (gd_tt (rfl)) ?_))))); refine cC (by kernel_rfl) rfl (HQ.out _ _ _ _ _ _ _ (by assumption) (by assumption)) rfl ?_; rintro _ wd97 ⟨⟨⟩, xd96⟩; have zd98 := xd96.size; replace hd92 := hd92.ext xd96; replace hd74 := hd74.ext xd96; replace hd46 := hd46.ext xd96; replace hd38 := Nd.sits.ext hd38 xd96
  replace hd11 := hd11.ext xd96; replace hd4 := hd4.ext xd96; replace hE := hE.ext xd96; replace X := X.ext xd96; replace ht := ht.ext xd96; replace hS := hS.ext xd96; replace hs := Nd.sits.ext hs xd96; replace hs' := Nd.sits.ext hs' xd96; clear xd96; refine lw_pure (pur_pick_yes rfl rfl (rfl)) rfl (cM rfl rfl (lw_on rfl rfl rfl (rfl) (cM rfl rfl (lw_on rfl rfl rfl (rfl) (lw_pure (pur_eql rfl rfl) rfl (lw_on rfl rfl rfl (rfl) (cM rfl rfl ?_))))))); refine lw_on rfl rfl rfl (gd_tt (by decide)) ?_; refine cM rfl rfl ?_; refine lw_on rfl rfl rfl (gd_tt (by decide)) ?_; refine cM rfl rfl ?_; refine lw_on rfl rfl rfl (gd_tt (by decide)) ?_; refine cM rfl rfl ?_; refine lw_on rfl rfl rfl (gd_tt (by decide)) ?_; refine lw_pure (pur_sadd rfl rfl (by omega)) rfl ?_; refine lw_on rfl rfl rfl (gd_tt (by decide)) ?_; refine lw_pure (pur_seql rfl rfl) rfl (lw_on rfl rfl rfl (rfl) ?_); refine lw_pure (pur_pick_yes rfl rfl (by decide)) rfl ?_; refine lw_on rfl rfl rfl (rfl) (cM rfl rfl (lw_off rfl rfl rfl (gd_ft (rfl)) rfl (lw_off rfl rfl rfl (gd_ft (rfl)) rfl (lw_off rfl rfl rfl (gd_ft (rfl)) rfl (lw_on rfl rfl rfl (rfl) (lw_pure (pur_pick_yes rfl rfl (rfl)) rfl (lw_pure (pur_pick_t rfl rfl rfl) rfl (cA rfl rfl (cT (cw_ret (qw_ret1 rfl rfl ?_))))))))))); rotate_left 1; (refine tw_does rfl (does_alloc zOk rfl) rfl ?_ (fun _ h => h) tw_none; rintro _ wd101 ⟨bd100, rfl, nd102⟩); have hd103 := nd102.blk; dsimp only at hd103; have xd104 := nd102.ext; have pd105 := nd102.pos; have zd106 := nd102.size
  clear nd102; replace hd65 := hd65.ext xd104; replace qsd52 := qsd52.ext xd104; replace hd46 := hd46.ext xd104; replace hd38 := Nd.sits.ext hd38 xd104; replace hd11 := hd11.ext xd104; replace hd4 := hd4.ext xd104; replace hE := hE.ext xd104; replace X := X.ext xd104; replace ht := ht.ext xd104; replace hS := hS.ext xd104; replace hs := Nd.sits.ext hs xd104; replace hs' := Nd.sits.ext hs' xd104; clear xd104; refine ⟨qsd52, ?_⟩; refine tw_does rfl (does_appendG (B := w.heap.size) (xs := t.kids) (us := u.kids) rfl tabOk zOk rfl rfl rfl rfl (by kernel_rfl) rfl rfl (by assumption) (kidsSits (by assumption)) (by omega)) rfl ?_ (fun _ h => h) tw_none; rintro _ wd114 ⟨g'd108, ⟨cap'd109, ⟨rfl, ⟨hd110, ⟨hd111, ⟨hd112, fd113⟩⟩⟩⟩⟩⟩; have zd115 := fd113.size; replace hd103 := hd103.fr fd113 (by omega); clear hd65; replace qsd52 := qsd52.fr fd113 (by omega); replace hd46 := hd46.fr fd113 (by omega); replace hd38 := Nd.sits.fr hd38 fd113 (by omega); replace hd11 := hd11.fr fd113 (by omega); replace hd4 := hd4.fr fd113 (by omega); replace hE := hE.fr fd113 (by omega); replace X := X.fr fd113 (by omega); replace ht := ht.fr fd113 (by omega); replace hS := hS.fr fd113 (by omega); replace hs := Nd.sits.fr hs fd113 (by omega); replace hs' := Nd.sits.fr hs' fd113 (by omega); clear fd113; refine ⟨qsd52, ?_⟩; refine tw_pure rfl (pur_build' [_, _, _, _] tabOk zOk rfl rfl rfl rfl) rfl ?_; clear d_hd46 d_hd38 d_hd11 d_hd4 d_hE d_ht d_hS d_hs d_hs' qsd52; refine tw_tail rfl ?_; (refine lw_store' [_, _, _, _] [_, _, _, _] tabOk rfl rfl rfl rfl rfl rfl hd103 rfl rfl ?_; intro wd116 nd117)
  have hd120 := nd117.blk; have fd118 := nd117.fr; have zd119 := nd117.size; clear nd117 hd103; replace hd110 := hd110.fr fd118 (by omega); replace hd46 := hd46.fr fd118 (by omega); replace hd38 := Nd.sits.fr hd38 fd118 (by omega); replace hd11 := hd11.fr fd118 (by omega); replace hd4 := hd4.fr fd118 (by omega); replace hE := hE.fr fd118 (by omega); replace X := X.fr fd118 (by omega); replace ht := ht.fr fd118 (by omega); replace hS := hS.fr fd118 (by omega); replace hs := Nd.sits.fr hs fd118 (by omega); replace hs' := Nd.sits.fr hs' fd118 (by omega); clear fd118; refine cN (lw_loads_b' [_, _, _, _] tabOk rfl rfl rfl hd120 rfl rfl rfl ?_); refine cC (by kernel_rfl) rfl (HJ.out _ _ _ _ (by assumption) (by assumption)) rfl ?_; rintro _ wd122 ⟨⟨⟩, xd121⟩; have zd123 := xd121.size; replace hd120 := hd120.ext xd121; replace hd110 := hd110.ext xd121; replace hd46 := hd46.ext xd121; replace hd38 := Nd.sits.ext hd38 xd121; replace hd11 := hd11.ext xd121; replace hd4 := hd4.ext xd121; replace hE := hE.ext xd121; replace X := X.ext xd121; replace ht := ht.ext xd121; replace hS := hS.ext xd121; replace hs := Nd.sits.ext hs xd121; replace hs' := Nd.sits.ext hs' xd121; clear xd121; refine cM rfl rfl (lw_pure (pur_extract rfl rfl) rfl (lw_pure (pur_extract rfl rfl) rfl (cA rfl rfl (cA rfl rfl (cN (cM rfl rfl (lw_pure (pur_eql rfl rfl) rfl (cM rfl rfl ?_)))))))); refine lw_on rfl rfl rfl (gd_tt (by decide)) ?_; refine cM rfl rfl ?_; refine lw_on rfl rfl rfl (gd_tt (by decide)) ?_; refine lw_pure (pur_eql rfl rfl) rfl ?_
  refine lw_pure (pur_pick_yes rfl rfl (by decide)) rfl ?_; refine cM rfl rfl ?_; refine lw_on rfl rfl rfl (gd_tt (by decide)) ?_; refine cM rfl rfl ?_; refine lw_on rfl rfl rfl (gd_tt (by decide)) ?_; refine lw_pure (pur_eql rfl rfl) rfl ?_; refine lw_pure (pur_pick_yes rfl rfl (by decide)) rfl ?_; refine cM rfl rfl (lw_on rfl rfl rfl (gd_tt (rfl)) (lw_loads_b' [_, _, _, _] tabOk rfl rfl rfl hd46 rfl rfl rfl (lw_on rfl rfl rfl (gd_tt (rfl)) (lw_loads_b' [_, _, _, _] tabOk rfl rfl rfl hd4 rfl rfl rfl (lw_on rfl rfl rfl (gd_tt (rfl)) ?_))))); refine cC (by kernel_rfl) rfl (HQ.out _ _ _ _ _ _ _ (by assumption) (by assumption)) rfl ?_; rintro _ wd125 ⟨⟨⟩, xd124⟩; have zd126 := xd124.size; replace hd120 := hd120.ext xd124; replace hd110 := hd110.ext xd124; replace hd46 := hd46.ext xd124; replace hd38 := Nd.sits.ext hd38 xd124; replace hd11 := hd11.ext xd124; replace hd4 := hd4.ext xd124; replace hE := hE.ext xd124; replace X := X.ext xd124; replace ht := ht.ext xd124; replace hS := hS.ext xd124; replace hs := Nd.sits.ext hs xd124; replace hs' := Nd.sits.ext hs' xd124; clear xd124; refine lw_pure (pur_pick_yes rfl rfl (rfl)) rfl (cM rfl rfl (lw_on rfl rfl rfl (rfl) (cM rfl rfl (lw_on rfl rfl rfl (rfl) (lw_pure (pur_eql rfl rfl) rfl (lw_on rfl rfl rfl (rfl) (cM rfl rfl ?_))))))); refine lw_on rfl rfl rfl (gd_tt (by decide)) ?_; refine cM rfl rfl ?_; refine lw_on rfl rfl rfl (gd_tt (by decide)) ?_; refine cM rfl rfl ?_; refine lw_on rfl rfl rfl (gd_tt (by decide)) ?_; refine cM rfl rfl ?_
  refine lw_on rfl rfl rfl (gd_tt (by decide)) ?_; refine lw_pure (pur_sadd rfl rfl (by omega)) rfl ?_; refine lw_on rfl rfl rfl (gd_tt (by decide)) ?_; refine lw_pure (pur_seql rfl rfl) rfl (lw_on rfl rfl rfl (rfl) ?_); refine lw_pure (pur_pick_yes rfl rfl (by decide)) rfl ?_; refine lw_on rfl rfl rfl (rfl) (cM rfl rfl (lw_off rfl rfl rfl (gd_ft (rfl)) rfl (lw_off rfl rfl rfl (gd_ft (rfl)) rfl (lw_off rfl rfl rfl (gd_ft (rfl)) rfl (lw_on rfl rfl rfl (rfl) (lw_pure (pur_pick_yes rfl rfl (rfl)) rfl (lw_pure (pur_pick_t rfl rfl rfl) rfl (cA rfl rfl (cT (cw_ret (qw_ret1 rfl rfl ?_))))))))))); rotate_left 1; (refine tw_does rfl (does_alloc zOk rfl) rfl ?_ (fun _ h => h) tw_none; rintro _ wd129 ⟨bd128, rfl, nd130⟩); have hd131 := nd130.blk; dsimp only at hd131; have xd132 := nd130.ext; have pd133 := nd130.pos; have zd134 := nd130.size; clear nd130; replace hd56 := hd56.ext xd132; replace qsd52 := qsd52.ext xd132; replace hd46 := hd46.ext xd132; replace hd38 := Nd.sits.ext hd38 xd132; replace hd11 := hd11.ext xd132; replace hd4 := hd4.ext xd132; replace hE := hE.ext xd132; replace X := X.ext xd132; replace ht := ht.ext xd132; replace hS := hS.ext xd132; replace hs := Nd.sits.ext hs xd132; replace hs' := Nd.sits.ext hs' xd132; clear xd132; refine ⟨qsd52, ?_⟩; refine tw_does rfl (does_appendG (B := w.heap.size) (List.nil_append t.kids) tabOk zOk rfl rfl rfl rfl (by kernel_rfl) rfl rfl (by assumption) (kidsSits (by assumption)) (by simp only [List.length_append] at j5; omega)) rfl ?_ (fun _ h => h) tw_none
  rintro _ wd142 ⟨g'd136, ⟨cap'd137, ⟨rfl, ⟨hd138, ⟨hd139, ⟨hd140, fd141⟩⟩⟩⟩⟩⟩; have zd143 := fd141.size; replace hd131 := hd131.fr fd141 (by omega); clear hd56; replace qsd52 := qsd52.fr fd141 (by omega); replace hd46 := hd46.fr fd141 (by omega); replace hd38 := Nd.sits.fr hd38 fd141 (by omega); replace hd11 := hd11.fr fd141 (by omega); replace hd4 := hd4.fr fd141 (by omega); replace hE := hE.fr fd141 (by omega); replace X := X.fr fd141 (by omega); replace ht := ht.fr fd141 (by omega); replace hS := hS.fr fd141 (by omega); replace hs := Nd.sits.fr hs fd141 (by omega); replace hs' := Nd.sits.fr hs' fd141 (by omega); clear fd141; refine ⟨qsd52, ?_⟩; refine tw_does rfl (does_appendG (B := w.heap.size) (xs := t.kids) (us := u.kids) rfl tabOk zOk rfl rfl rfl rfl (by kernel_rfl) rfl rfl (by assumption) (kidsSits (by assumption)) (by omega)) rfl ?_ (fun _ h => h) tw_none; rintro _ wd151 ⟨g'd145, ⟨cap'd146, ⟨rfl, ⟨hd147, ⟨hd148, ⟨hd149, fd150⟩⟩⟩⟩⟩⟩; have zd152 := fd150.size; clear hd138; replace hd131 := hd131.fr fd150 (by omega); replace qsd52 := qsd52.fr fd150 (by omega); replace hd46 := hd46.fr fd150 (by omega); replace hd38 := Nd.sits.fr hd38 fd150 (by omega); replace hd11 := hd11.fr fd150 (by omega); replace hd4 := hd4.fr fd150 (by omega); replace hE := hE.fr fd150 (by omega); replace X := X.fr fd150 (by omega); replace ht := ht.fr fd150 (by omega); replace hS := hS.fr fd150 (by omega); replace hs := Nd.sits.fr hs fd150 (by omega); replace hs' := Nd.sits.fr hs' fd150 (by omega)
  clear fd150; refine ⟨qsd52, ?_⟩; refine tw_pure rfl (pur_build' [_, _, _, _] tabOk zOk rfl rfl rfl rfl) rfl ?_; clear d_hd46 d_hd38 d_hd11 d_hd4 d_hE d_ht d_hS d_hs d_hs' qsd52; refine tw_tail rfl ?_; (refine lw_store' [_, _, _, _] [_, _, _, _] tabOk rfl rfl rfl rfl rfl rfl hd131 rfl rfl ?_; intro wd153 nd154); have hd157 := nd154.blk; have fd155 := nd154.fr; have zd156 := nd154.size; clear nd154 hd131; replace hd147 := hd147.fr fd155 (by omega); replace hd46 := hd46.fr fd155 (by omega); replace hd38 := Nd.sits.fr hd38 fd155 (by omega); replace hd11 := hd11.fr fd155 (by omega); replace hd4 := hd4.fr fd155 (by omega); replace hE := hE.fr fd155 (by omega); replace X := X.fr fd155 (by omega); replace ht := ht.fr fd155 (by omega); replace hS := hS.fr fd155 (by omega); replace hs := Nd.sits.fr hs fd155 (by omega); replace hs' := Nd.sits.fr hs' fd155 (by omega); clear fd155; refine cN (lw_loads_b' [_, _, _, _] tabOk rfl rfl rfl hd157 rfl rfl rfl ?_); refine cC (by kernel_rfl) rfl (HJ.out _ _ _ _ (by assumption) (by assumption)) rfl ?_; rintro _ wd159 ⟨⟨⟩, xd158⟩; have zd160 := xd158.size; replace hd157 := hd157.ext xd158; replace hd147 := hd147.ext xd158; replace hd46 := hd46.ext xd158; replace hd38 := Nd.sits.ext hd38 xd158; replace hd11 := hd11.ext xd158; replace hd4 := hd4.ext xd158; replace hE := hE.ext xd158; replace X := X.ext xd158; replace ht := ht.ext xd158; replace hS := hS.ext xd158; replace hs := Nd.sits.ext hs xd158; replace hs' := Nd.sits.ext hs' xd158; clear xd158; refine cM rfl rfl (lw_pure (pur_extract rfl rfl) rfl (lw_pure (pur_extract rfl rfl) rfl (cA rfl rfl (cA rfl rfl (cN (cM rfl rfl (lw_pure (pur_eql rfl rfl) rfl (cM rfl rfl ?_))))))))
  refine lw_on rfl rfl rfl (gd_tt (by decide)) ?_; refine cM rfl rfl ?_; refine lw_on rfl rfl rfl (gd_tt (by decide)) ?_; refine lw_pure (pur_eql rfl rfl) rfl ?_; refine lw_pure (pur_pick_yes rfl rfl (by decide)) rfl ?_; refine cM rfl rfl ?_; refine lw_on rfl rfl rfl (gd_tt (by decide)) ?_; refine cM rfl rfl ?_; refine lw_on rfl rfl rfl (gd_tt (by decide)) ?_; refine lw_pure (pur_eql rfl rfl) rfl ?_; refine lw_pure (pur_pick_yes rfl rfl (by decide)) rfl ?_; refine cM rfl rfl (lw_on rfl rfl rfl (gd_tt (rfl)) (lw_loads_b' [_, _, _, _] tabOk rfl rfl rfl hd46 rfl rfl rfl (lw_on rfl rfl rfl (gd_tt (rfl)) (lw_loads_b' [_, _, _, _] tabOk rfl rfl rfl hd4 rfl rfl rfl (lw_on rfl rfl rfl (gd_tt (rfl)) ?_))))); refine cC (by kernel_rfl) rfl (HQ.out _ _ _ _ _ _ _ (by assumption) (by assumption)) rfl ?_; rintro _ wd162 ⟨⟨⟩, xd161⟩; have zd163 := xd161.size; replace hd157 := hd157.ext xd161; replace hd147 := hd147.ext xd161; replace hd46 := hd46.ext xd161; replace hd38 := Nd.sits.ext hd38 xd161; replace hd11 := hd11.ext xd161; replace hd4 := hd4.ext xd161; replace hE := hE.ext xd161; replace X := X.ext xd161; replace ht := ht.ext xd161; replace hS := hS.ext xd161; replace hs := Nd.sits.ext hs xd161; replace hs' := Nd.sits.ext hs' xd161; clear xd161; refine lw_pure (pur_pick_yes rfl rfl (rfl)) rfl (cM rfl rfl (lw_on rfl rfl rfl (rfl) (cM rfl rfl (lw_on rfl rfl rfl (rfl) (lw_pure (pur_eql rfl rfl) rfl (lw_on rfl rfl rfl (rfl) (cM rfl rfl ?_))))))); refine lw_on rfl rfl rfl (gd_tt (by decide)) ?_
  refine cM rfl rfl ?_; refine lw_on rfl rfl rfl (gd_tt (by decide)) ?_; refine cM rfl rfl ?_; refine lw_on rfl rfl rfl (gd_tt (by decide)) ?_; refine cM rfl rfl ?_; refine lw_on rfl rfl rfl (gd_tt (by decide)) ?_; refine lw_pure (pur_sadd rfl rfl (by omega)) rfl ?_; refine lw_on rfl rfl rfl (gd_tt (by decide)) ?_; refine lw_pure (pur_seql rfl rfl) rfl (lw_on rfl rfl rfl (rfl) ?_); refine lw_pure (pur_pick_yes rfl rfl (by decide)) rfl ?_; refine lw_on rfl rfl rfl (rfl) (cM rfl rfl (lw_off rfl rfl rfl (gd_ft (rfl)) rfl (lw_off rfl rfl rfl (gd_ft (rfl)) rfl (lw_off rfl rfl rfl (gd_ft (rfl)) rfl (lw_on rfl rfl rfl (rfl) (lw_pure (pur_pick_yes rfl rfl (rfl)) rfl (lw_pure (pur_pick_t rfl rfl rfl) rfl (cA rfl rfl (cT (cw_ret (qw_ret1 rfl rfl ?_))))))))))); rotate_left 1; (refine tw_does rfl (does_alloc zOk rfl) rfl ?_ (fun _ h => h) tw_none; rintro _ wd166 ⟨bd165, rfl, nd167⟩); have hd168 := nd167.blk; dsimp only at hd168; have xd169 := nd167.ext; have pd170 := nd167.pos; have zd171 := nd167.size; clear nd167; replace qsd52 := qsd52.ext xd169; replace hd46 := hd46.ext xd169; replace hd38 := Nd.sits.ext hd38 xd169; replace hd11 := hd11.ext xd169; replace hd4 := hd4.ext xd169; replace hE := hE.ext xd169; replace X := X.ext xd169; replace ht := ht.ext xd169; replace hS := hS.ext xd169; replace hs := Nd.sits.ext hs xd169; replace hs' := Nd.sits.ext hs' xd169; clear xd169; refine ⟨qsd52, ?_⟩; refine tw_does rfl (does_slice0 (B := w.heap.size) tabOk rfl rfl (by omega)) rfl ?_ (fun _ h => h) tw_none
  rintro _ wd178 ⟨gd173, ⟨rfl, ⟨hd174, ⟨hd175, ⟨hd176, xd177⟩⟩⟩⟩⟩; have zd179 := xd177.size; replace hd168 := hd168.ext xd177; replace qsd52 := qsd52.ext xd177; replace hd46 := hd46.ext xd177; replace hd38 := Nd.sits.ext hd38 xd177; replace hd11 := hd11.ext xd177; replace hd4 := hd4.ext xd177; replace hE := hE.ext xd177; replace X := X.ext xd177; replace ht := ht.ext xd177; replace hS := hS.ext xd177; replace hs := Nd.sits.ext hs xd177; replace hs' := Nd.sits.ext hs' xd177; clear xd177; refine ⟨qsd52, ?_⟩; refine tw_does rfl (does_appendG (B := w.heap.size) (List.nil_append t.kids) tabOk zOk rfl rfl rfl rfl (by kernel_rfl) rfl rfl (by assumption) (kidsSits (by assumption)) (by simp only [List.length_append] at j5; omega)) rfl ?_ (fun _ h => h) tw_none; rintro _ wd187 ⟨g'd181, ⟨cap'd182, ⟨rfl, ⟨hd183, ⟨hd184, ⟨hd185, fd186⟩⟩⟩⟩⟩⟩; have zd188 := fd186.size; clear hd174; replace hd168 := hd168.fr fd186 (by omega); replace qsd52 := qsd52.fr fd186 (by omega); replace hd46 := hd46.fr fd186 (by omega); replace hd38 := Nd.sits.fr hd38 fd186 (by omega); replace hd11 := hd11.fr fd186 (by omega); replace hd4 := hd4.fr fd186 (by omega); replace hE := hE.fr fd186 (by omega); replace X := X.fr fd186 (by omega); replace ht := ht.fr fd186 (by omega); replace hS := hS.fr fd186 (by omega); replace hs := Nd.sits.fr hs fd186 (by omega); replace hs' := Nd.sits.fr hs' fd186 (by omega); clear fd186; refine ⟨qsd52, ?_⟩; refine tw_does rfl (does_appendG (B := w.heap.size) (xs := t.kids) (us := u.kids) rfl tabOk zOk rfl rfl rfl rfl (by kernel_rfl) rfl rfl (by assumption) (kidsSits (by assumption)) (by omega)) rfl ?_ (fun _ h => h) tw_none
  rintro _ wd196 ⟨g'd190, ⟨cap'd191, ⟨rfl, ⟨hd192, ⟨hd193, ⟨hd194, fd195⟩⟩⟩⟩⟩⟩; have zd197 := fd195.size; clear hd183; replace hd168 := hd168.fr fd195 (by omega); replace qsd52 := qsd52.fr fd195 (by omega); replace hd46 := hd46.fr fd195 (by omega); replace hd38 := Nd.sits.fr hd38 fd195 (by omega); replace hd11 := hd11.fr fd195 (by omega); replace hd4 := hd4.fr fd195 (by omega); replace hE := hE.fr fd195 (by omega); replace X := X.fr fd195 (by omega); replace ht := ht.fr fd195 (by omega); replace hS := hS.fr fd195 (by omega); replace hs := Nd.sits.fr hs fd195 (by omega); replace hs' := Nd.sits.fr hs' fd195 (by omega); clear fd195; refine ⟨qsd52, ?_⟩; refine tw_pure rfl (pur_build' [_, _, _, _] tabOk zOk rfl rfl rfl rfl) rfl ?_; clear d_hd46 d_hd38 d_hd11 d_hd4 d_hE d_ht d_hS d_hs d_hs' qsd52; refine tw_tail rfl ?_; (refine lw_store' [_, _, _, _] [_, _, _, _] tabOk rfl rfl rfl rfl rfl rfl hd168 rfl rfl ?_; intro wd198 nd199); have hd202 := nd199.blk; have fd200 := nd199.fr; have zd201 := nd199.size; clear nd199 hd168; replace hd192 := hd192.fr fd200 (by omega); replace hd46 := hd46.fr fd200 (by omega); replace hd38 := Nd.sits.fr hd38 fd200 (by omega); replace hd11 := hd11.fr fd200 (by omega); replace hd4 := hd4.fr fd200 (by omega); replace hE := hE.fr fd200 (by omega); replace X := X.fr fd200 (by omega); replace ht := ht.fr fd200 (by omega); replace hS := hS.fr fd200 (by omega); replace hs := Nd.sits.fr hs fd200 (by omega); replace hs' := Nd.sits.fr hs' fd200 (by omega); clear fd200
  refine cN (lw_loads_b' [_, _, _, _] tabOk rfl rfl rfl hd202 rfl rfl rfl ?_); refine cC (by kernel_rfl) rfl (HJ.out _ _ _ _ (by assumption) (by assumption)) rfl ?_; rintro _ wd204 ⟨⟨⟩, xd203⟩; have zd205 := xd203.size; replace hd202 := hd202.ext xd203; replace hd192 := hd192.ext xd203; replace hd46 := hd46.ext xd203; replace hd38 := Nd.sits.ext hd38 xd203; replace hd11 := hd11.ext xd203; replace hd4 := hd4.ext xd203; replace hE := hE.ext xd203; replace X := X.ext xd203; replace ht := ht.ext xd203; replace hS := hS.ext xd203; replace hs := Nd.sits.ext hs xd203; replace hs' := Nd.sits.ext hs' xd203; clear xd203; refine cM rfl rfl (lw_pure (pur_extract rfl rfl) rfl (lw_pure (pur_extract rfl rfl) rfl (cA rfl rfl (cA rfl rfl (cN (cM rfl rfl (lw_pure (pur_eql rfl rfl) rfl (cM rfl rfl ?_)))))))); refine lw_on rfl rfl rfl (gd_tt (by decide)) ?_; refine cM rfl rfl ?_; refine lw_on rfl rfl rfl (gd_tt (by decide)) ?_; refine lw_pure (pur_eql rfl rfl) rfl ?_; refine lw_pure (pur_pick_yes rfl rfl (by decide)) rfl ?_; refine cM rfl rfl ?_; refine lw_on rfl rfl rfl (gd_tt (by decide)) ?_; refine cM rfl rfl ?_; refine lw_on rfl rfl rfl (gd_tt (by decide)) ?_; refine lw_pure (pur_eql rfl rfl) rfl ?_; refine lw_pure (pur_pick_yes rfl rfl (by decide)) rfl ?_; refine cM rfl rfl (lw_on rfl rfl rfl (gd_tt (rfl)) (lw_loads_b' [_, _, _, _] tabOk rfl rfl rfl hd46 rfl rfl rfl (lw_on rfl rfl rfl (gd_tt (rfl)) (lw_loads_b' [_, _, _, _] tabOk rfl rfl rfl hd4 rfl rfl rfl (lw_on rfl rfl rfl (gd_tt (rfl)) ?_)))))
  refine cC (by kernel_rfl) rfl (HQ.out _ _ _ _ _ _ _ (by assumption) (by assumption)) rfl ?_; rintro _ wd207 ⟨⟨⟩, xd206⟩; have zd208 := xd206.size; replace hd202 := hd202.ext xd206; replace hd192 := hd192.ext xd206; replace hd46 := hd46.ext xd206; replace hd38 := Nd.sits.ext hd38 xd206; replace hd11 := hd11.ext xd206; replace hd4 := hd4.ext xd206; replace hE := hE.ext xd206; replace X := X.ext xd206; replace ht := ht.ext xd206; replace hS := hS.ext xd206; replace hs := Nd.sits.ext hs xd206; replace hs' := Nd.sits.ext hs' xd206; clear xd206; refine lw_pure (pur_pick_yes rfl rfl (rfl)) rfl (cM rfl rfl (lw_on rfl rfl rfl (rfl) (cM rfl rfl (lw_on rfl rfl rfl (rfl) (lw_pure (pur_eql rfl rfl) rfl (lw_on rfl rfl rfl (rfl) (cM rfl rfl ?_))))))); refine lw_on rfl rfl rfl (gd_tt (by decide)) ?_; refine cM rfl rfl ?_; refine lw_on rfl rfl rfl (gd_tt (by decide)) ?_; refine cM rfl rfl ?_; refine lw_on rfl rfl rfl (gd_tt (by decide)) ?_; refine cM rfl rfl ?_; refine lw_on rfl rfl rfl (gd_tt (by decide)) ?_; refine lw_pure (pur_sadd rfl rfl (by omega)) rfl ?_; refine lw_on rfl rfl rfl (gd_tt (by decide)) ?_; refine lw_pure (pur_seql rfl rfl) rfl (lw_on rfl rfl rfl (rfl) ?_); refine lw_pure (pur_pick_yes rfl rfl (by decide)) rfl ?_; refine lw_on rfl rfl rfl (rfl) (cM rfl rfl (lw_off rfl rfl rfl (gd_ft (rfl)) rfl (lw_off rfl rfl rfl (gd_ft (rfl)) rfl (lw_off rfl rfl rfl (gd_ft (rfl)) rfl (lw_on rfl rfl rfl (rfl) (lw_pure (pur_pick_yes rfl rfl (rfl)) rfl (lw_pure (pur_pick_t rfl rfl rfl) rfl (cA rfl rfl (cT (cw_ret (qw_ret1 rfl rfl ?_)))))))))))
  rotate_left 1
 · exact ⟨rfl, X⟩
 · exact ⟨rfl, X⟩
 · exact ⟨rfl, X⟩
 · exact ⟨rfl, X⟩
end Bk
