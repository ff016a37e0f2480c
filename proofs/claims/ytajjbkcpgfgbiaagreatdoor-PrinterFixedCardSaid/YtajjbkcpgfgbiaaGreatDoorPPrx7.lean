/- Texts that the proofs of PrinterFixed need. No condition. (Part 7 of 8.) -/
import Derived.Test.YtajjbkcpgfgbiaaGreatDoorPPrx6
set_option linter.unusedSimpArgs false
set_option linter.unusedVariables false
namespace Bk
open Go
theorem lines_said {t : Nd} (hb : t.isBlock = true) (hw : t.wf) (d : Nat) : SaidL t d := (stmts_said (t.size + 1)).2 t d (by omega) hb hw
theorem wrap_lenV (s : List UInt8) (b : Bool) : (wrap s b).length = s.length + (if b then 2 else 0) := by
 unfold wrap
 cases b
 · rfl
 · simp
theorem text_wt (N : Nat) : ∀ t : Nd, t.size < N → t.isExpr = true → t.text.length ≤ 3 * wt (toks t.pcs) := by
 induction N with
 | zero => intro t h; omega
 | succ N ih =>
  intro t hs he; obtain ⟨k, n, s, l⟩ := t; simp only [Nd.size] at hs
  unfold Nd.isExpr at he
  unfold Nd.pcs Nd.text
  by_cases c1 : k = 1
  · rw [if_pos c1, if_pos c1]; simp only [toks, wt]; omega
  rw [if_neg c1] at he ⊢; rw [if_neg c1]
  by_cases c2 : k = 2
  · rw [if_pos c2, if_pos c2]; simp only [toks, wt]; omega
  rw [if_neg c2, if_neg c2]
  by_cases c3 : k = 3
  · rw [if_neg (by omega), if_pos c3] at he
    rw [if_pos c3, if_pos c3]; simp only [Bool.and_eq_true] at he; obtain ⟨-, hx⟩ := he
    split at hx
    · rename_i x
      simp only [rowSize] at hs; have := ih x (by omega) hx; simp only [toks, toks_append, wt, wt_append, List.length_append, List.length_cons, List.length_nil]
      omega
    · cases hx
  rw [if_neg c3, if_neg c3]
  by_cases c4 : k = 4
  · rw [if_pos c4, if_pos c4]; simp only [toks, wt, List.length_append, List.length_cons, List.length_nil]; omega
  rw [if_neg c4, if_neg c4]
  by_cases c5 : k = 5
  · rw [if_pos c5, if_pos c5]; simp only [toks, wt, List.length_append, List.length_cons, List.length_nil]; omega
  rw [if_neg c5, if_neg c5]; rw [if_neg (by omega), if_neg (by omega)] at he
  by_cases c6 : k = 6 ∨ k = 7
  · rw [if_pos c6] at he
    rw [if_pos c6, if_pos c6]; simp only [Bool.and_eq_true] at he; obtain ⟨-, hx⟩ := he
    split at hx
    · rename_i x
      simp only [rowSize] at hs; have := ih x (by omega) hx; simp only [toks, wt, wt_pw, List.length_append, wrap_lenV]
      split <;> omega
    · cases hx
  rw [if_neg c6] at he; rw [if_neg c6, if_neg c6]
  by_cases c8 : 8 ≤ k ∧ k ≤ 23
  · rw [if_pos c8] at he
    simp only [Bool.and_eq_true] at he; obtain ⟨-, hx⟩ := he
    split at hx
    · rename_i x y
      simp only [rowSize] at hs; simp only [Bool.and_eq_true] at hx; have h1 := ih x (by omega) hx.1; have h2 := ih y (by omega) hx.2
      have h3 : (symbol k).length ≠ 0 := fun e => (symbol_tok (k := k) (by omega) (by omega)).1.ne (List.eq_nil_of_length_eq_zero e)
      simp only [toks, toks_append, wt, wt_append, wt_pw, List.length_append, wrap_lenV, List.length_cons, List.length_nil]
      split <;> split <;> omega
    · cases hx
  · rw [if_neg c8] at he; cases he
def DigT (a : Txt) : Prop := ∀ t ∈ a, startsDigit t = true → ∀ c ∈ t, digit c = true
theorem DigT.app {a b : Txt} (h : DigT (a ++ b)) : DigT a ∧ DigT b := ⟨fun t ht => h t (List.mem_append_left _ ht), fun t ht => h t (List.mem_append_right _ ht)⟩
theorem DigT.tl {t : List UInt8} {b : Txt} (h : DigT (t :: b)) : DigT b := fun u hu => h u (List.mem_cons_of_mem _ hu)
theorem ex_len {a : Txt} {x : Nd} (h : G (.ex 1) a x) (hd : DigT a) (hw : x.wf) : x.isExpr = true ∧ x.text.length ≤ 3 * wt a ∧ x.text.length ≤ 30 * x.size := by
 have he : x.isExpr = true := h.valid; have h1 := text_wt (x.size + 1) x (by omega) he; have h2 := h.heavy hd; simp only [Heavy] at h2
 exact ⟨he, by split at h2 <;> omega, text_len (x.size + 1) x (by omega) hw he⟩
theorem pl_len {a : Txt} {x : Nd} (h : G .pl a x) (hd : DigT a) (hw : x.wf) : x.isExpr = true ∧ x.text.length ≤ 3 * wt a ∧ x.text.length ≤ 30 * x.size := by
 have hp := h.valid; simp only at hp; have he := place_expr hp; have h1 := text_wt (x.size + 1) x (by omega) he; have h2 := h.heavy hd; simp only [Heavy] at h2
 exact ⟨he, by omega, text_len (x.size + 1) x (by omega) hw he⟩
end Bk
namespace Bk
open Go
def VD.ok (v : VD) : Bool := isName v.name && if v.kind = 1 ∨ v.kind = 3 then v.len == 0 else if v.kind = 2 then decide (1 ≤ v.len) && decide (v.len ≤ 16) else false
def allOk (l : List VD) : Bool := l.all VD.ok
mutual
def Nd.lim : Nd → Int → Int → Bool × Int
 | .mk _ _ _ l, d, m => if d = 0 ∨ m = 0 then (false, m) else rowLim l (d - 1) (m - 1)
def rowLim : List Nd → Int → Int → Bool × Int
 | [], _, m => (true, m)
 | t :: r, d, m => if (t.lim d m).1 then rowLim r d (t.lim d m).2 else (false, (t.lim d m).2)
end
def bodyOk (t : Nd) : Bool := (t.lim 80 2000).1 && t.isBlock
def PD.ok (p : PD) : Bool := isName p.name && decide (p.params.length ≤ 8) && allOk p.params && bodyOk p.body
def PG.ok (g : PG) : Bool := decide (g.vars.length ≤ 32) && decide (g.procs.length ≤ 64) && allOk g.vars && g.procs.all PD.ok && bodyOk g.main
end Bk
namespace Bk
open Go
mutual
theorem lim_ok : ∀ (t : Nd) (d m : Int), t.depth ≤ d → (t.size : Int) ≤ m → t.lim d m = (true, m - t.size)
 | .mk _ _ _ l, d, m, hd, hm => by
  simp only [Nd.depth] at hd; simp only [Nd.size] at hm; have h0 : 0 ≤ rowDepth l := rowDepth_nn l
  unfold Nd.lim
  rw [if_neg (by omega), rowLim_ok l (d - 1) (m - 1) (by omega) (by omega)]; simp only [Nd.size]
  congr 1
  omega
theorem rowLim_ok : ∀ (l : List Nd) (d m : Int), rowDepth l ≤ d → (rowSize l : Int) ≤ m → rowLim l d m = (true, m - rowSize l)
 | [], d, m, _, _ => by simp [rowLim, rowSize]
 | t :: r, d, m, hd, hm => by
  simp only [rowDepth] at hd; simp only [rowSize] at hm; have h1 := lim_ok t d m (by omega) (by omega)
  unfold rowLim
  rw [h1]; simp only [if_true]; rw [rowLim_ok r d _ (by omega) (by omega)]; simp only [rowSize]
  congr 1
  omega
theorem rowDepth_nn : ∀ l : List Nd, 0 ≤ rowDepth l
 | [] => by simp [rowDepth]
 | t :: r => by have := rowDepth_nn r; simp only [rowDepth]; omega
end
theorem body_ok {t : Nd} (hd : t.depth ≤ 80) (hs : t.size ≤ 2000) (hb : t.isBlock = true) : bodyOk t = true := by
 unfold bodyOk
 rw [lim_ok t 80 2000 hd (by omega), hb]; rfl
section
variable {ts : List Tok} {n : Int}
theorem decl_ok (hd : DigitKinds ts) {σ : PS} (h : σ.at_ ≤ ts.length) (he : (declP ts n σ).2.err = 0) : (declP ts n σ).1.ok = true := by
 unfold declP at he ⊢
 split at he
 · rename_i hh
   rw [if_pos hh]; have hn := has_in h hh (by decide); obtain ⟨-, hm⟩ := seg_name (next_le hn).wf he
   simp [VD.ok, hm]
 · rename_i hh
   rw [if_neg hh]
   split at he
   · rename_i hh
     rw [if_pos hh]; have hn := has_in h hh (by decide); obtain ⟨-, hm⟩ := seg_name (next_le hn).wf he
     simp [VD.ok, hm]
   · rename_i hh
     rw [if_neg hh]
     split at he
     · rename_i hh
       rw [if_pos hh]; simp only at he ⊢; have hn := has_in h hh (by decide); have h1 := next_le hn; have h2 := name_le (n := n) h1.wf; have h3 := expect_le (n := n) (t := [91]) h2.wf (by decide); have h4 := number_le (n := n) (a := 1) (b := 16) h3.wf; have e4 := (expect_le (n := n) (t := [93]) h4.wf (by decide)).ok he; obtain ⟨-, hm⟩ := seg_name h1.wf (h3.ok (h4.ok e4)); obtain ⟨t, -, -, e, -, h5, h6⟩ := seg_number hd h3.wf e4; simp only [VD.ok, hm, e]
       simp [h5, h6]
     · exact absurd he unexp_err
theorem allOk_snoc {l : List VD} {v : VD} (h : allOk l = true) (hv : v.ok = true) : allOk (l ++ [v]) = true := by
 unfold allOk at *; simp [h, hv]
theorem vars_ok (hd : DigitKinds ts) (k : Nat) : ∀ (acc : List VD) (σ : PS), σ.at_ ≤ ts.length → (varsP ts n k acc σ).2.err = 0 → allOk acc = true → allOk (varsP ts n k acc σ).1 = true := by
 induction k with
 | zero => intro acc σ h he ha; rw [varsP]; exact ha
 | succ k ih =>
  intro acc σ h he ha; rw [varsP] at he ⊢
  split at he
  · rename_i hh
    rw [if_pos hh]; simp only at he ⊢
    generalize hσ : (if acc.length = 32 then failP σ (peekP ts σ).pos 5 else σ) = σ1 at *
    have l0 : Le ts σ σ1 := by
     rw [← hσ]; split
     · exact fail_le h _ _
     · exact Le.refl h
    have l1 := decl_le (n := n) l0.wf
    exact ih _ _ l1.wf he (allOk_snoc ha (decl_ok hd l0.wf ((vars_le k _ _ l1.wf).ok he)))
  · rename_i hh
    rw [if_neg hh]; exact ha
theorem params_ok (hd : DigitKinds ts) (k : Nat) : ∀ (acc : List VD) (σ : PS), σ.at_ ≤ ts.length → (paramsP ts n k acc σ).2.err = 0 → allOk acc = true → allOk (paramsP ts n k acc σ).1 = true := by
 induction k with
 | zero => intro acc σ h he ha; rw [paramsP]; exact ha
 | succ k ih =>
  intro acc σ h he ha; rw [paramsP] at he ⊢
  split at he
  · rename_i hh
    rw [if_pos hh]; simp only at he ⊢; have h1 := next_le (has_in h hh (by decide))
    generalize hσ : (if acc.length = 8 ∧ atDeclP ts (nextP σ) = true then failP (nextP σ) (peekP ts (nextP σ)).pos 5 else nextP σ) = σ1 at *
    have l0 : Le ts (nextP σ) σ1 := by
     rw [← hσ]; split
     · exact fail_le h1.wf _ _
     · exact Le.refl h1.wf
    have l1 := decl_le (n := n) l0.wf
    exact ih _ _ l1.wf he (allOk_snoc ha (decl_ok hd l0.wf ((params_le k _ _ l1.wf).ok he)))
  · rename_i hh
    rw [if_neg hh]; exact ha
theorem body_valid (hd : DigitKinds ts) {k : Nat} {σ : PS} (h : σ.at_ ≤ ts.length) (hk : 4 * mS ts σ + 8 ≤ k) (he : (bodyP ts n k σ).2.err = 0) : bodyOk (bodyP ts n k σ).1 = true := by
 unfold bodyP at he ⊢
 simp only at he ⊢; obtain ⟨e1, e2, e3⟩ := limit_ok he; obtain ⟨a, -, ga⟩ := (stmt_sound hd k).2.2.2.1 σ h hk e1
 exact body_ok e2 e3 (ga.valid _ rfl)
theorem proc_ok (hd : DigitKinds ts) {k : Nat} {σ : PS} (h : σ.at_ ≤ ts.length) (hk : 4 * mS ts σ + 8 ≤ k) (he : (procP ts n k σ).2.err = 0) : (procP ts n k σ).1.ok = true := by
 have hsm := (procP_small h he).1; rw [procP_at] at he hsm ⊢; simp only at he hsm ⊢; have l1 := expect_le (n := n) (t := [112, 114, 111, 99]) h (by decide); have l2 := name_le (n := n) l1.wf; have l3 := expect_le (n := n) (t := [40]) l2.wf (by decide); have lq := procQ_le (n := n) (k := k) l3.wf; have lb := bodyP_le (n := n) (k := k) lq.wf; have m := mS_le (((l1.trans l2).trans l3).trans lq); have hb := body_valid hd lq.wf (by omega) he; have eq := lb.ok he; have e3 := lq.ok eq; obtain ⟨-, hm⟩ := seg_name l1.wf (l3.ok e3)
 have hp : allOk (procQ ts n k (expectP ts n (nameP ts n (expectP ts n σ [112, 114, 111, 99])).2 [40])).1 = true := by
  unfold procQ at eq ⊢
  split at eq
  · rename_i hc; rw [if_pos hc]; rfl
  · rename_i hc
    rw [if_neg hc]; simp only at eq ⊢; have ld := decl_le (n := n) l3.wf; have lp := params_le (n := n) k [(declP ts n (expectP ts n (nameP ts n (expectP ts n σ [112, 114, 111, 99])).2 [40])).1] _ ld.wf; have e1 := (expect_le (n := n) (t := [41]) lp.wf (by decide)).ok eq; refine params_ok hd k _ _ ld.wf e1 ?_
    unfold allOk
    simp [decl_ok hd l3.wf (lp.ok e1)]
 simp only [PD.ok, hm, hp, hb, Bool.and_true, Bool.true_and]
 exact decide_eq_true hsm
theorem procs_ok (hd : DigitKinds ts) (k : Nat) : ∀ (acc : List PD) (σ : PS), σ.at_ ≤ ts.length → (σ.err = 0 → 4 * mS ts σ + 9 ≤ k) → (procsP ts n k acc σ).2.err = 0 → acc.all PD.ok = true → (procsP ts n k acc σ).1.all PD.ok = true := by
 induction k with
 | zero => intro acc σ h hk he ha; rw [procsP]; exact ha
 | succ k ih =>
  intro acc σ h hk he ha; rw [procsP] at he ⊢
  split at he
  · rename_i hh
    rw [if_pos hh]; simp only at he ⊢; have h0 := (has_in h hh (by decide)).1; have hk0 := hk h0
    by_cases c : acc.length = 64
    · rw [if_pos c] at he
      exfalso
      have l0 := fail_le (ts := ts) h (peekP ts σ).pos 5; have l1 := procP_le (n := n) (k := k) l0.wf
      exact absurd ((l1.trans (procs_le k _ _ l1.wf)).ok he) (fail_err (by decide))
    · rw [if_neg c] at he ⊢
      have l1 := procP_le (n := n) (k := k) h; have e1 := (procs_le k (acc ++ [(procP ts n k σ).1]) _ l1.wf).ok he; have m1 := mS_dec l1 (procP_lt h) e1; refine ih _ _ l1.wf (fun _ => by omega) he ?_; rw [List.all_append, ha]
      simp [proc_ok hd h (by omega) e1]
  · rename_i hh
    rw [if_neg hh]; exact ha
theorem program_ok (hd : DigitKinds ts) {k : Nat} {σ : PS} (h : σ.at_ ≤ ts.length) (hk : 4 * mS ts σ + 9 ≤ k) (he : (programP ts n k σ).2.err = 0) : (programP ts n k σ).1.ok = true := by
 obtain ⟨s1, s2, -, -⟩ := program_small h he
 unfold programP at he s1 s2 ⊢
 simp only at he s1 s2 ⊢; have l1 := vars_le (n := n) k [] σ h; have l2 := procs_le (n := n) k [] _ l1.wf; have l3 := expect_le (n := n) (t := [109, 97, 105, 110]) l2.wf (by decide); have l4 := bodyP_le (n := n) (k := k) l3.wf; have e3 := l4.ok he; have e2 := l3.ok e3; have e1 := l2.ok e2; have m1 := mS_le l1; have m3 := mS_le ((l1.trans l2).trans l3); have hv := vars_ok hd k [] σ h e1 rfl; have hp := procs_ok hd k [] _ l1.wf (fun _ => by omega) e2 rfl; have hb := body_valid hd l3.wf (by omega) he; simp only [PG.ok, hv, hp, hb, Bool.and_true]
 simp [s1, s2]
def OffIn (n : Int) (σ : PS) : Prop := σ.err ≠ 0 → 0 ≤ σ.off ∧ σ.off ≤ n
theorem off_fail {σ : PS} {off e : Int} (h0 : 0 ≤ off) (h1 : off ≤ n) (i : OffIn n σ) : OffIn n (failP σ off e) := by
 unfold failP
 split
 · exact fun _ => ⟨h0, h1⟩
 · exact i
theorem off_clo (hn : 0 ≤ n) (hp : ∀ t ∈ ts, 0 ≤ t.pos ∧ t.pos ≤ n) : CloL ts n (OffIn n) where
 next := fun σ _ i => i
 unexp := fun σ h i => by
  unfold unexpP
  split
  · rename_i hl
    rw [List.getD_eq_getElem?_getD, List.getElem?_eq_getElem hl]
    exact off_fail (hp _ (List.getElem_mem hl)).1 (hp _ (List.getElem_mem hl)).2 i
  · exact off_fail hn (Int.le_refl _) i
 full := fun σ h i => off_fail (hp _ (peek_mem h.2 h.1)).1 (hp _ (peek_mem h.2 h.1)).2 i
 range := fun σ h i => off_fail (hp _ (peek_mem h.2 h.1)).1 (hp _ (peek_mem h.2 h.1)).2 i
 lim := fun σ x τ h i j => by
  have hq : 0 ≤ (peekP ts σ).pos ∧ (peekP ts σ).pos ≤ n := by
   by_cases c : σ.err ≠ 0 ∨ σ.at_ = ts.length
   · have : peekP ts σ = Tok.zero := by unfold peekP; rw [if_pos c]
     rw [this]; exact ⟨by decide, hn⟩
   · exact hp _ (peek_mem (by omega) (by omega))
  unfold limitP
  split
  · exact j
  · split
    · exact off_fail hq.1 hq.2 j
    · split
      · exact off_fail hq.1 hq.2 j
      · exact j
end
theorem lexGo_off (s : List UInt8) : ∀ (k p : Nat) (acc : List Tok) (q : Nat), (lexGo k s p acc).2 = some q → q ≤ s.length
 | 0, p, acc, q, h => by rw [lexGo] at h; cases h
 | k + 1, p, acc, q, h => by
  rw [lexGo] at h
  split at h
  · rename_i hl
    split at h
    · cases h; omega
    · exact lexGo_off s k _ _ q h
  · cases h
theorem start_off (s : List UInt8) : OffIn s.length (startP s).2 := by
 intro _
 show 0 ≤ (lexT s).2.1 ∧ (lexT s).2.1 ≤ (s.length : Int)
 unfold lexT
 split
 · show (0 : Int) ≤ 0 ∧ (0 : Int) ≤ (s.length : Int)
   omega
 · split
   · show (0 : Int) ≤ 0 ∧ (0 : Int) ≤ (s.length : Int)
     omega
   · rename_i l p hl
     have := lexGo_off s _ _ _ p (by rw [hl])
     show (0 : Int) ≤ (p : Int) ∧ (p : Int) ≤ (s.length : Int)
     omega
theorem start_pos (s : List UInt8) : ∀ t ∈ (startP s).1, 0 ≤ t.pos ∧ t.pos ≤ s.length := fun t ht => (solid_ok s t ht).pos
theorem parseProgram_ok (s : List UInt8) : ((parseProgram s).2.2 = 0 → (parseProgram s).1.ok = true ∧ (parseProgram s).2.1 = 0) ∧ ((parseProgram s).2.2 ≠ 0 → (parseProgram s).1 = ⟨[], [], zeroNd⟩ ∧ 0 ≤ (parseProgram s).2.1 ∧ (parseProgram s).2.1 ≤ s.length) := by
 have hl := start_len s
 have hm : mS (startP s).1 (startP s).2 ≤ (startP s).1.length := by unfold mS; split <;> omega
 have hw : (startP s).2.at_ ≤ (startP s).1.length := Nat.zero_le _
 unfold parseProgram
 simp only
 split
 · rename_i h
   refine ⟨fun e => absurd e h, fun _ => ⟨rfl, ?_⟩⟩; have C := off_clo (ts := (startP s).1) (n := s.length) (by omega) (start_pos s); have l1 := programP_le (n := s.length) (k := fuelP s) hw
   exact C.toClo.finish l1.wf (C.program hw (start_off s)) h
 · rename_i h
   refine ⟨fun _ => ⟨?_, rfl⟩, fun e => absurd rfl e⟩
   exact program_ok (digitKinds_start s) hw (by unfold fuelP; omega) (finish_ok (by simpa using h)).1
end Bk
namespace Bk
open Go
def LenS : NtS → Txt → List Nd → Prop
 | .st, a, l => ∀ d : Nat, rowDepth l + 2 * (d : Int) ≤ 82 → (rowLines l d).length ≤ 32 * wt a + 32 ∧ (rowLines l d).length ≤ 200 * rowSize l
 | .bl, a, l => ∀ (d : Nat) (y : Nd), l = [y] → y.depth + 2 * (d : Int) ≤ 81 → (y.linesT (d + 1)).length + d + 4 ≤ 32 * wt a ∧ (y.linesT (d + 1)).length + 200 ≤ 200 * y.size
 | .ls, a, l => ∀ d : Nat, rowDepth l + 2 * (d : Int) ≤ 82 → (rowLines l d).length ≤ 32 * wt a ∧ (rowLines l d).length ≤ 200 * rowSize l
theorem varN_text (m : List UInt8) : (varN m).text = m := by simp [varN, Nd.text]
theorem args_short : ∀ (l : Txt), (∀ v ∈ l, isName v = true) → (argsT false (l.map varN)).length ≤ 2 * wt (argT l) ∧ (argsT false (l.map varN)).length ≤ 18 * l.length
 | [], _ => by simp [argsT]
 | m :: r, h => by
  obtain ⟨h1, h2⟩ := args_short r (fun v hv => h v (by simp [hv])); have h3 := isName_len (h m (by simp))
  have e : argT (m :: r) = [44] :: m :: argT r := by simp [argT]
  rw [e]; simp only [List.map_cons, argsT, varN_text, Bool.false_eq_true, if_false, List.length_append, List.length_cons, List.length_nil, wt]
  omega
theorem rowSize_map (l : Txt) : rowSize (l.map varN) = l.length := by
 induction l with
 | nil => rfl
 | cons m r ih => simp only [List.map_cons, rowSize, ih, List.length_cons, varN, Nd.size]; omega
theorem kwordL_len (k : Int) : (kword k).length ≤ 12 := by
 unfold kword
 by_cases h1 : k = 44
 · rw [if_pos h1]; decide
 rw [if_neg h1]
 by_cases h45 : k = 45
 · rw [if_pos h45]; decide
 rw [if_neg h45]
 by_cases h46 : k = 46
 · rw [if_pos h46]; decide
 rw [if_neg h46]
 by_cases h47 : k = 47
 · rw [if_pos h47]; decide
 rw [if_neg h47]
 by_cases h48 : k = 48
 · rw [if_pos h48]; decide
 rw [if_neg h48]
 by_cases h49 : k = 49
 · rw [if_pos h49]; decide
 rw [if_neg h49]
 by_cases h50 : k = 50
 · rw [if_pos h50]; decide
 rw [if_neg h50]
 by_cases h51 : k = 51
 · rw [if_pos h51]; decide
 rw [if_neg h51]
 by_cases h52 : k = 52
 · rw [if_pos h52]; decide
 rw [if_neg h52]
 by_cases h53 : k = 53
 · rw [if_pos h53]; decide
 rw [if_neg h53]
 by_cases h54 : k = 54
 · rw [if_pos h54]; decide
 rw [if_neg h54]
 by_cases h55 : k = 55
 · rw [if_pos h55]; decide
 rw [if_neg h55]
 decide
set_option maxHeartbeats 4000000 in
theorem GS.len {nt : NtS} {a : Txt} {l : List Nd} (h : GS nt a l) : DigT a → rowWf l → LenS nt a l := by
 induction h with
 | @stack kw m kd a x hk hp hm =>
  intro hd hw d hdd; obtain ⟨-, h1, h2⟩ := pl_len hp hd.tl.app.1 hw.1.2.2.2.2.2.2.1; have hn := isName_len hm; have hkw := kwordL_len kd; simp only [stackKw, List.mem_cons, Prod.mk.injEq, List.not_mem_nil, or_false] at hk; simp only [rowDepth, Nd.depth] at hdd
  rcases hk with ⟨rfl, rfl⟩ | ⟨rfl, rfl⟩ <;>
  · simp only [rowLines, rowSize, Nd.size, wt, wt_append]
    rw [Nd.stmtT.eq_def]; simp only [tabT]
    simp [-List.length_append]
    simp only [List.length_append, List.length_cons, List.length_nil, List.length_replicate]
    omega
 | @tape kw kd a x hk hp =>
  intro hd hw d hdd; obtain ⟨-, h1, h2⟩ := pl_len hp hd.tl hw.1.2.2.2.2.2.2.1; have hkw := kwordL_len kd; simp only [tapeKw, List.mem_cons, Prod.mk.injEq, List.not_mem_nil, or_false] at hk; simp only [rowDepth, Nd.depth] at hdd
  rcases hk with ⟨rfl, rfl⟩ | ⟨rfl, rfl⟩ | ⟨rfl, rfl⟩ | ⟨rfl, rfl⟩ <;>
  · simp only [rowLines, rowSize, Nd.size, wt]
    rw [Nd.stmtT.eq_def]; simp only [tabT]
    simp [-List.length_append]
    simp only [List.length_append, List.length_cons, List.length_nil, List.length_replicate]
    omega
 | @call0 kw m kd hk hm =>
  intro hd hw d hdd; have hn := isName_len hm; have hkw := kwordL_len kd; simp only [callKw, List.mem_cons, Prod.mk.injEq, List.not_mem_nil, or_false] at hk; simp only [rowDepth, Nd.depth] at hdd
  rcases hk with ⟨rfl, rfl⟩ | ⟨rfl, rfl⟩ <;>
  · simp only [rowLines, rowSize, Nd.size, wt]
    rw [Nd.stmtT.eq_def]; simp only [tabT]
    simp [-List.length_append, argsT]
    simp only [List.length_append, List.length_cons, List.length_nil, List.length_replicate]
    omega
 | @call1 kw m u kd l hk hm hu hl h7 =>
  intro hd hw d hdd; have hn := isName_len hm; have hun := isName_len hu; obtain ⟨a1, a2⟩ := args_short l hl; have hz := rowSize_map l
  have ht : argsT true ((u :: l).map varN) = u ++ argsT false (l.map varN) := by simp [argsT, varN_text]
  have hdn : 0 ≤ rowDepth ((u :: l).map varN) := rowDepth_nn _; have hkw := kwordL_len kd; simp only [callKw, List.mem_cons, Prod.mk.injEq, List.not_mem_nil, or_false] at hk; simp only [rowDepth, Nd.depth] at hdd
  have hzz : rowSize ((u :: l).map varN) = l.length + 1 := by rw [rowSize_map]; rfl
  rcases hk with ⟨rfl, rfl⟩ | ⟨rfl, rfl⟩ <;>
  · simp only [rowLines, rowSize, Nd.size, wt, wt_append, hzz]
    rw [Nd.stmtT.eq_def]; simp only [tabT, ht]
    simp [-List.length_append, -List.map_cons]
    simp only [ht, List.length_append, List.length_cons, List.length_nil, List.length_replicate]
    omega
 | @branch kw mid last kd a b c e x y z u hk hx hy hz hu iy iz =>
  intro hd hw d hdd; have hd1 := hd.tl.app; have hd2 := hd1.2.app; have hd3 := hd2.2.tl.app; have hwl := hw.1.2.2.2.2.2.2; obtain ⟨-, h1, h2⟩ := ex_len hx hd1.1 hwl.1; obtain ⟨-, h3, h4⟩ := ex_len hu hd3.2.tl hwl.2.2.2.1; have i1 := iy hd2.1 ⟨hwl.2.1, trivial⟩; have i2 := iz hd3.1 ⟨hwl.2.2.1, trivial⟩; simp only [rowDepth, Nd.depth] at hdd; obtain ⟨j1, j2⟩ := i1 d y rfl (by omega); obtain ⟨j3, j4⟩ := i2 d z rfl (by omega); have hkw := kwordL_len kd; simp only [branchKw, List.mem_cons, Prod.mk.injEq, List.not_mem_nil, or_false] at hk
  rcases hk with ⟨rfl, rfl, rfl, rfl⟩ | ⟨rfl, rfl, rfl, rfl⟩ <;>
  · simp only [rowLines, rowSize, Nd.size, wt, wt_append]
    rw [Nd.stmtT.eq_def]; simp only [tabT]
    simp [-List.length_append]
    simp only [List.length_append, List.length_cons, List.length_nil, List.length_replicate]
    omega
 | @lstack m b x hm hx ix =>
  intro hd hw d hdd; have hn := isName_len hm; have hwl := hw.1.2.2.2.2.2.2; have i1 := ix hd.tl.tl.tl ⟨hwl.1, trivial⟩; simp only [rowDepth, Nd.depth] at hdd; obtain ⟨j1, j2⟩ := i1 d x rfl (by omega); have hkw := kwordL_len 55; simp only [rowLines, rowSize, Nd.size, wt]; rw [Nd.stmtT.eq_def]; simp only [tabT]
  simp [-List.length_append]
  simp only [List.length_append, List.length_cons, List.length_nil, List.length_replicate]
  omega
 | @local_ m a b e x y z hm hx hy hz iy =>
  intro hd hw d hdd; have hn := isName_len hm; have hd1 := hd.tl.tl.tl.app; have hd2 := hd1.2.app; have hwl := hw.1.2.2.2.2.2.2; obtain ⟨-, h1, h2⟩ := ex_len hx hd1.1 hwl.1; obtain ⟨-, h3, h4⟩ := ex_len hz hd2.2.tl hwl.2.2.1; have i1 := iy hd2.1 ⟨hwl.2.1, trivial⟩; simp only [rowDepth, Nd.depth] at hdd; obtain ⟨j1, j2⟩ := i1 d y rfl (by omega); have hkw := kwordL_len 54; simp only [rowLines, rowSize, Nd.size, wt, wt_append]; rw [Nd.stmtT.eq_def]; simp only [tabT]
  simp [-List.length_append]
  simp only [List.length_append, List.length_cons, List.length_nil, List.length_replicate]
  omega
 | @upd t a b x y hx ht hy =>
  intro hd hw d hdd; have hd1 := hd.app; have hwl := hw.1.2.2.2.2.2.2; obtain ⟨-, h1, h2⟩ := pl_len hx hd1.1 hwl.1; obtain ⟨-, h3, h4⟩ := ex_len hy hd1.2.tl hwl.2.1; simp only [rowDepth, Nd.depth] at hdd
  have hk : (t = [43, 61] ∧ updKind t = 40) ∨ (t = [45, 61] ∧ updKind t = 41) ∨ (t = [94, 61] ∧ updKind t = 42) ∨ (t = [58, 61] ∧ updKind t = 56) := by
   unfold updKind at ht ⊢
   by_cases h1 : t = [43, 61]
   · exact Or.inl ⟨h1, by rw [if_pos h1]⟩
   by_cases h2 : t = [45, 61]
   · exact Or.inr (Or.inl ⟨h2, by rw [if_neg h1, if_pos h2]⟩)
   by_cases h3 : t = [94, 61]
   · exact Or.inr (Or.inr (Or.inl ⟨h3, by rw [if_neg h1, if_neg h2, if_pos h3]⟩))
   by_cases h4 : t = [58, 61]
   · exact Or.inr (Or.inr (Or.inr ⟨h4, by rw [if_neg h1, if_neg h2, if_neg h3, if_pos h4]⟩))
   simp [h1, h2, h3, h4] at ht
  rcases hk with ⟨rfl, hk⟩ | ⟨rfl, hk⟩ | ⟨rfl, hk⟩ | ⟨rfl, hk⟩ <;>
  · rw [hk]
    simp only [rowLines, rowSize, Nd.size, wt, wt_append]; rw [Nd.stmtT.eq_def]; simp only [tabT]
    simp [-List.length_append, updSign, symbol, symbols]
    simp only [List.length_append, List.length_cons, List.length_nil, List.length_replicate]
    omega
 | @swap a b x y hx hy =>
  intro hd hw d hdd; have hd1 := hd.app; have hwl := hw.1.2.2.2.2.2.2; obtain ⟨-, h1, h2⟩ := pl_len hx hd1.1 hwl.1; obtain ⟨-, h3, h4⟩ := pl_len hy hd1.2.tl hwl.2.1; simp only [rowDepth, Nd.depth] at hdd; simp only [rowLines, rowSize, Nd.size, wt, wt_append]; rw [Nd.stmtT.eq_def]; simp only [tabT]
  simp [-List.length_append, updSign]
  simp only [List.length_append, List.length_cons, List.length_nil, List.length_replicate]
  omega
 | @bl a l h ih =>
  intro hd hw d y hy hdd
  obtain rfl : Nd.mk 57 0 [] l = y := by simpa using hy
  have i1 := ih hd.tl.app.1 hw.1.2.2.2.2.2.2; simp only [Nd.depth] at hdd; obtain ⟨j1, j2⟩ := i1 (d + 1) (by omega); have hnn := rowDepth_nn l; simp only [Nd.linesT, Nd.size, wt, wt_append, List.length_cons, List.length_nil]
  omega
 | ls0 =>
  intro hd hw d hdd
  simp [rowLines]
 | @ls1 a b x l hx hl ix il =>
  intro hd hw d hdd; have hd1 := hd.app; simp only [rowDepth] at hdd; have i1 := ix hd1.1 ⟨hw.1, trivial⟩; have i2 := il hd1.2.tl hw.2; obtain ⟨j1, j2⟩ := i1 d (by simp only [rowDepth]; have := rowDepth_nn l; omega); obtain ⟨j3, j4⟩ := i2 d (by omega); simp only [rowLines, List.length_append, rowSize, List.length_nil, wt, wt_append, List.length_cons] at j1 j2 j3 j4 ⊢
  omega
end Bk
namespace Bk
open Go Go.RowKit Go.Proofs
structure VD.wf (v : VD) : Prop where
 name : v.name.length ≤ 9223372036854775807
 k0 : 0 ≤ v.kind
 k1 : v.kind ≤ 255
 l0 : -9223372036854775808 ≤ v.len
 l1 : v.len ≤ 9223372036854775807
theorem allOk_false {l : List VD} {j : Nat} (h : j < l.length) (hk : l[j].ok = false) : allOk l = false := by
 unfold allOk
 rw [List.all_eq_false]
 exact ⟨l[j], List.getElem_mem h, by simp [hk]⟩
theorem allOk_true {l : List VD} (h : ∀ j (hj : j < l.length), l[j].ok = true) : allOk l = true := by
 unfold allOk
 rw [List.all_eq_true]; intro x hx; obtain ⟨i, hi, rfl⟩ := List.mem_iff_getElem.1 hx
 exact h i hi
set_option maxRecDepth 100000 in
set_option maxHeartbeats 1000000 in
theorem declared_c (l : List VD) (S : Nat → Prop) (a : Option Addr) (c : Nat) (w : World) (hl : l.length ≤ 9223372036854775807) (hwf : ∀ v ∈ l, v.wf) (hs : VDs S w l a) :
 Calls Tryz.prog 41 #[.slice a l.length c] w fun e w' => e = .returned (.bool (allOk l)) ∧ Ext w w' := by
 refine calls_in Tryz.func41 Tryz.ntmps41 rfl rfl ?_; (refine cw_seq ?_; refine cw_region ?_; (refine lw_is ?_; refine lw_pure (by exact pur_assign rfl) rfl ?_); refine lw_nil ?_; refine qw_then ?_; refine cw_seq ?_; refine cw_seq ?_; refine cw_region ?_; (refine lw_is ?_; refine lw_pure (by exact pur_move rfl) rfl ?_); (refine lw_is ?_; refine lw_pure (by exact pur_len_slice tabOk rfl rfl) rfl ?_); (refine lw_is ?_; refine lw_pure (by exact pur_move rfl) rfl ?_); refine lw_nil ?_; refine qw_then ?_; refine cw_block ?_); refine cw_loop (ι := Nat) (fun j => [(7, .int .i64 j), (6, .int .i64 l.length), (5, .slice a l.length c)]) (fun j w' => Ext w w' ∧ j ≤ l.length ∧ ∀ i (hi : i < l.length), i < j → l[i].ok = true) (fun j => l.length - j) 0 (by (refine sub_cons rfl ?_; refine sub_cons rfl ?_; refine sub_cons rfl ?_; exact sub_nil)) ⟨Ext.refl _, by omega, by omega⟩ ?_; rintro j w1 ⟨x1, hj, hall⟩
 have HA := Lib.hid hall; clear hall
 by_cases hlt : j < l.length
 · obtain ⟨kb, ko, rfl, -, hkid⟩ := (hs.ext x1).get (by omega)
   have rx : Row w1 ⟨kb, ko + j * 3, none⟩ l[j].cells := hkid j l[j] (List.getElem?_eq_getElem hlt); have wf := hwf l[j] (List.getElem_mem hlt); have wf1 := wf.name; have HF : l[j].ok = false → allOk l = false := allOk_false hlt; have HN := Lib.hid HF; clear HF hkid
   generalize hv : l[j] = v at *
   have HE := Lib.hid hv; clear hv
   (refine cw_seq ?_; refine cw_region ?_; (refine lw_is ?_; refine lw_pure (by exact pur_lss rfl rfl) rfl ?_); refine lw_nil ?_; refine qw_then ?_; refine cw_seq ?_; (refine cw_is ?_; refine cw_yes rfl (by omega) ?_); refine cw_skip ?_; refine qw_then ?_; refine cw_seq ?_; refine cw_block ?_; refine cw_seq ?_; refine cw_region ?_; (refine lw_is ?_; refine lw_pure (by exact pur_indexAddr tabOk rfl rfl rfl rfl (by omega) (by omega)) rfl ?_); (refine lw_is ?_; refine lw_pure (by exact pur_loads' tabOk rfl rfl rfl (by exact fun wz hz => by (try subst hz); exact (by assumption)) (by rfl)) rfl ?_)); refine lw_alloc zOk rfl rfl ?_; intro b2 w2 hn2; refine lw_init tabOk rfl rfl rfl rfl rfl rfl (hn2) rfl ?_; clear hn2 w2; intro w2 hn2; have h2 := hn2.blk; have x2 := hn2.ext; (refine lw_nil ?_; refine qw_then ?_; refine cw_seq ?_; refine cw_seq ?_; refine cw_region ?_; (refine lw_is ?_; refine lw_pure (by exact pur_fieldAddr0 tabOk rfl rfl rfl) rfl ?_); (refine lw_is ?_; refine lw_pure (by exact pur_load tabOk rfl rfl rfl (by exact fun wz hz => by (try subst hz); exact (Blk.cell (by assumption) (by rfl)))) rfl ?_)); refine cC (by kernel_rfl) rfl (Name_c v.name _ wf1) rfl ?_; rintro _ w3 ⟨⟨⟩, x3⟩; have xx3 : Ext w w3 := (by refine Ext.trans ?_ (by assumption); refine Ext.trans ?_ (by assumption); assumption); have h3 := h2.ext x3
   cases hnm : isName v.name
   · try rw [hnm]
     ((refine lw_is ?_; refine lw_pure (by exact pur_not rfl) rfl ?_); refine lw_nil ?_; refine qw_then ?_; (refine cw_is ?_; refine cw_bt rfl (by rfl) ?_); refine cw_seq ?_; refine cw_region ?_; (refine lw_is ?_; refine lw_pure (by exact pur_assign rfl) rfl ?_); refine lw_nil ?_; refine qw_then ?_; refine cw_ret ?_; refine qw_then_ret ?_; refine qw_block_ret ?_; refine qw_then_ret ?_; refine qw_then_ret ?_; refine qw_block_ret ?_; refine qw_then_ret ?_)
     refine qw_ret1 Tryz.results41 rfl ?_
     exact ⟨ret_bool (HN.out (by simp [VD.ok, hnm])).symm, xx3⟩
   try rw [hnm]
   by_cases hk : v.kind = 1 ∨ v.kind = 3
   · by_cases h0 : v.len = 0
     · have hok : v.ok = true := by simp [VD.ok, hnm, hk, h0]
       rcases hk with hk | hk
       · ((refine lw_is ?_; refine lw_pure (by exact pur_not rfl) rfl ?_); refine lw_nil ?_; refine qw_then ?_; (refine cw_is ?_; refine cw_bf rfl (by rfl) ?_); refine cw_skip ?_; refine qw_then ?_; refine cw_seq ?_; refine cw_region ?_; (refine lw_is ?_; refine lw_pure (by exact pur_fieldAddr tabOk rfl rfl rfl) rfl ?_); (refine lw_is ?_; refine lw_pure (by exact pur_load tabOk rfl rfl rfl (by exact fun wz hz => by (try subst hz); exact (Blk.cell (by assumption) (by rfl)))) rfl ?_); refine lw_nil ?_; refine qw_then ?_; refine cw_block ?_; refine cw_seq ?_; refine cw_seq ?_; refine cw_region ?_; (refine lw_is ?_; refine lw_pure (by exact pur_eql rfl rfl) rfl ?_); (refine lw_is ?_; refine lw_pure (by exact pur_assign rfl) rfl ?_); refine lw_nil ?_; refine qw_then ?_; (refine cw_is ?_; refine cw_yes rfl (by assumption) ?_); refine cw_skip ?_; refine qw_then ?_; (refine cw_is ?_; refine cw_yes rfl (by assumption) ?_); refine cw_seq ?_; refine cw_region ?_; (refine lw_is ?_; refine lw_pure (by exact pur_fieldAddr tabOk rfl rfl rfl) rfl ?_); (refine lw_is ?_; refine lw_pure (by exact pur_load tabOk rfl rfl rfl (by exact fun wz hz => by (try subst hz); exact (Blk.cell (by assumption) (by rfl)))) rfl ?_); (refine lw_is ?_; refine lw_pure (by exact pur_neq rfl rfl) rfl ?_); refine lw_nil ?_; refine qw_then ?_; (refine cw_is ?_; refine cw_no rfl (by omega) ?_); refine cw_skip ?_; refine qw_block_norm ?_; refine qw_block_norm ?_; refine qw_then ?_; refine cw_region ?_; (refine lw_is ?_; refine lw_pure (by exact pur_add rfl rfl (IntWalk.i64_in _ (by omega))) rfl ?_); (refine lw_is ?_; refine lw_pure (by exact pur_move rfl) rfl ?_); refine lw_nil ?_)
         refine qw_round (j + 1) (by (refine sub_cons rfl ?_; refine sub_cons rfl ?_; refine sub_cons rfl ?_; exact sub_nil)) ⟨xx3, by omega, fun i hi hij => ?_⟩ (by omega)
         by_cases e : i = j
         · subst e; exact HE.out ▸ hok
         · exact HA.out i hi (by omega)
       · ((refine lw_is ?_; refine lw_pure (by exact pur_not rfl) rfl ?_); refine lw_nil ?_; refine qw_then ?_; (refine cw_is ?_; refine cw_bf rfl (by rfl) ?_); refine cw_skip ?_; refine qw_then ?_; refine cw_seq ?_; refine cw_region ?_; (refine lw_is ?_; refine lw_pure (by exact pur_fieldAddr tabOk rfl rfl rfl) rfl ?_); (refine lw_is ?_; refine lw_pure (by exact pur_load tabOk rfl rfl rfl (by exact fun wz hz => by (try subst hz); exact (Blk.cell (by assumption) (by rfl)))) rfl ?_); refine lw_nil ?_; refine qw_then ?_; refine cw_block ?_; refine cw_seq ?_; refine cw_seq ?_; refine cw_region ?_; (refine lw_is ?_; refine lw_pure (by exact pur_eql rfl rfl) rfl ?_); (refine lw_is ?_; refine lw_pure (by exact pur_assign rfl) rfl ?_); refine lw_nil ?_; refine qw_then ?_; (refine cw_is ?_; refine cw_no rfl (by omega) ?_); refine cw_region ?_; (refine lw_is ?_; refine lw_pure (by exact pur_eql rfl rfl) rfl ?_); (refine lw_is ?_; refine lw_pure (by exact pur_assign rfl) rfl ?_); refine lw_nil ?_; refine qw_then ?_; (refine cw_is ?_; refine cw_yes rfl (by assumption) ?_); refine cw_seq ?_; refine cw_region ?_; (refine lw_is ?_; refine lw_pure (by exact pur_fieldAddr tabOk rfl rfl rfl) rfl ?_); (refine lw_is ?_; refine lw_pure (by exact pur_load tabOk rfl rfl rfl (by exact fun wz hz => by (try subst hz); exact (Blk.cell (by assumption) (by rfl)))) rfl ?_); (refine lw_is ?_; refine lw_pure (by exact pur_neq rfl rfl) rfl ?_); refine lw_nil ?_; refine qw_then ?_; (refine cw_is ?_; refine cw_no rfl (by omega) ?_); refine cw_skip ?_; refine qw_block_norm ?_; refine qw_block_norm ?_; refine qw_then ?_; refine cw_region ?_; (refine lw_is ?_; refine lw_pure (by exact pur_add rfl rfl (IntWalk.i64_in _ (by omega))) rfl ?_); (refine lw_is ?_; refine lw_pure (by exact pur_move rfl) rfl ?_); refine lw_nil ?_)
         refine qw_round (j + 1) (by (refine sub_cons rfl ?_; refine sub_cons rfl ?_; refine sub_cons rfl ?_; exact sub_nil)) ⟨xx3, by omega, fun i hi hij => ?_⟩ (by omega)
         by_cases e : i = j
         · subst e; exact HE.out ▸ hok
         · exact HA.out i hi (by omega)
     · have hok : v.ok = false := by simp [VD.ok, hnm, hk, h0]
       rcases hk with hk | hk
       · ((refine lw_is ?_; refine lw_pure (by exact pur_not rfl) rfl ?_); refine lw_nil ?_; refine qw_then ?_; (refine cw_is ?_; refine cw_bf rfl (by rfl) ?_); refine cw_skip ?_; refine qw_then ?_; refine cw_seq ?_; refine cw_region ?_; (refine lw_is ?_; refine lw_pure (by exact pur_fieldAddr tabOk rfl rfl rfl) rfl ?_); (refine lw_is ?_; refine lw_pure (by exact pur_load tabOk rfl rfl rfl (by exact fun wz hz => by (try subst hz); exact (Blk.cell (by assumption) (by rfl)))) rfl ?_); refine lw_nil ?_; refine qw_then ?_; refine cw_block ?_; refine cw_seq ?_; refine cw_seq ?_; refine cw_region ?_; (refine lw_is ?_; refine lw_pure (by exact pur_eql rfl rfl) rfl ?_); (refine lw_is ?_; refine lw_pure (by exact pur_assign rfl) rfl ?_); refine lw_nil ?_; refine qw_then ?_; (refine cw_is ?_; refine cw_yes rfl (by assumption) ?_); refine cw_skip ?_; refine qw_then ?_; (refine cw_is ?_; refine cw_yes rfl (by assumption) ?_); refine cw_seq ?_; refine cw_region ?_; (refine lw_is ?_; refine lw_pure (by exact pur_fieldAddr tabOk rfl rfl rfl) rfl ?_); (refine lw_is ?_; refine lw_pure (by exact pur_load tabOk rfl rfl rfl (by exact fun wz hz => by (try subst hz); exact (Blk.cell (by assumption) (by rfl)))) rfl ?_); (refine lw_is ?_; refine lw_pure (by exact pur_neq rfl rfl) rfl ?_); refine lw_nil ?_; refine qw_then ?_; (refine cw_is ?_; refine cw_yes rfl (by assumption) ?_); refine cw_seq ?_; refine cw_region ?_; (refine lw_is ?_; refine lw_pure (by exact pur_assign rfl) rfl ?_); refine lw_nil ?_; refine qw_then ?_; refine cw_ret ?_; refine qw_block_ret ?_; refine qw_block_ret ?_; refine qw_then_ret ?_; refine qw_then_ret ?_; refine qw_block_ret ?_; refine qw_then_ret ?_)
         refine qw_ret1 Tryz.results41 rfl ?_
         exact ⟨ret_bool (HN.out hok).symm, xx3⟩
       · ((refine lw_is ?_; refine lw_pure (by exact pur_not rfl) rfl ?_); refine lw_nil ?_; refine qw_then ?_; (refine cw_is ?_; refine cw_bf rfl (by rfl) ?_); refine cw_skip ?_; refine qw_then ?_; refine cw_seq ?_; refine cw_region ?_; (refine lw_is ?_; refine lw_pure (by exact pur_fieldAddr tabOk rfl rfl rfl) rfl ?_); (refine lw_is ?_; refine lw_pure (by exact pur_load tabOk rfl rfl rfl (by exact fun wz hz => by (try subst hz); exact (Blk.cell (by assumption) (by rfl)))) rfl ?_); refine lw_nil ?_; refine qw_then ?_; refine cw_block ?_; refine cw_seq ?_; refine cw_seq ?_; refine cw_region ?_; (refine lw_is ?_; refine lw_pure (by exact pur_eql rfl rfl) rfl ?_); (refine lw_is ?_; refine lw_pure (by exact pur_assign rfl) rfl ?_); refine lw_nil ?_; refine qw_then ?_; (refine cw_is ?_; refine cw_no rfl (by omega) ?_); refine cw_region ?_; (refine lw_is ?_; refine lw_pure (by exact pur_eql rfl rfl) rfl ?_); (refine lw_is ?_; refine lw_pure (by exact pur_assign rfl) rfl ?_); refine lw_nil ?_; refine qw_then ?_; (refine cw_is ?_; refine cw_yes rfl (by assumption) ?_); refine cw_seq ?_; refine cw_region ?_; (refine lw_is ?_; refine lw_pure (by exact pur_fieldAddr tabOk rfl rfl rfl) rfl ?_); (refine lw_is ?_; refine lw_pure (by exact pur_load tabOk rfl rfl rfl (by exact fun wz hz => by (try subst hz); exact (Blk.cell (by assumption) (by rfl)))) rfl ?_); (refine lw_is ?_; refine lw_pure (by exact pur_neq rfl rfl) rfl ?_); refine lw_nil ?_; refine qw_then ?_; (refine cw_is ?_; refine cw_yes rfl (by assumption) ?_); refine cw_seq ?_; refine cw_region ?_; (refine lw_is ?_; refine lw_pure (by exact pur_assign rfl) rfl ?_); refine lw_nil ?_; refine qw_then ?_; refine cw_ret ?_; refine qw_block_ret ?_; refine qw_block_ret ?_; refine qw_then_ret ?_; refine qw_then_ret ?_; refine qw_block_ret ?_; refine qw_then_ret ?_)
         refine qw_ret1 Tryz.results41 rfl ?_
         exact ⟨ret_bool (HN.out hok).symm, xx3⟩
   · have hk1 : v.kind ≠ 1 := fun e => hk (Or.inl e)
     have hk3 : v.kind ≠ 3 := fun e => hk (Or.inr e)
     by_cases hk2 : v.kind = 2
     · by_cases hlo : v.len < 1
       · have hok : v.ok = false := by simp [VD.ok, hnm, hk2]; omega
         ((refine lw_is ?_; refine lw_pure (by exact pur_not rfl) rfl ?_); refine lw_nil ?_; refine qw_then ?_; (refine cw_is ?_; refine cw_bf rfl (by rfl) ?_); refine cw_skip ?_; refine qw_then ?_; refine cw_seq ?_; refine cw_region ?_; (refine lw_is ?_; refine lw_pure (by exact pur_fieldAddr tabOk rfl rfl rfl) rfl ?_); (refine lw_is ?_; refine lw_pure (by exact pur_load tabOk rfl rfl rfl (by exact fun wz hz => by (try subst hz); exact (Blk.cell (by assumption) (by rfl)))) rfl ?_); refine lw_nil ?_; refine qw_then ?_; refine cw_block ?_; refine cw_seq ?_; refine cw_seq ?_; refine cw_region ?_; (refine lw_is ?_; refine lw_pure (by exact pur_eql rfl rfl) rfl ?_); (refine lw_is ?_; refine lw_pure (by exact pur_assign rfl) rfl ?_); refine lw_nil ?_; refine qw_then ?_; (refine cw_is ?_; refine cw_no rfl (by assumption) ?_); refine cw_region ?_; (refine lw_is ?_; refine lw_pure (by exact pur_eql rfl rfl) rfl ?_); (refine lw_is ?_; refine lw_pure (by exact pur_assign rfl) rfl ?_); refine lw_nil ?_; refine qw_then ?_; (refine cw_is ?_; refine cw_no rfl (by assumption) ?_); refine cw_seq ?_; refine cw_region ?_; (refine lw_is ?_; refine lw_pure (by exact pur_eql rfl rfl) rfl ?_); (refine lw_is ?_; refine lw_pure (by exact pur_assign rfl) rfl ?_); refine lw_nil ?_; refine qw_then ?_; (refine cw_is ?_; refine cw_yes rfl (by assumption) ?_); refine cw_seq ?_; refine cw_region ?_; (refine lw_is ?_; refine lw_pure (by exact pur_fieldAddr tabOk rfl rfl rfl) rfl ?_); (refine lw_is ?_; refine lw_pure (by exact pur_load tabOk rfl rfl rfl (by exact fun wz hz => by (try subst hz); exact (Blk.cell (by assumption) (by rfl)))) rfl ?_); (refine lw_is ?_; refine lw_pure (by exact pur_lss rfl rfl) rfl ?_); (refine lw_is ?_; refine lw_pure (by exact pur_move rfl) rfl ?_); (refine lw_isg ?_; refine lw_off_yes rfl rfl rfl (by assumption) rfl ?_); (refine lw_isg ?_; refine lw_off_yes rfl rfl rfl (by assumption) rfl ?_); (refine lw_isg ?_; refine lw_off_yes rfl rfl rfl (by assumption) rfl ?_); (refine lw_is ?_; refine lw_pure (by exact pur_pick_yes rfl rfl (by assumption)) rfl ?_); refine lw_nil ?_; refine qw_then ?_; (refine cw_is ?_; refine cw_bt rfl (by rfl) ?_); refine cw_seq ?_; refine cw_region ?_; (refine lw_is ?_; refine lw_pure (by exact pur_assign rfl) rfl ?_); refine lw_nil ?_; refine qw_then ?_; refine cw_ret ?_; refine qw_block_ret ?_; refine qw_block_ret ?_; refine qw_then_ret ?_; refine qw_then_ret ?_; refine qw_block_ret ?_; refine qw_then_ret ?_)
         refine qw_ret1 Tryz.results41 rfl ?_
         exact ⟨ret_bool (HN.out hok).symm, xx3⟩
       · by_cases hhi : 16 < v.len
         · have hok : v.ok = false := by simp [VD.ok, hnm, hk2]; omega
           ((refine lw_is ?_; refine lw_pure (by exact pur_not rfl) rfl ?_); refine lw_nil ?_; refine qw_then ?_; (refine cw_is ?_; refine cw_bf rfl (by rfl) ?_); refine cw_skip ?_; refine qw_then ?_; refine cw_seq ?_; refine cw_region ?_; (refine lw_is ?_; refine lw_pure (by exact pur_fieldAddr tabOk rfl rfl rfl) rfl ?_); (refine lw_is ?_; refine lw_pure (by exact pur_load tabOk rfl rfl rfl (by exact fun wz hz => by (try subst hz); exact (Blk.cell (by assumption) (by rfl)))) rfl ?_); refine lw_nil ?_; refine qw_then ?_; refine cw_block ?_; refine cw_seq ?_; refine cw_seq ?_; refine cw_region ?_; (refine lw_is ?_; refine lw_pure (by exact pur_eql rfl rfl) rfl ?_); (refine lw_is ?_; refine lw_pure (by exact pur_assign rfl) rfl ?_); refine lw_nil ?_; refine qw_then ?_; (refine cw_is ?_; refine cw_no rfl (by assumption) ?_); refine cw_region ?_; (refine lw_is ?_; refine lw_pure (by exact pur_eql rfl rfl) rfl ?_); (refine lw_is ?_; refine lw_pure (by exact pur_assign rfl) rfl ?_); refine lw_nil ?_; refine qw_then ?_; (refine cw_is ?_; refine cw_no rfl (by assumption) ?_); refine cw_seq ?_; refine cw_region ?_; (refine lw_is ?_; refine lw_pure (by exact pur_eql rfl rfl) rfl ?_); (refine lw_is ?_; refine lw_pure (by exact pur_assign rfl) rfl ?_); refine lw_nil ?_; refine qw_then ?_; (refine cw_is ?_; refine cw_yes rfl (by assumption) ?_); refine cw_seq ?_; refine cw_region ?_; (refine lw_is ?_; refine lw_pure (by exact pur_fieldAddr tabOk rfl rfl rfl) rfl ?_); (refine lw_is ?_; refine lw_pure (by exact pur_load tabOk rfl rfl rfl (by exact fun wz hz => by (try subst hz); exact (Blk.cell (by assumption) (by rfl)))) rfl ?_); (refine lw_is ?_; refine lw_pure (by exact pur_lss rfl rfl) rfl ?_); (refine lw_is ?_; refine lw_pure (by exact pur_move rfl) rfl ?_); (refine lw_isg ?_; refine lw_on_no rfl rfl rfl (by assumption) ?_); (refine lw_is ?_; refine lw_pure (by exact pur_fieldAddr tabOk rfl rfl rfl) rfl ?_); (refine lw_isg ?_; refine lw_on_no rfl rfl rfl (by assumption) ?_); (refine lw_is ?_; refine lw_pure (by exact pur_load tabOk rfl rfl rfl (by exact fun wz hz => by (try subst hz); exact (Blk.cell (by assumption) (by rfl)))) rfl ?_); (refine lw_isg ?_; refine lw_on_no rfl rfl rfl (by assumption) ?_); (refine lw_is ?_; refine lw_pure (by exact pur_gtr rfl rfl) rfl ?_); (refine lw_is ?_; refine lw_pure (by exact pur_pick_no rfl rfl (by assumption)) rfl ?_); refine lw_nil ?_; refine qw_then ?_; (refine cw_is ?_; refine cw_yes rfl (by assumption) ?_); refine cw_seq ?_; refine cw_region ?_; (refine lw_is ?_; refine lw_pure (by exact pur_assign rfl) rfl ?_); refine lw_nil ?_; refine qw_then ?_; refine cw_ret ?_; refine qw_block_ret ?_; refine qw_block_ret ?_; refine qw_then_ret ?_; refine qw_then_ret ?_; refine qw_block_ret ?_; refine qw_then_ret ?_)
           refine qw_ret1 Tryz.results41 rfl ?_
           exact ⟨ret_bool (HN.out hok).symm, xx3⟩
         · have hok : v.ok = true := by simp [VD.ok, hnm, hk2]; omega
           ((refine lw_is ?_; refine lw_pure (by exact pur_not rfl) rfl ?_); refine lw_nil ?_; refine qw_then ?_; (refine cw_is ?_; refine cw_bf rfl (by rfl) ?_); refine cw_skip ?_; refine qw_then ?_; refine cw_seq ?_; refine cw_region ?_; (refine lw_is ?_; refine lw_pure (by exact pur_fieldAddr tabOk rfl rfl rfl) rfl ?_); (refine lw_is ?_; refine lw_pure (by exact pur_load tabOk rfl rfl rfl (by exact fun wz hz => by (try subst hz); exact (Blk.cell (by assumption) (by rfl)))) rfl ?_); refine lw_nil ?_; refine qw_then ?_; refine cw_block ?_; refine cw_seq ?_; refine cw_seq ?_; refine cw_region ?_; (refine lw_is ?_; refine lw_pure (by exact pur_eql rfl rfl) rfl ?_); (refine lw_is ?_; refine lw_pure (by exact pur_assign rfl) rfl ?_); refine lw_nil ?_; refine qw_then ?_; (refine cw_is ?_; refine cw_no rfl (by assumption) ?_); refine cw_region ?_; (refine lw_is ?_; refine lw_pure (by exact pur_eql rfl rfl) rfl ?_); (refine lw_is ?_; refine lw_pure (by exact pur_assign rfl) rfl ?_); refine lw_nil ?_; refine qw_then ?_; (refine cw_is ?_; refine cw_no rfl (by assumption) ?_); refine cw_seq ?_; refine cw_region ?_; (refine lw_is ?_; refine lw_pure (by exact pur_eql rfl rfl) rfl ?_); (refine lw_is ?_; refine lw_pure (by exact pur_assign rfl) rfl ?_); refine lw_nil ?_; refine qw_then ?_; (refine cw_is ?_; refine cw_yes rfl (by assumption) ?_); refine cw_seq ?_; refine cw_region ?_; (refine lw_is ?_; refine lw_pure (by exact pur_fieldAddr tabOk rfl rfl rfl) rfl ?_); (refine lw_is ?_; refine lw_pure (by exact pur_load tabOk rfl rfl rfl (by exact fun wz hz => by (try subst hz); exact (Blk.cell (by assumption) (by rfl)))) rfl ?_); (refine lw_is ?_; refine lw_pure (by exact pur_lss rfl rfl) rfl ?_); (refine lw_is ?_; refine lw_pure (by exact pur_move rfl) rfl ?_); (refine lw_isg ?_; refine lw_on_no rfl rfl rfl (by assumption) ?_); (refine lw_is ?_; refine lw_pure (by exact pur_fieldAddr tabOk rfl rfl rfl) rfl ?_); (refine lw_isg ?_; refine lw_on_no rfl rfl rfl (by assumption) ?_); (refine lw_is ?_; refine lw_pure (by exact pur_load tabOk rfl rfl rfl (by exact fun wz hz => by (try subst hz); exact (Blk.cell (by assumption) (by rfl)))) rfl ?_); (refine lw_isg ?_; refine lw_on_no rfl rfl rfl (by assumption) ?_); (refine lw_is ?_; refine lw_pure (by exact pur_gtr rfl rfl) rfl ?_); (refine lw_is ?_; refine lw_pure (by exact pur_pick_no rfl rfl (by assumption)) rfl ?_); refine lw_nil ?_; refine qw_then ?_; (refine cw_is ?_; refine cw_no rfl (by assumption) ?_); refine cw_skip ?_; refine qw_block_norm ?_; refine qw_block_norm ?_; refine qw_then ?_; refine cw_region ?_; (refine lw_is ?_; refine lw_pure (by exact pur_add rfl rfl (IntWalk.i64_in _ (by omega))) rfl ?_); (refine lw_is ?_; refine lw_pure (by exact pur_move rfl) rfl ?_); refine lw_nil ?_)
           refine qw_round (j + 1) (by (refine sub_cons rfl ?_; refine sub_cons rfl ?_; refine sub_cons rfl ?_; exact sub_nil)) ⟨xx3, by omega, fun i hi hij => ?_⟩ (by omega)
           by_cases e : i = j
           · subst e; exact HE.out ▸ hok
           · exact HA.out i hi (by omega)
     · have hok : v.ok = false := by simp [VD.ok, hnm, hk1, hk2, hk3]
       ((refine lw_is ?_; refine lw_pure (by exact pur_not rfl) rfl ?_); refine lw_nil ?_; refine qw_then ?_; (refine cw_is ?_; refine cw_bf rfl (by rfl) ?_); refine cw_skip ?_; refine qw_then ?_; refine cw_seq ?_; refine cw_region ?_; (refine lw_is ?_; refine lw_pure (by exact pur_fieldAddr tabOk rfl rfl rfl) rfl ?_); (refine lw_is ?_; refine lw_pure (by exact pur_load tabOk rfl rfl rfl (by exact fun wz hz => by (try subst hz); exact (Blk.cell (by assumption) (by rfl)))) rfl ?_); refine lw_nil ?_; refine qw_then ?_; refine cw_block ?_; refine cw_seq ?_; refine cw_seq ?_; refine cw_region ?_; (refine lw_is ?_; refine lw_pure (by exact pur_eql rfl rfl) rfl ?_); (refine lw_is ?_; refine lw_pure (by exact pur_assign rfl) rfl ?_); refine lw_nil ?_; refine qw_then ?_; (refine cw_is ?_; refine cw_no rfl (by assumption) ?_); refine cw_region ?_; (refine lw_is ?_; refine lw_pure (by exact pur_eql rfl rfl) rfl ?_); (refine lw_is ?_; refine lw_pure (by exact pur_assign rfl) rfl ?_); refine lw_nil ?_; refine qw_then ?_; (refine cw_is ?_; refine cw_no rfl (by assumption) ?_); refine cw_seq ?_; refine cw_region ?_; (refine lw_is ?_; refine lw_pure (by exact pur_eql rfl rfl) rfl ?_); (refine lw_is ?_; refine lw_pure (by exact pur_assign rfl) rfl ?_); refine lw_nil ?_; refine qw_then ?_; (refine cw_is ?_; refine cw_no rfl (by assumption) ?_); refine cw_seq ?_; refine cw_region ?_; (refine lw_is ?_; refine lw_pure (by exact pur_assign rfl) rfl ?_); refine lw_nil ?_; refine qw_then ?_; refine cw_ret ?_; refine qw_block_ret ?_; refine qw_block_ret ?_; refine qw_then_ret ?_; refine qw_then_ret ?_; refine qw_block_ret ?_; refine qw_then_ret ?_)
       refine qw_ret1 Tryz.results41 rfl ?_
       exact ⟨ret_bool (HN.out hok).symm, xx3⟩
 · (refine cw_seq ?_; refine cw_region ?_; (refine lw_is ?_; refine lw_pure (by exact pur_lss rfl rfl) rfl ?_); refine lw_nil ?_; refine qw_then ?_; refine cw_seq ?_; (refine cw_is ?_; refine cw_no rfl (by omega) ?_); refine cw_exit ?_; refine qw_then_exit ?_; refine qw_then_exit ?_; refine qw_block_exit ?_; refine qw_then ?_; refine cw_seq ?_; refine cw_region ?_; (refine lw_is ?_; refine lw_pure (by exact pur_assign rfl) rfl ?_); refine lw_nil ?_; refine qw_then ?_; refine cw_ret ?_)
   refine qw_ret1 Tryz.results41 rfl ?_
   exact ⟨ret_bool (allOk_true (fun i hi => HA.out i hi (by omega))).symm, x1⟩
end Bk
namespace Bk
open Go Go.RowKit Go.Proofs
mutual
theorem lim_le : ∀ (t : Nd) (d m : Int), 0 ≤ m → 0 ≤ (t.lim d m).2 ∧ (t.lim d m).2 ≤ m
 | .mk _ _ s l, d, m, hm => by
  simp only [Nd.lim]
  split
  · exact ⟨hm, Int.le_refl _⟩
  · have := rowLim_le l (d - 1) (m - 1) (by omega)
    omega
theorem rowLim_le : ∀ (l : List Nd) (d m : Int), 0 ≤ m → 0 ≤ (rowLim l d m).2 ∧ (rowLim l d m).2 ≤ m
 | [], d, m, hm => by simp only [rowLim]; omega
 | t :: r, d, m, hm => by
  have h1 := lim_le t d m hm; simp only [rowLim]
  split
  · have := rowLim_le r d (t.lim d m).2 h1.1
    omega
  · omega
end
theorem rowLim_drop (l : List Nd) (j : Nat) (h : j < l.length) (d m : Int) : rowLim (l.drop j) d m = if (l[j].lim d m).1 then rowLim (l.drop (j + 1)) d (l[j].lim d m).2 else (false, (l[j].lim d m).2) := by
 rw [List.drop_eq_getElem_cons h, rowLim]
set_option maxRecDepth 100000 in
set_option maxHeartbeats 1000000 in
theorem limited_c (N : Nat) : ∀ (t : Nd) (S : Nat → Prop) (a : Option Addr) (c : Nat) (d m : Int) (lb : Nat) (w : World), t.size < N → t.wf → 0 ≤ d → d ≤ 1000000 → 0 ≤ m → m ≤ 1000000 → t.sits S w a → ¬ S lb → Blk w lb [.int .i64 m] →
 Calls Tryz.prog 76 #[t.val a c, .int .i64 d, .pointer (some ⟨lb, 0, none⟩)] w fun e w' => e = .returned (.bool (t.lim d m).1) ∧ Blk w' lb [.int .i64 (t.lim d m).2] ∧ Fr (· = lb) w w' := by
 induction N with
 | zero => intro t S a c d m lb w h; omega
 | succ N ih =>
  intro t S a c d m lb w hN hwf hd0 hd1 hm0 hm1 hs hS hb
  have IH := Lib.hid ih; clear ih
  obtain ⟨k, n, s, l⟩ := t; simp only [Nd.wf, Nd.size] at hwf hN; simp only [Nd.val, Nd.kind, Nd.num, Nd.name, Nd.kids, Nd.lim]; simp only [Nd.sits] at hs; obtain ⟨-, -, -, -, -, hll, hrw⟩ := hwf; have hlbw := hb.lt
  by_cases hq : d = 0 ∨ m = 0
  · rw [if_pos hq]
    refine calls_in Tryz.func76 Tryz.ntmps76 rfl rfl ?_; (refine cw_seq ?_; refine cw_region ?_); refine lw_box rfl rfl rfl ?_; intro b1 w1 hn1; have h1 := hn1.blk; have x1 := hn1.ext; have hb1 := hb.ext x1
    by_cases hd : d = 0
    · ((refine lw_is ?_; refine lw_pure (by exact pur_assign rfl) rfl ?_); refine lw_nil ?_; refine qw_then ?_; refine cw_seq ?_; refine cw_seq ?_; refine cw_region ?_; (refine lw_is ?_; refine lw_pure (by exact pur_move rfl) rfl ?_); (refine lw_is ?_; refine lw_pure (by exact pur_eql rfl rfl) rfl ?_); (refine lw_is ?_; refine lw_pure (by exact pur_move rfl) rfl ?_); (refine lw_isg ?_; refine lw_off_yes rfl rfl rfl (by assumption) rfl ?_); (refine lw_isg ?_; refine lw_off_yes rfl rfl rfl (by assumption) rfl ?_); (refine lw_isg ?_; refine lw_off_yes rfl rfl rfl (by assumption) rfl ?_); (refine lw_isg ?_; refine lw_off_yes rfl rfl rfl (by assumption) rfl ?_); (refine lw_is ?_; refine lw_pure (by exact pur_pick_yes rfl rfl (by assumption)) rfl ?_); refine lw_nil ?_; refine qw_then ?_; (refine cw_is ?_; refine cw_bt rfl (by rfl) ?_); refine cw_seq ?_; refine cw_region ?_; (refine lw_is ?_; refine lw_pure (by exact pur_assign rfl) rfl ?_); refine lw_nil ?_; refine qw_then ?_; refine cw_ret ?_; refine qw_then_ret ?_)
      refine qw_ret1 Tryz.results76 rfl ?_
      exact ⟨rfl, hb1, .of_ext x1⟩
    · have hm : m = 0 := by omega
      ((refine lw_is ?_; refine lw_pure (by exact pur_assign rfl) rfl ?_); refine lw_nil ?_; refine qw_then ?_; refine cw_seq ?_; refine cw_seq ?_; refine cw_region ?_; (refine lw_is ?_; refine lw_pure (by exact pur_move rfl) rfl ?_); (refine lw_is ?_; refine lw_pure (by exact pur_eql rfl rfl) rfl ?_); (refine lw_is ?_; refine lw_pure (by exact pur_move rfl) rfl ?_); (refine lw_isg ?_; refine lw_on_no rfl rfl rfl (by assumption) ?_); (refine lw_is ?_; refine lw_pure (by exact pur_move rfl) rfl ?_); (refine lw_isg ?_; refine lw_on_no rfl rfl rfl (by assumption) ?_); (refine lw_is ?_; refine lw_pure (by exact pur_nilCheck rfl) rfl ?_); (refine lw_isg ?_; refine lw_on_no rfl rfl rfl (by assumption) ?_); (refine lw_is ?_; refine lw_pure (by exact pur_load tabOk rfl rfl rfl (by exact fun wz hz => by (try subst hz); exact (Blk.cell (by assumption) (by rfl)))) rfl ?_); (refine lw_isg ?_; refine lw_on_no rfl rfl rfl (by assumption) ?_); (refine lw_is ?_; refine lw_pure (by exact pur_eql rfl rfl) rfl ?_); (refine lw_is ?_; refine lw_pure (by exact pur_pick_no rfl rfl (by assumption)) rfl ?_); refine lw_nil ?_; refine qw_then ?_; (refine cw_is ?_; refine cw_yes rfl (by assumption) ?_); refine cw_seq ?_; refine cw_region ?_; (refine lw_is ?_; refine lw_pure (by exact pur_assign rfl) rfl ?_); refine lw_nil ?_; refine qw_then ?_; refine cw_ret ?_; refine qw_then_ret ?_)
      refine qw_ret1 Tryz.results76 rfl ?_
      exact ⟨rfl, hb1, .of_ext x1⟩
  · rw [if_neg hq]
    have hd : d ≠ 0 := fun e => hq (Or.inl e)
    have hm : m ≠ 0 := fun e => hq (Or.inr e)
    clear hq; refine calls_in Tryz.func76 Tryz.ntmps76 rfl rfl ?_; (refine cw_seq ?_; refine cw_region ?_); refine lw_box rfl rfl rfl ?_; intro b1 w1 hn1; have h1 := hn1.blk; have x1 := hn1.ext; have p1 := hn1.pos; have hb1 := hb.ext x1; have hs1 := hs.ext x1
    ((refine lw_is ?_; refine lw_pure (by exact pur_assign rfl) rfl ?_); refine lw_nil ?_; refine qw_then ?_; refine cw_seq ?_; refine cw_seq ?_; refine cw_region ?_; (refine lw_is ?_; refine lw_pure (by exact pur_move rfl) rfl ?_); (refine lw_is ?_; refine lw_pure (by exact pur_eql rfl rfl) rfl ?_); (refine lw_is ?_; refine lw_pure (by exact pur_move rfl) rfl ?_); (refine lw_isg ?_; refine lw_on_no rfl rfl rfl (by assumption) ?_); (refine lw_is ?_; refine lw_pure (by exact pur_move rfl) rfl ?_); (refine lw_isg ?_; refine lw_on_no rfl rfl rfl (by assumption) ?_); (refine lw_is ?_; refine lw_pure (by exact pur_nilCheck rfl) rfl ?_); (refine lw_isg ?_; refine lw_on_no rfl rfl rfl (by assumption) ?_); (refine lw_is ?_; refine lw_pure (by exact pur_load tabOk rfl rfl rfl (by exact fun wz hz => by (try subst hz); exact (Blk.cell (by assumption) (by rfl)))) rfl ?_); (refine lw_isg ?_; refine lw_on_no rfl rfl rfl (by assumption) ?_); (refine lw_is ?_; refine lw_pure (by exact pur_eql rfl rfl) rfl ?_); (refine lw_is ?_; refine lw_pure (by exact pur_pick_no rfl rfl (by assumption)) rfl ?_); refine lw_nil ?_; refine qw_then ?_; (refine cw_is ?_; refine cw_no rfl (by assumption) ?_); refine cw_skip ?_; refine qw_then ?_; refine cw_seq ?_; refine cw_region ?_; (refine lw_is ?_; refine lw_pure (by exact pur_move rfl) rfl ?_); (refine lw_is ?_; refine lw_pure (by exact pur_nilCheck rfl) rfl ?_); (refine lw_is ?_; refine lw_pure (by exact pur_load tabOk rfl rfl rfl (by exact fun wz hz => by (try subst hz); exact (Blk.cell (by assumption) (by rfl)))) rfl ?_); (refine lw_is ?_; refine lw_pure (by exact pur_sub rfl rfl (IntWalk.i64_in _ (by omega))) rfl ?_); (refine lw_is ?_; refine lw_pure (by exact pur_nilCheck rfl) rfl ?_))
    refine lw_store tabOk rfl rfl rfl rfl rfl rfl (hb1) rfl ?_; intro w2 hp2; have hb2 : Blk w2 lb [.int .i64 (m - 1)] := hp2.blk; have h2 := h1.put hp2 (by omega); have hs2 : rowSits S w2 l a := hs1.fr hp2.fr (fun b hb e => hS (e ▸ hb)); have f2 : Fr (· = lb) w w2 := (Fr.of_ext x1).trans hp2.fr
    have hz2 : w2.heap.size = b1 + 1 := by rw [hp2.size, hn1.size]
    clear hp2 hn1
    have HS2 := Lib.hid hs2; clear hs2
    (refine lw_nil ?_; refine qw_then ?_; refine cw_seq ?_; refine cw_seq ?_; refine cw_region ?_; (refine lw_is ?_; refine lw_pure (by exact pur_fieldAddr tabOk rfl rfl rfl) rfl ?_); (refine lw_is ?_; refine lw_pure (by exact pur_load tabOk rfl rfl rfl (by exact fun wz hz => by (try subst hz); exact (Blk.cell (by assumption) (by rfl)))) rfl ?_); (refine lw_is ?_; refine lw_pure (by exact pur_len_slice tabOk rfl rfl) rfl ?_); (refine lw_is ?_; refine lw_pure (by exact pur_move rfl) rfl ?_); refine lw_nil ?_; refine qw_then ?_; refine cw_block ?_); refine cw_loop (ι := Nat) (fun x => [(25, .int .i64 x), (24, .int .i64 l.length), (23, .slice a l.length c), (2, .pointer (some ⟨lb, 0, none⟩)), (1, .int .i64 d)]) (fun x w' => Fr (· = lb) w2 w' ∧ x ≤ l.length ∧ ∃ mj, Blk w' lb [.int .i64 mj] ∧ 0 ≤ mj ∧ mj ≤ 1000000 ∧ rowLim l (d - 1) (m - 1) = rowLim (l.drop x) (d - 1) mj) (fun x => l.length - x) 0 (by (refine sub_cons rfl ?_; refine sub_cons rfl ?_; refine sub_cons rfl ?_; refine sub_cons rfl ?_; refine sub_cons rfl ?_; exact sub_nil)) ⟨Fr.refl _ _, Nat.zero_le _, m - 1, hb2, by omega, by omega, rfl⟩ ?_; rintro j w3 ⟨f3, hj, mj, hb3, hmj0, hmj1, hrl⟩
    have HR := Lib.hid hrl; clear hrl
    by_cases hlt : j < l.length
    · have hs3 : rowSits S w3 l a := HS2.out.fr f3 (fun b hb e => hS (e ▸ hb))
      obtain ⟨kb, ko, rfl, hkS, hkid⟩ := kidRows hs3 (by intro e; subst e; simp at hlt); obtain ⟨xa, xc, rx, sx⟩ := hkid j l[j] (List.getElem?_eq_getElem hlt); have hxw := rowWf_get hrw l[j] (List.getElem_mem hlt); have hxs := size_mem (List.getElem_mem hlt); have HD := Lib.hid (rowLim_drop l j hlt (d - 1) mj); clear hkid
      generalize l[j] = x at *
      have hml := lim_le x (d - 1) mj hmj0; (refine cw_seq ?_; refine cw_region ?_; (refine lw_is ?_; refine lw_pure (by exact pur_lss rfl rfl) rfl ?_); refine lw_nil ?_; refine qw_then ?_; refine cw_seq ?_; (refine cw_is ?_; refine cw_yes rfl (by omega) ?_); refine cw_skip ?_; refine qw_then ?_; refine cw_seq ?_; refine cw_block ?_; refine cw_seq ?_; refine cw_region ?_; (refine lw_is ?_; refine lw_pure (by exact pur_indexAddr tabOk rfl rfl rfl rfl (by omega) (by omega)) rfl ?_); (refine lw_is ?_; refine lw_pure (by exact pur_loads' tabOk rfl rfl rfl (by exact fun wz hz => by (try subst hz); exact (by assumption)) (by rfl)) rfl ?_)); refine lw_alloc zOk rfl rfl ?_; intro b4 w4 hn4; refine lw_init tabOk rfl rfl rfl rfl rfl rfl (hn4) rfl ?_; clear hn4 w4; intro w4 hn4; have h4 := hn4.blk; have x4 := hn4.ext; have hb4 := hb3.ext x4; (refine lw_nil ?_; refine qw_then ?_; refine cw_seq ?_; refine cw_region ?_; (refine lw_is ?_; refine lw_pure (by exact pur_loads' tabOk rfl rfl rfl (by exact fun wz hz => by (try subst hz); exact (Blk.row (by assumption))) (by rfl)) rfl ?_); (refine lw_is ?_; refine lw_pure (by exact pur_move rfl) rfl ?_); (refine lw_is ?_; refine lw_pure (by exact pur_sub rfl rfl (IntWalk.i64_in _ (by omega))) rfl ?_); (refine lw_is ?_; refine lw_pure (by exact pur_move rfl) rfl ?_)); refine cC (by kernel_rfl) rfl (IH.out x S xa xc (d - 1) mj lb _ (by omega) hxw (by omega) (by omega) hmj0 hmj1 (sx.ext x4) hS hb4) rfl ?_; rintro _ w5 ⟨⟨⟩, hb5, f5⟩; have f35 : Fr (· = lb) w2 w5 := f3.trans ((Fr.of_ext x4).trans f5)
      cases hq : (x.lim (d - 1) mj).1
      · try rw [hq]
        ((refine lw_is ?_; refine lw_pure (by exact pur_not rfl) rfl ?_); refine lw_nil ?_; refine qw_then ?_; (refine cw_is ?_; refine cw_bt rfl (by rfl) ?_); refine cw_seq ?_; refine cw_region ?_; (refine lw_is ?_; refine lw_pure (by exact pur_assign rfl) rfl ?_); refine lw_nil ?_; refine qw_then ?_; refine cw_ret ?_; refine qw_block_ret ?_; refine qw_then_ret ?_; refine qw_then_ret ?_; refine qw_block_ret ?_; refine qw_then_ret ?_)
        refine qw_ret1 Tryz.results76 rfl ?_; rw [HR.out, HD.out, hq]
        exact ⟨rfl, hb5, f2.trans f35⟩
      · try rw [hq]
        ((refine lw_is ?_; refine lw_pure (by exact pur_not rfl) rfl ?_); refine lw_nil ?_; refine qw_then ?_; (refine cw_is ?_; refine cw_bf rfl (by rfl) ?_); refine cw_skip ?_; refine qw_block_norm ?_; refine qw_then ?_; refine cw_region ?_; (refine lw_is ?_; refine lw_pure (by exact pur_add rfl rfl (IntWalk.i64_in _ (by omega))) rfl ?_); (refine lw_is ?_; refine lw_pure (by exact pur_move rfl) rfl ?_); refine lw_nil ?_)
        refine qw_round (j + 1) (by (refine sub_cons rfl ?_; refine sub_cons rfl ?_; refine sub_cons rfl ?_; refine sub_cons rfl ?_; refine sub_cons rfl ?_; exact sub_nil)) ⟨f35, by omega, (x.lim (d - 1) mj).2, hb5, hml.1, by omega, ?_⟩ (by omega)
        rw [HR.out, HD.out, hq]; rfl
    · (refine cw_seq ?_; refine cw_region ?_; (refine lw_is ?_; refine lw_pure (by exact pur_lss rfl rfl) rfl ?_); refine lw_nil ?_; refine qw_then ?_; refine cw_seq ?_; (refine cw_is ?_; refine cw_no rfl (by omega) ?_); refine cw_exit ?_; refine qw_then_exit ?_; refine qw_then_exit ?_; refine qw_block_exit ?_; refine qw_then ?_; refine cw_seq ?_; refine cw_region ?_; (refine lw_is ?_; refine lw_pure (by exact pur_assign rfl) rfl ?_); refine lw_nil ?_; refine qw_then ?_; refine cw_ret ?_)
      refine qw_ret1 Tryz.results76 rfl ?_; have : l.drop j = [] := List.drop_eq_nil_of_le (by omega); rw [HR.out, this]
      exact ⟨rfl, hb3, f2.trans f3⟩
theorem Ext.fr1 {a b c : World} {lb : Nat} (h : Ext a b) (k : Fr (· = lb) b c) (hl : a.heap.size ≤ lb) : Ext a c :=
 ⟨k.os.trans (Below.os h), k.tape.trans (Below.tape h), k.output.trans (Below.output h), Nat.le_trans h.size k.size, fun i hi => (k.block i (Nat.lt_of_lt_of_le hi h.size) (by omega)).trans (h.block hi)⟩
theorem sits_lt' {S : Nat → Prop} {w : World} (t : Nd) (a : Option Addr) (h : t.sits S w a) : t.sits (fun b => S b ∧ b < w.heap.size) w a := by
 have key : ∀ N : Nat, (∀ (l : List Nd) (a : Option Addr), rowSize l < N → rowSits S w l a → rowSits (fun b => S b ∧ b < w.heap.size) w l a) := by
  intro N
  induction N with
  | zero => intro l a h; omega
  | succ N ih =>
   intro l a hN h
   cases l with
   | nil => simp [rowSits]
   | cons x r =>
    simp only [rowSits] at h ⊢; obtain ⟨b, o, a', c, rfl, hS, h0, h1, h2, h3, hs, hr⟩ := h; have hb := cell_lt h0; simp only [rowSize] at hN; have hx := Nd.size_pos x; obtain ⟨k, n, s, l⟩ := x; simp only [Nd.size] at hN; refine ⟨b, o, a', c, rfl, ⟨hS, hb⟩, h0, h1, h2, h3, ?_, ih r _ (by omega) hr⟩; simp only [Nd.sits] at hs ⊢
    exact ih l a' (by omega) hs
 obtain ⟨k, n, s, l⟩ := t; simp only [Nd.sits] at h ⊢
 exact key (rowSize l + 1) l a (by omega) h
set_option maxRecDepth 100000 in
set_option maxHeartbeats 1000000 in
theorem isBody_c (t : Nd) (S : Nat → Prop) (a : Option Addr) (c : Nat) (w : World) (hwf : t.wf) (hs : t.sits S w a) :
 Calls Tryz.prog 43 #[t.val a c] w fun e w' => e = .returned (.bool (bodyOk t)) ∧ Ext w w' := by
 have hsl := sits_lt' t a hs; refine calls_in Tryz.func43 Tryz.ntmps43 rfl rfl ?_; (refine cw_seq ?_; refine cw_region ?_); refine lw_box rfl rfl rfl ?_; intro b1 w1 hn1; have h1 := hn1.blk; have x1 := hn1.ext; have p1 := hn1.pos; have z1 := hn1.size
 ((refine lw_is ?_; refine lw_pure (by exact pur_assign rfl) rfl ?_); refine lw_nil ?_; refine qw_then ?_; refine cw_seq ?_; refine cw_region ?_)
 refine lw_alloc zOk rfl rfl ?_; intro b2 w2 hn2; refine lw_init tabOk rfl rfl rfl rfl rfl rfl (hn2) rfl ?_; clear hn2 w2; intro w2 hn2; have x2 := hn2.ext; have h2 := h1.ext x2; have b2p := hn2.pos; (refine lw_nil ?_; refine qw_then ?_; refine cw_seq ?_; refine cw_region ?_; (refine lw_is ?_; refine lw_pure (by exact pur_loads' tabOk rfl rfl rfl (by exact fun wz hz => by (try subst hz); exact (Blk.row (by assumption))) (by rfl)) rfl ?_)); refine cC (by kernel_rfl) rfl (limited_c (t.size + 1) t _ a c 80 2000 b2 _ (by omega) hwf (by omega) (by omega) (by omega) (by omega) (hsl.ext (by refine Ext.trans ?_ (by assumption); assumption)) (fun h => by omega) hn2.blk) rfl ?_; rintro _ w3 ⟨⟨⟩, -, f3⟩; have x3 : Ext w w3 := Ext.fr1 (b := w2) (by refine Ext.trans ?_ (by assumption); assumption) f3 (by omega); have h3 := h2.fr f3 (by omega)
 cases hq : (t.lim 80 2000).1
 · try rw [hq]
   ((refine lw_is ?_; refine lw_pure (by exact pur_move rfl) rfl ?_); (refine lw_isg ?_; refine lw_off rfl rfl rfl (by rfl) rfl ?_); (refine lw_isg ?_; refine lw_off rfl rfl rfl (by rfl) rfl ?_); (refine lw_is ?_; refine lw_pure (by exact pur_pick_f rfl rfl (by rfl)) rfl ?_); (refine lw_is ?_; refine lw_pure (by exact pur_assign rfl) rfl ?_); refine lw_nil ?_; refine qw_then ?_; refine cw_ret ?_)
   refine qw_ret1 Tryz.results43 rfl ?_
   exact ⟨ret_bool (by simp [bodyOk, hq]), x3⟩
 · try rw [hq]
   ((refine lw_is ?_; refine lw_pure (by exact pur_move rfl) rfl ?_); (refine lw_isg ?_; refine lw_on rfl rfl rfl (by rfl) ?_); (refine lw_is ?_; refine lw_pure (by exact pur_loads' tabOk rfl rfl rfl (by exact fun wz hz => by (try subst hz); exact (Blk.row (by assumption))) (by rfl)) rfl ?_); (refine lw_isg ?_; refine lw_on rfl rfl rfl (by rfl) ?_))
   refine cC (by kernel_rfl) rfl (IsBlock_t S t hwf a c _ (hs.ext x3)) rfl ?_; rintro _ w4 ⟨⟨⟩, x4⟩
   ((refine lw_is ?_; refine lw_pure (by exact pur_pick_t rfl rfl (by rfl)) rfl ?_); (refine lw_is ?_; refine lw_pure (by exact pur_assign rfl) rfl ?_); refine lw_nil ?_; refine qw_then ?_; refine cw_ret ?_)
   refine qw_ret1 Tryz.results43 rfl ?_
   exact ⟨ret_bool (by simp [bodyOk, hq]), x3.trans x4⟩
end Bk
namespace Bk
open Go Go.RowKit Go.Proofs
structure PD.wf (p : PD) : Prop where
 name : p.name.length ≤ 9223372036854775807
 len : p.params.length ≤ 9223372036854775807
 params : ∀ v ∈ p.params, v.wf
 body : p.body.wf
structure PG.wf (g : PG) : Prop where
 nv : g.vars.length ≤ 9223372036854775807
 np : g.procs.length ≤ 9223372036854775807
 vars : ∀ v ∈ g.vars, v.wf
 procs : ∀ p ∈ g.procs, p.wf
 main : g.main.wf
theorem procs_false {l : List PD} {j : Nat} (h : j < l.length) (hk : l[j].ok = false) : l.all PD.ok = false := by
 rw [List.all_eq_false]
 exact ⟨l[j], List.getElem_mem h, by simp [hk]⟩
theorem procs_true {l : List PD} (h : ∀ j (hj : j < l.length), l[j].ok = true) : l.all PD.ok = true := by
 rw [List.all_eq_true]; intro x hx; obtain ⟨i, hi, rfl⟩ := List.mem_iff_getElem.1 hx
 exact h i hi
set_option maxRecDepth 100000 in
set_option maxHeartbeats 1000000 in
theorem Valid_c (g : PG) (S : Nat → Prop) (va : Option Addr) (vc : Nat) (pa : Option Addr) (pc : Nat) (ma : Option Addr) (mc : Nat) (w : World) (hwf : g.wf) (hs : g.sits S w va pa ma) :
 Calls Tryz.prog 18 #[.agg (g.cells va vc pa pc ma mc).toArray] w fun e w' => e = .returned (.bool g.ok) ∧ Ext w w' := by
 have hnv := hwf.nv; have hnp := hwf.np; refine calls_in Tryz.func18 Tryz.ntmps18 rfl rfl ?_; (refine cw_seq ?_; refine cw_region ?_); refine lw_box rfl rfl rfl ?_; intro b1 w1 hn1; have h1 := hn1.blk; have x1 := hn1.ext
 by_cases c1 : 32 < g.vars.length
 · ((refine lw_is ?_; refine lw_pure (by exact pur_assign rfl) rfl ?_); refine lw_nil ?_; refine qw_then ?_; refine cw_seq ?_; refine cw_seq ?_; refine cw_region ?_; (refine lw_is ?_; refine lw_pure (by exact pur_fieldAddr0 tabOk rfl rfl rfl) rfl ?_); (refine lw_is ?_; refine lw_pure (by exact pur_load tabOk rfl rfl rfl (by exact fun wz hz => by (try subst hz); exact (Blk.cell (by assumption) (by rfl)))) rfl ?_); (refine lw_is ?_; refine lw_pure (by exact pur_len_slice tabOk rfl rfl) rfl ?_); (refine lw_is ?_; refine lw_pure (by exact pur_gtr rfl rfl) rfl ?_); (refine lw_is ?_; refine lw_pure (by exact pur_move rfl) rfl ?_); (refine lw_isg ?_; refine lw_off_yes rfl rfl rfl (by omega) rfl ?_); (refine lw_isg ?_; refine lw_off_yes rfl rfl rfl (by omega) rfl ?_); (refine lw_isg ?_; refine lw_off_yes rfl rfl rfl (by omega) rfl ?_); (refine lw_isg ?_; refine lw_off_yes rfl rfl rfl (by omega) rfl ?_); (refine lw_is ?_; refine lw_pure (by exact pur_pick_yes rfl rfl (by omega)) rfl ?_); (refine lw_is ?_; refine lw_pure (by exact pur_move rfl) rfl ?_); (refine lw_isg ?_; refine lw_off rfl rfl rfl (by rfl) rfl ?_); (refine lw_isg ?_; refine lw_off rfl rfl rfl (by rfl) rfl ?_); (refine lw_isg ?_; refine lw_off rfl rfl rfl (by rfl) rfl ?_); (refine lw_isg ?_; refine lw_off rfl rfl rfl (by rfl) rfl ?_); (refine lw_is ?_; refine lw_pure (by exact pur_pick_t rfl rfl (by rfl)) rfl ?_); refine lw_nil ?_; refine qw_then ?_; (refine cw_is ?_; refine cw_bt rfl (by rfl) ?_); refine cw_seq ?_; refine cw_region ?_; (refine lw_is ?_; refine lw_pure (by exact pur_assign rfl) rfl ?_); refine lw_nil ?_; refine qw_then ?_; refine cw_ret ?_; refine qw_then_ret ?_)
   refine qw_ret1 Tryz.results18 rfl ?_
   exact ⟨ret_bool (by simp [PG.ok]; omega), x1⟩
 by_cases c2 : 64 < g.procs.length
 · ((refine lw_is ?_; refine lw_pure (by exact pur_assign rfl) rfl ?_); refine lw_nil ?_; refine qw_then ?_; refine cw_seq ?_; refine cw_seq ?_; refine cw_region ?_; (refine lw_is ?_; refine lw_pure (by exact pur_fieldAddr0 tabOk rfl rfl rfl) rfl ?_); (refine lw_is ?_; refine lw_pure (by exact pur_load tabOk rfl rfl rfl (by exact fun wz hz => by (try subst hz); exact (Blk.cell (by assumption) (by rfl)))) rfl ?_); (refine lw_is ?_; refine lw_pure (by exact pur_len_slice tabOk rfl rfl) rfl ?_); (refine lw_is ?_; refine lw_pure (by exact pur_gtr rfl rfl) rfl ?_); (refine lw_is ?_; refine lw_pure (by exact pur_move rfl) rfl ?_); (refine lw_isg ?_; refine lw_on_no rfl rfl rfl (by omega) ?_); (refine lw_is ?_; refine lw_pure (by exact pur_fieldAddr tabOk rfl rfl rfl) rfl ?_); (refine lw_isg ?_; refine lw_on_no rfl rfl rfl (by omega) ?_); (refine lw_is ?_; refine lw_pure (by exact pur_load tabOk rfl rfl rfl (by exact fun wz hz => by (try subst hz); exact (Blk.cell (by assumption) (by rfl)))) rfl ?_); (refine lw_isg ?_; refine lw_on_no rfl rfl rfl (by omega) ?_); (refine lw_is ?_; refine lw_pure (by exact pur_len_slice tabOk rfl rfl) rfl ?_); (refine lw_isg ?_; refine lw_on_no rfl rfl rfl (by omega) ?_); (refine lw_is ?_; refine lw_pure (by exact pur_gtr rfl rfl) rfl ?_); (refine lw_is ?_; refine lw_pure (by exact pur_pick_no rfl rfl (by omega)) rfl ?_); (refine lw_is ?_; refine lw_pure (by exact pur_move rfl) rfl ?_); (refine lw_isg ?_; refine lw_off_yes rfl rfl rfl (by omega) rfl ?_); (refine lw_isg ?_; refine lw_off_yes rfl rfl rfl (by omega) rfl ?_); (refine lw_isg ?_; refine lw_off_yes rfl rfl rfl (by omega) rfl ?_); (refine lw_isg ?_; refine lw_off_yes rfl rfl rfl (by omega) rfl ?_); (refine lw_is ?_; refine lw_pure (by exact pur_pick_yes rfl rfl (by omega)) rfl ?_); refine lw_nil ?_; refine qw_then ?_; (refine cw_is ?_; refine cw_bt rfl (by rfl) ?_); refine cw_seq ?_; refine cw_region ?_; (refine lw_is ?_; refine lw_pure (by exact pur_assign rfl) rfl ?_); refine lw_nil ?_; refine qw_then ?_; refine cw_ret ?_; refine qw_then_ret ?_)
   refine qw_ret1 Tryz.results18 rfl ?_
   exact ⟨ret_bool (by simp [PG.ok]; omega), x1⟩
 ((refine lw_is ?_; refine lw_pure (by exact pur_assign rfl) rfl ?_); refine lw_nil ?_; refine qw_then ?_; refine cw_seq ?_; refine cw_seq ?_; refine cw_region ?_; (refine lw_is ?_; refine lw_pure (by exact pur_fieldAddr0 tabOk rfl rfl rfl) rfl ?_); (refine lw_is ?_; refine lw_pure (by exact pur_load tabOk rfl rfl rfl (by exact fun wz hz => by (try subst hz); exact (Blk.cell (by assumption) (by rfl)))) rfl ?_); (refine lw_is ?_; refine lw_pure (by exact pur_len_slice tabOk rfl rfl) rfl ?_); (refine lw_is ?_; refine lw_pure (by exact pur_gtr rfl rfl) rfl ?_); (refine lw_is ?_; refine lw_pure (by exact pur_move rfl) rfl ?_); (refine lw_isg ?_; refine lw_on_no rfl rfl rfl (by omega) ?_); (refine lw_is ?_; refine lw_pure (by exact pur_fieldAddr tabOk rfl rfl rfl) rfl ?_); (refine lw_isg ?_; refine lw_on_no rfl rfl rfl (by omega) ?_); (refine lw_is ?_; refine lw_pure (by exact pur_load tabOk rfl rfl rfl (by exact fun wz hz => by (try subst hz); exact (Blk.cell (by assumption) (by rfl)))) rfl ?_); (refine lw_isg ?_; refine lw_on_no rfl rfl rfl (by omega) ?_); (refine lw_is ?_; refine lw_pure (by exact pur_len_slice tabOk rfl rfl) rfl ?_); (refine lw_isg ?_; refine lw_on_no rfl rfl rfl (by omega) ?_); (refine lw_is ?_; refine lw_pure (by exact pur_gtr rfl rfl) rfl ?_); (refine lw_is ?_; refine lw_pure (by exact pur_pick_no rfl rfl (by omega)) rfl ?_); (refine lw_is ?_; refine lw_pure (by exact pur_move rfl) rfl ?_); (refine lw_isg ?_; refine lw_on_no rfl rfl rfl (by omega) ?_); (refine lw_is ?_; refine lw_pure (by exact pur_fieldAddr0 tabOk rfl rfl rfl) rfl ?_); (refine lw_isg ?_; refine lw_on_no rfl rfl rfl (by omega) ?_); (refine lw_is ?_; refine lw_pure (by exact pur_load tabOk rfl rfl rfl (by exact fun wz hz => by (try subst hz); exact (Blk.cell (by assumption) (by rfl)))) rfl ?_); (refine lw_isg ?_; refine lw_on_no rfl rfl rfl (by omega) ?_))
 refine cC (by kernel_rfl) rfl (declared_c g.vars S va vc _ hnv hwf.vars (hs.vars.ext x1)) rfl ?_; rintro _ w2 ⟨⟨⟩, x2⟩
 cases hq : allOk g.vars
 · try rw [hq]
   ((refine lw_isg ?_; refine lw_on_no rfl rfl rfl (by omega) ?_); (refine lw_is ?_; refine lw_pure (by exact pur_not rfl) rfl ?_); (refine lw_is ?_; refine lw_pure (by exact pur_pick_no rfl rfl (by omega)) rfl ?_); refine lw_nil ?_; refine qw_then ?_; (refine cw_is ?_; refine cw_bt rfl (by rfl) ?_); refine cw_seq ?_; refine cw_region ?_; (refine lw_is ?_; refine lw_pure (by exact pur_assign rfl) rfl ?_); refine lw_nil ?_; refine qw_then ?_; refine cw_ret ?_; refine qw_then_ret ?_)
   refine qw_ret1 Tryz.results18 rfl ?_
   exact ⟨ret_bool (by simp [PG.ok, hq]), x1.trans x2⟩
 try rw [hq]
 have h2 := h1.ext x2
 ((refine lw_isg ?_; refine lw_on_no rfl rfl rfl (by omega) ?_); (refine lw_is ?_; refine lw_pure (by exact pur_not rfl) rfl ?_); (refine lw_is ?_; refine lw_pure (by exact pur_pick_no rfl rfl (by omega)) rfl ?_); refine lw_nil ?_; refine qw_then ?_; (refine cw_is ?_; refine cw_bf rfl (by rfl) ?_); refine cw_skip ?_; refine qw_then ?_; refine cw_seq ?_; refine cw_seq ?_; refine cw_region ?_; (refine lw_is ?_; refine lw_pure (by exact pur_fieldAddr tabOk rfl rfl rfl) rfl ?_); (refine lw_is ?_; refine lw_pure (by exact pur_load tabOk rfl rfl rfl (by exact fun wz hz => by (try subst hz); exact (Blk.cell (by assumption) (by rfl)))) rfl ?_); (refine lw_is ?_; refine lw_pure (by exact pur_len_slice tabOk rfl rfl) rfl ?_); (refine lw_is ?_; refine lw_pure (by exact pur_move rfl) rfl ?_); refine lw_nil ?_; refine qw_then ?_; refine cw_block ?_)
 refine cw_loop (ι := Nat) (fun j => [(24, .int .i64 j), (23, .int .i64 g.procs.length), (22, .slice pa g.procs.length pc), (1, .pointer (some ⟨b1, 0, none⟩))]) (fun j w' => Ext w2 w' ∧ j ≤ g.procs.length ∧ ∀ i (hi : i < g.procs.length), i < j → g.procs[i].ok = true) (fun j => g.procs.length - j) 0 (by (refine sub_cons rfl ?_; refine sub_cons rfl ?_; refine sub_cons rfl ?_; refine sub_cons rfl ?_; exact sub_nil)) ⟨Ext.refl _, by omega, by omega⟩ ?_; rintro j w3 ⟨x3, hj, hall⟩
 have HA := Lib.hid hall; clear hall
 have xx3 : Ext w w3 := (by refine Ext.trans ?_ (by assumption); refine Ext.trans ?_ (by assumption); assumption)
 by_cases hlt : j < g.procs.length
 · have hps : PDs S w3 g.procs pa := hs.procs.ext xx3
   obtain ⟨kb, ko, rfl, -, hkid⟩ := hps.get (by omega); obtain ⟨qa, qc, ba, bc, rx, sv, sb⟩ := hkid j g.procs[j] (List.getElem?_eq_getElem hlt); have wf := hwf.procs g.procs[j] (List.getElem_mem hlt); have wf1 := wf.name; have wf2 := wf.len; have HN := Lib.hid (procs_false hlt); clear hkid
   generalize hv : g.procs[j] = p at *
   have HE := Lib.hid hv; clear hv
   (refine cw_seq ?_; refine cw_region ?_; (refine lw_is ?_; refine lw_pure (by exact pur_lss rfl rfl) rfl ?_); refine lw_nil ?_; refine qw_then ?_; refine cw_seq ?_; (refine cw_is ?_; refine cw_yes rfl (by omega) ?_); refine cw_skip ?_; refine qw_then ?_; refine cw_seq ?_; refine cw_block ?_; refine cw_seq ?_; refine cw_region ?_; (refine lw_is ?_; refine lw_pure (by exact pur_indexAddr tabOk rfl rfl rfl rfl (by omega) (by omega)) rfl ?_); (refine lw_is ?_; refine lw_pure (by exact pur_loads' tabOk rfl rfl rfl (by exact fun wz hz => by (try subst hz); exact (by assumption)) (by rfl)) rfl ?_)); refine lw_alloc zOk rfl rfl ?_; intro b4 w4 hn4; refine lw_init tabOk rfl rfl rfl rfl rfl rfl (hn4) rfl ?_; clear hn4 w4; intro w4 hn4; have h4 := hn4.blk; have x4 := hn4.ext; (refine lw_nil ?_; refine qw_then ?_; refine cw_seq ?_; refine cw_region ?_; (refine lw_is ?_; refine lw_pure (by exact pur_fieldAddr0 tabOk rfl rfl rfl) rfl ?_); (refine lw_is ?_; refine lw_pure (by exact pur_load tabOk rfl rfl rfl (by exact fun wz hz => by (try subst hz); exact (Blk.cell (by assumption) (by rfl)))) rfl ?_)); refine cC (by kernel_rfl) rfl (Name_c p.name _ wf1) rfl ?_; rintro _ w5 ⟨⟨⟩, x5⟩; have xx5 : Ext w w5 := xx3.trans (x4.trans x5); have xx35 : Ext w3 w5 := x4.trans x5; have h5 := h4.ext x5
   cases hnm : isName p.name
   · try rw [hnm]
     ((refine lw_is ?_; refine lw_pure (by exact pur_not rfl) rfl ?_); (refine lw_is ?_; refine lw_pure (by exact pur_move rfl) rfl ?_); (refine lw_isg ?_; refine lw_off rfl rfl rfl (by rfl) rfl ?_); (refine lw_isg ?_; refine lw_off rfl rfl rfl (by rfl) rfl ?_); (refine lw_isg ?_; refine lw_off rfl rfl rfl (by rfl) rfl ?_); (refine lw_isg ?_; refine lw_off rfl rfl rfl (by rfl) rfl ?_); (refine lw_is ?_; refine lw_pure (by exact pur_pick_t rfl rfl (by rfl)) rfl ?_); (refine lw_is ?_; refine lw_pure (by exact pur_move rfl) rfl ?_); (refine lw_isg ?_; refine lw_off rfl rfl rfl (by rfl) rfl ?_); (refine lw_isg ?_; refine lw_off rfl rfl rfl (by rfl) rfl ?_); (refine lw_isg ?_; refine lw_off rfl rfl rfl (by rfl) rfl ?_); (refine lw_isg ?_; refine lw_off rfl rfl rfl (by rfl) rfl ?_); (refine lw_is ?_; refine lw_pure (by exact pur_pick_t rfl rfl (by rfl)) rfl ?_); (refine lw_is ?_; refine lw_pure (by exact pur_move rfl) rfl ?_); (refine lw_isg ?_; refine lw_off rfl rfl rfl (by rfl) rfl ?_); (refine lw_isg ?_; refine lw_off rfl rfl rfl (by rfl) rfl ?_); (refine lw_isg ?_; refine lw_off rfl rfl rfl (by rfl) rfl ?_); (refine lw_isg ?_; refine lw_off rfl rfl rfl (by rfl) rfl ?_); (refine lw_is ?_; refine lw_pure (by exact pur_pick_t rfl rfl (by rfl)) rfl ?_); refine lw_nil ?_; refine qw_then ?_; (refine cw_is ?_; refine cw_bt rfl (by rfl) ?_); refine cw_seq ?_; refine cw_region ?_; (refine lw_is ?_; refine lw_pure (by exact pur_assign rfl) rfl ?_); refine lw_nil ?_; refine qw_then ?_; refine cw_ret ?_; refine qw_block_ret ?_; refine qw_then_ret ?_; refine qw_then_ret ?_; refine qw_block_ret ?_; refine qw_then_ret ?_)
     refine qw_ret1 Tryz.results18 rfl ?_
     exact ⟨ret_bool (by simp [PG.ok, HN.out (by simp [PD.ok, hnm])]), xx5⟩
   try rw [hnm]
   by_cases c3 : 8 < p.params.length
   · ((refine lw_is ?_; refine lw_pure (by exact pur_not rfl) rfl ?_); (refine lw_is ?_; refine lw_pure (by exact pur_move rfl) rfl ?_); (refine lw_isg ?_; refine lw_on rfl rfl rfl (by rfl) ?_); (refine lw_is ?_; refine lw_pure (by exact pur_fieldAddr tabOk rfl rfl rfl) rfl ?_); (refine lw_isg ?_; refine lw_on rfl rfl rfl (by rfl) ?_); (refine lw_is ?_; refine lw_pure (by exact pur_load tabOk rfl rfl rfl (by exact fun wz hz => by (try subst hz); exact (Blk.cell (by assumption) (by rfl)))) rfl ?_); (refine lw_isg ?_; refine lw_on rfl rfl rfl (by rfl) ?_); (refine lw_is ?_; refine lw_pure (by exact pur_len_slice tabOk rfl rfl) rfl ?_); (refine lw_isg ?_; refine lw_on rfl rfl rfl (by rfl) ?_); (refine lw_is ?_; refine lw_pure (by exact pur_gtr rfl rfl) rfl ?_); (refine lw_is ?_; refine lw_pure (by exact pur_pick_f rfl rfl (by rfl)) rfl ?_); (refine lw_is ?_; refine lw_pure (by exact pur_move rfl) rfl ?_); (refine lw_isg ?_; refine lw_off_yes rfl rfl rfl (by omega) rfl ?_); (refine lw_isg ?_; refine lw_off_yes rfl rfl rfl (by omega) rfl ?_); (refine lw_isg ?_; refine lw_off_yes rfl rfl rfl (by omega) rfl ?_); (refine lw_isg ?_; refine lw_off_yes rfl rfl rfl (by omega) rfl ?_); (refine lw_is ?_; refine lw_pure (by exact pur_pick_yes rfl rfl (by omega)) rfl ?_); (refine lw_is ?_; refine lw_pure (by exact pur_move rfl) rfl ?_); (refine lw_isg ?_; refine lw_off rfl rfl rfl (by rfl) rfl ?_); (refine lw_isg ?_; refine lw_off rfl rfl rfl (by rfl) rfl ?_); (refine lw_isg ?_; refine lw_off rfl rfl rfl (by rfl) rfl ?_); (refine lw_isg ?_; refine lw_off rfl rfl rfl (by rfl) rfl ?_); (refine lw_is ?_; refine lw_pure (by exact pur_pick_t rfl rfl (by rfl)) rfl ?_); refine lw_nil ?_; refine qw_then ?_; (refine cw_is ?_; refine cw_bt rfl (by rfl) ?_); refine cw_seq ?_; refine cw_region ?_; (refine lw_is ?_; refine lw_pure (by exact pur_assign rfl) rfl ?_); refine lw_nil ?_; refine qw_then ?_; refine cw_ret ?_; refine qw_block_ret ?_; refine qw_then_ret ?_; refine qw_then_ret ?_; refine qw_block_ret ?_; refine qw_then_ret ?_)
     refine qw_ret1 Tryz.results18 rfl ?_
     exact ⟨ret_bool (by simp [PG.ok, HN.out (by simp [PD.ok, hnm]; omega)]), xx5⟩
   ((refine lw_is ?_; refine lw_pure (by exact pur_not rfl) rfl ?_); (refine lw_is ?_; refine lw_pure (by exact pur_move rfl) rfl ?_); (refine lw_isg ?_; refine lw_on rfl rfl rfl (by rfl) ?_); (refine lw_is ?_; refine lw_pure (by exact pur_fieldAddr tabOk rfl rfl rfl) rfl ?_); (refine lw_isg ?_; refine lw_on rfl rfl rfl (by rfl) ?_); (refine lw_is ?_; refine lw_pure (by exact pur_load tabOk rfl rfl rfl (by exact fun wz hz => by (try subst hz); exact (Blk.cell (by assumption) (by rfl)))) rfl ?_); (refine lw_isg ?_; refine lw_on rfl rfl rfl (by rfl) ?_); (refine lw_is ?_; refine lw_pure (by exact pur_len_slice tabOk rfl rfl) rfl ?_); (refine lw_isg ?_; refine lw_on rfl rfl rfl (by rfl) ?_); (refine lw_is ?_; refine lw_pure (by exact pur_gtr rfl rfl) rfl ?_); (refine lw_is ?_; refine lw_pure (by exact pur_pick_f rfl rfl (by rfl)) rfl ?_); (refine lw_is ?_; refine lw_pure (by exact pur_move rfl) rfl ?_); (refine lw_isg ?_; refine lw_on_no rfl rfl rfl (by omega) ?_); (refine lw_is ?_; refine lw_pure (by exact pur_fieldAddr tabOk rfl rfl rfl) rfl ?_); (refine lw_isg ?_; refine lw_on_no rfl rfl rfl (by omega) ?_); (refine lw_is ?_; refine lw_pure (by exact pur_load tabOk rfl rfl rfl (by exact fun wz hz => by (try subst hz); exact (Blk.cell (by assumption) (by rfl)))) rfl ?_); (refine lw_isg ?_; refine lw_on_no rfl rfl rfl (by omega) ?_))
   refine cC (by kernel_rfl) rfl (declared_c p.params S qa qc _ wf2 wf.params (sv.ext xx35)) rfl ?_; rintro _ w6 ⟨⟨⟩, x6⟩; have xx6 : Ext w w6 := xx5.trans x6; have xx36 : Ext w3 w6 := xx35.trans x6; have h6 := h5.ext x6
   cases hq2 : allOk p.params
   · try rw [hq2]
     ((refine lw_isg ?_; refine lw_on_no rfl rfl rfl (by omega) ?_); (refine lw_is ?_; refine lw_pure (by exact pur_not rfl) rfl ?_); (refine lw_is ?_; refine lw_pure (by exact pur_pick_no rfl rfl (by omega)) rfl ?_); (refine lw_is ?_; refine lw_pure (by exact pur_move rfl) rfl ?_); (refine lw_isg ?_; refine lw_off rfl rfl rfl (by rfl) rfl ?_); (refine lw_isg ?_; refine lw_off rfl rfl rfl (by rfl) rfl ?_); (refine lw_isg ?_; refine lw_off rfl rfl rfl (by rfl) rfl ?_); (refine lw_isg ?_; refine lw_off rfl rfl rfl (by rfl) rfl ?_); (refine lw_is ?_; refine lw_pure (by exact pur_pick_t rfl rfl (by rfl)) rfl ?_); refine lw_nil ?_; refine qw_then ?_; (refine cw_is ?_; refine cw_bt rfl (by rfl) ?_); refine cw_seq ?_; refine cw_region ?_; (refine lw_is ?_; refine lw_pure (by exact pur_assign rfl) rfl ?_); refine lw_nil ?_; refine qw_then ?_; refine cw_ret ?_; refine qw_block_ret ?_; refine qw_then_ret ?_; refine qw_then_ret ?_; refine qw_block_ret ?_; refine qw_then_ret ?_)
     refine qw_ret1 Tryz.results18 rfl ?_
     exact ⟨ret_bool (by simp [PG.ok, HN.out (by simp [PD.ok, hq2])]), xx6⟩
   try rw [hq2]
   ((refine lw_isg ?_; refine lw_on_no rfl rfl rfl (by omega) ?_); (refine lw_is ?_; refine lw_pure (by exact pur_not rfl) rfl ?_); (refine lw_is ?_; refine lw_pure (by exact pur_pick_no rfl rfl (by omega)) rfl ?_); (refine lw_is ?_; refine lw_pure (by exact pur_move rfl) rfl ?_); (refine lw_isg ?_; refine lw_on rfl rfl rfl (by rfl) ?_); (refine lw_is ?_; refine lw_pure (by exact pur_fieldAddr tabOk rfl rfl rfl) rfl ?_); (refine lw_isg ?_; refine lw_on rfl rfl rfl (by rfl) ?_); (refine lw_is ?_; refine lw_pure (by exact pur_loads_blk tabOk rfl rfl rfl (by exact fun wz hz => by (try subst hz); exact (by assumption)) (by rfl)) rfl ?_); (refine lw_isg ?_; refine lw_on rfl rfl rfl (by rfl) ?_))
   refine cC (by kernel_rfl) rfl (isBody_c p.body S ba bc _ wf.body (sb.ext xx36)) rfl ?_; rintro _ w7 ⟨⟨⟩, x7⟩; have xx7 : Ext w w7 := xx6.trans x7
   cases hq3 : bodyOk p.body
   · try rw [hq3]
     ((refine lw_isg ?_; refine lw_on rfl rfl rfl (by rfl) ?_); (refine lw_is ?_; refine lw_pure (by exact pur_not rfl) rfl ?_); (refine lw_is ?_; refine lw_pure (by exact pur_pick_f rfl rfl (by rfl)) rfl ?_); refine lw_nil ?_; refine qw_then ?_; (refine cw_is ?_; refine cw_bt rfl (by rfl) ?_); refine cw_seq ?_; refine cw_region ?_; (refine lw_is ?_; refine lw_pure (by exact pur_assign rfl) rfl ?_); refine lw_nil ?_; refine qw_then ?_; refine cw_ret ?_; refine qw_block_ret ?_; refine qw_then_ret ?_; refine qw_then_ret ?_; refine qw_block_ret ?_; refine qw_then_ret ?_)
     refine qw_ret1 Tryz.results18 rfl ?_
     exact ⟨ret_bool (by simp [PG.ok, HN.out (by simp [PD.ok, hq3])]), xx7⟩
   try rw [hq3]
   have hok : p.ok = true := by simp [PD.ok, hnm, hq2, hq3]; omega
   ((refine lw_isg ?_; refine lw_on rfl rfl rfl (by rfl) ?_); (refine lw_is ?_; refine lw_pure (by exact pur_not rfl) rfl ?_); (refine lw_is ?_; refine lw_pure (by exact pur_pick_f rfl rfl (by rfl)) rfl ?_); refine lw_nil ?_; refine qw_then ?_; (refine cw_is ?_; refine cw_bf rfl (by rfl) ?_); refine cw_skip ?_; refine qw_block_norm ?_; refine qw_then ?_; refine cw_region ?_; (refine lw_is ?_; refine lw_pure (by exact pur_add rfl rfl (IntWalk.i64_in _ (by omega))) rfl ?_); (refine lw_is ?_; refine lw_pure (by exact pur_move rfl) rfl ?_); refine lw_nil ?_)
   refine qw_round (j + 1) (by (refine sub_cons rfl ?_; refine sub_cons rfl ?_; refine sub_cons rfl ?_; refine sub_cons rfl ?_; exact sub_nil)) ⟨x3.trans (xx36.trans x7), by omega, fun i hi hij => ?_⟩ (by omega)
   by_cases e : i = j
   · subst e; exact HE.out ▸ hok
   · exact HA.out i hi (by omega)
 · have h3 := h2.ext x3
   (refine cw_seq ?_; refine cw_region ?_; (refine lw_is ?_; refine lw_pure (by exact pur_lss rfl rfl) rfl ?_); refine lw_nil ?_; refine qw_then ?_; refine cw_seq ?_; (refine cw_is ?_; refine cw_no rfl (by omega) ?_); refine cw_exit ?_; refine qw_then_exit ?_; refine qw_then_exit ?_; refine qw_block_exit ?_; refine qw_then ?_; refine cw_seq ?_; refine cw_region ?_; (refine lw_is ?_; refine lw_pure (by exact pur_fieldAddr tabOk rfl rfl rfl) rfl ?_); (refine lw_is ?_; refine lw_pure (by exact pur_loads_blk tabOk rfl rfl rfl (by exact fun wz hz => by (try subst hz); exact (by assumption)) (by rfl)) rfl ?_)); refine cC (by kernel_rfl) rfl (isBody_c g.main S ma mc _ hwf.main (hs.main.ext xx3)) rfl ?_; rintro _ w4 ⟨⟨⟩, x4⟩
   ((refine lw_is ?_; refine lw_pure (by exact pur_assign rfl) rfl ?_); refine lw_nil ?_; refine qw_then ?_; refine cw_ret ?_)
   refine qw_ret1 Tryz.results18 rfl ?_; refine ⟨ret_bool ?_, xx3.trans x4⟩; have := procs_true (fun i hi => HA.out i hi (by omega))
   simp [PG.ok, hq, this]; omega
end Bk
namespace Bk
open Go Go.RowKit Go.Proofs
def cat {α : Type} (f : α → List UInt8) (l : List α) : List UInt8 := (l.map f).flatten
theorem cat_snoc {α : Type} (f : α → List UInt8) (l : List α) (j : Nat) (h : j < l.length) : cat f (l.take (j + 1)) = cat f (l.take j) ++ f l[j] := by
 unfold cat
 rw [List.take_succ_eq_append_getElem h]; simp only [List.map_append, List.flatten_append, List.map_cons, List.map_nil, List.flatten_cons, List.flatten_nil, List.append_nil]
theorem cat_le {α : Type} (f : α → List UInt8) (l : List α) (j : Nat) : (cat f (l.take j)).length ≤ (cat f l).length := by
 have e : cat f l = cat f (l.take j) ++ cat f (l.drop j) := by unfold cat; rw [← List.flatten_append, ← List.map_append, List.take_append_drop]
 rw [e, List.length_append]; omega
def commas {α : Type} (f : α → List UInt8) : Bool → List α → List UInt8
 | _, [] => []
 | q, x :: r => (if q then [] else [44, 32]) ++ f x ++ commas f false r
theorem commas_app {α : Type} (f : α → List UInt8) : ∀ (l m : List α) (q : Bool), commas f q (l ++ m) = commas f q l ++ commas f (q && l.isEmpty) m
 | [], m, q => by simp [commas]
 | x :: r, m, q => by simp [commas, commas_app f r m false]
theorem commas_snoc {α : Type} (f : α → List UInt8) (l : List α) (j : Nat) (h : j < l.length) : commas f true (l.take (j + 1)) = commas f true (l.take j) ++ ((if j = 0 then [] else [44, 32]) ++ f l[j]) := by
 rw [List.take_succ_eq_append_getElem h, commas_app]
 congr 1
 cases j with
 | zero => simp [commas]
 | succ j => cases l with
  | nil => simp at h
  | cons x r => simp [commas]
theorem commas_le {α : Type} (f : α → List UInt8) (l : List α) (j : Nat) : (commas f true (l.take j)).length ≤ (commas f true l).length := by
 have e : commas f true l = commas f true (l.take j) ++ commas f (true && (l.take j).isEmpty) (l.drop j) := by rw [← commas_app, List.take_append_drop]
 rw [e, List.length_append]; omega
def VD.text (v : VD) : List UInt8 := if v.kind = 1 then [105, 110, 116, 32] ++ v.name else if v.kind = 2 then [97, 114, 114, 97, 121, 32] ++ v.name ++ [91] ++ Lib.itoa v.len ++ [93] else [115, 116, 97, 99, 107, 32] ++ v.name
def VD.line (v : VD) : List UInt8 := v.text ++ [10]
def PD.text (p : PD) : List UInt8 := [112, 114, 111, 99, 32] ++ p.name ++ [40] ++ commas VD.text true p.params ++ [41, 32, 123, 10] ++ p.body.linesT 1 ++ [125, 10]
def PG.text (g : PG) : List UInt8 := cat VD.line g.vars ++ cat PD.text g.procs ++ [109, 97, 105, 110, 32, 123, 10] ++ g.main.linesT 1 ++ [125, 10]
theorem itoa_len16 (n : Int) (h0 : 1 ≤ n) (h1 : n ≤ 16) : (Lib.itoa n).length ≤ 21 := Lib.itoa_length_le n (by omega) (by omega)
theorem VD.text_len (v : VD) (h : v.ok = true) : v.text.length ≤ 60 := by
 simp only [VD.ok, Bool.and_eq_true] at h; have h1 := isName_len h.1; have h2 := h.2
 unfold VD.text
 split
 · simp only [List.length_append, List.length_cons, List.length_nil]; omega
 · split
   · rename_i c1 c2
     rw [if_neg (by omega), if_pos c2] at h2; simp only [Bool.and_eq_true, decide_eq_true_eq] at h2; have := itoa_len16 v.len h2.1 h2.2
     simp only [List.length_append, List.length_cons, List.length_nil]; omega
   · simp only [List.length_append, List.length_cons, List.length_nil]; omega
theorem cat_len {α : Type} (f : α → List UInt8) (B : Nat) : ∀ (l : List α), (∀ x ∈ l, (f x).length ≤ B) → (cat f l).length ≤ l.length * B
 | [], _ => by simp [cat]
 | x :: r, h => by
  have h1 := h x List.mem_cons_self; have h2 := cat_len f B r (fun y hy => h y (List.mem_cons_of_mem _ hy))
  have e : cat f (x :: r) = f x ++ cat f r := by simp [cat]
  rw [e, List.length_append, List.length_cons, Nat.add_mul, Nat.one_mul]; omega
theorem commas_len {α : Type} (f : α → List UInt8) (B : Nat) : ∀ (l : List α) (q : Bool), (∀ x ∈ l, (f x).length ≤ B) → (commas f q l).length ≤ l.length * (B + 2)
 | [], q, _ => by simp [commas]
 | x :: r, q, h => by
  have h1 := h x List.mem_cons_self; have h2 := commas_len f B r false (fun y hy => h y (List.mem_cons_of_mem _ hy)); simp only [commas, List.length_append, List.length_cons, Nat.add_mul, Nat.one_mul]
  split <;> simp <;> omega
mutual
theorem lim_size : ∀ (t : Nd) (d m : Int), 0 ≤ m → (t.lim d m).1 = true → (t.size : Int) + (t.lim d m).2 ≤ m
 | .mk _ _ s l, d, m, hm, h => by
  simp only [Nd.lim] at h ⊢
  split at h
  · simp at h
  · rename_i hn
    rw [if_neg hn]; have := rowLim_size l (d - 1) (m - 1) (by omega) h
    simp only [Nd.size]; omega
theorem rowLim_size : ∀ (l : List Nd) (d m : Int), 0 ≤ m → (rowLim l d m).1 = true → (rowSize l : Int) + (rowLim l d m).2 ≤ m
 | [], d, m, hm, _ => by simp only [rowLim, rowSize]; omega
 | t :: r, d, m, hm, h => by
  simp only [rowLim] at h ⊢
  split at h
  · rename_i ht
    rw [if_pos ht]; have h1 := lim_size t d m hm ht; have h0 := lim_le t d m hm; have h2 := rowLim_size r d (t.lim d m).2 h0.1 h
    simp only [rowSize]; omega
  · simp at h
end
theorem body_len (t : Nd) (hwf : t.wf) (h : bodyOk t = true) : t.size ≤ 2000 ∧ t.isBlock = true ∧ (t.linesT 1).length ≤ 8001000000 := by
 simp only [bodyOk, Bool.and_eq_true] at h; have h1 := lim_size t 80 2000 (by omega) h.1; have h2 := lim_le t 80 2000 (by omega)
 have hsz : t.size ≤ 2000 := by omega
 have := linesLen t 1 hwf h.2 (by omega)
 exact ⟨hsz, h.2, by omega⟩
theorem PD.text_len (p : PD) (hwf : p.wf) (h : p.ok = true) : p.text.length ≤ 8002000000 := by
 simp only [PD.ok, Bool.and_eq_true, decide_eq_true_eq] at h; have h1 := isName_len h.1.1.1; have h2 := body_len p.body hwf.body h.2; have h3 := commas_len VD.text 60 p.params true (fun v hv => VD.text_len v (by have := h.1.2; unfold allOk at this; exact List.all_eq_true.1 this v hv)); have h4 := h.1.1.2
 unfold PD.text
 simp only [List.length_append, List.length_cons, List.length_nil]; have : p.params.length * 62 ≤ 8 * 62 := Nat.mul_le_mul_right _ h4
 omega
theorem PG.text_len (g : PG) (hwf : g.wf) (h : g.ok = true) : g.text.length ≤ 1000000000000 := by
 simp only [PG.ok, Bool.and_eq_true, decide_eq_true_eq] at h; obtain ⟨⟨⟨⟨h1, h2⟩, h3⟩, h4⟩, h5⟩ := h
 have a1 := cat_len VD.line 61 g.vars (fun v hv => by
  have := VD.text_len v (by unfold allOk at h3; exact List.all_eq_true.1 h3 v hv)
  simp only [VD.line, List.length_append, List.length_cons, List.length_nil]; omega)
 have a2 := cat_len PD.text 8002000000 g.procs (fun p hp => PD.text_len p (hwf.procs p hp) (List.all_eq_true.1 h4 p hp)); have a3 := body_len g.main hwf.main h5; have b1 : g.vars.length * 61 ≤ 32 * 61 := Nat.mul_le_mul_right _ h1; have b2 : g.procs.length * 8002000000 ≤ 64 * 8002000000 := Nat.mul_le_mul_right _ h2
 unfold PG.text
 simp only [List.length_append, List.length_cons, List.length_nil]
 omega
end Bk
namespace Bk
open Go
inductive GV : Txt → VD → Prop where
 | int {m : List UInt8} : isName m = true → GV [[105, 110, 116], m] ⟨m, 1, 0⟩
 | stack {m : List UInt8} : isName m = true → GV [[115, 116, 97, 99, 107], m] ⟨m, 3, 0⟩
 | array {m t : List UInt8} : isName m = true → startsDigit t = true → 1 ≤ digitsVal t → digitsVal t ≤ 16 → GV [[97, 114, 114, 97, 121], m, [91], t, [93]] ⟨m, 2, (digitsVal t : Int)⟩
inductive GVs : Txt → List VD → Prop where
 | nil : GVs [] []
 | cons {a b : Txt} {v : VD} {l : List VD} : GV a v → GVs b l → GVs (a ++ b) (v :: l)
inductive GC : Txt → List VD → Prop where
 | nil : GC [] []
 | cons {a b : Txt} {v : VD} {l : List VD} : GV a v → GC b l → GC ([44] :: (a ++ b)) (v :: l)
inductive GPr : Txt → PD → Prop where
 | p0 {m : List UInt8} {b : Txt} {x : Nd} : isName m = true → GS .bl b [x] → GPr ([112, 114, 111, 99] :: m :: [40] :: [41] :: b) ⟨m, [], x⟩
 | p1 {m : List UInt8} {a c b : Txt} {v : VD} {l : List VD} {x : Nd} : isName m = true → GV a v → GC c l → GS .bl b [x] → GPr ([112, 114, 111, 99] :: m :: [40] :: (a ++ (c ++ ([41] :: b)))) ⟨m, v :: l, x⟩
inductive GPs : Txt → List PD → Prop where
 | nil : GPs [] []
 | cons {a b : Txt} {p : PD} {l : List PD} : GPr a p → GPs b l → GPs (a ++ b) (p :: l)
inductive GPG : Txt → PG → Prop where
 | mk {a b c : Txt} {vs : List VD} {ps : List PD} {x : Nd} : GVs a vs → GPs b ps → GS .bl c [x] → GPG (a ++ (b ++ ([109, 97, 105, 110] :: c))) ⟨vs, ps, x⟩
section
variable {ts : List Tok} {n : Int}
theorem GV.reads (hd : DigitKinds ts) {a : Txt} {v : VD} (h : GV a v) {σ : PS} {rest : Txt} (hr : rem ts σ = a ++ rest) (he : σ.err = 0) : declP ts n σ = (v, adv σ a.length) := by
 cases h with
 | @int m hm =>
  have hr1 : rem ts σ = [105, 110, 116] :: (m :: rest) := hr
  unfold declP
  rw [if_pos (by rw [has_cons hr1 he]; decide), next_adv, name_cons (rem_cons hr1) he hm, adv_adv]
  rfl
 | @stack m hm =>
  have hr1 : rem ts σ = [115, 116, 97, 99, 107] :: (m :: rest) := hr
  unfold declP
  rw [if_neg (by rw [has_cons hr1 he]; decide), if_pos (by rw [has_cons hr1 he]; decide), next_adv, name_cons (rem_cons hr1) he hm, adv_adv]
  rfl
 | @array m t hm ht h1 h2 =>
  have hr1 : rem ts σ = [97, 114, 114, 97, 121] :: (m :: [91] :: t :: [93] :: rest) := hr; have hr2 := rem_cons hr1; have hr3 := rem_cons hr2; have hr4 := rem_cons hr3; have hr5 := rem_cons hr4
  unfold declP
  rw [if_neg (by rw [has_cons hr1 he]; decide), if_neg (by rw [has_cons hr1 he]; decide), if_pos (by rw [has_cons hr1 he]; decide), next_adv, name_cons hr2 he hm]; simp only; rw [expect_cons hr3 he]
  have hn : numberP ts n 1 16 (adv (adv (adv σ 1) 1) 1) = ((digitsVal t : Int), adv (adv (adv (adv σ 1) 1) 1) 1) := by
   unfold numberP
   rw [if_pos ((kind_dig hd hr4 he).2 ht), peek_cons hr4 he, if_pos ⟨by omega, by omega, by omega⟩]
   rfl
  rw [hn]; simp only; rw [expect_cons hr5 he, adv_adv, adv_adv, adv_adv, adv_adv]
  rfl
theorem GV.head {a : Txt} {v : VD} (h : GV a v) : ∃ t r, a = t :: r ∧ (t = [105, 110, 116] ∨ t = [97, 114, 114, 97, 121] ∨ t = [115, 116, 97, 99, 107]) ∧ r ≠ [] := by
 cases h <;> exact ⟨_, _, rfl, by simp, by simp⟩
theorem atDecl_rem {σ : PS} (hw : σ.at_ ≤ ts.length) (he : σ.err = 0) : atDeclP ts σ = (decide (((rem ts σ).head?).getD [] = [105, 110, 116]) || decide (((rem ts σ).head?).getD [] = [97, 114, 114, 97, 121]) || decide (((rem ts σ).head?).getD [] = [115, 116, 97, 99, 107])) := by
 unfold atDeclP
 rw [has_rem hw he, has_rem hw he, has_rem hw he]
theorem vars_read (hd : DigitKinds ts) {a : Txt} {l : List VD} (h : GVs a l) : ∀ (k : Nat) (acc : List VD) (σ : PS) (rest : Txt), σ.at_ ≤ ts.length → σ.err = 0 → rem ts σ = a ++ rest → (∀ t ∈ rest.head?, t ≠ [105, 110, 116] ∧ t ≠ [97, 114, 114, 97, 121] ∧ t ≠ [115, 116, 97, 99, 107]) → acc.length + l.length ≤ 32 → a.length + 1 ≤ k → varsP ts n k acc σ = (acc ++ l, adv σ a.length) := by
 induction h with
 | nil =>
  intro k acc σ rest hw he hr hh _ hk; obtain ⟨k, rfl⟩ : ∃ j, k = j + 1 := ⟨k - 1, by omega⟩; rw [varsP, if_neg]
  · simp [adv]
  · rw [atDecl_rem hw he, hr, List.nil_append]
    cases rest with
    | nil => decide
    | cons t r =>
     obtain ⟨h1, h2, h3⟩ := hh t rfl
     simp [h1, h2, h3]
 | @cons a b v l hv hl ih =>
  intro k acc σ rest hw he hr hh h32 hk; obtain ⟨k, rfl⟩ : ∃ j, k = j + 1 := ⟨k - 1, by omega⟩; rw [List.append_assoc] at hr; obtain ⟨t, r, ea, ht, -⟩ := hv.head; simp only [List.length_cons, List.length_append] at h32 hk ⊢; rw [varsP, if_pos]
  · simp only
    rw [if_neg (by omega), hv.reads hd hr he]
    have hla : 1 ≤ a.length := by rw [ea]; simp
    simp only; rw [ih k (acc ++ [v]) (adv σ a.length) rest (rem_wf hw hr) he (rem_adv hr) hh (by simp only [List.length_append, List.length_cons, List.length_nil]; omega) (by omega), adv_adv]
    simp
  · rw [atDecl_rem hw he, hr, ea]
    rcases ht with rfl | rfl | rfl <;> simp
theorem params_read (hd : DigitKinds ts) {a : Txt} {l : List VD} (h : GC a l) : ∀ (k : Nat) (acc : List VD) (σ : PS) (rest : Txt), σ.at_ ≤ ts.length → σ.err = 0 → rem ts σ = a ++ rest → (∀ t ∈ rest.head?, t ≠ [44]) → acc.length + l.length ≤ 8 → a.length + 1 ≤ k → paramsP ts n k acc σ = (acc ++ l, adv σ a.length) := by
 induction h with
 | nil =>
  intro k acc σ rest hw he hr hh _ hk; obtain ⟨k, rfl⟩ : ∃ j, k = j + 1 := ⟨k - 1, by omega⟩; rw [paramsP, if_neg]
  · simp [adv]
  · rw [has_rem hw he, hr, List.nil_append]
    cases rest with
    | nil => decide
    | cons t r => have := hh t rfl; simp [this]
 | @cons a b v l hv hl ih =>
  intro k acc σ rest hw he hr hh h8 hk; obtain ⟨k, rfl⟩ : ∃ j, k = j + 1 := ⟨k - 1, by omega⟩
  have hr1 : rem ts σ = [44] :: (a ++ (b ++ rest)) := by rw [hr]; simp
  have hr2 := rem_cons hr1; simp only [List.length_cons, List.length_append] at h8 hk ⊢; rw [paramsP, if_pos (by rw [has_cons hr1 he]; decide)]; simp only; rw [if_neg (by omega), next_adv, hv.reads hd hr2 he]; simp only; rw [ih k (acc ++ [v]) (adv (adv σ 1) a.length) rest (rem_wf (rem_lt1 hr1) hr2) he (rem_adv hr2) hh (by simp only [List.length_append, List.length_cons, List.length_nil]; omega) (by omega), adv_adv, adv_adv]; refine Prod.ext (by simp) ?_
  show adv σ _ = adv σ _
  congr 1; omega
theorem head_ne {t u : List UInt8} {r : Txt} (h : u ≠ t) : ∀ x ∈ (u :: r).head?, x ≠ t := fun x hx => by
 have : u = x := by simpa using hx
 rw [← this]; exact h
theorem body_read (hd : DigitKinds ts) {b : Txt} {x : Nd} (h : GS .bl b [x]) {σ : PS} {k : Nat} {rest : Txt} (hw : σ.at_ ≤ ts.length) (he : σ.err = 0) (hr : rem ts σ = b ++ rest) (h1 : x.depth ≤ 80) (h2 : x.size ≤ 2000) (hk : 4 * b.length + 4 ≤ k) : bodyP ts n k σ = (x, adv σ b.length) := by
 have := one_pair (h.reads (n := n) hd σ k rest hw he hr hk)
 unfold bodyP
 rw [this]; refine Prod.ext rfl ?_
 show limitP x _ (adv σ b.length) = _
 unfold limitP
 rw [if_neg (by rw [adv_err, he]; simp), if_neg (by omega), if_neg (by omega)]
theorem GPr.head {a : Txt} {p : PD} (h : GPr a p) : ∃ r, a = [112, 114, 111, 99] :: r := by
 cases h <;> exact ⟨_, rfl⟩
theorem proc_read (hd : DigitKinds ts) {a : Txt} {p : PD} (h : GPr a p) {σ : PS} {k : Nat} {rest : Txt} (hw : σ.at_ ≤ ts.length) (he : σ.err = 0) (hr : rem ts σ = a ++ rest) (h1 : p.body.depth ≤ 80) (h2 : p.body.size ≤ 2000) (h3 : p.params.length ≤ 8) (hk : 4 * a.length ≤ k) : procP ts n k σ = (p, adv σ a.length) := by
 cases h with
 | @p0 m b x hm hb =>
  have hr1 : rem ts σ = [112, 114, 111, 99] :: (m :: [40] :: [41] :: (b ++ rest)) := hr; have hr2 := rem_cons hr1; have hr3 := rem_cons hr2; have hr4 := rem_cons hr3; have hr5 := rem_cons hr4; simp only [List.length_cons] at hk ⊢
  unfold procP
  rw [expect_cons hr1 he, name_cons hr2 he hm]; simp only; rw [expect_cons hr3 he, if_pos (by rw [has_cons hr4 he]; decide)]; simp only; rw [next_adv, body_read hd hb (rem_lt1 hr4) he hr5 h1 h2 (by omega), adv_adv, adv_adv, adv_adv, adv_adv]; refine Prod.ext rfl ?_
  show adv σ _ = adv σ _
  congr 1; omega
 | @p1 m a c b v l x hm hv hc hb =>
  have hr1 : rem ts σ = [112, 114, 111, 99] :: (m :: [40] :: (a ++ (c ++ ([41] :: (b ++ rest))))) := by rw [hr]; simp
  have hr2 := rem_cons hr1; have hr3 := rem_cons hr2; have hr4 := rem_cons hr3; have hr5 := rem_adv hr4; have hr6 := rem_adv hr5; have hr7 := rem_cons hr6; obtain ⟨t, r, ea, ht, -⟩ := hv.head; simp only [List.length_cons, List.length_append] at hk h3 ⊢
  unfold procP
  rw [expect_cons hr1 he, name_cons hr2 he hm]; simp only; have w3 := rem_lt1 hr3; have w4 := rem_wf w3 hr4; have w5 := rem_wf w4 hr5; rw [expect_cons hr3 he, if_neg (by rw [has_rem w3 he, hr4, ea]; rcases ht with rfl | rfl | rfl <;> simp), hv.reads hd hr4 he]; simp only; rw [params_read hd hc k [v] _ _ w4 he hr5 (head_ne (by decide)) (by simp only [List.length_cons, List.length_nil]; omega) (by omega)]; simp only; rw [expect_cons hr6 he, body_read hd hb (rem_lt1 hr6) he hr7 h1 h2 (by omega)]; simp only [adv_adv]; refine Prod.ext rfl ?_
  show adv σ _ = adv σ _
  congr 1; omega
theorem procs_read (hd : DigitKinds ts) {a : Txt} {l : List PD} (h : GPs a l) : ∀ (k : Nat) (acc : List PD) (σ : PS) (rest : Txt), σ.at_ ≤ ts.length → σ.err = 0 → rem ts σ = a ++ rest → (∀ t ∈ rest.head?, t ≠ [112, 114, 111, 99]) → acc.length + l.length ≤ 64 → (∀ p ∈ l, p.body.depth ≤ 80 ∧ p.body.size ≤ 2000 ∧ p.params.length ≤ 8) → 4 * a.length + 1 ≤ k → procsP ts n k acc σ = (acc ++ l, adv σ a.length) := by
 induction h with
 | nil =>
  intro k acc σ rest hw he hr hh _ _ hk; obtain ⟨k, rfl⟩ : ∃ j, k = j + 1 := ⟨k - 1, by omega⟩; rw [procsP, if_neg]
  · simp [adv]
  · rw [has_rem hw he, hr, List.nil_append]
    cases rest with
    | nil => decide
    | cons t r => have := hh t rfl; simp [this]
 | @cons a b p l hp hl ih =>
  intro k acc σ rest hw he hr hh h64 hall hk; obtain ⟨k, rfl⟩ : ∃ j, k = j + 1 := ⟨k - 1, by omega⟩; rw [List.append_assoc] at hr; obtain ⟨r, ea⟩ := hp.head; obtain ⟨q1, q2, q3⟩ := hall p (by simp)
  have hla : 1 ≤ a.length := by rw [ea]; simp
  simp only [List.length_cons, List.length_append] at h64 hk ⊢; rw [procsP, if_pos (by rw [has_rem hw he, hr, ea]; simp)]; simp only; rw [if_neg (by omega), proc_read hd hp hw he hr q1 q2 q3 (by omega)]; simp only; rw [ih k (acc ++ [p]) (adv σ a.length) rest (rem_wf hw hr) he (rem_adv hr) hh (by simp only [List.length_append, List.length_cons, List.length_nil]; omega) (fun q hq => hall q (by simp [hq])) (by omega), adv_adv]
  simp
theorem program_read (hd : DigitKinds ts) {a : Txt} {g : PG} (h : GPG a g) (hok : g.vars.length ≤ 32 ∧ g.procs.length ≤ 64) (hp : ∀ p ∈ g.procs, p.body.depth ≤ 80 ∧ p.body.size ≤ 2000 ∧ p.params.length ≤ 8) (h1 : g.main.depth ≤ 80) (h2 : g.main.size ≤ 2000) {σ : PS} {k : Nat} (hw : σ.at_ ≤ ts.length) (he : σ.err = 0) (hr : rem ts σ = a) (hk : 4 * a.length + 1 ≤ k) : programP ts n k σ = (g, adv σ a.length) := by
 cases h with
 | @mk a b c vs ps x hv hps hx =>
  simp only at hok hp h1 h2; simp only [List.length_append, List.length_cons] at hk ⊢; have hr2 := rem_adv hr; have hr3 := rem_adv hr2; have hr4 := rem_cons hr3; have w2 := rem_wf hw hr; have w3 := rem_wf w2 hr2
  unfold programP
  rw [vars_read hd hv k [] σ _ hw he hr (fun t ht => by
   cases hps with
   | nil =>
    have : [109, 97, 105, 110] = t := by simpa using ht
    subst this; decide
   | cons hp' _ =>
    obtain ⟨r, e⟩ := hp'.head; rw [e] at ht
    have : [112, 114, 111, 99] = t := by simpa using ht
    subst this; decide) (by simp only [List.length_nil]; omega) (by omega)]
  simp only [List.nil_append]; rw [procs_read hd hps k [] _ _ w2 he hr2 (head_ne (by decide)) (by simp only [List.length_nil]; omega) hp (by omega)]; simp only [List.nil_append]; rw [expect_cons hr3 he, body_read hd hx (rem_lt1 hr3) he (by rw [hr4, List.append_nil]) h1 h2 (by omega)]; simp only [adv_adv]; refine Prod.ext rfl ?_
  show adv σ _ = adv σ _
  congr 1; omega
end
theorem parseP_of {s : List UInt8} {ts : List Tok} {g : PG} (hs : ¬ 65536 < s.length) (h : solidFrom s 0 = (ts, none)) (hg : GPG (txt ts) g) (hok : g.vars.length ≤ 32 ∧ g.procs.length ≤ 64) (hp : ∀ p ∈ g.procs, p.body.depth ≤ 80 ∧ p.body.size ≤ 2000 ∧ p.params.length ≤ 8) (h1 : g.main.depth ≤ 80) (h2 : g.main.size ≤ 2000) : parseProgram s = (g, 0, 0) := by
 have hst := startOk hs (by rw [h]); rw [h] at hst; simp only at hst; have hd := digitKinds_start s; have hl := start_len s; rw [hst] at hd hl; simp only at hd hl; have hr := program_read (n := s.length) hd hg hok hp h1 h2 (σ := ⟨0, 0, 0⟩) (k := fuelP s) (Nat.zero_le _) rfl rem_st (by rw [txt_len]; unfold fuelP; omega)
 unfold parseProgram
 rw [hst]; simp only; rw [hr]
 have hf : finishP ts s.length (adv ⟨0, 0, 0⟩ (txt ts).length) = adv ⟨0, 0, 0⟩ (txt ts).length := by unfold finishP; rw [if_neg (by simp [adv, txt_len])]
 simp only [hf]; rw [if_neg (by simp [adv])]
def VD.pcs (v : VD) : List Pc := if v.kind = 1 then [.tk [105, 110, 116], .sp [32], .tk v.name] else if v.kind = 2 then [.tk [97, 114, 114, 97, 121], .sp [32], .tk v.name, .tk [91], .tk (Lib.itoa v.len), .tk [93]] else [.tk [115, 116, 97, 99, 107], .sp [32], .tk v.name]
theorem VD.shape {v : VD} (h : v.ok = true) : isName v.name = true ∧ ((v.kind = 1 ∧ v.len = 0) ∨ (v.kind = 3 ∧ v.len = 0) ∨ (v.kind = 2 ∧ 1 ≤ v.len ∧ v.len ≤ 16)) := by
 simp only [VD.ok, Bool.and_eq_true] at h; refine ⟨h.1, ?_⟩; have h2 := h.2
 split at h2
 · rename_i c
   have : v.len = 0 := by simpa using h2
   rcases c with c | c
   · exact Or.inl ⟨c, this⟩
   · exact Or.inr (Or.inl ⟨c, this⟩)
 · split at h2
   · rename_i c
     simp only [Bool.and_eq_true, decide_eq_true_eq] at h2
     exact Or.inr (Or.inr ⟨c, h2⟩)
   · cases h2
theorem adj_word {t : List UInt8} {c : UInt8} (h : (firstTok t).1 = 1) (hc : wordish c = false) : Adj t c := ⟨fun _ => hc, fun e => (by rw [h] at e; cases e), fun e => (by rw [h] at e; cases e)⟩
theorem mem_head {c : UInt8} {l : List UInt8} (h : c ∈ l.head?) : c ∈ l := by
 cases l with
 | nil => cases h
 | cons x r =>
  have : x = c := by simpa using h
  rw [this]; simp
theorem vd_said {v : VD} (h : v.ok = true) : flat v.pcs = v.text ∧ Nice v.pcs ∧ GV (toks v.pcs) v := by
 obtain ⟨hn, hk⟩ := VD.shape h; obtain ⟨m, k, len⟩ := v; simp only at hn hk; have ht := tokT_name hn
 have kw : ∀ t : List UInt8, (t = [105, 110, 116] ∨ t = [115, 116, 97, 99, 107]) → ∀ p, OpenP p → wf p [.tk t, .sp [32], .tk m] := fun t h p hp => by
  have htt : TokT t := by rcases h with rfl | rfl <;> exact tokT_lit (by decide)
  refine ⟨htt, fun u hu c hc => adj_open (hp u hu) ?_, wf_sp1 (wf_tk0 ht.1 trivial)⟩
  rcases h with rfl | rfl
  · have : c = 105 := by simpa using hc.symm
    subst this; decide
  · have : c = 115 := by simpa using hc.symm
    subst this; decide
 rcases hk with ⟨rfl, rfl⟩ | ⟨rfl, rfl⟩ | ⟨rfl, h1, h2⟩
 · have e : VD.pcs ⟨m, 1, 0⟩ = [.tk [105, 110, 116], .sp [32], .tk m] := rfl
   rw [e]
   exact ⟨by simp [flat, VD.text], ⟨kw _ (Or.inl rfl), fun p => ⟨m, rfl, closeT_name ht.2⟩⟩, GV.int hn⟩
 · have e : VD.pcs ⟨m, 3, 0⟩ = [.tk [115, 116, 97, 99, 107], .sp [32], .tk m] := rfl
   rw [e]
   exact ⟨by simp [flat, VD.text], ⟨kw _ (Or.inr rfl), fun p => ⟨m, rfl, closeT_name ht.2⟩⟩, GV.stack hn⟩
 · have e : VD.pcs ⟨m, 2, len⟩ = [.tk [97, 114, 114, 97, 121], .sp [32], .tk m, .tk [91], .tk (Lib.itoa len), .tk [93]] := rfl
   rw [e, itoa_dec (by omega)]; obtain ⟨v1, v2, v3⟩ := dec_val len.toNat; have hnum := tokT_num v3 v2; refine ⟨by simp [flat, VD.text, itoa_dec (show 0 ≤ len by omega)], ⟨fun p hp => ?_, fun p => ⟨[93], rfl, closeT_sign (by decide)⟩⟩, ?_⟩
   · refine ⟨tokT_lit (by decide), fun u hu c hc => adj_open (hp u hu) ?_, wf_sp1 (wf_tk0 ht.1 (wf_tk1 (tokT_lit (by decide)) (fun c hc => ?_) (wf_tk1 hnum.1 (fun c hc => ?_) (wf_tk1 (tokT_lit (by decide)) (fun c hc => ?_) trivial))))⟩
     · have : c = 97 := by simpa using hc.symm
       subst this; decide
     · have : c = 91 := by simpa using hc.symm
       subst this; exact adj_word ht.2 (by decide)
     · have hdg := v2 c (mem_head hc)
       exact adj_open (by decide) (digit_open hdg)
     · have : c = 93 := by simpa using hc.symm
       subst this; exact (closeT_num hnum.2).2.1
   · have hsd : startsDigit (Lib.decDigits len.toNat) = true := by
      cases hd : Lib.decDigits len.toNat with
      | nil => exact absurd hd v3
      | cons c r => simpa [startsDigit] using v2 c (by rw [hd]; simp)
     have := GV.array (m := m) (t := Lib.decDigits len.toNat) hn hsd (by rw [v1]; omega) (by rw [v1]; omega); rw [v1, show ((len.toNat : Nat) : Int) = len by omega] at this
     exact this
def varPcs : List VD → List Pc
 | [] => []
 | v :: r => v.pcs ++ (.sp [10] :: varPcs r)
theorem openP_nil : OpenP none := fun t ht => by cases ht
theorem vars_said : ∀ l : List VD, allOk l = true → flat (varPcs l) = cat VD.line l ∧ NiceL (varPcs l) ∧ GVs (toks (varPcs l)) l
 | [], _ => ⟨rfl, ⟨trivial, rfl⟩, GVs.nil⟩
 | v :: r, h => by
  unfold allOk at h
  simp only [List.all_cons, Bool.and_eq_true] at h; obtain ⟨h1, h2, h3⟩ := vd_said h.1; obtain ⟨i1, i2, i3⟩ := vars_said r h.2; refine ⟨?_, ⟨?_, ?_⟩, ?_⟩
  · simp only [varPcs, flat_append, flat, h1, i1]
    simp [cat, VD.line]
  · exact h2.then_ openP_nil (fun t _ => wf_sp (by decide) (by decide) i2.wf)
  · exact h2.end_ (fun t => by simp only [endOf]; exact i2.fin)
  · simp only [varPcs, toks_append, toks]
    exact GVs.cons h3 i3
def commaPcs : List VD → List Pc
 | [] => []
 | v :: r => .tk [44] :: .sp [32] :: (v.pcs ++ commaPcs r)
theorem commas_said : ∀ l : List VD, allOk l = true → flat (commaPcs l) = commas VD.text false l ∧ (∀ (t : List UInt8) (R : List Pc), CloseT t → wf (some [41]) R → wf (some t) (commaPcs l ++ .tk [41] :: R)) ∧ GC (toks (commaPcs l)) l ∧ (∀ (t : List UInt8) (R : List Pc), endOf (some t) (commaPcs l ++ .tk [41] :: R) = endOf (some [41]) R)
 | [], _ => ⟨rfl, fun t R ht hR => wf_tk1 (tokT_lit (by decide)) (close_adj ht) hR, GC.nil, fun _ _ => rfl⟩
 | v :: r, h => by
  unfold allOk at h
  simp only [List.all_cons, Bool.and_eq_true] at h; obtain ⟨h1, h2, h3⟩ := vd_said h.1; obtain ⟨i1, i2, i3, i4⟩ := commas_said r h.2; refine ⟨?_, fun t R ht hR => ?_, ?_, fun t R => ?_⟩
  · simp only [commaPcs, flat, flat_append, h1, i1, commas]
    simp
  · simp only [commaPcs, List.cons_append, List.append_assoc]
    exact wf_tk1 (tokT_lit (by decide)) (comma_adj ht) (wf_sp1 (h2.then_ openP_nil (fun u hu => i2 u R hu hR)))
  · simp only [commaPcs, toks, toks_append]
    exact GC.cons h3 i3
  · simp only [commaPcs, List.cons_append, List.append_assoc]
    simp only [endOf]
    exact h2.end_ (fun u => i4 u R)
def paramPcs : List VD → List Pc
 | [] => []
 | v :: r => v.pcs ++ commaPcs r
def PD.pcs (p : PD) : List Pc := .tk [112, 114, 111, 99] :: .sp [32] :: .tk p.name :: .tk [40] :: (paramPcs p.params ++ (.tk [41] :: (bpcs (p.body.lpcs 1) 0 ++ [.sp [10]])))
theorem openP_sign1 : OpenP (some [40]) := openP_sign (by decide)
mutual
theorem lim_depth : ∀ (t : Nd) (d m : Int), 0 ≤ d → (t.lim d m).1 = true → t.depth ≤ d
 | .mk _ _ s l, d, m, hd, h => by
  simp only [Nd.lim] at h
  split at h
  · simp at h
  · have := rowLim_depth l (d - 1) (m - 1) (by omega) h
    simp only [Nd.depth]; omega
theorem rowLim_depth : ∀ (l : List Nd) (d m : Int), 0 ≤ d → (rowLim l d m).1 = true → rowDepth l ≤ d
 | [], d, m, hd, _ => by simp only [rowDepth]; exact hd
 | t :: r, d, m, hd, h => by
  simp only [rowLim] at h
  split at h
  · rename_i ht
    have h1 := lim_depth t d m hd ht; have h2 := rowLim_depth r d _ hd h
    simp only [rowDepth]; omega
  · simp at h
end
theorem body_facts {t : Nd} (h : bodyOk t = true) : t.isBlock = true ∧ t.depth ≤ 80 ∧ t.size ≤ 2000 := by
 simp only [bodyOk, Bool.and_eq_true] at h; have h1 := lim_size t 80 2000 (by omega) h.1; have h2 := lim_le t 80 2000 (by omega)
 exact ⟨h.2, lim_depth t 80 2000 (by omega) h.1, by omega⟩
theorem close_open : ∀ c ∈ ([41] : List UInt8).head?, Adj [40] c := fun c hc => by
 have : c = 41 := by simpa using hc.symm
 subst this; exact adj_open (by decide) (by decide)
theorem pd_said {p : PD} (h : p.ok = true) (hw : p.wf) : flat p.pcs = p.text ∧ NiceL p.pcs ∧ GPr (toks p.pcs) p := by
 simp only [PD.ok, Bool.and_eq_true] at h; obtain ⟨⟨⟨hn, -⟩, hp⟩, hb⟩ := h; obtain ⟨b1, b2, b3⟩ := body_facts hb; have hl := lines_said b1 hw.body 1; have hnm := tokT_name hn; obtain ⟨m, ps, x⟩ := p; simp only at hn hp hb b1 hl hnm; have hbl : GS .bl (toks (bpcs (x.lpcs 1) 0)) [x] := hl.bl b1 0
 have hwb : ∀ q, wf q (bpcs (x.lpcs 1) 0 ++ [.sp [10]]) := fun q => hl.nice.wf_b 0 (wf_sp (r := []) (by decide) (by decide) trivial) q
 have heb : ∀ q, endOf q (bpcs (x.lpcs 1) 0 ++ [.sp [10]]) = none := fun q => by rw [hl.nice.end_b]; rfl
 have hop : ∀ c ∈ ([40] : List UInt8).head?, Adj m c := open_adj hnm.2
 cases ps with
 | nil =>
  refine ⟨?_, ⟨?_, ?_⟩, ?_⟩
  · simp only [PD.pcs, PD.text, flat, flat_append, paramPcs, flat_b, hl.flat, commas]
    simp [tabT]
  · exact wf_tk0 (tokT_lit (by decide)) (wf_sp1 (wf_tk0 hnm.1 (wf_tk1 (tokT_lit (by decide)) hop (wf_tk1 (tokT_lit (by decide)) (close_open) (hwb _)))))
  · simp only [PD.pcs, paramPcs, List.nil_append, endOf]; exact heb _
  · simp only [PD.pcs, toks, toks_append, paramPcs, List.nil_append, List.append_nil]
    exact GPr.p0 hn hbl
 | cons v r =>
  unfold allOk at hp
  simp only [List.all_cons, Bool.and_eq_true] at hp; obtain ⟨h1, h2, h3⟩ := vd_said hp.1; obtain ⟨i1, i2, i3, i4⟩ := commas_said r hp.2; refine ⟨?_, ⟨?_, ?_⟩, ?_⟩
  · simp only [PD.pcs, PD.text, flat, flat_append, paramPcs, flat_b, hl.flat, commas, h1, i1]
    simp [tabT]
  · refine wf_tk0 (tokT_lit (by decide)) (wf_sp1 (wf_tk0 hnm.1 (wf_tk1 (tokT_lit (by decide)) hop ?_)))
    simp only [paramPcs, List.append_assoc]
    exact h2.then_ openP_sign1 (fun t ht => i2 t _ ht (hwb _))
  · simp only [PD.pcs, paramPcs, endOf, List.append_assoc]
    exact h2.end_ (fun t => by rw [i4]; exact heb _)
  · simp only [PD.pcs, toks, toks_append, paramPcs, List.append_nil, List.append_assoc]
    exact GPr.p1 hn h3 i3 hbl
theorem NiceL.app {A B : List Pc} (h : NiceL A) (k : NiceL B) : NiceL (A ++ B) := ⟨by rw [wf_append, h.fin]; exact ⟨h.wf, k.wf⟩, by rw [endOf_append, h.fin]; exact k.fin⟩
def procPcs : List PD → List Pc
 | [] => []
 | p :: r => p.pcs ++ procPcs r
theorem procs_said : ∀ l : List PD, l.all PD.ok = true → (∀ p ∈ l, p.wf) → flat (procPcs l) = cat PD.text l ∧ NiceL (procPcs l) ∧ GPs (toks (procPcs l)) l
 | [], _, _ => ⟨rfl, ⟨trivial, rfl⟩, GPs.nil⟩
 | p :: r, h, hw => by
  simp only [List.all_cons, Bool.and_eq_true] at h; obtain ⟨h1, h2, h3⟩ := pd_said h.1 (hw p (by simp)); obtain ⟨i1, i2, i3⟩ := procs_said r h.2 (fun q hq => hw q (by simp [hq])); refine ⟨?_, h2.app i2, ?_⟩
  · simp only [procPcs, flat_append, h1, i1]
    simp [cat]
  · simp only [procPcs, toks_append]
    exact GPs.cons h3 i3
def PG.pcs (g : PG) : List Pc := varPcs g.vars ++ (procPcs g.procs ++ (.tk [109, 97, 105, 110] :: (bpcs (g.main.lpcs 1) 0 ++ [.sp [10]])))
theorem pg_said {g : PG} (h : g.ok = true) (hw : g.wf) : flat g.pcs = g.text ∧ wf none g.pcs ∧ GPG (toks g.pcs) g := by
 simp only [PG.ok, Bool.and_eq_true, decide_eq_true_eq] at h; obtain ⟨⟨⟨⟨-, -⟩, hv⟩, hp⟩, hb⟩ := h; obtain ⟨b1, b2, b3⟩ := body_facts hb; have hl := lines_said b1 hw.main 1; obtain ⟨v1, v2, v3⟩ := vars_said g.vars hv; obtain ⟨p1, p2, p3⟩ := procs_said g.procs hp hw.procs; refine ⟨?_, ?_, ?_⟩
 · simp only [PG.pcs, PG.text, flat, flat_append, v1, p1, flat_b, hl.flat]
   simp [tabT]
 · unfold PG.pcs
   rw [wf_append, wf_append, v2.fin, p2.fin]
   exact ⟨v2.wf, p2.wf, wf_tk0 (tokT_lit (by decide)) (hl.nice.wf_b 0 (wf_sp (r := []) (by decide) (by decide) trivial) _)⟩
 · simp only [PG.pcs, toks, toks_append, List.append_nil]
   exact GPG.mk v3 p3 (hl.bl b1 0)
theorem parse_program {g : PG} (h : g.ok = true) (hw : g.wf) (hl : g.text.length ≤ 65536) : parseProgram g.text = (g, 0, 0) := by
 obtain ⟨h1, h2, h3⟩ := pg_said h hw; obtain ⟨us, s1, s2⟩ := pcs_solid _ none h2; rw [h1] at s1; simp only [PG.ok, Bool.and_eq_true, decide_eq_true_eq] at h; obtain ⟨⟨⟨⟨n1, n2⟩, -⟩, hp⟩, hb⟩ := h; obtain ⟨-, b2, b3⟩ := body_facts hb; refine parseP_of (by omega) s1 (by rw [s2]; exact h3) ⟨n1, n2⟩ (fun p hpm => ?_) b2 b3; have hpo := List.all_eq_true.1 hp p hpm; simp only [PD.ok, Bool.and_eq_true, decide_eq_true_eq] at hpo; obtain ⟨-, c2, c3⟩ := body_facts hpo.2
 exact ⟨c2, c3, hpo.1.1.2⟩
end Bk
namespace Bk
open Go Go.RowKit Go.Proofs
structure Few5 (g : PG) : Prop where
 nv : g.vars.length ≤ 8
 np : g.procs.length ≤ 5
 main : (g.main.small 24 200).1 = true
 procs : ∀ p ∈ g.procs, (p.body.small 24 200).1 = true
end Bk
namespace Bk
open Go Go.RowKit Go.Proofs
theorem vd_fields : (Tryz.prog.fieldsOf 73).toList.map (fun f => (f.name == "_", f.type, f.offset)) = [(false, 9, 0), (false, 5, 1), (false, 3, 2)] := by kernel_rfl
theorem vd_under : Tryz.prog.underlying 73 = some (.struct (Tryz.prog.fieldsOf 73)) := by kernel_rfl
theorem vd_stood : Tryz.prog.stoodInHeld 73 = false := by kernel_rfl
theorem vd_guard : Tryz.prog.eqGuardType Tryz.prog.depth 73 = false := by kernel_rfl
theorem eqFields_same {P : Program} {d : Nat} {xs : Array Value} {w : World} : ∀ (fs : List Field), (∀ f ∈ fs, ∃ v, (part f.type xs f.offset).run P w = .ok v w ∧ (Op.equalIn d f.type v v).run P w = .ok true w) → (Op.eqFields d xs xs fs).run P w = .ok true w
 | [], _ => by simp [Op.eqFields]
 | f :: fs, h => by
  obtain ⟨v, h1, h2⟩ := h f List.mem_cons_self; have ih := eqFields_same (P := P) (d := d) (xs := xs) (w := w) fs (fun g hg => h g (List.mem_cons_of_mem _ hg))
  unfold Op.eqFields
  split
  · simp only [Sem.run_bind, h1, h2, Result.andThen_ok, Bool.not_true, Bool.false_eq_true, if_false, ih]
  · exact ih
theorem run_part {P : Program} {tab : Tab} {t sz off : Nat} {s : Sk} {cs : List Value} {v : Value} (T : TabOk P tab) (ht : lookT tab t = some (s, sz)) (hs : s.agg = false) (hv : cs[off]? = some v) (w : World) : (part t cs.toArray off).run P w = .ok v w := by
 simp [part, Sem.run_bind, run_isAgg (T _ _ _ ht), hs, Result.andThen, hv]
theorem run_vd_same (v : VD) (w : World) : (Op.equalIn 10000 73 v.val v.val).run Tryz.prog w = .ok true w := by
 rw [show (10000 : Nat) = 9999 + 1 from rfl, run_equalIn_agg w 9999 _ _ _ vd_under vd_stood]; refine eqFields_same _ (fun f hf => ?_); have hm : (f.name == "_", f.type, f.offset) ∈ (Tryz.prog.fieldsOf 73).toList.map (fun f => (f.name == "_", f.type, f.offset)) := List.mem_map.2 ⟨f, hf, rfl⟩; rw [vd_fields] at hm; simp only [List.mem_cons, List.not_mem_nil, or_false, Prod.mk.injEq] at hm
 rcases hm with ⟨-, h1, h2⟩ | ⟨-, h1, h2⟩ | ⟨-, h1, h2⟩
 · rw [h1, h2]
   refine ⟨str v.name, run_part (cs := v.cells) tabOk rfl rfl rfl w, ?_⟩
   rw [run_equalIn_string w 9998 _ _ _ (show Tryz.prog.underlying 9 = some .string from (tabOk 9 .str 1 rfl).under)]; simp
 · rw [h1, h2]
   refine ⟨.int .u8 v.kind, run_part (cs := v.cells) tabOk rfl rfl rfl w, ?_⟩
   rw [run_equalIn_int w 9998 _ _ .u8 _ _ (show Tryz.prog.underlying 5 = some (.int .u8) from (tabOk 5 (.int .u8) 1 rfl).under)]; simp
 · rw [h1, h2]
   refine ⟨.int .i64 v.len, run_part (cs := v.cells) tabOk rfl rfl rfl w, ?_⟩
   rw [run_equalIn_int w 9998 _ _ .i64 _ _ (show Tryz.prog.underlying 3 = some (.int .i64) from (tabOk 3 (.int .i64) 1 rfl).under)]; simp
theorem pur_vdneq {n : Nat} {l : Sl} {S : World → Prop} {ty t' : TypeId} {x y : Operand} {v : VD} (hx : ev l x = some v.val) (hy : ev l y = some v.val) : Pur Tryz.prog n l S (.binOp .neq 73 x y t') ty (.bool false) := by
 unfold Pur
 intro a w dst pos after g ha _; have e1 := run_eqGuard_agg (P := Tryz.prog) w .neq 73 x y v.cells.toArray v.cells.toArray vd_guard
 have e2 : (binOp .neq 73 v.val v.val).run Tryz.prog w = .ok (.bool false) w := by
  rw [run_neq_struct, run_vd_same]; rfl
 simp only [execOp, ha.ev hx, ha.ev hy, Sem.run_bind, e1, e2, Result.andThen_ok, Sem.run_pure]
end Bk
namespace Bk
open Go Go.RowKit Go.Proofs
attribute [local irreducible] Go.Calls
theorem eqb_same (t : Nd) : t.eqb t = true := (eqb_iff t t).2 rfl
set_option maxRecDepth 100000 in
set_option maxHeartbeats 4000000 in
theorem vdsEqual_t (l : List VD) (S S' : Nat → Prop) (a a' : Option Addr) (c c' : Nat) (w : World) (hl : l.length ≤ 1000000000) (hs : VDs S w l a) (hs' : VDs S' w l a') :
 Calls Tryz.prog 48 #[.slice a l.length c, .slice a' l.length c'] w fun e w' => e = .returned (.bool true) ∧ Ext w w' := by
 have X := Ext.refl w; refine calls_in Tryz.func48 Tryz.ntmps48 rfl rfl ?_
 focus
  refine cS (cA rfl rfl (cT (cw_seq (cS (cM rfl rfl (lw_pure (pur_len_slice tabOk rfl rfl) rfl (cM rfl rfl (lw_pure (pur_len_slice tabOk rfl rfl) rfl (lw_pure (pur_neq rfl rfl) rfl (cT ?_)))))))))); refine cw_no rfl (by omega) ?_; refine cw_skip (qw_then (cw_seq (cS (cM rfl rfl (lw_pure (pur_len_slice tabOk rfl rfl) rfl (cM rfl rfl (cT (cw_block ?_)))))))); rotate_left 1
 refine cw_loop (ι := Nat) (fun j => [(0, .slice a l.length c), (1, .slice a' l.length c'), (12, .int .i64 l.length), (13, .int .i64 j)]) (fun j w' => VDs S w' l a ∧ VDs S' w' l a' ∧ Ext w w' ∧ j ≤ l.length) (fun j => l.length - j) 0 (by (refine sub_cons rfl ?_; refine sub_cons rfl ?_; refine sub_cons rfl ?_; refine sub_cons rfl ?_; exact sub_nil)) ⟨hs, hs', X, Nat.zero_le _⟩ ?_; rintro j w1 ⟨hs, hs', X, hj⟩
 by_cases hlt : j < l.length
 · obtain ⟨kb, ko, rfl, -, hk⟩ := hs.get (by omega)
   obtain ⟨kb', ko', rfl, -, hk'⟩ := hs'.get (by omega); have r1 : Row w1 ⟨kb, ko + j * 3, none⟩ l[j].cells := hk j _ (List.getElem?_eq_getElem hlt); have r2 : Row w1 ⟨kb', ko' + j * 3, none⟩ l[j].cells := hk' j _ (List.getElem?_eq_getElem hlt); clear hk hk'
   generalize l[j] = x at *
   focus
    refine cS (lw_pure (pur_lss rfl rfl) rfl (cT (cw_seq ?_))); refine cw_yes rfl (by omega) ?_; refine cw_skip (qw_then (cw_seq (cw_block (cS (cM rfl rfl (cA rfl rfl (cT (cw_seq ?_)))))))); (refine cw_tdraw (fun wz => Ext w1 wz) 8 (.pure 0 (.pure 1 (.pure 2 (.pure 3 (.pure 4 (.pure 5 (.pure 6 (.pure 7 .tail)))))))) mixed (by kernel_rfl) (panicOk_then (panicOk_block (panicOk_then (panicOk_then (panicOk_block (panicOk_then panicOk_body)))))) ?_; intro wa1 xa2 _); have qsa3 : (fun wz => Ext w1 wz) wa1 := xa2; simp only at qsa3; have d_hs := hs; have d_hs' := hs'; have d_r1 := r1; have d_r2 := r2; have za4 := xa2.size; replace X := X.ext xa2; replace hs := hs.ext xa2; replace hs' := VDs.ext hs' xa2; replace r1 := r1.ext xa2; replace r2 := r2.ext xa2; clear xa2; refine ⟨qsa3, ?_⟩; refine tw_pure rfl (pur_move rfl) rfl (tw_pure rfl (pur_move rfl) rfl ?_); refine tw_pure rfl (pur_indexAddr tabOk rfl rfl rfl rfl (by omega) (by omega)) rfl ?_; refine tw_pure rfl (pur_loads' tabOk rfl rfl rfl (fun wz hz => (Row.ext d_r1 hz)) rfl) rfl (tw_pure rfl (pur_move rfl) rfl (tw_pure rfl (pur_move rfl) rfl ?_)); refine tw_pure rfl (pur_indexAddr tabOk rfl rfl rfl rfl (by omega) (by omega)) rfl ?_; refine tw_pure rfl (pur_loads' tabOk rfl rfl rfl (fun wz hz => (Row.ext d_r2 hz)) rfl) rfl ?_; clear qsa3 d_hs d_hs' d_r1 d_r2; refine tw_tail rfl (lw_pure (pur_vdneq (v := x) rfl rfl) rfl (cT (cw_cond_f rfl (cw_skip (qw_block_norm (qw_then (cw_region ?_))))))); refine lw_pure (pur_add rfl rfl (IntWalk.i64_in _ (by omega))) rfl ?_
    refine cM rfl rfl (lw_nil ?_); rotate_left 1
   exact qw_round (j + 1) (by (refine sub_cons rfl ?_; refine sub_cons rfl ?_; refine sub_cons rfl ?_; refine sub_cons rfl ?_; exact sub_nil)) ⟨hs, hs', X, by omega⟩ (by omega)
 · focus
    refine cS (lw_pure (pur_lss rfl rfl) rfl (cT (cw_seq ?_))); refine cw_no rfl (by omega) ?_; refine cw_exit (qw_then_exit (qw_then_exit (qw_block_exit (qw_then (cS (cA rfl rfl (cT (cw_ret (qw_ret1 rfl rfl ?_))))))))); rotate_left 1
   exact ⟨rfl, X⟩
theorem equalA_t (t : Nd) (hz : t.size ≤ 1000000) (S S' : Nat → Prop) (a a' : Option Addr) (c c' : Nat) (w : World) (hs : t.sits S w a) (hs' : t.sits S' w a') : Calls Tryz.prog 13 #[t.val a c, t.val a' c'] w fun e w' => e = .returned (.bool true) ∧ Ext w w' := by
 have := Equal_b (t.size + 1) t t S S' a a' c c' w (by omega) (by omega) hs hs'
 rw [eqb_same] at this; exact this
set_option maxRecDepth 100000 in
set_option maxHeartbeats 4000000 in
theorem sameProc_t (p : PD) (S S' : Nat → Prop) (pa pa' ba ba' : Option Addr) (pc pc' bc bc' : Nat) (w : World) (hp : p.params.length ≤ 1000000) (hb : p.body.size ≤ 1000000) (k1 : VDs S w p.params pa) (k2 : VDs S' w p.params pa') (k3 : p.body.sits S w ba) (k4 : p.body.sits S' w ba') :
 Calls Tryz.prog 50 #[.agg (p.cells pa pc ba bc).toArray, .agg (p.cells pa' pc' ba' bc').toArray] w fun e w' => e = .returned (.bool true) ∧ Ext w w' := by
 have X := Ext.refl w; have HV := Lib.hid (vdsEqual_t p.params S S' pa pa' pc pc'); have HE := Lib.hid (equalA_t p.body hb S S' ba ba' bc bc'); refine calls_in Tryz.func50 Tryz.ntmps50 rfl rfl ?_
 focus
  refine cS ?_; (refine lw_box' [_, _, _, _, _, _] rfl rfl rfl ?_; intro b1 w2 n3); have h4 := n3.blk; have x5 := n3.ext; have p6 := n3.pos; have z7 := n3.size; clear n3; replace k1 := k1.ext x5; replace k2 := k2.ext x5; replace k3 := Nd.sits.ext k3 x5; replace k4 := Nd.sits.ext k4 x5; replace X := X.ext x5; clear x5; (refine lw_box' [_, _, _, _, _, _] rfl rfl rfl ?_; intro b8 w9 n10); have h11 := n10.blk; have x12 := n10.ext; have p13 := n10.pos; have z14 := n10.size; clear n10; replace h4 := h4.ext x12; replace k1 := k1.ext x12; replace k2 := k2.ext x12; replace k3 := Nd.sits.ext k3 x12; replace k4 := Nd.sits.ext k4 x12; replace X := X.ext x12; clear x12; refine cA rfl rfl (cN (lw_pure (pur_fieldAddr0 tabOk rfl rfl rfl) rfl (lw_load_b tabOk rfl rfl rfl h4 rfl rfl (lw_pure (pur_fieldAddr0 tabOk rfl rfl rfl) rfl (lw_load_b tabOk rfl rfl rfl h11 rfl rfl (lw_pure (pur_seql rfl rfl) rfl (cM rfl rfl (lw_on rfl rfl rfl (gd_tt (rfl)) (lw_pure (pur_fieldAddr tabOk rfl rfl rfl) rfl (lw_on rfl rfl rfl (gd_tt (rfl)) (lw_load_b tabOk rfl rfl rfl h4 rfl rfl ?_))))))))))); refine lw_on rfl rfl rfl (gd_tt (rfl)) (lw_pure (pur_fieldAddr tabOk rfl rfl rfl) rfl (lw_on rfl rfl rfl (gd_tt (rfl)) (lw_load_b tabOk rfl rfl rfl h11 rfl rfl (lw_on rfl rfl rfl (gd_tt (rfl)) ?_)))); refine cC (by kernel_rfl) rfl (HV.out _ (by omega) (by assumption) (by assumption)) rfl ?_; rintro _ w16 ⟨⟨⟩, x15⟩; have z17 := x15.size; replace h11 := h11.ext x15; replace h4 := h4.ext x15; replace k1 := k1.ext x15; replace k2 := k2.ext x15
  replace k3 := Nd.sits.ext k3 x15; replace k4 := Nd.sits.ext k4 x15; replace X := X.ext x15; clear x15; refine lw_pure (pur_pick_yes rfl rfl (rfl)) rfl (cM rfl rfl (lw_on rfl rfl rfl (rfl) (lw_pure (pur_fieldAddr tabOk rfl rfl rfl) rfl (lw_on rfl rfl rfl (rfl) (lw_loads_b' [_, _, _, _] tabOk rfl rfl rfl h4 rfl rfl rfl (lw_on rfl rfl rfl (rfl) (lw_pure (pur_fieldAddr tabOk rfl rfl rfl) rfl (lw_on rfl rfl rfl (rfl) (lw_loads_b' [_, _, _, _] tabOk rfl rfl rfl h11 rfl rfl rfl (lw_on rfl rfl rfl (rfl) ?_)))))))))); refine cC (by kernel_rfl) rfl (HE.out _ (by assumption) (by assumption)) rfl ?_; rintro _ w19 ⟨⟨⟩, x18⟩; have z20 := x18.size; replace h11 := h11.ext x18; replace h4 := h4.ext x18; replace k1 := k1.ext x18; replace k2 := k2.ext x18; replace k3 := Nd.sits.ext k3 x18; replace k4 := Nd.sits.ext k4 x18; replace X := X.ext x18; clear x18; refine lw_pure (pur_pick_t rfl rfl rfl) rfl (cA rfl rfl (cT (cw_ret (qw_ret1 rfl rfl ?_)))); rotate_left 1
 exact ⟨rfl, X⟩
theorem PDs.ltA {S : Nat → Prop} {w : World} {l : List PD} {a : Option Addr} (h : PDs S w l a) : PDs (· < w.heap.size) w l a := by
 rcases h with h | ⟨b, o, h1, h2, h3⟩
 · exact Or.inl h
 · cases l with
   | nil => exact Or.inl rfl
   | cons v r =>
    obtain ⟨_, _, _, _, hr, -, -⟩ := h3 0 v rfl; refine Or.inr ⟨b, o, h1, cell_lt (Row.at0 hr rfl), fun i x hi => ?_⟩; obtain ⟨pa, pc, ba, bc, hr, hv, hs⟩ := h3 i x hi
    exact ⟨pa, pc, ba, bc, hr, hv.lt2.wide (fun _ h => h.2), sits_ltA _ _ hs⟩
structure PG.few (g : PG) : Prop where
 nv : g.vars.length ≤ 1000000
 np : g.procs.length ≤ 1000000
 main : g.main.size ≤ 1000000
 procs : ∀ p ∈ g.procs, p.params.length ≤ 1000000 ∧ p.body.size ≤ 1000000
set_option maxRecDepth 100000 in
set_option maxHeartbeats 4000000 in
theorem pdsEqual_t (l : List PD) (S S' : Nat → Prop) (a a' : Option Addr) (c c' : Nat) (w : World) (hl : l.length ≤ 1000000) (hf : ∀ p ∈ l, p.params.length ≤ 1000000 ∧ p.body.size ≤ 1000000) (hs : PDs S w l a) (hs' : PDs S' w l a') :
 Calls Tryz.prog 49 #[.slice a l.length c, .slice a' l.length c', .func (.func 50) #[] #[]] w fun e w' => e = .returned (.bool true) ∧ Ext w w' := by
 have X := Ext.refl w; refine calls_in Tryz.func49 Tryz.ntmps49 rfl rfl ?_
 focus
  refine cS (cA rfl rfl (cT (cw_seq (cS (cM rfl rfl (lw_pure (pur_len_slice tabOk rfl rfl) rfl (cM rfl rfl (lw_pure (pur_len_slice tabOk rfl rfl) rfl (lw_pure (pur_neq rfl rfl) rfl (cT ?_)))))))))); refine cw_no rfl (by omega) ?_; refine cw_skip (qw_then (cw_seq (cS (cM rfl rfl (lw_pure (pur_len_slice tabOk rfl rfl) rfl (cM rfl rfl (cT (cw_block ?_)))))))); rotate_left 1
 replace hs := hs.ltA; replace hs' := hs'.ltA; refine cw_loop (ι := Nat) (fun j => [(1, .slice a' l.length c'), (2, .func (.func 50) #[] #[]), (15, .slice a l.length c), (16, .int .i64 l.length), (17, .int .i64 j)])
  (fun j w' => j ≤ l.length ∧ PDs (· < w.heap.size) w' l a ∧ PDs (· < w.heap.size) w' l a' ∧ Ext w w') (fun j => l.length - j) 0 (by (refine sub_cons rfl ?_; refine sub_cons rfl ?_; refine sub_cons rfl ?_; refine sub_cons rfl ?_; refine sub_cons rfl ?_; exact sub_nil)) ⟨Nat.zero_le _, hs, hs', X⟩ ?_
 clear hs hs' X; rintro j w1 ⟨hj, hs, hs', X⟩
 by_cases hlt : j < l.length
 · have hsz := X.size
   obtain ⟨kb, ko, rfl, kS, hk⟩ := hs.get (by omega); obtain ⟨kb', ko', rfl, kS', hk'⟩ := hs'.get (by omega); obtain ⟨xa, xc, ya, yc, r1, v1, s1⟩ := hk j _ (List.getElem?_eq_getElem hlt); obtain ⟨xa', xc', ya', yc', r2, v2, s2⟩ := hk' j _ (List.getElem?_eq_getElem hlt); obtain ⟨p1, p2⟩ := hf _ (List.getElem_mem hlt); clear hk hk'
   generalize l[j] = x at *
   have HP := Lib.hid (sameProc_t x (· < w.heap.size) (· < w.heap.size) xa xa' ya ya' xc xc' yc yc' · p1 p2)
   focus
    refine cS (lw_pure (pur_lss rfl rfl) rfl (cT (cw_seq ?_))); refine cw_yes rfl (by omega) ?_; refine cw_skip (qw_then (cw_seq (cw_block (cS (cM rfl rfl ?_))))); refine lw_pure (pur_indexAddr tabOk rfl rfl rfl rfl (by omega) (by omega)) rfl ?_; refine lw_loads_r0 tabOk rfl rfl rfl r1 rfl rfl ?_; (refine lw_alloc' [_, _, _, _, _, _] zOk rfl rfl ?_; intro ba1 wa2 na3); have ha5 := na3.blk; have xa6 := na3.ext; have pa7 := na3.pos; have za8 := na3.size; clear na3; replace X := X.ext xa6; replace hs := hs.ext xa6; replace hs' := PDs.ext hs' xa6; replace r1 := r1.ext xa6; replace v1 := v1.ext xa6; replace s1 := Nd.sits.ext s1 xa6; replace r2 := r2.ext xa6; replace v2 := v2.ext xa6; replace s2 := Nd.sits.ext s2 xa6; clear xa6; refine cA rfl rfl ?_; (refine lw_store' [_, _, _, _, _, _] [_, _, _, _, _, _] tabOk rfl rfl rfl rfl rfl rfl ha5 rfl rfl ?_; intro wa9 na10); have ha13 := na10.blk; have fa11 := na10.fr; have za12 := na10.size; clear na10 ha5; replace X := X.fr fa11 (by omega); replace hs := hs.fr fa11 (by omega); replace hs' := PDs.fr hs' fa11 (by omega); replace r1 := Row.fr r1 fa11 (by simp only; omega); replace v1 := v1.fr fa11 (by omega); replace s1 := Nd.sits.fr s1 fa11 (by omega); replace r2 := Row.fr r2 fa11 (by simp only; omega); replace v2 := v2.fr fa11 (by omega); replace s2 := Nd.sits.fr s2 fa11 (by omega); clear fa11; refine cN (cM rfl rfl (cM rfl rfl ?_)); refine lw_pure (pur_indexAddr tabOk rfl rfl rfl rfl (by omega) (by omega)) rfl ?_; refine lw_loads_r0 tabOk rfl rfl rfl r2 rfl rfl ?_
    (refine lw_alloc' [_, _, _, _, _, _] zOk rfl rfl ?_; intro ba14 wa15 na16); (refine lw_init' [_, _, _, _, _, _] tabOk rfl rfl rfl rfl rfl rfl na16 rfl ?_; clear na16; clear wa15; intro wa17 na16); have ha18 := na16.blk; have xa19 := na16.ext; have pa20 := na16.pos; have za21 := na16.size; clear na16; replace ha13 := ha13.ext xa19; replace X := X.ext xa19; replace hs := hs.ext xa19; replace hs' := PDs.ext hs' xa19; replace r1 := r1.ext xa19; replace v1 := v1.ext xa19; replace s1 := Nd.sits.ext s1 xa19; replace r2 := r2.ext xa19; replace v2 := v2.ext xa19; replace s2 := Nd.sits.ext s2 xa19; clear xa19; refine cN (cM rfl rfl (lw_loads_b' [_, _, _, _, _, _] tabOk rfl rfl rfl ha13 rfl rfl rfl (lw_loads_b' [_, _, _, _, _, _] tabOk rfl rfl rfl ha18 rfl rfl rfl ?_))); refine lw_does (does_callv (fi := []) (ca := []) (by kernel_rfl) rfl rfl (HP.out _ (by assumption) (by assumption) (by assumption) (by assumption)) (fun _ _ h => ⟨_, h.1⟩)) rfl ?_ (fun _ h => h); rintro va22 wa23 ⟨⟨⟩, xa24⟩; have za25 := xa24.size; replace ha18 := ha18.ext xa24; replace ha13 := ha13.ext xa24; replace X := X.ext xa24; replace hs := hs.ext xa24; replace hs' := PDs.ext hs' xa24; replace r1 := r1.ext xa24; replace v1 := v1.ext xa24; replace s1 := Nd.sits.ext s1 xa24; replace r2 := r2.ext xa24; replace v2 := v2.ext xa24; replace s2 := Nd.sits.ext s2 xa24; clear xa24; refine lw_pure (pur_not rfl) rfl (cT (cw_cond_f rfl (cw_skip (qw_block_norm (qw_then (cw_region ?_)))))); refine lw_pure (pur_add rfl rfl (IntWalk.i64_in _ (by omega))) rfl ?_
    refine cM rfl rfl (lw_nil ?_); rotate_left 1
   exact qw_round (j + 1) (by (refine sub_cons rfl ?_; refine sub_cons rfl ?_; refine sub_cons rfl ?_; refine sub_cons rfl ?_; refine sub_cons rfl ?_; exact sub_nil)) ⟨by omega, hs, hs', X⟩ (by omega)
 · focus
    refine cS (lw_pure (pur_lss rfl rfl) rfl (cT (cw_seq ?_))); refine cw_no rfl (by omega) ?_; refine cw_exit (qw_then_exit (qw_then_exit (qw_block_exit (qw_then (cS (cA rfl rfl (cT (cw_ret (qw_ret1 rfl rfl ?_))))))))); rotate_left 1
   exact ⟨rfl, X⟩
set_option maxRecDepth 100000 in
set_option maxHeartbeats 4000000 in
theorem SameA_t (g : PG) (S S' : Nat → Prop) (va pa ma va' pa' ma' : Option Addr) (vc pc mc vc' pc' mc' : Nat) (w : World) (hg : g.few) (hs : g.sits S w va pa ma) (hs' : g.sits S' w va' pa' ma') :
 Calls Tryz.prog 21 #[.agg (g.cells va vc pa pc ma mc).toArray, .agg (g.cells va' vc' pa' pc' ma' mc').toArray] w fun e w' => e = .returned (.bool true) ∧ Ext w w' := by
 have X := Ext.refl w; obtain ⟨nv, np, hm, hp⟩ := hg; obtain ⟨hv, hq, hmm⟩ := hs; obtain ⟨hv', hq', hmm'⟩ := hs'; have HV := Lib.hid (vdsEqual_t g.vars S S' va va' vc vc'); have HP := Lib.hid (pdsEqual_t g.procs S S' pa pa' pc pc' · np hp); have HE := Lib.hid (equalA_t g.main hm S S' ma ma' mc mc'); clear hp; refine calls_in Tryz.func21 Tryz.ntmps21 rfl rfl ?_
 focus
  refine cS ?_; (refine lw_box' [_, _, _, _, _, _] rfl rfl rfl ?_; intro b1 w2 n3); have h4 := n3.blk; have x5 := n3.ext; have p6 := n3.pos; have z7 := n3.size; clear n3; replace X := X.ext x5; replace hv := hv.ext x5; replace hq := hq.ext x5; replace hmm := Nd.sits.ext hmm x5; replace hv' := VDs.ext hv' x5; replace hq' := PDs.ext hq' x5; replace hmm' := Nd.sits.ext hmm' x5; clear x5; (refine lw_box' [_, _, _, _, _, _] rfl rfl rfl ?_; intro b8 w9 n10); have h11 := n10.blk; have x12 := n10.ext; have p13 := n10.pos; have z14 := n10.size; clear n10; replace h4 := h4.ext x12; replace X := X.ext x12; replace hv := hv.ext x12; replace hq := hq.ext x12; replace hmm := Nd.sits.ext hmm x12; replace hv' := VDs.ext hv' x12; replace hq' := PDs.ext hq' x12; replace hmm' := Nd.sits.ext hmm' x12; clear x12; refine cA rfl rfl (cN (lw_pure (pur_fieldAddr0 tabOk rfl rfl rfl) rfl (lw_load_b tabOk rfl rfl rfl h4 rfl rfl (lw_pure (pur_fieldAddr0 tabOk rfl rfl rfl) rfl (lw_load_b tabOk rfl rfl rfl h11 rfl rfl ?_))))); refine cC (by kernel_rfl) rfl (HV.out _ (by omega) (by assumption) (by assumption)) rfl ?_; rintro _ w16 ⟨⟨⟩, x15⟩; have z17 := x15.size; replace h11 := h11.ext x15; replace h4 := h4.ext x15; replace X := X.ext x15; replace hv := hv.ext x15; replace hq := hq.ext x15; replace hmm := Nd.sits.ext hmm x15; replace hv' := VDs.ext hv' x15; replace hq' := PDs.ext hq' x15; replace hmm' := Nd.sits.ext hmm' x15; clear x15; refine cM rfl rfl (lw_on rfl rfl rfl (rfl) (lw_pure (pur_fieldAddr tabOk rfl rfl rfl) rfl (lw_on rfl rfl rfl (rfl) (lw_load_b tabOk rfl rfl rfl h4 rfl rfl (lw_on rfl rfl rfl (rfl) (lw_pure (pur_fieldAddr tabOk rfl rfl rfl) rfl (lw_on rfl rfl rfl (rfl) (lw_load_b tabOk rfl rfl rfl h11 rfl rfl (lw_on rfl rfl rfl (rfl) ?_)))))))))
  refine cC (by kernel_rfl) rfl (HP.out _ (by assumption) (by assumption)) rfl ?_; rintro _ w19 ⟨⟨⟩, x18⟩; have z20 := x18.size; replace h11 := h11.ext x18; replace h4 := h4.ext x18; replace X := X.ext x18; replace hv := hv.ext x18; replace hq := hq.ext x18; replace hmm := Nd.sits.ext hmm x18; replace hv' := VDs.ext hv' x18; replace hq' := PDs.ext hq' x18; replace hmm' := Nd.sits.ext hmm' x18; clear x18; refine lw_pure (pur_pick_t rfl rfl rfl) rfl (cM rfl rfl (lw_on rfl rfl rfl (rfl) (lw_pure (pur_fieldAddr tabOk rfl rfl rfl) rfl (lw_on rfl rfl rfl (rfl) (lw_loads_b' [_, _, _, _] tabOk rfl rfl rfl h4 rfl rfl rfl (lw_on rfl rfl rfl (rfl) (lw_pure (pur_fieldAddr tabOk rfl rfl rfl) rfl (lw_on rfl rfl rfl (rfl) (lw_loads_b' [_, _, _, _] tabOk rfl rfl rfl h11 rfl rfl rfl (lw_on rfl rfl rfl (rfl) ?_)))))))))); refine cC (by kernel_rfl) rfl (HE.out _ (by assumption) (by assumption)) rfl ?_; rintro _ w22 ⟨⟨⟩, x21⟩; have z23 := x21.size; replace h11 := h11.ext x21; replace h4 := h4.ext x21; replace X := X.ext x21; replace hv := hv.ext x21; replace hq := hq.ext x21; replace hmm := Nd.sits.ext hmm x21; replace hv' := VDs.ext hv' x21; replace hq' := PDs.ext hq' x21; replace hmm' := Nd.sits.ext hmm' x21; clear x21; refine lw_pure (pur_pick_t rfl rfl rfl) rfl (cA rfl rfl (cT (cw_ret (qw_ret1 rfl rfl ?_)))); rotate_left 1
 exact ⟨rfl, X⟩
end Bk
namespace Bk
open Go
theorem few_ok {g : PG} (h : g.ok = true) : g.few := by
 simp only [PG.ok, Bool.and_eq_true, decide_eq_true_eq] at h; obtain ⟨⟨⟨⟨h1, h2⟩, -⟩, h4⟩, h5⟩ := h; obtain ⟨-, -, b3⟩ := body_facts h5; refine ⟨by omega, by omega, by omega, fun p hp => ?_⟩; have hpo := List.all_eq_true.1 h4 p hp; simp only [PD.ok, Bool.and_eq_true, decide_eq_true_eq] at hpo; obtain ⟨-, -, c3⟩ := body_facts hpo.2
 exact ⟨by omega, by omega⟩
end Bk
namespace Bk
open Go Go.RowKit Go.Proofs
attribute [local irreducible] Go.Calls
def joinNd (t u : Nd) : Nd := .mk 57 0 [] (t.kids ++ u.kids)
theorem Tabs5.fr {S : Nat → Prop} {w w' : World} (h : Tabs5 w) (x : Fr S w w') (hs : ∀ k, S k → Tryz.prog.globals.size ≤ k) : Tabs5 w' :=
 ⟨h.t.below (B := Tryz.prog.globals.size) ⟨x.os, x.tape, x.output, x.size, fun k hk => x.block k (Nat.lt_of_lt_of_le hk h.g) (fun hS => by have := hs k hS; omega)⟩ (Nat.le_refl _), Nat.le_trans h.g x.size⟩
end Bk
namespace Bk
open Go Go.RowKit Go.Proofs
theorem Row.below {B : Nat} {w w' : World} {p : Addr} {vs : List Value} (h : Row w p vs) (x : Below B w w') (hb : p.block < B) : Row w' p vs := fun i v hi => by
 rw [Below.cell x (by rw [add_block]; exact hb)]; exact h i v hi
theorem VDs.below {B : Nat} {w w' : World} {l : List VD} {a : Option Addr} (h : VDs (· < B) w l a) (x : Below B w w') : VDs (· < B) w' l a := h.mono (fun _ h => h) (fun _ _ _ _ hb h => Row.below h x hb)
theorem sits.below {B : Nat} {w w' : World} {t : Nd} {a : Option Addr} (h : t.sits (· < B) w a) (x : Below B w w') : t.sits (· < B) w' a :=
 Nd.sits_mono (fun _ h => h) (fun b o _ hb hc => (Below.cell (p := ⟨b, o, none⟩) x hb).trans hc) t a h
theorem PDs.below {B : Nat} {w w' : World} {l : List PD} {a : Option Addr} (h : PDs (· < B) w l a) (x : Below B w w') : PDs (· < B) w' l a :=
 h.mono (fun _ h => h) (fun _ _ _ _ hb ⟨pa, pc, ba, bc, h1, h2, h3⟩ => ⟨pa, pc, ba, bc, Row.below h1 x hb, h2.below x, sits.below h3 x⟩)
theorem PG.sits.below {B : Nat} {w w' : World} {g : PG} {va pa ma : Option Addr} (h : g.sits (· < B) w va pa ma) (x : Below B w w') : g.sits (· < B) w' va pa ma := ⟨h.vars.below x, h.procs.below x, Bk.sits.below h.main x⟩
theorem VDs.lt {S : Nat → Prop} {w : World} {l : List VD} {a : Option Addr} (h : VDs S w l a) : VDs (· < w.heap.size) w l a := by
 rcases h with h | ⟨b, o, h1, h2, h3⟩
 · exact Or.inl h
 · cases l with
   | nil => exact Or.inl rfl
   | cons v r => exact Or.inr ⟨b, o, h1, cell_lt (Row.at0 (h3 0 v rfl) rfl), h3⟩
theorem PDs.lt {S : Nat → Prop} {w : World} {l : List PD} {a : Option Addr} (h : PDs S w l a) : PDs (· < w.heap.size) w l a := by
 rcases h with h | ⟨b, o, h1, h2, h3⟩
 · exact Or.inl h
 · cases l with
   | nil => exact Or.inl rfl
   | cons v r =>
    obtain ⟨pa, pc, ba, bc, r1, -, -⟩ := h3 0 v rfl; refine Or.inr ⟨b, o, h1, cell_lt (Row.at0 r1 rfl), fun i x hx => ?_⟩; obtain ⟨pa, pc, ba, bc, r1, r2, r3⟩ := h3 i x hx
    exact ⟨pa, pc, ba, bc, r1, r2.lt, sits_lt _ _ r3⟩
theorem PG.sits.lt {S : Nat → Prop} {w : World} {g : PG} {va pa ma : Option Addr} (h : g.sits S w va pa ma) : g.sits (· < w.heap.size) w va pa ma := ⟨h.vars.lt, h.procs.lt, sits_lt _ _ h.main⟩
theorem TB.fb {w w' : World} {k B b : Nat} {vs : List Value} {T : TypeId} (h : TB w k vs T) (x : Fb B b w w') (hb : k ≠ b) (hT : T ≠ 5) : TB w' k vs T :=
 (Box.fb (cs := vs.toArray) ⟨h⟩ x hb hT).heap
theorem Bld.ofTB {w : World} {B b : Nat} (h : TB w b [.pointer none, .slice none 0 0] 57) (hB : B ≤ b) : Bld B b [] w :=
 ⟨.inl ⟨hB, .slice none 0 0, h, ⟨rfl, .inl ⟨rfl, rfl⟩⟩, by simp [Value.ownBlock]⟩, by have := h.blk.lt; omega⟩
set_option maxRecDepth 100000 in
set_option maxHeartbeats 1000000 in
theorem decl_c (v : VD) (hok : v.ok = true) (B b : Nat) (l : List UInt8) (w : World) (h : Bld B b l w) (ht : Tabs w) (hg : Tryz.prog.globals.size ≤ B) (hlen : l.length + v.text.length ≤ 140737488355328) :
 Calls Tryz.prog 44 #[.pointer (some ⟨b, 0, none⟩), v.val] w fun e w' => e = .returned (.tuple #[]) ∧ Bld B b (l ++ v.text) w' ∧ Fb B b w w' := by
 have hle := h.le; simp only [VD.ok, Bool.and_eq_true] at hok; have h2 := hok.2; refine calls_in Tryz.func44 Tryz.ntmps44 rfl rfl ?_; (refine cw_seq ?_; refine cw_region ?_); refine lw_boxT rfl rfl rfl ?_; intro b1 w1 hn1 t1; have h1 := hn1.blk; have x1 := hn1.ext; have hb1 := h.ext x1
 by_cases c1 : v.kind = 1
 · have htx : v.text = [105, 110, 116, 32] ++ v.name := by simp [VD.text, c1]
   rw [htx] at hlen ⊢; (refine lw_nil ?_; refine qw_then ?_; refine cw_seq ?_; refine cw_region ?_; (refine lw_is ?_; refine lw_pure (by exact pur_fieldAddr tabOk rfl rfl rfl) rfl ?_); (refine lw_is ?_; refine lw_pure (by exact pur_load tabOk rfl rfl rfl (by exact fun wz hz => by (try subst hz); exact (Blk.cell (by assumption) (by rfl)))) rfl ?_); refine lw_nil ?_; refine qw_then ?_; refine cw_block ?_; refine cw_seq ?_; refine cw_region ?_; (refine lw_is ?_; refine lw_pure (by exact pur_eql rfl rfl) rfl ?_); (refine lw_is ?_; refine lw_pure (by exact pur_assign rfl) rfl ?_); refine lw_nil ?_; refine qw_then ?_; (refine cw_is ?_; refine cw_yes rfl (by assumption) ?_); refine cw_region ?_; (refine lw_is ?_; refine lw_pure (by exact pur_move rfl) rfl ?_); (refine lw_is ?_; refine lw_pure (by exact pur_fieldAddr0 tabOk rfl rfl rfl) rfl ?_); (refine lw_is ?_; refine lw_pure (by exact pur_load tabOk rfl rfl rfl (by exact fun wz hz => by (try subst hz); exact (Blk.cell (by assumption) (by rfl)))) rfl ?_)); refine lw_does (does_slice tabOk zOk rfl rfl rfl rfl rfl rfl rfl rfl) rfl ?_ (fun _ h => h); rintro _ w2 ⟨b2, rfl, hn2, hh2⟩; refine cC (by kernel_rfl) rfl (write_c B b b2 2 l [[105, 110, 116, 32], v.name] _ (hb1.ext hn2.ext) ⟨hh2⟩ (by simp) (by simpa using hlen)) rfl ?_; rintro _ w3 ⟨⟨⟩, hb3, f3⟩; (refine lw_nil ?_; refine qw_block_norm ?_)
   exact qw_end0 rfl ⟨rfl, by simpa using hb3, (Fb.of_ext (x1.trans hn2.ext) hle).trans f3⟩
 by_cases c3 : v.kind = 3
 · have htx : v.text = [115, 116, 97, 99, 107, 32] ++ v.name := by simp [VD.text, c3]
   rw [htx] at hlen ⊢; (refine lw_nil ?_; refine qw_then ?_; refine cw_seq ?_; refine cw_region ?_; (refine lw_is ?_; refine lw_pure (by exact pur_fieldAddr tabOk rfl rfl rfl) rfl ?_); (refine lw_is ?_; refine lw_pure (by exact pur_load tabOk rfl rfl rfl (by exact fun wz hz => by (try subst hz); exact (Blk.cell (by assumption) (by rfl)))) rfl ?_); refine lw_nil ?_; refine qw_then ?_; refine cw_block ?_; refine cw_seq ?_; refine cw_region ?_; (refine lw_is ?_; refine lw_pure (by exact pur_eql rfl rfl) rfl ?_); (refine lw_is ?_; refine lw_pure (by exact pur_assign rfl) rfl ?_); refine lw_nil ?_; refine qw_then ?_; (refine cw_is ?_; refine cw_no rfl (by assumption) ?_); refine cw_seq ?_; refine cw_region ?_; (refine lw_is ?_; refine lw_pure (by exact pur_eql rfl rfl) rfl ?_); (refine lw_is ?_; refine lw_pure (by exact pur_assign rfl) rfl ?_); refine lw_nil ?_; refine qw_then ?_; (refine cw_is ?_; refine cw_yes rfl (by assumption) ?_); refine cw_region ?_; (refine lw_is ?_; refine lw_pure (by exact pur_move rfl) rfl ?_); (refine lw_is ?_; refine lw_pure (by exact pur_fieldAddr0 tabOk rfl rfl rfl) rfl ?_); (refine lw_is ?_; refine lw_pure (by exact pur_load tabOk rfl rfl rfl (by exact fun wz hz => by (try subst hz); exact (Blk.cell (by assumption) (by rfl)))) rfl ?_)); refine lw_does (does_slice tabOk zOk rfl rfl rfl rfl rfl rfl rfl rfl) rfl ?_ (fun _ h => h); rintro _ w2 ⟨b2, rfl, hn2, hh2⟩; refine cC (by kernel_rfl) rfl (write_c B b b2 2 l [[115, 116, 97, 99, 107, 32], v.name] _ (hb1.ext hn2.ext) ⟨hh2⟩ (by simp) (by simpa using hlen)) rfl ?_
   rintro _ w3 ⟨⟨⟩, hb3, f3⟩; (refine lw_nil ?_; refine qw_block_norm ?_)
   exact qw_end0 rfl ⟨rfl, by simpa using hb3, (Fb.of_ext (x1.trans hn2.ext) hle).trans f3⟩
 by_cases c2 : v.kind = 2
 · have htx : v.text = [97, 114, 114, 97, 121, 32] ++ v.name ++ [91] ++ Lib.itoa v.len ++ [93] := by simp [VD.text, c2]
   rw [htx] at hlen ⊢; rw [if_neg (by omega), if_pos c2] at h2; simp only [Bool.and_eq_true, decide_eq_true_eq] at h2; obtain ⟨hl0, hl1⟩ := h2; (refine lw_nil ?_; refine qw_then ?_; refine cw_seq ?_; refine cw_region ?_; (refine lw_is ?_; refine lw_pure (by exact pur_fieldAddr tabOk rfl rfl rfl) rfl ?_); (refine lw_is ?_; refine lw_pure (by exact pur_load tabOk rfl rfl rfl (by exact fun wz hz => by (try subst hz); exact (Blk.cell (by assumption) (by rfl)))) rfl ?_); refine lw_nil ?_; refine qw_then ?_; refine cw_block ?_; refine cw_seq ?_; refine cw_region ?_; (refine lw_is ?_; refine lw_pure (by exact pur_eql rfl rfl) rfl ?_); (refine lw_is ?_; refine lw_pure (by exact pur_assign rfl) rfl ?_); refine lw_nil ?_; refine qw_then ?_; (refine cw_is ?_; refine cw_no rfl (by assumption) ?_); refine cw_seq ?_; refine cw_region ?_; (refine lw_is ?_; refine lw_pure (by exact pur_eql rfl rfl) rfl ?_); (refine lw_is ?_; refine lw_pure (by exact pur_assign rfl) rfl ?_); refine lw_nil ?_; refine qw_then ?_; (refine cw_is ?_; refine cw_no rfl (by assumption) ?_); refine cw_seq ?_; refine cw_region ?_; (refine lw_is ?_; refine lw_pure (by exact pur_eql rfl rfl) rfl ?_); (refine lw_is ?_; refine lw_pure (by exact pur_assign rfl) rfl ?_); refine lw_nil ?_; refine qw_then ?_; (refine cw_is ?_; refine cw_yes rfl (by assumption) ?_)); refine cw_draw (fun w' => Blk w' b1 v.cells) (.pure 0 (.pure 1 (.pure 2 (.pure 3 (.pure 4 (.fork 5 (.fork 6 (.fork 7 .done .none) .none) .none)))))) mixed (by kernel_rfl) (by refine panicOk_block ?_; exact panicOk_body) ?_
   intro w2 x2 _; refine ⟨h1.ext x2, ?_⟩; (refine dw_pure rfl (by exact pur_move rfl) rfl ?_; refine dw_pure rfl (by exact pur_fieldAddr0 tabOk rfl rfl rfl) rfl ?_; refine dw_pure rfl (by exact pur_load tabOk rfl rfl rfl (by exact fun wz hz => by (try subst hz); exact (Blk.cell (by assumption) (by rfl)))) rfl ?_; refine dw_pure rfl (by exact pur_fieldAddr tabOk rfl rfl rfl) rfl ?_; refine dw_pure rfl (by exact pur_load tabOk rfl rfl rfl (by exact fun wz hz => by (try subst hz); exact (Blk.cell (by assumption) (by rfl)))) rfl ?_); refine dw_does rfl (does_call (by kernel_rfl) rfl (Itoa_c v.len (by omega) (by omega) _ (ht.ext (x1.trans x2) (by omega))) (fun _ _ h => ⟨_, h.1⟩)) rfl ?_ (fun _ h => h) dw_none; rintro _ w3 ⟨⟨⟩, x3⟩; refine ⟨(h1.ext x2).ext x3, ?_⟩; refine dw_does rfl (does_slice tabOk zOk rfl rfl rfl rfl rfl rfl rfl rfl) rfl ?_ (fun _ h => h) dw_none; rintro _ w4 ⟨b4, rfl, hn4, hh4⟩; have x14 : Ext w1 w4 := (x2.trans x3).trans hn4.ext; refine ⟨h1.ext x14, ?_⟩; refine dw_does rfl (does_call (by kernel_rfl) rfl (write_c B b b4 5 l [[97, 114, 114, 97, 121, 32], v.name, [91], Lib.itoa v.len, [93]] _ (hb1.ext x14) ⟨hh4⟩ (by simp) (by simpa [Nat.add_assoc] using hlen)) (fun _ _ h => ⟨_, h.1⟩)) rfl ?_ (fun _ h => h) dw_none; rintro _ w5 ⟨⟨⟩, hb5, f5⟩; refine ⟨(TB.fb (t1.ext x14) f5 (by have := hn1.pos; have := h.lt; omega) (by decide)).blk, ?_⟩; (refine dw_done ?_); (refine qw_block_norm ?_)
   exact qw_end0 rfl ⟨rfl, by simpa using hb5, (Fb.of_ext (x1.trans x14) hle).trans f5⟩
 · rw [if_neg (by omega), if_neg c2] at h2
   cases h2
set_option maxRecDepth 100000 in
set_option maxHeartbeats 2000000 in
theorem Program_c (g : PG) (S : Nat → Prop) (va : Option Addr) (vc : Nat) (pa : Option Addr) (pc : Nat) (ma : Option Addr) (mc : Nat) (w : World) (hwf : g.wf) (ht : Tabs w) (hg : Tryz.prog.globals.size ≤ w.heap.size) (hs : g.sits S w va pa ma) :
 Calls Tryz.prog 19 #[.agg (g.cells va vc pa pc ma mc).toArray] w fun e w' => e = .returned (.tuple #[str (if g.ok then g.text else []), .int .i64 (if g.ok then 0 else 3)]) ∧ Ext w w' := by
 have hnv := hwf.nv; have hnp := hwf.np; refine calls_in Tryz.func19 Tryz.ntmps19 rfl rfl ?_; (refine cw_seq ?_; refine cw_region ?_); refine lw_boxT rfl rfl rfl ?_; intro b1 w1 hn1 t1; have h1 := hn1.blk; have x1 := hn1.ext
 ((refine lw_is ?_; refine lw_pure (by exact pur_assign rfl) rfl ?_); (refine lw_is ?_; refine lw_pure (by exact pur_assign rfl) rfl ?_); refine lw_nil ?_; refine qw_then ?_; refine cw_seq ?_; refine cw_seq ?_; refine cw_region ?_; (refine lw_is ?_; refine lw_pure (by exact pur_loads' tabOk rfl rfl rfl (by exact fun wz hz => by (try subst hz); exact (Blk.row (by assumption))) (by rfl)) rfl ?_))
 refine cC (by kernel_rfl) rfl (Valid_c g S va vc pa pc ma mc _ hwf (hs.ext x1)) rfl ?_; rintro _ w2 ⟨⟨⟩, x2⟩
 cases hok : g.ok
 · try rw [hok]
   ((refine lw_is ?_; refine lw_pure (by exact pur_not rfl) rfl ?_); refine lw_nil ?_; refine qw_then ?_; (refine cw_is ?_; refine cw_bt rfl (by rfl) ?_); refine cw_seq ?_; refine cw_region ?_; (refine lw_is ?_; refine lw_pure (by exact pur_assign rfl) rfl ?_); (refine lw_is ?_; refine lw_pure (by exact pur_assign rfl) rfl ?_); refine lw_nil ?_; refine qw_then ?_; refine cw_ret ?_; refine qw_then_ret ?_)
   refine qw_ret2 Tryz.results19 rfl rfl ?_
   exact ⟨rfl, x1.trans x2⟩
 try rw [hok]
 have hlen := PG.text_len g hwf hok; have HK := Lib.hid hok; simp only [PG.ok, Bool.and_eq_true, decide_eq_true_eq] at hok; obtain ⟨⟨⟨⟨o1, o2⟩, o3⟩, o4⟩, o5⟩ := hok; obtain ⟨m1, m2, m3⟩ := body_len g.main hwf.main o5
 have O3 := Lib.hid o3; clear o3
 have O4 := Lib.hid o4; clear o4
 simp only [PG.text, List.length_append, List.length_cons, List.length_nil] at hlen; have hs0 := hs.lt; have x12 : Ext w w2 := x1.trans x2
 ((refine lw_is ?_; refine lw_pure (by exact pur_not rfl) rfl ?_); refine lw_nil ?_; refine qw_then ?_; (refine cw_is ?_; refine cw_bf rfl (by rfl) ?_); refine cw_skip ?_; refine qw_then ?_; refine cw_seq ?_; refine cw_region ?_)
 refine lw_allocT zOk rfl rfl ?_; intro b2 w3 hn3 t3; have hb0 : Bld w.heap.size b2 [] w3 := Bld.ofTB t3 (by have := hn3.pos; have := x12.size; omega); have x13 : Ext w w3 := x12.trans hn3.ext; have t13 := (t1.ext x2).ext hn3.ext
 have hne : b1 ≠ b2 := by have := hn3.pos; have := (t1.ext x2).blk.lt; omega
 have b1p := hn1.pos; have b2p := hn3.pos; have x12s := x12.size; have h13 := t13.blk
 generalize hB : w.heap.size = B at *
 have HB := Lib.hid hB; clear hB
 have y13 : Below B w w3 := HB.out ▸ x13; have f3r := Fb.refl B b2 w3; clear hn1 hn3 t1 h1; (refine lw_nil ?_; refine qw_then ?_; refine cw_seq ?_; refine cw_seq ?_; refine cw_region ?_; (refine lw_is ?_; refine lw_pure (by exact pur_fieldAddr0 tabOk rfl rfl rfl) rfl ?_); (refine lw_is ?_; refine lw_pure (by exact pur_load tabOk rfl rfl rfl (by exact fun wz hz => by (try subst hz); exact (Blk.cell (by assumption) (by rfl)))) rfl ?_); (refine lw_is ?_; refine lw_pure (by exact pur_len_slice tabOk rfl rfl) rfl ?_); (refine lw_is ?_; refine lw_pure (by exact pur_move rfl) rfl ?_); refine lw_nil ?_; refine qw_then ?_; refine cw_block ?_); refine cw_loop (ι := Nat) (fun j => [(17, .int .i64 j), (16, .int .i64 g.vars.length), (15, .slice va g.vars.length vc), (4, .pointer (some ⟨b2, 0, none⟩)), (1, .pointer (some ⟨b1, 0, none⟩))]) (fun j w' => Fb B b2 w3 w' ∧ Bld B b2 (cat VD.line (g.vars.take j)) w' ∧ j ≤ g.vars.length) (fun j => g.vars.length - j) 0 (by (refine sub_cons rfl ?_; refine sub_cons rfl ?_; refine sub_cons rfl ?_; refine sub_cons rfl ?_; refine sub_cons rfl ?_; exact sub_nil)) ⟨f3r, hb0, by omega⟩ ?_; rintro j w4 ⟨f4, hb4, hj⟩; have t4 := t13.fb f4 hne (by decide); have h4 := t4.blk; have y4 : Below B w w4 := y13.trans f4.below; have hcl := cat_le VD.line g.vars j
 by_cases hlt : j < g.vars.length
 · obtain ⟨kb, ko, rfl, -, hkid⟩ := Arr.get (hs0.vars.below y4) (by omega)
   have rx : Row w4 ⟨kb, ko + j * 3, none⟩ g.vars[j].cells := hkid j g.vars[j] (List.getElem?_eq_getElem hlt)
   have hvo : g.vars[j].ok = true := by have := O3.out; unfold allOk at this; exact List.all_eq_true.1 this _ (List.getElem_mem hlt)
   have hcs := cat_snoc VD.line g.vars j hlt; have hc2 := cat_le VD.line g.vars (j + 1); rw [hcs] at hc2; simp only [VD.line, List.length_append, List.length_cons, List.length_nil] at hc2 hcs hcl; have HC := Lib.hid hcs; clear hcs hkid
   generalize g.vars[j] = v at *
   (refine cw_seq ?_; refine cw_region ?_; (refine lw_is ?_; refine lw_pure (by exact pur_lss rfl rfl) rfl ?_); refine lw_nil ?_; refine qw_then ?_; refine cw_seq ?_; (refine cw_is ?_; refine cw_yes rfl (by omega) ?_); refine cw_skip ?_; refine qw_then ?_; refine cw_seq ?_; refine cw_block ?_; refine cw_seq ?_; refine cw_region ?_; (refine lw_is ?_; refine lw_pure (by exact pur_indexAddr tabOk rfl rfl rfl rfl (by omega) (by omega)) rfl ?_); (refine lw_is ?_; refine lw_pure (by exact pur_loads' tabOk rfl rfl rfl (by exact fun wz hz => by (try subst hz); exact (by assumption)) (by rfl)) rfl ?_)); refine lw_alloc zOk rfl rfl ?_; intro b5 w5 hn5; refine lw_init tabOk rfl rfl rfl rfl rfl rfl (hn5) rfl ?_; clear hn5 w5; intro w5 hn5; have h5 := hn5.blk; have x5 := hn5.ext; (refine lw_nil ?_; refine qw_then ?_; refine cw_seq ?_; refine cw_region ?_; (refine lw_is ?_; refine lw_pure (by exact pur_loads' tabOk rfl rfl rfl (by exact fun wz hz => by (try subst hz); exact (Blk.row (by assumption))) (by rfl)) rfl ?_)); refine cC (by kernel_rfl) rfl (decl_c v hvo B b2 _ _ (hb4.ext x5) (ht.below (y4.trans (Below.mono x5 hb4.le)) (by omega)) (by omega) (by simp only at *; omega)) rfl ?_; rintro _ w6 ⟨⟨⟩, hb6, f6⟩; (refine lw_nil ?_; refine qw_then ?_; refine cw_region ?_); refine lw_does (does_slice tabOk zOk rfl rfl rfl rfl rfl rfl rfl rfl) rfl ?_ (fun _ h => h); rintro _ w7 ⟨b7, rfl, hn7, hh7⟩; refine cC (by kernel_rfl) rfl (write_c B b2 b7 1 _ [[10]] _ (hb6.ext hn7.ext) ⟨hh7⟩ (by simp) (by simp only [List.flatten_cons, List.flatten_nil, List.length_append, List.length_cons, List.length_nil] at *; omega)) rfl ?_
   rintro _ w8 ⟨⟨⟩, hb8, f8⟩; (refine lw_nil ?_; refine qw_block_norm ?_; refine qw_then ?_; refine cw_region ?_; (refine lw_is ?_; refine lw_pure (by exact pur_add rfl rfl (IntWalk.i64_in _ (by omega))) rfl ?_); (refine lw_is ?_; refine lw_pure (by exact pur_move rfl) rfl ?_); refine lw_nil ?_); refine qw_round (j + 1) (by (refine sub_cons rfl ?_; refine sub_cons rfl ?_; refine sub_cons rfl ?_; refine sub_cons rfl ?_; refine sub_cons rfl ?_; exact sub_nil)) ⟨(f4.trans (Fb.of_ext x5 hb4.le)).trans (f6.trans ((Fb.of_ext hn7.ext hb6.le).trans f8)), ?_, by omega⟩ (by omega); rw [HC.out]
   simpa using hb8
 obtain rfl : j = g.vars.length := by omega
 simp only [List.take_length] at hcl hb4; clear hj; (refine cw_seq ?_; refine cw_region ?_; (refine lw_is ?_; refine lw_pure (by exact pur_lss rfl rfl) rfl ?_); refine lw_nil ?_; refine qw_then ?_; refine cw_seq ?_; (refine cw_is ?_; refine cw_no rfl (by omega) ?_); refine cw_exit ?_; refine qw_then_exit ?_; refine qw_then_exit ?_; refine qw_block_exit ?_; refine qw_then ?_; refine cw_seq ?_; refine cw_seq ?_; refine cw_region ?_; (refine lw_is ?_; refine lw_pure (by exact pur_fieldAddr tabOk rfl rfl rfl) rfl ?_); (refine lw_is ?_; refine lw_pure (by exact pur_load tabOk rfl rfl rfl (by exact fun wz hz => by (try subst hz); exact (Blk.cell (by assumption) (by rfl)))) rfl ?_); (refine lw_is ?_; refine lw_pure (by exact pur_len_slice tabOk rfl rfl) rfl ?_); (refine lw_is ?_; refine lw_pure (by exact pur_move rfl) rfl ?_); refine lw_nil ?_; refine qw_then ?_; refine cw_block ?_); have f4r := Fb.refl B b2 w4; have t4' := t4; refine cw_loop (ι := Nat) (fun j => [(29, .int .i64 j), (28, .int .i64 g.procs.length), (27, .slice pa g.procs.length pc), (4, .pointer (some ⟨b2, 0, none⟩)), (1, .pointer (some ⟨b1, 0, none⟩))]) (fun j w' => Fb B b2 w4 w' ∧ Bld B b2 (cat VD.line g.vars ++ cat PD.text (g.procs.take j)) w' ∧ j ≤ g.procs.length) (fun j => g.procs.length - j) 0 (by (refine sub_cons rfl ?_; refine sub_cons rfl ?_; refine sub_cons rfl ?_; refine sub_cons rfl ?_; refine sub_cons rfl ?_; exact sub_nil)) ⟨f4r, by simpa [cat] using hb4, by omega⟩ ?_; rintro j w5 ⟨f5, hb5, hj⟩; have t5 := t4'.fb f5 hne (by decide)
 have h5 := t5.blk; have y5 : Below B w w5 := y4.trans f5.below; have hpl := cat_le PD.text g.procs j
 by_cases hlt2 : j < g.procs.length
 · obtain ⟨kb, ko, rfl, -, hkid⟩ := Arr.get (hs0.procs.below y5) (by omega)
   obtain ⟨qa, qc, ba, bc, rx, sv, sb⟩ := hkid j g.procs[j] (List.getElem?_eq_getElem hlt2); have hpo : g.procs[j].ok = true := List.all_eq_true.1 O4.out _ (List.getElem_mem hlt2); have hpw := hwf.procs g.procs[j] (List.getElem_mem hlt2); have hcs := cat_snoc PD.text g.procs j hlt2; have hc2 := cat_le PD.text g.procs (j + 1); rw [hcs] at hc2; have HC := Lib.hid hcs; clear hcs hkid
   generalize g.procs[j] = p at *
   simp only [PD.ok, Bool.and_eq_true, decide_eq_true_eq] at hpo; obtain ⟨⟨⟨q1, q2⟩, q3⟩, q4⟩ := hpo; obtain ⟨n1, n2, n3⟩ := body_len p.body hpw.body q4; have hpn := hpw.len
   have Q3 := Lib.hid q3; clear q3
   simp only [PD.text, List.length_append, List.length_cons, List.length_nil] at hc2; (refine cw_seq ?_; refine cw_region ?_; (refine lw_is ?_; refine lw_pure (by exact pur_lss rfl rfl) rfl ?_); refine lw_nil ?_; refine qw_then ?_; refine cw_seq ?_; (refine cw_is ?_; refine cw_yes rfl (by omega) ?_); refine cw_skip ?_; refine qw_then ?_; refine cw_seq ?_; refine cw_block ?_; refine cw_seq ?_; refine cw_region ?_; (refine lw_is ?_; refine lw_pure (by exact pur_indexAddr tabOk rfl rfl rfl rfl (by omega) (by omega)) rfl ?_); (refine lw_is ?_; refine lw_pure (by exact pur_loads' tabOk rfl rfl rfl (by exact fun wz hz => by (try subst hz); exact (by assumption)) (by rfl)) rfl ?_)); refine lw_allocT zOk rfl rfl ?_; intro b6 w6 hn6 t6; refine lw_initT tabOk rfl rfl rfl rfl rfl rfl hn6 t6 rfl ?_; clear hn6 t6 w6; intro w6 hn6 t6; have h6 := hn6.blk; have x6 := hn6.ext
   have ne6 : b6 ≠ b2 := by have := hn6.pos; have := hb5.lt; omega
   (refine lw_nil ?_; refine qw_then ?_; refine cw_seq ?_; refine cw_region ?_; (refine lw_is ?_; refine lw_pure (by exact pur_fieldAddr0 tabOk rfl rfl rfl) rfl ?_); (refine lw_is ?_; refine lw_pure (by exact pur_load tabOk rfl rfl rfl (by exact fun wz hz => by (try subst hz); exact (Blk.cell (by assumption) (by rfl)))) rfl ?_)); refine lw_does (does_slice tabOk zOk rfl rfl rfl rfl rfl rfl rfl rfl) rfl ?_ (fun _ h => h); rintro _ w7 ⟨b7, rfl, hn7, hh7⟩; refine cC (by kernel_rfl) rfl (write_c B b2 b7 3 _ [[112, 114, 111, 99, 32], p.name, [40]] _ ((hb5.ext x6).ext hn7.ext) ⟨hh7⟩ (by simp) (by simp only [List.flatten_cons, List.flatten_nil, List.length_append, List.length_cons, List.length_nil]; omega)) rfl ?_; rintro _ w8 ⟨⟨⟩, hb8, f8⟩; have f58 : Fb B b2 w5 w8 := (Fb.of_ext (x6.trans hn7.ext) hb5.le).trans f8; have t8 := (t6.ext hn7.ext).fb f8 ne6 (by decide); have h8 := t8.blk
   have hb8' : Bld B b2 (cat VD.line g.vars ++ cat PD.text (g.procs.take j) ++ [112, 114, 111, 99, 32] ++ p.name ++ [40]) w8 := by simpa using hb8
   clear hb8 hn7 hh7 hn6; (refine lw_nil ?_; refine qw_then ?_; refine cw_seq ?_; refine cw_seq ?_; refine cw_region ?_; (refine lw_is ?_; refine lw_pure (by exact pur_fieldAddr tabOk rfl rfl rfl) rfl ?_); (refine lw_is ?_; refine lw_pure (by exact pur_load tabOk rfl rfl rfl (by exact fun wz hz => by (try subst hz); exact (Blk.cell (by assumption) (by rfl)))) rfl ?_); (refine lw_is ?_; refine lw_pure (by exact pur_len_slice tabOk rfl rfl) rfl ?_); (refine lw_is ?_; refine lw_pure (by exact pur_move rfl) rfl ?_); refine lw_nil ?_; refine qw_then ?_; refine cw_block ?_); have f8r := Fb.refl B b2 w8; refine cw_loop (ι := Nat) (fun i => [(40, .int .i64 i), (39, .int .i64 p.params.length), (38, .slice qa p.params.length qc), (29, .int .i64 j), (28, .int .i64 g.procs.length), (27, .slice (some ⟨kb, ko, none⟩) g.procs.length pc), (8, .pointer (some ⟨b6, 0, none⟩)), (4, .pointer (some ⟨b2, 0, none⟩)), (1, .pointer (some ⟨b1, 0, none⟩))]) (fun i w' => Fb B b2 w8 w' ∧ Bld B b2 (cat VD.line g.vars ++ cat PD.text (g.procs.take j) ++ [112, 114, 111, 99, 32] ++ p.name ++ [40] ++ commas VD.text true (p.params.take i)) w' ∧ i ≤ p.params.length) (fun i => p.params.length - i) 0 (by (refine sub_cons rfl ?_; refine sub_cons rfl ?_; refine sub_cons rfl ?_; refine sub_cons rfl ?_; refine sub_cons rfl ?_; refine sub_cons rfl ?_; refine sub_cons rfl ?_; refine sub_cons rfl ?_; refine sub_cons rfl ?_; exact sub_nil)) ⟨f8r, by simpa [commas] using hb8', by omega⟩ ?_; rintro i w9 ⟨f9, hb9, hi⟩; have t9 := t8.fb f9 ne6 (by decide)
   have h9 := t9.blk; have f59 : Fb B b2 w5 w9 := f58.trans f9; have y9 : Below B w w9 := y5.trans f59.below; have hml := commas_le VD.text p.params i
   by_cases hlt3 : i < p.params.length
   · obtain ⟨vb, vo, rfl, -, hvid⟩ := Arr.get (sv.below f59.below) (by omega)
     have rv : Row w9 ⟨vb, vo + i * 3, none⟩ p.params[i].cells := hvid i p.params[i] (List.getElem?_eq_getElem hlt3)
     have hvo : p.params[i].ok = true := by have := Q3.out; unfold allOk at this; exact List.all_eq_true.1 this _ (List.getElem_mem hlt3)
     have hms := commas_snoc VD.text p.params i hlt3; have hm2 := commas_le VD.text p.params (i + 1); rw [hms] at hm2; have HM := Lib.hid hms; clear hms hvid
     generalize p.params[i] = v at *
     (refine cw_seq ?_; refine cw_region ?_; (refine lw_is ?_; refine lw_pure (by exact pur_lss rfl rfl) rfl ?_); refine lw_nil ?_; refine qw_then ?_; refine cw_seq ?_; (refine cw_is ?_; refine cw_yes rfl (by omega) ?_); refine cw_skip ?_; refine qw_then ?_; refine cw_seq ?_; refine cw_block ?_; refine cw_seq ?_; refine cw_region ?_; (refine lw_is ?_; refine lw_pure (by exact pur_move rfl) rfl ?_); (refine lw_is ?_; refine lw_pure (by exact pur_indexAddr tabOk rfl rfl rfl rfl (by omega) (by omega)) rfl ?_); (refine lw_is ?_; refine lw_pure (by exact pur_loads' tabOk rfl rfl rfl (by exact fun wz hz => by (try subst hz); exact (by assumption)) (by rfl)) rfl ?_)); refine lw_allocT zOk rfl rfl ?_; intro b10 w10 hn10 t10
     ((refine lw_is ?_; refine lw_pure (by exact pur_assign rfl) rfl ?_))
     refine lw_initT tabOk rfl rfl rfl rfl rfl rfl hn10 t10 rfl ?_; clear hn10 t10 w10; intro w10 hn10 t10; have h10 := hn10.blk; have x10 := hn10.ext
     have ne10 : b10 ≠ b2 := by have := hn10.pos; have := hb9.lt; omega
     have hb10 := hb9.ext x10; have y10 : Below B w w10 := y9.trans (Below.mono x10 hb9.le)
     by_cases hi0 : i = 0
     · subst hi0
       simp only [if_true, List.length_append, List.length_nil] at hm2; (refine lw_nil ?_; refine qw_then ?_; refine cw_seq ?_; refine cw_seq ?_; refine cw_region ?_; (refine lw_is ?_; refine lw_pure (by exact pur_move rfl) rfl ?_); (refine lw_is ?_; refine lw_pure (by exact pur_gtr rfl rfl) rfl ?_); refine lw_nil ?_; refine qw_then ?_; (refine cw_is ?_; refine cw_no rfl (by omega) ?_); refine cw_skip ?_; refine qw_then ?_; refine cw_region ?_; (refine lw_is ?_; refine lw_pure (by exact pur_loads' tabOk rfl rfl rfl (by exact fun wz hz => by (try subst hz); exact (Blk.row (by assumption))) (by rfl)) rfl ?_)); refine cC (by kernel_rfl) rfl (decl_c v hvo B b2 _ _ hb10 (ht.below y10 (by omega)) (by omega) (by simp only [List.length_append, List.length_cons, List.length_nil]; omega)) rfl ?_; rintro _ w11 ⟨⟨⟩, hb11, f11⟩; (refine lw_nil ?_; refine qw_block_norm ?_; refine qw_then ?_; refine cw_region ?_; (refine lw_is ?_; refine lw_pure (by exact pur_add rfl rfl (IntWalk.i64_in _ (by omega))) rfl ?_); (refine lw_is ?_; refine lw_pure (by exact pur_move rfl) rfl ?_); refine lw_nil ?_); refine qw_round (1 : Nat) (by (refine sub_cons rfl ?_; refine sub_cons rfl ?_; refine sub_cons rfl ?_; refine sub_cons rfl ?_; refine sub_cons rfl ?_; refine sub_cons rfl ?_; refine sub_cons rfl ?_; refine sub_cons rfl ?_; refine sub_cons rfl ?_; exact sub_nil)) ⟨f9.trans ((Fb.of_ext x10 hb9.le).trans f11), ?_, by omega⟩ (by simp; omega)
       rw [HM.out]; simpa using hb11
     · simp only [if_neg hi0, List.length_append, List.length_cons, List.length_nil] at hm2
       (refine lw_nil ?_; refine qw_then ?_; refine cw_seq ?_; refine cw_seq ?_; refine cw_region ?_; (refine lw_is ?_; refine lw_pure (by exact pur_move rfl) rfl ?_); (refine lw_is ?_; refine lw_pure (by exact pur_gtr rfl rfl) rfl ?_); refine lw_nil ?_; refine qw_then ?_; (refine cw_is ?_; refine cw_yes rfl (by omega) ?_); refine cw_region ?_); refine lw_does (does_slice tabOk zOk rfl rfl rfl rfl rfl rfl rfl rfl) rfl ?_ (fun _ h => h); rintro _ w11 ⟨b11, rfl, hn11, hh11⟩; refine cC (by kernel_rfl) rfl (write_c B b2 b11 1 _ [[44, 32]] _ (hb10.ext hn11.ext) ⟨hh11⟩ (by simp) (by simp only [List.flatten_cons, List.flatten_nil, List.length_append, List.length_cons, List.length_nil]; omega)) rfl ?_; rintro _ w12 ⟨⟨⟩, hb12, f12⟩; have t12 := (t10.ext hn11.ext).fb f12 ne10 (by decide); have h12 := t12.blk; have y12 : Below B w w12 := y10.trans ((Below.mono hn11.ext hb10.le).trans f12.below); (refine lw_nil ?_; refine qw_then ?_; refine cw_region ?_; (refine lw_is ?_; refine lw_pure (by exact pur_loads' tabOk rfl rfl rfl (by exact fun wz hz => by (try subst hz); exact (Blk.row (by assumption))) (by rfl)) rfl ?_)); refine cC (by kernel_rfl) rfl (decl_c v hvo B b2 _ _ hb12 (ht.below y12 (by omega)) (by omega) (by simp only [List.flatten_cons, List.flatten_nil, List.length_append, List.length_cons, List.length_nil]; omega)) rfl ?_; rintro _ w13 ⟨⟨⟩, hb13, f13⟩; (refine lw_nil ?_; refine qw_block_norm ?_; refine qw_then ?_; refine cw_region ?_; (refine lw_is ?_; refine lw_pure (by exact pur_add rfl rfl (IntWalk.i64_in _ (by omega))) rfl ?_); (refine lw_is ?_; refine lw_pure (by exact pur_move rfl) rfl ?_); refine lw_nil ?_)
       refine qw_round (i + 1) (by (refine sub_cons rfl ?_; refine sub_cons rfl ?_; refine sub_cons rfl ?_; refine sub_cons rfl ?_; refine sub_cons rfl ?_; refine sub_cons rfl ?_; refine sub_cons rfl ?_; refine sub_cons rfl ?_; refine sub_cons rfl ?_; exact sub_nil)) ⟨f9.trans ((Fb.of_ext x10 hb9.le).trans ((Fb.of_ext hn11.ext hb10.le).trans (f12.trans f13))), ?_, by omega⟩ (by omega)
       rw [HM.out]; simpa [hi0] using hb13
   · obtain rfl : i = p.params.length := by omega
     simp only [List.take_length] at hml hb9; (refine cw_seq ?_; refine cw_region ?_; (refine lw_is ?_; refine lw_pure (by exact pur_lss rfl rfl) rfl ?_); refine lw_nil ?_; refine qw_then ?_; refine cw_seq ?_; (refine cw_is ?_; refine cw_no rfl (by omega) ?_); refine cw_exit ?_; refine qw_then_exit ?_; refine qw_then_exit ?_; refine qw_block_exit ?_; refine qw_then ?_; refine cw_seq ?_; refine cw_region ?_); refine lw_does (does_slice tabOk zOk rfl rfl rfl rfl rfl rfl rfl rfl) rfl ?_ (fun _ h => h); rintro _ w10 ⟨b10, rfl, hn10, hh10⟩; refine cC (by kernel_rfl) rfl (write_c B b2 b10 1 _ [[41]] _ (hb9.ext hn10.ext) ⟨hh10⟩ (by simp) (by simp only [List.flatten_cons, List.flatten_nil, List.length_append, List.length_cons, List.length_nil]; omega)) rfl ?_; rintro _ w11 ⟨⟨⟩, hb11, f11⟩; have t11 := (t9.ext hn10.ext).fb f11 ne6 (by decide); have h11 := t11.blk; have f511 : Fb B b2 w5 w11 := f59.trans ((Fb.of_ext hn10.ext hb9.le).trans f11); have y11 : Below B w w11 := y5.trans f511.below; have hbl := bracesT_len p.body 0; simp only [Nat.zero_add] at hbl; (refine lw_nil ?_; refine qw_then ?_; refine cw_seq ?_; refine cw_region ?_; (refine lw_is ?_; refine lw_pure (by exact pur_fieldAddr tabOk rfl rfl rfl) rfl ?_); (refine lw_is ?_; refine lw_pure (by exact pur_loads_blk tabOk rfl rfl rfl (by exact fun wz hz => by (try subst hz); exact (by assumption)) (by rfl)) rfl ?_)); refine cC (by kernel_rfl) rfl (braces_c p.body (block_t p.body hpw.body n2) B b2 _ _ ba bc 0 hb11 (ht.below y11 (by omega)) (by omega) (sits.below sb f511.below) (by omega) (by simp only [List.flatten_cons, List.flatten_nil, List.length_append, List.length_cons, List.length_nil] at *; omega)) rfl ?_
     rintro _ w12 ⟨⟨⟩, hb12, f12⟩; (refine lw_nil ?_; refine qw_then ?_; refine cw_region ?_); refine lw_does (does_slice tabOk zOk rfl rfl rfl rfl rfl rfl rfl rfl) rfl ?_ (fun _ h => h); rintro _ w13 ⟨b13, rfl, hn13, hh13⟩; refine cC (by kernel_rfl) rfl (write_c B b2 b13 1 _ [[10]] _ (hb12.ext hn13.ext) ⟨hh13⟩ (by simp) (by simp only [List.flatten_cons, List.flatten_nil, List.length_append, List.length_cons, List.length_nil] at *; omega)) rfl ?_; rintro _ w14 ⟨⟨⟩, hb14, f14⟩; (refine lw_nil ?_; refine qw_block_norm ?_; refine qw_then ?_; refine cw_region ?_; (refine lw_is ?_; refine lw_pure (by exact pur_add rfl rfl (IntWalk.i64_in _ (by omega))) rfl ?_); (refine lw_is ?_; refine lw_pure (by exact pur_move rfl) rfl ?_); refine lw_nil ?_); refine qw_round (j + 1) (by (refine sub_cons rfl ?_; refine sub_cons rfl ?_; refine sub_cons rfl ?_; refine sub_cons rfl ?_; refine sub_cons rfl ?_; exact sub_nil)) ⟨f5.trans (f511.trans (f12.trans ((Fb.of_ext hn13.ext hb12.le).trans f14))), ?_, by omega⟩ (by omega)
     rw [HC.out]; simpa [PD.text, bracesT, tabT] using hb14
 · obtain rfl : j = g.procs.length := by omega
   simp only [List.take_length] at hpl hb5; (refine cw_seq ?_; refine cw_region ?_; (refine lw_is ?_; refine lw_pure (by exact pur_lss rfl rfl) rfl ?_); refine lw_nil ?_; refine qw_then ?_; refine cw_seq ?_; (refine cw_is ?_; refine cw_no rfl (by omega) ?_); refine cw_exit ?_; refine qw_then_exit ?_; refine qw_then_exit ?_; refine qw_block_exit ?_; refine qw_then ?_; refine cw_seq ?_; refine cw_region ?_); refine lw_does (does_slice tabOk zOk rfl rfl rfl rfl rfl rfl rfl rfl) rfl ?_ (fun _ h => h); rintro _ w6 ⟨b6, rfl, hn6, hh6⟩; refine cC (by kernel_rfl) rfl (write_c B b2 b6 1 _ [[109, 97, 105, 110]] _ (hb5.ext hn6.ext) ⟨hh6⟩ (by simp) (by simp only [List.flatten_cons, List.flatten_nil, List.length_append, List.length_cons, List.length_nil]; omega)) rfl ?_; rintro _ w7 ⟨⟨⟩, hb7, f7⟩; have f57 : Fb B b2 w5 w7 := (Fb.of_ext hn6.ext hb5.le).trans f7; have t7 := t5.fb f57 hne (by decide); have h7 := t7.blk; have y7 : Below B w w7 := y5.trans f57.below; have hbl := bracesT_len g.main 0; simp only [Nat.zero_add] at hbl; (refine lw_nil ?_; refine qw_then ?_; refine cw_seq ?_; refine cw_region ?_; (refine lw_is ?_; refine lw_pure (by exact pur_fieldAddr tabOk rfl rfl rfl) rfl ?_); (refine lw_is ?_; refine lw_pure (by exact pur_loads_blk tabOk rfl rfl rfl (by exact fun wz hz => by (try subst hz); exact (by assumption)) (by rfl)) rfl ?_)); refine cC (by kernel_rfl) rfl (braces_c g.main (block_t g.main hwf.main m2) B b2 _ _ ma mc 0 hb7 (ht.below y7 (by omega)) (by omega) (sits.below hs0.main y7) (by omega) (by simp only [List.flatten_cons, List.flatten_nil, List.length_append, List.length_cons, List.length_nil] at *; omega)) rfl ?_
   rintro _ w8 ⟨⟨⟩, hb8, f8⟩; (refine lw_nil ?_; refine qw_then ?_; refine cw_seq ?_; refine cw_region ?_); refine lw_does (does_slice tabOk zOk rfl rfl rfl rfl rfl rfl rfl rfl) rfl ?_ (fun _ h => h); rintro _ w9 ⟨b9, rfl, hn9, hh9⟩; refine cC (by kernel_rfl) rfl (write_c B b2 b9 1 _ [[10]] _ (hb8.ext hn9.ext) ⟨hh9⟩ (by simp) (by simp only [List.flatten_cons, List.flatten_nil, List.length_append, List.length_cons, List.length_nil] at *; omega)) rfl ?_; rintro _ w10 ⟨⟨⟩, hb10, f10⟩; have y10 : Below B w w10 := y7.trans (f8.below.trans ((Below.mono hn9.ext hb8.le).trans f10.below))
   have hfin : Bld B b2 g.text w10 := by simpa [PG.text, bracesT, tabT] using hb10
   clear hb10 hb8 hb7 hb5; (refine lw_nil ?_; refine qw_then ?_; refine cw_seq ?_; refine cw_region ?_; (refine lw_is ?_; refine lw_pure (by exact pur_fieldAddr0 tabOk rfl rfl rfl) rfl ?_)); refine cC (by kernel_rfl) rfl (String_any 57 B b2 g.text _ hfin.is hfin.le) rfl ?_; rintro _ w11 ⟨⟨⟩, -, f11⟩
   ((refine lw_is ?_; refine lw_pure (by exact pur_assign rfl) rfl ?_); (refine lw_is ?_; refine lw_pure (by exact pur_assign rfl) rfl ?_); refine lw_nil ?_; refine qw_then ?_; refine cw_ret ?_)
   refine qw_ret2 Tryz.results19 rfl rfl ?_; refine ⟨rfl, ?_⟩
   unfold Ext
   rw [HB.out]
   exact y10.trans f11.below
end Bk
namespace Bk
open Go Go.RowKit Go.Proofs
attribute [local irreducible] Go.Calls
theorem pProgram_v {g : PG} (hwf : g.wf) (h : g.ok = true) (S : Nat → Prop) (va : Option Addr) (vc : Nat) (pa : Option Addr) (pc : Nat) (ma : Option Addr) (mc : Nat) (w : World) (ht : Tabs5 w) (hs : g.sits S w va pa ma) :
 Calls Tryz.prog 19 #[.agg (g.cells va vc pa pc ma mc).toArray] w fun e w' => e = .returned (.tuple #[str g.text, .int .i64 0]) ∧ Ext w w' := by
 have := Program_c g S va vc pa pc ma mc w hwf ht.t ht.g hs
 rw [h] at this; exact this
end Bk
namespace Bk
open Go
theorem name_wf {m : List UInt8} (h : isName m = true) : m.length ≤ 16 := by
 simp only [isName, Bool.and_eq_true, decide_eq_true_eq] at h
 exact h.1.1.1.2
theorem G.wf {nt : Nt} {a : Txt} {x : Nd} (h : G nt a x) : match nt with
 | .cl _ y => y.wf → x.wf
 | _ => x.wf := by
 induction h with
 | ex _ _ i1 i2 => exact i2 i1
 | cl0 => exact fun h => h
 | @cl1 lv op t a b x y z h1 h2 h3 h4 h5 i3 i5 =>
  intro hx; obtain ⟨-, h8, h23, -⟩ := binOf_ne h1; refine i5 ?_
  exact ⟨by omega, by omega, by omega, by omega, by simp, by simp, hx, i3, trivial⟩
 | neg _ i => exact ⟨by omega, by omega, by omega, by omega, by simp, by simp, i, trivial⟩
 | not _ i => exact ⟨by omega, by omega, by omega, by omega, by simp, by simp, i, trivial⟩
 | num h1 h2 => exact ⟨by omega, by omega, by omega, by omega, by simp, by simp, trivial⟩
 | top h => have := name_wf h; exact ⟨by omega, by omega, by omega, by omega, by omega, by simp, trivial⟩
 | size h => have := name_wf h; exact ⟨by omega, by omega, by omega, by omega, by omega, by simp, trivial⟩
 | par _ i => exact i
 | place _ i => exact i
 | var h => have := name_wf h; exact ⟨by omega, by omega, by omega, by omega, by omega, by simp, trivial⟩
 | item h _ i => have := name_wf h; exact ⟨by omega, by omega, by omega, by omega, by omega, by simp, i, trivial⟩
theorem row_var_wf (l : Txt) (h : ∀ v ∈ l, isName v = true) : rowWf (l.map varN) := by
 induction l with
 | nil => trivial
 | cons v r ih =>
  have := name_wf (h v (by simp))
  exact ⟨⟨by omega, by omega, by omega, by omega, by omega, by simp, trivial⟩, ih (fun u hu => h u (by simp [hu]))⟩
theorem upd_range (t : List UInt8) : 0 ≤ updKind t ∧ updKind t ≤ 255 := by
 unfold updKind
 split
 · decide
 split
 · decide
 split
 · decide
 split
 · decide
 · decide
theorem GS.wf {nt : NtS} {a : Txt} {l : List Nd} (h : GS nt a l) (ha : a.length ≤ 9223372036854775807) : match nt with
 | .ls => rowWf l ∧ l.length ≤ a.length
 | _ => rowWf l := by
 induction h with
 | stack h1 h2 h3 =>
  have := name_wf h3; have v := h2.wf; simp only [stackKw, List.mem_cons, Prod.mk.injEq, List.not_mem_nil, or_false] at h1
  rcases h1 with ⟨-, rfl⟩ | ⟨-, rfl⟩ <;> exact ⟨⟨by omega, by omega, by omega, by omega, by omega, by simp, v, trivial⟩, trivial⟩
 | tape h1 h2 =>
  have v := h2.wf; simp only [tapeKw, List.mem_cons, Prod.mk.injEq, List.not_mem_nil, or_false] at h1
  rcases h1 with ⟨-, rfl⟩ | ⟨-, rfl⟩ | ⟨-, rfl⟩ | ⟨-, rfl⟩ <;> exact ⟨⟨by omega, by omega, by omega, by omega, by simp, by simp, v, trivial⟩, trivial⟩
 | call0 h1 h2 =>
  have := name_wf h2; simp only [callKw, List.mem_cons, Prod.mk.injEq, List.not_mem_nil, or_false] at h1
  rcases h1 with ⟨-, rfl⟩ | ⟨-, rfl⟩ <;> exact ⟨⟨by omega, by omega, by omega, by omega, by omega, by simp, trivial⟩, trivial⟩
 | @call1 kw m u kd l h1 h2 h3 h4 h5 =>
  have := name_wf h2; have v := row_var_wf (u :: l) (fun v hv => by rcases List.mem_cons.1 hv with rfl | hv; exact h3; exact h4 v hv)
  have hl : ((u :: l).map varN).length ≤ 9223372036854775807 := by simp only [List.length_map, List.length_cons]; omega
  simp only [callKw, List.mem_cons, Prod.mk.injEq, List.not_mem_nil, or_false] at h1
  rcases h1 with ⟨-, rfl⟩ | ⟨-, rfl⟩ <;> exact ⟨⟨by omega, by omega, by omega, by omega, by omega, hl, v⟩, trivial⟩
 | branch h1 h2 h3 h4 h5 i3 i4 =>
  simp only [List.length_cons, List.length_append] at ha; have v2 := h2.wf; have v5 := h5.wf; have v3 := (i3 (by omega)).1; have v4 := (i4 (by omega)).1; simp only [branchKw, List.mem_cons, Prod.mk.injEq, List.not_mem_nil, or_false] at h1
  rcases h1 with ⟨-, rfl, -⟩ | ⟨-, rfl, -⟩ <;> exact ⟨⟨by omega, by omega, by omega, by omega, by simp, by simp, v2, v3, v4, v5, trivial⟩, trivial⟩
 | lstack h1 h2 i2 =>
  simp only [List.length_cons] at ha; have := name_wf h1
  exact ⟨⟨by omega, by omega, by omega, by omega, by omega, by simp, (i2 (by omega)).1, trivial⟩, trivial⟩
 | local_ h1 h2 h3 h4 i3 =>
  simp only [List.length_cons, List.length_append] at ha; have := name_wf h1
  exact ⟨⟨by omega, by omega, by omega, by omega, by omega, by simp, h2.wf, (i3 (by omega)).1, h4.wf, trivial⟩, trivial⟩
 | @upd t a b x y h1 h2 h3 => exact ⟨⟨(upd_range t).1, (upd_range t).2, by omega, by omega, by simp, by simp, h1.wf, h3.wf, trivial⟩, trivial⟩
 | swap h1 h2 => exact ⟨⟨by omega, by omega, by omega, by omega, by simp, by simp, h1.wf, h2.wf, trivial⟩, trivial⟩
 | bl h1 i1 =>
  simp only [List.length_cons, List.length_append, List.length_nil] at ha; obtain ⟨v, hl⟩ := i1 (by omega)
  exact ⟨⟨by omega, by omega, by omega, by omega, by simp, by omega, v⟩, trivial⟩
 | ls0 => exact ⟨trivial, Nat.le_refl _⟩
 | ls1 h1 h2 i1 i2 =>
  simp only [List.length_cons, List.length_append] at ha; obtain ⟨v, hl⟩ := i2 (by omega); refine ⟨⟨(i1 (by omega)).1, v⟩, ?_⟩
  simp only [List.length_cons, List.length_append]; omega
theorem VD.wf_ok {v : VD} (h : v.ok = true) : v.wf := by
 simp only [VD.ok, Bool.and_eq_true] at h; obtain ⟨h1, h2⟩ := h; have := name_wf h1
 split at h2
 · rename_i hk
   have : v.len = 0 := by simpa using h2
   exact ⟨by omega, by omega, by omega, by omega, by omega⟩
 · split at h2
   · simp only [Bool.and_eq_true, decide_eq_true_eq] at h2
     exact ⟨by omega, by omega, by omega, by omega, by omega⟩
   · cases h2
theorem allOk_mem {l : List VD} (h : allOk l = true) : ∀ v ∈ l, v.wf := fun v hv => VD.wf_ok (List.all_eq_true.1 h v hv)
section
variable {ts : List Tok} {n : Int}
theorem seg_len {σ σ' : PS} {a : Txt} (h : Seg ts σ σ' a) : a.length ≤ ts.length := by
 have h1 := rem_len (ts := ts) σ; have h2 : rem ts σ = a ++ rem ts σ' := h; rw [h2, List.length_append] at h1
 omega
theorem body_wf (hd : DigitKinds ts) (hl : ts.length ≤ 1000000) {k : Nat} {σ : PS} (h : σ.at_ ≤ ts.length) (hk : 4 * mS ts σ + 8 ≤ k) (he : (bodyP ts n k σ).2.err = 0) : (bodyP ts n k σ).1.wf := by
 unfold bodyP at he ⊢
 simp only at he ⊢; obtain ⟨e1, -, -⟩ := limit_ok he; obtain ⟨a, sa, ga⟩ := (stmt_sound hd k).2.2.2.1 σ h hk e1; have := seg_len sa
 exact (ga.wf (by omega)).1
theorem proc_wf (hd : DigitKinds ts) (hl : ts.length ≤ 1000000) {k : Nat} {σ : PS} (h : σ.at_ ≤ ts.length) (hk : 4 * mS ts σ + 8 ≤ k) (he : (procP ts n k σ).2.err = 0) : (procP ts n k σ).1.wf := by
 have hok := proc_ok hd h hk he; simp only [PD.ok, Bool.and_eq_true, decide_eq_true_eq] at hok; have := name_wf hok.1.1.1; refine ⟨by omega, by omega, allOk_mem hok.1.2, ?_⟩; rw [procP_at] at he ⊢; simp only at he ⊢; have l1 := expect_le (n := n) (t := [112, 114, 111, 99]) h (by decide); have l2 := name_le (n := n) l1.wf; have l3 := expect_le (n := n) (t := [40]) l2.wf (by decide); have lq := procQ_le (n := n) (k := k) l3.wf; have m := mS_le (((l1.trans l2).trans l3).trans lq)
 exact body_wf hd hl lq.wf (by omega) he
theorem procs_wf (hd : DigitKinds ts) (hl : ts.length ≤ 1000000) (k : Nat) : ∀ (acc : List PD) (σ : PS), σ.at_ ≤ ts.length → (σ.err = 0 → 4 * mS ts σ + 9 ≤ k) → (procsP ts n k acc σ).2.err = 0 → (∀ p ∈ acc, p.wf) → ∀ p ∈ (procsP ts n k acc σ).1, p.wf := by
 induction k with
 | zero => intro acc σ h hk he ha; rw [procsP]; exact ha
 | succ k ih =>
  intro acc σ h hk he ha; rw [procsP] at he ⊢
  split at he
  · rename_i hh
    rw [if_pos hh]; simp only at he ⊢; have h0 := (has_in h hh (by decide)).1; have hk0 := hk h0
    by_cases c : acc.length = 64
    · rw [if_pos c] at he
      exfalso
      have l0 := fail_le (ts := ts) h (peekP ts σ).pos 5; have l1 := procP_le (n := n) (k := k) l0.wf
      exact absurd ((l1.trans (procs_le k _ _ l1.wf)).ok he) (fail_err (by decide))
    · rw [if_neg c] at he ⊢
      have l1 := procP_le (n := n) (k := k) h; have e1 := (procs_le k (acc ++ [(procP ts n k σ).1]) _ l1.wf).ok he; have m1 := mS_dec l1 (procP_lt h) e1; refine ih _ _ l1.wf (fun _ => by omega) he (fun p hp => ?_)
      rcases List.mem_append.1 hp with hp | hp
      · exact ha p hp
      · have : p = (procP ts n k σ).1 := by simpa using hp
        rw [this]; exact proc_wf hd hl h (by omega) e1
  · rename_i hh
    rw [if_neg hh]; exact ha
theorem program_wf (hd : DigitKinds ts) (hl : ts.length ≤ 1000000) {k : Nat} {σ : PS} (h : σ.at_ ≤ ts.length) (hk : 4 * mS ts σ + 9 ≤ k) (he : (programP ts n k σ).2.err = 0) : (programP ts n k σ).1.wf := by
 obtain ⟨s1, s2, -, -⟩ := program_small h he
 unfold programP at he s1 s2 ⊢
 simp only at he s1 s2 ⊢; have l1 := vars_le (n := n) k [] σ h; have l2 := procs_le (n := n) k [] _ l1.wf; have l3 := expect_le (n := n) (t := [109, 97, 105, 110]) l2.wf (by decide); have l4 := bodyP_le (n := n) (k := k) l3.wf; have e3 := l4.ok he; have e2 := l3.ok e3; have e1 := l2.ok e2; have m1 := mS_le l1; have m3 := mS_le ((l1.trans l2).trans l3)
 exact ⟨by simp only; omega, by simp only; omega, allOk_mem (vars_ok hd k [] σ h e1 rfl), procs_wf hd hl k [] _ l1.wf (fun _ => by omega) e2 (by simp), body_wf hd hl l3.wf (by omega) he⟩
end
theorem parseProgram_wf (s : List UInt8) (hs : s.length ≤ 1000000) (he : (parseProgram s).2.2 = 0) : (parseProgram s).1.wf := by
 have hl := start_len s
 have hm : mS (startP s).1 (startP s).2 ≤ (startP s).1.length := by unfold mS; split <;> omega
 have hw : (startP s).2.at_ ≤ (startP s).1.length := Nat.zero_le _
 unfold parseProgram at he ⊢
 simp only at he ⊢
 split at he
 · rename_i h; exact absurd he h
 · rename_i h
   rw [if_neg h]
   exact program_wf (digitKinds_start s) (by omega) hw (by unfold fuelP; omega) (finish_ok (by simpa using h)).1
end Bk
