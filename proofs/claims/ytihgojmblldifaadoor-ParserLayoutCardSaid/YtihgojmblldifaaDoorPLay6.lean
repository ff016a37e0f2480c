/- Texts that the proofs of ParserCut, ParserFirst, ParserLayout need. No condition. (Part 6 of 6.) -/
import Derived.Test.YtihgojmblldifaaDoorPLay5
set_option linter.unusedSimpArgs false
set_option linter.unusedVariables false
namespace Bk
open Go
def zeroPG : PG := ⟨[], [], zeroNd⟩
def st0 : PS := ⟨0, 0, 0⟩
def endK (ts : List Tok) (n : Int) (r : PG × PS) : PG × Int × Int := if (finishP ts n r.2).err ≠ 0 then (zeroPG, (finishP ts n r.2).off, (finishP ts n r.2).err) else (r.1, 0, 0)
theorem finish_err {ts : List Tok} {n : Int} {σ : PS} (h : σ.err ≠ 0) : finishP ts n σ = σ := by
 unfold finishP
 split
 · rename_i hl; exact (unexp_le (Nat.le_of_lt hl)).err h
 · rfl
theorem finish_at {ts : List Tok} {n : Int} (σ : PS) : (finishP ts n σ).at_ = σ.at_ := by
 unfold finishP
 split
 · exact unexp_at σ
 · rfl
theorem endK_eq {ts : List Tok} {n : Int} {a b : PG × PS} (h : REq a b) : endK ts n a = endK ts n b := by
 by_cases e : a.2.err = 0
 · rw [h.same e]
 · have e' : b.2.err ≠ 0 := by rw [← h.err]; exact e
   unfold endK
   rw [finish_err e, finish_err e', h.err, h.off]
   simp [e']
theorem parse_at {s : List UInt8} {ts : List Tok} (hs : ¬ 65536 < s.length) (h : solidFrom s 0 = (ts, none)) {K : Nat} (hK : 4 * ts.length + 9 ≤ K) : parseProgram s = endK ts s.length (programP ts s.length K st0) := by
 have hst := startOk hs (by rw [h]); rw [h] at hst; simp only at hst; have hd := digitKinds_start s; have hl := start_len s; rw [hst] at hd hl; simp only at hd hl
 have hm : mS ts st0 = ts.length := by simp [mS, st0]
 have hq := program_fuel (n := s.length) hd (k := fuelP s) (k' := K) (σ := st0) (Nat.zero_le _) (by rw [hm]; unfold fuelP; omega) (by rw [hm]; omega); rw [← endK_eq hq]
 unfold parseProgram endK
 rw [hst]
 rfl
theorem parse_cut {s : List UInt8} {ts : List Tok} {i q : Nat} (hs : ¬ 65536 < s.length) (h : solidFrom s 0 = (ts, none)) (hi : i < ts.length) (hC : CutAt s 0 ts i q) (hok : (parseProgram s).2.2 = 0) : parseProgram (s.take q) = (zeroPG, (q : Int), 4) := by
 have hlen := hC.len
 have hql : (s.take q).length = q := by simp only [List.length_take]; omega
 have hus : (ts.take i).length = i := by simp only [List.length_take]; omega
 rw [parse_at hs h (K := 4 * ts.length + 9 + 1) (by omega)] at hok; rw [parse_at (by rw [hql]; omega) hC.before (K := 4 * ts.length + 9 + 1) (by rw [hus]; omega), hql]; have S := sim_cut (ts := ts) (us := ts.take i) (s.length : Int) (q : Int) (c := i) (by rw [List.take_take, Nat.min_self]) (by omega) (by omega); have hr := ge_program (4 * ts.length + 9) ts (ts.take i) s.length q i _ S st0 st0 ⟨rfl, Nat.zero_le _, Nat.zero_le _⟩; simp only at hr
 generalize programP ts s.length (4 * ts.length + 9 + 1) st0 = a at *
 generalize programP (ts.take i) q (4 * ts.length + 9 + 1) st0 = b at *
 have ha : (finishP ts s.length a.2).err = 0 := by
  unfold endK at hok
  split at hok
  · rename_i c; exact absurd hok c
  · rename_i c; simpa using c
 obtain ⟨-, ha2⟩ := finish_ok ha
 rcases hr with ⟨-, -, -, q2⟩ | hE
 · omega
 · have x := hE.x hus
   have e : b.2.err = 4 ∧ b.2.off = q := by
    rcases hE.e hus with e | e
    · exact absurd e x
    · exact e
   unfold endK
   rw [finish_err x, if_pos x, e.1, e.2]
def FormAt (ts : List Tok) (σ : PS) : Prop := σ.err = 3 → σ.at_ < ts.length ∧ σ.off = (ts.getD σ.at_ Tok.zero).pos
theorem form_fail {ts : List Tok} {σ : PS} {o e : Int} (he : e ≠ 3) (i : FormAt ts σ) : FormAt ts (failP σ o e) := by
 unfold failP
 split
 · intro h; exact absurd h he
 · exact i
theorem form_clo (ts : List Tok) (n : Int) : CloL ts n (FormAt ts) where
 next := fun σ h i e => by rw [show (nextP σ).err = σ.err from rfl, h.1] at e; cases e
 unexp := fun σ h i => by
  unfold unexpP
  split
  · rename_i hl
    unfold failP
    split
    · intro _; exact ⟨hl, rfl⟩
    · exact i
  · exact form_fail (by decide) i
 full := fun σ h i => form_fail (by decide) i
 range := fun σ h i => form_fail (by decide) (fun e => by rw [show (nextP σ).err = σ.err from rfl, h.1] at e; cases e)
 lim := fun σ x τ h i j => by
  unfold limitP
  split
  · exact j
  · split
    · exact form_fail (by decide) j
    · split
      · exact form_fail (by decide) j
      · exact j
theorem form_at {s : List UInt8} {ts : List Tok} (hs : ¬ 65536 < s.length) (h : solidFrom s 0 = (ts, none)) (he : (parseProgram s).2.2 = 3) : ∃ j, j < ts.length ∧ (parseProgram s).2.1 = (ts.getD j Tok.zero).pos ∧ (finishP ts s.length (programP ts s.length (4 * ts.length + 9) st0).2).at_ = j ∧ (finishP ts s.length (programP ts s.length (4 * ts.length + 9) st0).2).err = 3 := by
 rw [parse_at hs h (Nat.le_refl _)] at he ⊢; have C := form_clo ts s.length; have l1 := programP_le (n := s.length) (k := 4 * ts.length + 9) (σ := st0) (ts := ts) (Nat.zero_le _); have hI := C.toClo.finish l1.wf (C.program (k := 4 * ts.length + 9) (σ := st0) (Nat.zero_le _) (fun e => by cases e))
 generalize programP ts s.length (4 * ts.length + 9) st0 = a at *
 unfold endK at he ⊢
 split at he
 · rename_i c
   rw [if_pos c]; obtain ⟨h1, h2⟩ := hI he
   exact ⟨_, h1, h2, rfl, he⟩
 · cases he
theorem parse_first {s : List UInt8} {ts : List Tok} {i q : Nat} {more : List UInt8} (hs : s.length ≤ 600) (hm : more.length ≤ 600) (h : solidFrom s 0 = (ts, none)) (hi : i < ts.length) (hC : CutAt s 0 ts i q)
 (he : (parseProgram s).2.2 = 3) (hat : (parseProgram s).2.1 = (q : Int)) (hl : (lexT (s.take (q + (ts.getD i Tok.zero).text.length) ++ 10 :: more)).2.2 = 0) :
 (parseProgram (s.take (q + (ts.getD i Tok.zero).text.length) ++ 10 :: more)).2 = ((q : Int), 3) := by
 have hlen := hC.len; have hb := hC.behind; have hpos := hC.pos
 generalize hv : s.take (q + (ts.getD i Tok.zero).text.length) = v at *
 have hvl : v.length ≤ 600 := by rw [← hv]; simp only [List.length_take]; omega
 have htl : (v ++ 10 :: more).length ≤ 1201 := by simp only [List.length_append, List.length_cons]; omega
 rw [startErr (by omega)] at hl; have hth := solidFrom_then (c := 10) (Or.inl (by decide)) rfl v more v.length 0 (by omega) (by omega) (by rw [hb]); rw [hb] at hth; simp only at hth
 obtain ⟨us, hus⟩ : ∃ us, solidFrom (v ++ 10 :: more) 0 = (ts.take (i + 1) ++ us, none) := by
  rw [hth] at hl ⊢
  generalize solidFrom (v ++ 10 :: more) v.length = r at *
  obtain ⟨l, e⟩ := r
  cases e with
  | none => exact ⟨l, rfl⟩
  | some p => simp [pre] at hl
 obtain ⟨j, hj, hj1, hj2, hj3⟩ := form_at (by omega) h he; have hij : j = i := cut_inj h hj hi (by rw [← hj1, hat, hpos]); subst hij
 have hlu : (ts.take (j + 1) ++ us).length = j + 1 + us.length := by simp only [List.length_append, List.length_take]; omega
 generalize hU : ts.take (j + 1) ++ us = U at *
 have htU : ts.take (j + 1) = U.take (j + 1) := by
  rw [← hU, List.take_append_of_le_length (by simp only [List.length_take]; omega), List.take_take, Nat.min_self]
 rw [parse_at (by omega) hus (K := 4 * ts.length + 4 * U.length + 9) (by omega)]
 have hF := program_fuel (ts := ts) (n := s.length) (k := 4 * ts.length + 9) (k' := 4 * ts.length + 4 * U.length + 9) (σ := st0) (by
  have hd := digitKinds_start s; rw [startOk (by omega) (by rw [h]), h] at hd
  exact hd) (Nat.zero_le _) (by simp [mS, st0]) (by simp [mS, st0])
 have S := sim_cut (ts := ts) (us := U) (s.length : Int) ((v ++ 10 :: more).length : Int) (c := j + 1) htU (by omega) (by omega); have hr := (good_program (4 * ts.length + 4 * U.length + 9)).sim ts U s.length (v ++ 10 :: more).length (j + 1) _ S st0 st0 ⟨rfl, Nat.zero_le _, Nat.zero_le _⟩; have C := form_clo ts s.length; have l1 := programP_le (n := s.length) (k := 4 * ts.length + 4 * U.length + 9) (σ := st0) (ts := ts) (Nat.zero_le _); have hI := C.toClo.finish l1.wf (C.program (k := 4 * ts.length + 4 * U.length + 9) (σ := st0) (Nat.zero_le _) (fun e => by cases e)); have hend := endK_eq (ts := ts) (n := s.length) hF; rw [parse_at (by omega) h (Nat.le_refl _), hend] at hat he; clear hend hF hj1 hj2 hj3
 generalize programP ts s.length (4 * ts.length + 4 * U.length + 9) st0 = a at *
 generalize programP U (v ++ 10 :: more).length (4 * ts.length + 4 * U.length + 9) st0 = b at *
 have hf : (finishP ts s.length a.2).err = 3 ∧ (finishP ts s.length a.2).off = q := by
  unfold endK at he hat
  split at he
  · rename_i c; rw [if_pos c] at hat; exact ⟨he, hat⟩
  · cases he
 obtain ⟨g1, g2⟩ := hI hf.1; rw [finish_at] at g1 g2; have hja : a.2.at_ = j := cut_inj h g1 hj (by rw [← g2, hf.2, hpos])
 rcases hr with ⟨-, q1, -, -⟩ | d
 · by_cases c : a.2.err = 0
   · have hb' : finishP U (v ++ 10 :: more).length b.2 = ⟨a.2.at_, q, 3⟩ := by
      rw [← q1]
      unfold finishP unexpP failP
      rw [if_pos (by omega), if_pos (by omega), if_pos c, ← getD_take htU (by omega), hja, hpos]
     unfold endK
     rw [hb']; rfl
   · unfold endK
     rw [← q1, finish_err c]; rw [finish_err c] at hf; rw [if_pos c, hf.1, hf.2]
 · have := d.a; omega
theorem parse_lay {s t : List UInt8} {ts us : List Tok} (hs : ¬ 65536 < s.length) (ht : ¬ 65536 < t.length) (h : solidFrom s 0 = (ts, none)) (h' : solidFrom t 0 = (us, none)) (e : TokEq ts us) :
 (parseProgram s).1 = (parseProgram t).1 ∧ (parseProgram s).2.2 = (parseProgram t).2.2 := by
 have hl := e.len; rw [parse_at hs h (K := 4 * ts.length + 9) (by omega), parse_at ht h' (K := 4 * ts.length + 9) (by omega)]; have hr := (good_program (4 * ts.length + 9)).sim ts us s.length t.length (ts.length + 1) _ (sim_layout _ _ e) st0 st0 ⟨rfl, rfl, Nat.zero_le _⟩
 generalize programP ts s.length (4 * ts.length + 9) st0 = a at *
 generalize programP us t.length (4 * ts.length + 9) st0 = b at *
 rcases hr with ⟨e1, q1, q2, q3⟩ | d
 · have hf : (finishP ts s.length a.2).err = (finishP us t.length b.2).err := by
    by_cases c : a.2.err = 0
    · have cb : b.2.err = 0 := by rw [← q2]; exact c
      unfold finishP unexpP failP
      rw [q1, hl]
      by_cases hL : b.2.at_ < us.length
      · simp only [if_pos hL, if_pos c, if_pos cb]
      · simp only [if_neg hL, q2]
    · rw [finish_err c, finish_err (by rw [← q2]; exact c), q2]
   unfold endK
   rw [hf, e1]
   split <;> exact ⟨rfl, rfl⟩
 · have := d.a; have := d.w; omega
def seps : List (List UInt8) := [[32], [10], [9, 32], [35, 32, 125, 10], [32, 13, 10]]
def sepOf (b : UInt8) : List UInt8 := seps.getD (b.toNat % 5) []
def layT (f : Nat → List UInt8) : Nat → List Tok → List UInt8
 | _, [] => []
 | i, x :: r => x.text ++ f i ++ layT f (i + 1) r
structure SelfTok (x : Tok) : Prop where
 ne : x.text ≠ []
 first : firstTok x.text = (x.kind.toNat, x.text.length)
 kind : x.kind = (((firstTok x.text).1 : Nat) : Int)
 solid : (firstTok x.text).1 ≠ 4 ∧ (firstTok x.text).1 ≠ 5
theorem self_tok {s : List UInt8} {ts : List Tok} (h : solidFrom s 0 = (ts, none)) : ∀ x ∈ ts, SelfTok x := by
 intro x hx; obtain ⟨i, hi, rfl⟩ := List.mem_iff_getElem.1 hx; obtain ⟨q, C⟩ := solid_cut s s.length 0 ts (by omega) (by omega) h i hi
 have e : ts.getD i Tok.zero = ts[i] := by rw [List.getD_eq_getElem?_getD, List.getElem?_eq_getElem hi]; rfl
 have hl : ts[i].text.length ≠ 0 := by
  have := C.ne; rw [e] at this
  intro h0; exact this (List.eq_nil_of_length_eq_zero h0)
 have hf := C.first; have ht := C.text; have hk := C.kind; have hso := C.solid; rw [e] at hf ht hk
 have h2 : (firstTok (s.drop q)).2 = ts[i].text.length := by rw [hf]
 have hft : firstTok ts[i].text = firstTok (s.drop q) := by
  conv => lhs; rw [ht]
  exact firstTok_take (by omega) (by omega)
 refine ⟨by rw [← e]; exact C.ne, by rw [hft, hf], by rw [hft]; exact hk, by rw [hft]; exact hso⟩
theorem blank_step {c : UInt8} (h : blank c = true) (u : List UInt8) : solidFrom (c :: u) 0 = shR 1 (solidFrom u 0) := by
 rw [solidFrom_blank (s := c :: u) (p := 0) (by simp) h]
 exact solidFrom_cons c u 0
theorem sep_step (b : UInt8) (u : List UInt8) : solidFrom (sepOf b ++ u) 0 = shR (sepOf b).length (solidFrom u 0) := by
 have hm : b.toNat % 5 < 5 := Nat.mod_lt _ (by decide)
 unfold sepOf
 generalize b.toNat % 5 = k at *
 have hb32 : blank 32 = true := by decide
 have hb10 : blank 10 = true := by decide
 have hb9 : blank 9 = true := by decide
 have hb13 : blank 13 = true := by decide
 rcases k with _ | _ | _ | _ | _ | k
 · exact blank_step hb32 u
 · exact blank_step hb10 u
 · show solidFrom (9 :: 32 :: u) 0 = _
   rw [blank_step hb9, blank_step hb32, shR_add]; rfl
 · show solidFrom (35 :: 32 :: 125 :: 10 :: u) 0 = _
   rw [solidFrom_hash (by simp) (by rfl)]
   have e : span notLf ((35 :: 32 :: 125 :: 10 :: u : List UInt8).drop 0) = 3 := by
    have a1 : notLf 35 = true := by decide
    have a2 : notLf 32 = true := by decide
    have a3 : notLf 125 = true := by decide
    have a4 : notLf 10 = false := by decide
    simp [span, List.takeWhile_cons, a1, a2, a3, a4]
   rw [e, solidFrom_blank (by simp) (by exact hb10)]
   exact solidFrom_shift [35, 32, 125, 10] u _ 0 (Nat.le_refl _)
 · show solidFrom (32 :: 13 :: 10 :: u) 0 = _
   rw [blank_step hb32, blank_step hb13, blank_step hb10, shR_add, shR_add]; rfl
 · omega
theorem sep_head (b : UInt8) : ∃ c r, sepOf b = c :: r ∧ sepC c := by
 have hm : b.toNat % 5 < 5 := Nat.mod_lt _ (by decide)
 unfold sepOf
 generalize b.toNat % 5 = k at *
 rcases k with _ | _ | _ | _ | _ | k
 · exact ⟨_, _, rfl, Or.inl (by decide)⟩
 · exact ⟨_, _, rfl, Or.inl (by decide)⟩
 · exact ⟨_, _, rfl, Or.inl (by decide)⟩
 · exact ⟨_, _, rfl, Or.inr rfl⟩
 · exact ⟨_, _, rfl, Or.inl (by decide)⟩
 · omega
theorem sep_len (b : UInt8) : (sepOf b).length ≤ 4 := by
 have hm : b.toNat % 5 < 5 := Nat.mod_lt _ (by decide)
 unfold sepOf
 generalize b.toNat % 5 = k at *
 rcases k with _ | _ | _ | _ | _ | k
 · decide
 · decide
 · decide
 · decide
 · decide
 · omega
theorem tok_step {x : Tok} (hx : SelfTok x) {c : UInt8} (hc : sepC c) (u : List UInt8) : ∃ y : Tok, y.kind = x.kind ∧ y.text = x.text ∧ solidFrom (x.text ++ c :: u) 0 = pre [y] (shR x.text.length (solidFrom (c :: u) 0)) := by
 obtain ⟨ne, hf, hk, hs4, hs5⟩ := hx
 cases hxt : x.text with
 | nil => exact absurd hxt ne
 | cons a r =>
  have hb : blank a = false := by
   cases hb : blank a
   · rfl
   · rw [hxt, firstTok_blank hb] at hs4; exact absurd rfl hs4
  have h35 : a ≠ 35 := by
   rintro rfl
   rw [hxt, firstTok_hash] at hs5; exact absurd rfl hs5
  have hft : firstTok ((a :: r) ++ c :: u) = firstTok (a :: r) := firstTok_sep hc a r u hb h35; rw [hxt] at hf hs4 hs5 hk
  have h2 : (firstTok (a :: r)).2 = (a :: r).length := by rw [hf]
  have hd0 : ((a :: r) ++ c :: u).drop 0 = (a :: r) ++ c :: u := rfl; have hst := solidFrom_tok (s := (a :: r) ++ c :: u) (p := 0) (by simp) (by rw [hd0, hft, h2]; simp) (by rw [hd0, hft]; exact hs4) (by rw [hd0, hft]; exact hs5); refine ⟨tokAt ((a :: r) ++ c :: u) 0, ?_, ?_, ?_⟩
  · unfold tokAt; rw [hd0, hft]; exact hk.symm
  · unfold tokAt; rw [hd0, hft, h2]; simp
  · rw [hst, hd0, hft, h2]
    congr 1
    have := solidFrom_shift (a :: r) (c :: u) _ 0 (Nat.le_refl _); rw [← this, Nat.zero_add, Nat.add_zero]
theorem TokEq.sh {ts : List Tok} (d : Nat) : TokEq ts (ts.map (Tok.sh d)) := by
 unfold TokEq
 rw [List.map_map]; rfl
theorem TokEq.trans {a b c : List Tok} (h : TokEq a b) (k : TokEq b c) : TokEq a c := Eq.trans h k
theorem lay_solid (by_ : Nat → UInt8) : ∀ (l : List Tok) (i : Nat), (∀ x ∈ l, SelfTok x) → ∃ us, solidFrom (layT (fun j => sepOf (by_ j)) i l) 0 = (us, none) ∧ TokEq l us
 | [], i, _ => ⟨[], solidFrom_end (Nat.zero_le _), rfl⟩
 | x :: r, i, h => by
  obtain ⟨us, h1, h2⟩ := lay_solid by_ r (i + 1) (fun y hy => h y (by simp [hy])); obtain ⟨c, q, e, hc⟩ := sep_head (by_ i); obtain ⟨y, hy1, hy2, hy3⟩ := tok_step (h x (by simp)) hc (q ++ layT (fun j => sepOf (by_ j)) (i + 1) r); have hss := sep_step (by_ i) (layT (fun j => sepOf (by_ j)) (i + 1) r); rw [e, h1] at hss; have hss' : solidFrom (c :: (q ++ layT (fun j => sepOf (by_ j)) (i + 1) r)) 0 = shR (c :: q).length (us, none) := hss; rw [hss', shR_add] at hy3; refine ⟨y :: us.map (Tok.sh ((c :: q).length + x.text.length)), ?_, ?_⟩
  · show solidFrom (x.text ++ sepOf (by_ i) ++ layT (fun j => sepOf (by_ j)) (i + 1) r) 0 = _
    rw [e, List.append_assoc]
    exact hy3
  · have : TokEq r (us.map (Tok.sh ((c :: q).length + x.text.length))) := h2.trans (TokEq.sh _)
    unfold TokEq at this ⊢
    simp only [List.map_cons, hy1, hy2]; rw [this]
def sumT : List Tok → Nat
 | [] => 0
 | x :: r => x.text.length + sumT r
theorem solid_sum (s : List UInt8) : ∀ (m p : Nat) (l : List Tok), s.length - p ≤ m → p ≤ s.length → solidFrom s p = (l, none) → sumT l + p ≤ s.length ∧ l.length + p ≤ s.length := by
 intro m
 induction m with
 | zero =>
  intro p l hm hp h; rw [solidFrom_end (by omega)] at h
  cases h; exact ⟨by simp [sumT]; omega, by simp; omega⟩
 | succ m ih =>
  intro p l hm hp h
  by_cases hlt : p < s.length
  · obtain ⟨h0, hs⟩ := solidFrom_step hlt h
    have hle := firstTok_le (s.drop p); simp only [List.length_drop] at hle
    rcases hs with ⟨h4, h'⟩ | ⟨h4, l', rfl, h'⟩
    · have := ih _ l (by omega) (by omega) h'
      omega
    · have := ih _ l' (by omega) (by omega) h'
      have ht : (tokAt s p).text.length = (firstTok (s.drop p)).2 := by simp only [tokAt, List.length_take, List.length_drop]; omega
      simp only [sumT, List.length_cons, ht]
      omega
  · rw [solidFrom_end (by omega)] at h
    cases h; exact ⟨by simp [sumT]; omega, by simp; omega⟩
theorem lay_len (by_ : Nat → UInt8) : ∀ (l : List Tok) (i : Nat), (layT (fun j => sepOf (by_ j)) i l).length ≤ sumT l + 4 * l.length
 | [], i => by simp [layT]
 | x :: r, i => by
  have := lay_len by_ r (i + 1); have := sep_len (by_ i)
  simp only [layT, sumT, List.length_append, List.length_cons]; omega
theorem parse_layout {s : List UInt8} {ts : List Tok} (by_ : Nat → UInt8) (hs : s.length ≤ 600) (h : solidFrom s 0 = (ts, none)) :
 (layT (fun j => sepOf (by_ j)) 0 ts).length ≤ 3000 ∧ (parseProgram s).1 = (parseProgram (layT (fun j => sepOf (by_ j)) 0 ts)).1 ∧ (parseProgram s).2.2 = (parseProgram (layT (fun j => sepOf (by_ j)) 0 ts)).2.2 := by
 have h1 := solid_sum s s.length 0 ts (by omega) (by omega) h; have h2 := lay_len by_ ts 0; obtain ⟨us, hu, he⟩ := lay_solid by_ ts 0 (self_tok h)
 exact ⟨by omega, parse_lay (by omega) (by omega) h hu he⟩
end Bk
namespace Bk
open Go Go.RowKit Go.Proofs
attribute [local irreducible] Go.Calls
set_option maxRecDepth 100000 in
set_option maxHeartbeats 2000000 in
theorem Lex_a (s : List UInt8) (w : World) (hs : s.length ≤ 9223372036854775807) : Calls Tryd.prog 14 #[str s] w (LexR w (lexT s)) := by
 by_cases h0 : 65536 < s.length
 · have X := Ext.refl w
   rw [show lexT s = ([], 0, 5) from by simp [lexT, h0]]; refine calls_in Tryd.func14 Tryd.ntmps14 rfl rfl ?_
   focus
    refine cS (cA rfl rfl (cA rfl rfl (cA rfl rfl (cT (cw_seq (cS (cM rfl rfl (lw_pure (pur_len_s tabOk rfl rfl) rfl (lw_pure (pur_gtr rfl rfl) rfl (cT ?_)))))))))); refine cw_yes rfl (by omega) ?_; refine cS (cA rfl rfl (cA rfl rfl (cA rfl rfl (cT (cw_ret (qw_then_ret (qw_ret3 rfl rfl rfl rfl ?_))))))); rotate_left 1
   exact ⟨_, _, rfl, Or.inl rfl, X⟩
 · exact Lex_c s w (by omega)
theorem lexT_small (s : List UInt8) : (lexT s).1.length ≤ 65536 := by
 by_cases h0 : 65536 < s.length
 · rw [show lexT s = ([], 0, 5) from by simp [lexT, h0]]; simp
 · have := lexT_len s; omega
def SolR (w : World) (s : List UInt8) : Ending → World → Prop := fun e w' => ∃ a k, e = .returned (.tuple #[.slice a (startP s).1.length k, .bool (decide ((lexT s).2.2 = 0))]) ∧ Toks (fun b => w.heap.size ≤ b ∧ b < w'.heap.size) w' (startP s).1 a ∧ Ext w w'
theorem SolR.ret {w : World} {s : List UInt8} {e : Ending} {w' : World} (h : SolR w s e w') : ∃ v, e = .returned v := by
 obtain ⟨_, _, h, -⟩ := h
 exact ⟨_, h⟩
set_option maxRecDepth 100000 in
set_option maxHeartbeats 2000000 in
theorem solid_l (s : List UInt8) (w : World) (hs : s.length ≤ 9223372036854775807) : Calls Tryd.prog 10 #[str s] w (SolR w s) := by
 have X := Ext.refl w; have hsm := lexT_small s; refine calls_in Tryd.func10 Tryd.ntmps10 rfl rfl ?_
 focus
  refine cS (cA rfl rfl (cA rfl rfl (cN (cM rfl rfl ?_)))); refine cR (by kernel_rfl) rfl (Lex_a s _ hs) (fun _ _ h => h.ret) rfl ?_; rintro _ w5 ⟨a1, ⟨k2, ⟨⟨⟩, ⟨h3, x4⟩⟩⟩⟩; have z6 := x4.size; replace X := X.ext x4; clear x4; refine cM rfl rfl (lw_pure (pur_extract rfl rfl) rfl (lw_pure (pur_extract rfl rfl) rfl (lw_pure (pur_extract rfl rfl) rfl (cA rfl rfl (cA rfl rfl (cA rfl rfl (cN (cM rfl rfl ?_)))))))); refine cR (by kernel_rfl) rfl (Solid_c _ _ _ _ _ (by omega) (by assumption) (by intro b h; exact h.2)) (fun _ _ h => h.ret) rfl ?_; rintro _ w11 ⟨a7, ⟨k8, ⟨⟨⟩, ⟨h9, x10⟩⟩⟩⟩; have z12 := x10.size; replace h3 := h3.ext x10; replace X := X.ext x10; clear x10; refine cM rfl rfl (lw_pure (pur_eql rfl rfl) rfl (cA rfl rfl (cA rfl rfl (cT (cw_ret (qw_ret2 rfl rfl rfl ?_)))))); rotate_left 1
 exact ⟨_, _, rfl, h9.wide (fun b h => ⟨by omega, h.2⟩), X⟩
def SolT (w : World) (ts : List Tok) (ok : Bool) : Ending → World → Prop := fun e w' => ∃ a k, e = .returned (.tuple #[.slice a ts.length k, .bool ok]) ∧ Toks (fun b => w.heap.size ≤ b ∧ b < w'.heap.size) w' ts a ∧ Ext w w'
theorem SolT.ret {w : World} {ts : List Tok} {ok : Bool} {e : Ending} {w' : World} (h : SolT w ts ok e w') : ∃ v, e = .returned v := by
 obtain ⟨_, _, h, -⟩ := h
 exact ⟨_, h⟩
theorem solid_t {s : List UInt8} {ts : List Tok} (hs : s.length ≤ 65536) (h : solidFrom s 0 = (ts, none)) (w : World) : Calls Tryd.prog 10 #[str s] w (SolT w ts true) := by
 refine (solid_l s w (by omega)).mono fun e w' hr => ?_
 obtain ⟨a, k, he, hT, hx⟩ := hr; have h1 := startOk (s := s) (by omega) (by rw [h]); rw [h] at h1; have h2 : (lexT s).2.2 = 0 := (startErr (by omega)).2 (by rw [h]); rw [h1] at he hT; rw [decide_eq_true h2] at he
 exact ⟨a, k, he, hT, hx⟩
theorem solid_f {s : List UInt8} {q : Nat} (hs : s.length ≤ 65536) (h : (solidFrom s 0).2 = some q) (w : World) : Calls Tryd.prog 10 #[str s] w (SolT w [] false) := by
 refine (solid_l s w (by omega)).mono fun e w' hr => ?_
 obtain ⟨a, k, he, hT, hx⟩ := hr; have h1 := startBad (s := s) (by omega) h
 have h2 : ¬ (lexT s).2.2 = 0 := fun e => by rw [(startErr (by omega)).1 e] at h; cases h
 rw [h1] at he hT; rw [decide_eq_false h2] at he
 exact ⟨a, k, he, hT, hx⟩
theorem zero_small0 : zeroPG.small := ⟨by simp [zeroPG], by simp [zeroPG], by decide, by simp [zeroPG]⟩
theorem Same_z0 (S : Nat → Prop) (va pa ma : Option Addr) (vc pc mc : Nat) (w : World) (hs : zeroPG.sits S w va pa ma) :
 Calls Tryd.prog 13 #[.agg (zeroPG.cells va vc pa pc ma mc).toArray, .agg #[.slice none 0 0, .slice none 0 0, .int .u8 0, .int .i64 0, .string ⟨#[]⟩, .slice none 0 0]] w fun e w' => e = .returned (.bool true) ∧ Ext w w' :=
 Same_t zeroPG S (fun _ => True) va pa ma none none none vc pc mc 0 0 0 w zero_small0 hs ⟨Or.inl rfl, Or.inl rfl, sits_nil⟩
set_option maxRecDepth 100000 in
set_option maxHeartbeats 4000000 in
theorem ParserCut_c (s : List UInt8) (k : Int) (w : World) (hs : s.length ≤ 9223372036854775807) (hk0 : 0 ≤ k) (hk1 : k ≤ 65535) (hS : Syms w) (hE : Errs w) : Calls Tryd.prog 4 #[str s, .int .u16 k] w fun e w' => e = .returned (.bool true) ∧ Ext w w' := by
 have X := Ext.refl w
 by_cases h : 600 < s.length
 · refine calls_in Tryd.func4 Tryd.ntmps4 rfl rfl ?_
   focus
    refine cS (cA rfl rfl (cN (cM rfl rfl ?_))); refine cR (by kernel_rfl) rfl (solid_l s _ hs) (fun _ _ h => h.ret) rfl ?_; rintro _ w5 ⟨a1, ⟨k2, ⟨⟨⟩, ⟨h3, x4⟩⟩⟩⟩; have z6 := x4.size; replace hS := hS.ext x4; replace hE := hE.ext x4; replace X := X.ext x4; clear x4; refine cM rfl rfl (lw_pure (pur_extract rfl rfl) rfl (lw_pure (pur_extract rfl rfl) rfl (cA rfl rfl (cA rfl rfl (cT (cw_seq (cS ?_))))))); refine cC (by kernel_rfl) rfl (awake4_c _ (by assumption) (by assumption)) rfl ?_; rintro _ w8 ⟨⟨⟩, x7⟩; have z9 := x7.size; replace h3 := h3.ext x7; replace hS := hS.ext x7; replace hE := hE.ext x7; replace X := X.ext x7; clear x7; refine lw_pure (pur_not rfl) rfl (cM rfl rfl (lw_on rfl rfl rfl (rfl) (cM rfl rfl (lw_on rfl rfl rfl (rfl) (lw_pure (pur_len_s tabOk rfl rfl) rfl (lw_on rfl rfl rfl (rfl) (lw_pure (pur_gtr rfl rfl) rfl (lw_pure (pur_pick_f rfl rfl rfl) rfl (cM rfl rfl ?_))))))))); refine lw_off rfl rfl rfl (gd_ft (by omega)) rfl ?_; refine lw_off rfl rfl rfl (gd_ft (by omega)) rfl ?_; refine lw_pure (pur_pick_yes rfl rfl (by omega)) rfl ?_; refine cM rfl rfl (lw_off rfl rfl rfl (rfl) rfl (lw_off rfl rfl rfl (rfl) rfl (lw_off rfl rfl rfl (rfl) rfl (lw_pure (pur_pick_t rfl rfl rfl) rfl (cT (cw_cond_t rfl (cS ?_))))))); refine cC (by kernel_rfl) rfl (awake4_c _ (by assumption) (by assumption)) rfl ?_; rintro _ w11 ⟨⟨⟩, x10⟩; have z12 := x10.size; replace h3 := h3.ext x10; replace hS := hS.ext x10; replace hE := hE.ext x10; replace X := X.ext x10; clear x10; refine cA rfl rfl (cT (cw_ret (qw_then_ret (qw_ret1 rfl rfl ?_))))
    rotate_left 1
   exact ⟨rfl, X⟩
 · cases hsf : (solidFrom s 0).2 with
   | some q =>
    have H0 := Lib.hid (solid_f (s := s) (by omega) hsf); clear hsf; refine calls_in Tryd.func4 Tryd.ntmps4 rfl rfl ?_
    focus
     refine cS (cA rfl rfl (cN (cM rfl rfl ?_))); refine cR (by kernel_rfl) rfl (H0.out _) (fun _ _ h => h.ret) rfl ?_; rintro _ wa5 ⟨aa1, ⟨ka2, ⟨⟨⟩, ⟨ha3, xa4⟩⟩⟩⟩; have za6 := xa4.size; replace hS := hS.ext xa4; replace hE := hE.ext xa4; replace X := X.ext xa4; clear xa4; refine cM rfl rfl (lw_pure (pur_extract rfl rfl) rfl (lw_pure (pur_extract rfl rfl) rfl (cA rfl rfl (cA rfl rfl (cT (cw_seq (cS ?_))))))); refine cC (by kernel_rfl) rfl (awake4_c _ (by assumption) (by assumption)) rfl ?_; rintro _ wa8 ⟨⟨⟩, xa7⟩; have za9 := xa7.size; replace ha3 := ha3.ext xa7; replace hS := hS.ext xa7; replace hE := hE.ext xa7; replace X := X.ext xa7; clear xa7; refine lw_pure (pur_not rfl) rfl (cM rfl rfl (lw_on rfl rfl rfl (rfl) (cM rfl rfl (lw_on rfl rfl rfl (rfl) (lw_pure (pur_len_s tabOk rfl rfl) rfl (lw_on rfl rfl rfl (rfl) (lw_pure (pur_gtr rfl rfl) rfl (lw_pure (pur_pick_f rfl rfl rfl) rfl (cM rfl rfl ?_))))))))); refine lw_on rfl rfl rfl (gd_ff (by omega)) ?_; refine cM rfl rfl ?_; refine lw_on rfl rfl rfl (gd_ff (by omega)) ?_; refine lw_pure (pur_not rfl) rfl ?_; refine lw_pure (pur_pick_no rfl rfl (by omega)) rfl ?_; refine cM rfl rfl (lw_off rfl rfl rfl (rfl) rfl (lw_off rfl rfl rfl (rfl) rfl (lw_off rfl rfl rfl (rfl) rfl (lw_pure (pur_pick_t rfl rfl rfl) rfl (cT (cw_cond_t rfl (cS ?_))))))); refine cC (by kernel_rfl) rfl (awake4_c _ (by assumption) (by assumption)) rfl ?_; rintro _ wa11 ⟨⟨⟩, xa10⟩; have za12 := xa10.size; replace ha3 := ha3.ext xa10; replace hS := hS.ext xa10
     replace hE := hE.ext xa10; replace X := X.ext xa10; clear xa10; refine cA rfl rfl (cT (cw_ret (qw_then_ret (qw_ret1 rfl rfl ?_)))); rotate_left 1
    exact ⟨rfl, X⟩
   | none =>
    obtain ⟨ts, hts⟩ : ∃ ts, solidFrom s 0 = (ts, none) := ⟨_, Prod.ext rfl hsf⟩; clear hsf; have H0 := Lib.hid (solid_t (s := s) (by omega) hts)
    by_cases hz : ts.length = 0
    · clear hts
      refine calls_in Tryd.func4 Tryd.ntmps4 rfl rfl ?_
      focus
       refine cS (cA rfl rfl (cN (cM rfl rfl ?_))); refine cR (by kernel_rfl) rfl (H0.out _) (fun _ _ h => h.ret) rfl ?_; rintro _ wb5 ⟨ab1, ⟨kb2, ⟨⟨⟩, ⟨hb3, xb4⟩⟩⟩⟩; have zb6 := xb4.size; replace hS := hS.ext xb4; replace hE := hE.ext xb4; replace X := X.ext xb4; clear xb4; refine cM rfl rfl (lw_pure (pur_extract rfl rfl) rfl (lw_pure (pur_extract rfl rfl) rfl (cA rfl rfl (cA rfl rfl (cT (cw_seq (cS ?_))))))); refine cC (by kernel_rfl) rfl (awake4_c _ (by assumption) (by assumption)) rfl ?_; rintro _ wb8 ⟨⟨⟩, xb7⟩; have zb9 := xb7.size; replace hb3 := hb3.ext xb7; replace hS := hS.ext xb7; replace hE := hE.ext xb7; replace X := X.ext xb7; clear xb7; refine lw_pure (pur_not rfl) rfl (cM rfl rfl (lw_on rfl rfl rfl (rfl) (cM rfl rfl (lw_on rfl rfl rfl (rfl) (lw_pure (pur_len_s tabOk rfl rfl) rfl (lw_on rfl rfl rfl (rfl) (lw_pure (pur_gtr rfl rfl) rfl (lw_pure (pur_pick_f rfl rfl rfl) rfl (cM rfl rfl ?_))))))))); refine lw_on rfl rfl rfl (gd_ff (by omega)) ?_; refine cM rfl rfl ?_; refine lw_on rfl rfl rfl (gd_ff (by omega)) ?_; refine lw_pure (pur_not rfl) rfl ?_; refine lw_pure (pur_pick_no rfl rfl (by omega)) rfl ?_; refine cM rfl rfl (lw_on rfl rfl rfl (rfl) (cM rfl rfl (lw_on rfl rfl rfl (rfl) (lw_pure (pur_len_slice tabOk rfl rfl) rfl (lw_on rfl rfl rfl (rfl) (lw_pure (pur_eql rfl rfl) rfl (lw_pure (pur_pick_f rfl rfl rfl) rfl (cT ?_)))))))); refine cw_yes rfl (by omega) ?_; refine cS ?_; refine cC (by kernel_rfl) rfl (awake4_c _ (by assumption) (by assumption)) rfl ?_; rintro _ wb11 ⟨⟨⟩, xb10⟩
       have zb12 := xb10.size; replace hb3 := hb3.ext xb10; replace hS := hS.ext xb10; replace hE := hE.ext xb10; replace X := X.ext xb10; clear xb10; refine cA rfl rfl (cT (cw_ret (qw_then_ret (qw_ret1 rfl rfl ?_)))); rotate_left 1
      exact ⟨rfl, X⟩
    · have hE1 : ∀ w, Syms w → Errs w → Calls Tryd.prog 12 #[str s] w (ParsePR w (parseProgram s)) := fun w => Program_p s w (by omega)
      have H1 := Lib.hid hE1; clear hE1
      have hi0 : 0 ≤ k % (ts.length : Int) := Int.emod_nonneg _ (by omega); have hi1 : k % (ts.length : Int) < (ts.length : Int) := Int.emod_lt_of_pos _ (by omega); obtain ⟨q, C⟩ := solid_cut s s.length 0 ts (by omega) (by omega) hts (k % (ts.length : Int)).toNat (by omega); have hcut := parse_cut (s := s) (by omega) hts (by omega) C; have hpos := C.pos; have hlen := C.len
      have hql : (s.take q).length = q := by simp only [List.length_take]; omega
      have hE2 : ∀ w, Syms w → Errs w → Calls Tryd.prog 12 #[str (s.take q)] w (ParsePR w (parseProgram (s.take q))) := fun w => Program_p _ w (by omega)
      have hq : ts.getD (k % (ts.length : Int)).toNat Tok.zero = ts[(k % (ts.length : Int)).toNat]'(by omega) := by rw [List.getD_eq_getElem?_getD, List.getElem?_eq_getElem (by omega)]; rfl
      rw [hq] at hpos hlen; clear C hts
      by_cases hp : (parseProgram s).2.2 = 0
      · rw [hcut hp] at hE2
        have H2 := Lib.hid hE2; clear hE2 hcut
        refine calls_in Tryd.func4 Tryd.ntmps4 rfl rfl ?_
        focus
         refine cS (cA rfl rfl (cN (cM rfl rfl ?_))); refine cR (by kernel_rfl) rfl (H0.out _) (fun _ _ h => h.ret) rfl ?_; rintro _ wc5 ⟨ac1, ⟨kc2, ⟨⟨⟩, ⟨hc3, xc4⟩⟩⟩⟩; have zc6 := xc4.size; replace hS := hS.ext xc4; replace hE := hE.ext xc4; replace X := X.ext xc4; clear xc4; refine cM rfl rfl (lw_pure (pur_extract rfl rfl) rfl (lw_pure (pur_extract rfl rfl) rfl (cA rfl rfl (cA rfl rfl (cT (cw_seq (cS ?_))))))); refine cC (by kernel_rfl) rfl (awake4_c _ (by assumption) (by assumption)) rfl ?_; rintro _ wc8 ⟨⟨⟩, xc7⟩; have zc9 := xc7.size; replace hc3 := hc3.ext xc7; replace hS := hS.ext xc7; replace hE := hE.ext xc7; replace X := X.ext xc7; clear xc7; refine lw_pure (pur_not rfl) rfl (cM rfl rfl (lw_on rfl rfl rfl (rfl) (cM rfl rfl (lw_on rfl rfl rfl (rfl) (lw_pure (pur_len_s tabOk rfl rfl) rfl (lw_on rfl rfl rfl (rfl) (lw_pure (pur_gtr rfl rfl) rfl (lw_pure (pur_pick_f rfl rfl rfl) rfl (cM rfl rfl ?_))))))))); refine lw_on rfl rfl rfl (gd_ff (by omega)) ?_; refine cM rfl rfl ?_; refine lw_on rfl rfl rfl (gd_ff (by omega)) ?_; refine lw_pure (pur_not rfl) rfl ?_; refine lw_pure (pur_pick_no rfl rfl (by omega)) rfl ?_; refine cM rfl rfl (lw_on rfl rfl rfl (rfl) (cM rfl rfl (lw_on rfl rfl rfl (rfl) (lw_pure (pur_len_slice tabOk rfl rfl) rfl (lw_on rfl rfl rfl (rfl) (lw_pure (pur_eql rfl rfl) rfl (lw_pure (pur_pick_f rfl rfl rfl) rfl (cT ?_)))))))); refine cw_no rfl (by omega) ?_; refine cw_skip (qw_then (cw_seq (cS (cM rfl rfl ?_)))); refine cR (by kernel_rfl) rfl (H1.out _ (by assumption) (by assumption)) (fun _ _ h => h.ret) rfl ?_
         rintro _ wc18 ⟨vac10, ⟨vcc11, ⟨pac12, ⟨pcc13, ⟨mac14, ⟨mcc15, ⟨⟨⟩, ⟨hc16, xc17⟩⟩⟩⟩⟩⟩⟩⟩; have zc19 := xc17.size; replace hc3 := hc3.ext xc17; replace hS := hS.ext xc17; replace hE := hE.ext xc17; replace X := X.ext xc17; clear xc17; refine cM rfl rfl (lw_pure (pur_extract rfl rfl) rfl (lw_pure (pur_extract rfl rfl) rfl (lw_pure (pur_extract rfl rfl) rfl ?_))); (refine lw_alloc' [_, _, _, _, _, _] zOk rfl rfl ?_; intro bc20 wc21 nc22); (refine lw_init' [_, _, _, _, _, _] tabOk rfl rfl rfl rfl rfl rfl nc22 rfl ?_; clear nc22; clear wc21; intro wc23 nc22); have hc24 := nc22.blk; have xc25 := nc22.ext; have pc26 := nc22.pos; have zc27 := nc22.size; clear nc22; replace hc16 := PG.sits.ext hc16 xc25; replace hc3 := hc3.ext xc25; replace hS := hS.ext xc25; replace hE := hE.ext xc25; replace X := X.ext xc25; clear xc25; refine cA rfl rfl (cA rfl rfl (cN (cM rfl rfl (lw_pure (pur_neq rfl rfl) rfl (cT ?_))))); refine cw_no rfl (by omega) ?_; refine cw_skip (qw_then (cS (cM rfl rfl (cM rfl rfl (cM rfl rfl ?_))))); refine lw_pure (pur_conv tabOk rfl rfl rfl (IntWalk.i64_in _ (by omega))) rfl ?_; refine cM rfl rfl (lw_pure (pur_len_slice tabOk rfl rfl) rfl ?_); refine lw_pure (pur_rem rfl rfl (by omega) (rem_pos (by omega))) rfl ?_; rotate_left 1
        obtain ⟨tb, to, rfl, hkS, hrow⟩ := hc3.get (by omega); have hr : Row wc23 ⟨tb, to + (k % (ts.length : Int)).toNat * 3, none⟩ (ts[(k % (ts.length : Int)).toNat]'(by omega)).cells := hrow _ _ (List.getElem?_eq_getElem (by omega)); clear hrow hc3 hq hc16 hc24 H0 H1
        generalize ts[(k % (ts.length : Int)).toNat]'(by omega) = t at *
        obtain ⟨tk, tt, tp⟩ := t; simp only at hpos hlen; subst hpos; replace hr : Row wc23 ⟨tb, to + (k % (ts.length : Int)).toNat * 3, none⟩ [.int .u8 tk, str tt, .int .i64 (q : Int)] := hr; have hql2 : (s.take ((q : Int)).toNat).length = q := hql
        focus
         refine lw_pure (pur_indexAddr tabOk rfl rfl rfl rfl (by omega) (by omega)) rfl ?_; refine lw_pure (pur_fieldAddr tabOk rfl rfl rfl) rfl (lw_load_r tabOk rfl rfl rfl hr rfl rfl ?_); refine lw_pure (pur_supto tabOk rfl rfl rfl (by omega) (by omega)) rfl ?_; refine cA rfl rfl (cN (cM rfl rfl ?_)); refine cR (by kernel_rfl) rfl (H2.out _ (by assumption) (by assumption)) (fun _ _ h => h.ret) rfl ?_; rintro _ wd9 ⟨vad1, ⟨vcd2, ⟨pad3, ⟨pcd4, ⟨mad5, ⟨mcd6, ⟨⟨⟩, ⟨hd7, xd8⟩⟩⟩⟩⟩⟩⟩⟩; have zd10 := xd8.size; replace hS := hS.ext xd8; replace hE := hE.ext xd8; replace X := X.ext xd8; replace hr := hr.ext xd8; clear xd8; refine cM rfl rfl (lw_pure (pur_extract rfl rfl) rfl (lw_pure (pur_extract rfl rfl) rfl (lw_pure (pur_extract rfl rfl) rfl ?_))); (refine lw_alloc' [_, _, _, _, _, _] zOk rfl rfl ?_; intro bd11 wd12 nd13); (refine lw_init' [_, _, _, _, _, _] tabOk rfl rfl rfl rfl rfl rfl nd13 rfl ?_; clear nd13; clear wd12; intro wd14 nd13); have hd15 := nd13.blk; dsimp only at hd15; have xd16 := nd13.ext; have pd17 := nd13.pos; have zd18 := nd13.size; clear nd13; replace hd7 := PG.sits.ext hd7 xd16; replace hS := hS.ext xd16; replace hE := hE.ext xd16; replace X := X.ext xd16; replace hr := hr.ext xd16; clear xd16; refine cA rfl rfl (cA rfl rfl (cN (cM rfl rfl (lw_pure (pur_eql rfl rfl) rfl (cM rfl rfl (lw_on rfl rfl rfl (gd_tt (rfl)) (cM rfl rfl (lw_on rfl rfl rfl (gd_tt (rfl)) (cM rfl rfl (lw_on rfl rfl rfl (gd_tt (rfl)) (lw_pure (pur_len_s tabOk rfl rfl) rfl ?_))))))))))); refine lw_on rfl rfl rfl (gd_tt (rfl)) (lw_pure (pur_eql rfl rfl) rfl (lw_pure (pur_pick_yes rfl rfl (rfl)) rfl (cM rfl rfl ?_)))
         refine lw_dec rfl rfl rfl (fun cd19 => ?_) (fun cd19 => ?_); refine lw_on rfl rfl rfl (gd_tt (by assumption)) ?_; refine lw_loads_b' [_, _, _, _, _, _] tabOk rfl rfl rfl hd15 rfl rfl rfl ?_; refine lw_on rfl rfl rfl (gd_tt (by assumption)) ?_; refine lw_pure (pur_build' [_, _, _, _, _, _] tabOk zOk rfl rfl rfl rfl) rfl ?_; refine lw_on rfl rfl rfl (gd_tt (by assumption)) ?_; refine cC (by kernel_rfl) rfl (Same_z0 _ _ _ _ _ _ _ _ (by assumption)) rfl ?_; rintro _ wd21 ⟨⟨⟩, xd20⟩; have zd22 := xd20.size; replace hd15 := hd15.ext xd20; replace hd7 := PG.sits.ext hd7 xd20; replace hS := hS.ext xd20; replace hE := hE.ext xd20; replace X := X.ext xd20; replace hr := hr.ext xd20; clear xd20; refine lw_pure (pur_pick_yes rfl rfl (by assumption)) rfl ?_; refine cA rfl rfl (cT (cw_ret (qw_ret1 rfl rfl ?_))); rotate_left 1; refine lw_off rfl rfl rfl (gd_tf (by assumption)) rfl ?_; refine lw_off rfl rfl rfl (gd_tf (by assumption)) rfl ?_; refine lw_off rfl rfl rfl (gd_tf (by assumption)) rfl ?_; refine lw_pure (pur_pick_no rfl rfl (by assumption)) rfl ?_; refine cA rfl rfl (cT (cw_ret (qw_ret1 rfl rfl ?_))); rotate_left 1
        · exact ⟨rfl, X⟩
        · exact absurd (show (q : Int) = ((s.take ((q : Int)).toNat).length : Int) by omega) cd19
      · clear hE2 hcut
        refine calls_in Tryd.func4 Tryd.ntmps4 rfl rfl ?_
        focus
         refine cS (cA rfl rfl (cN (cM rfl rfl ?_))); refine cR (by kernel_rfl) rfl (H0.out _) (fun _ _ h => h.ret) rfl ?_; rintro _ we5 ⟨ae1, ⟨ke2, ⟨⟨⟩, ⟨he3, xe4⟩⟩⟩⟩; have ze6 := xe4.size; replace hS := hS.ext xe4; replace hE := hE.ext xe4; replace X := X.ext xe4; clear xe4; refine cM rfl rfl (lw_pure (pur_extract rfl rfl) rfl (lw_pure (pur_extract rfl rfl) rfl (cA rfl rfl (cA rfl rfl (cT (cw_seq (cS ?_))))))); refine cC (by kernel_rfl) rfl (awake4_c _ (by assumption) (by assumption)) rfl ?_; rintro _ we8 ⟨⟨⟩, xe7⟩; have ze9 := xe7.size; replace he3 := he3.ext xe7; replace hS := hS.ext xe7; replace hE := hE.ext xe7; replace X := X.ext xe7; clear xe7; refine lw_pure (pur_not rfl) rfl (cM rfl rfl (lw_on rfl rfl rfl (rfl) (cM rfl rfl (lw_on rfl rfl rfl (rfl) (lw_pure (pur_len_s tabOk rfl rfl) rfl (lw_on rfl rfl rfl (rfl) (lw_pure (pur_gtr rfl rfl) rfl (lw_pure (pur_pick_f rfl rfl rfl) rfl (cM rfl rfl ?_))))))))); refine lw_on rfl rfl rfl (gd_ff (by omega)) ?_; refine cM rfl rfl ?_; refine lw_on rfl rfl rfl (gd_ff (by omega)) ?_; refine lw_pure (pur_not rfl) rfl ?_; refine lw_pure (pur_pick_no rfl rfl (by omega)) rfl ?_; refine cM rfl rfl (lw_on rfl rfl rfl (rfl) (cM rfl rfl (lw_on rfl rfl rfl (rfl) (lw_pure (pur_len_slice tabOk rfl rfl) rfl (lw_on rfl rfl rfl (rfl) (lw_pure (pur_eql rfl rfl) rfl (lw_pure (pur_pick_f rfl rfl rfl) rfl (cT ?_)))))))); refine cw_no rfl (by omega) ?_; refine cw_skip (qw_then (cw_seq (cS (cM rfl rfl ?_)))); refine cR (by kernel_rfl) rfl (H1.out _ (by assumption) (by assumption)) (fun _ _ h => h.ret) rfl ?_
         rintro _ we18 ⟨vae10, ⟨vce11, ⟨pae12, ⟨pce13, ⟨mae14, ⟨mce15, ⟨⟨⟩, ⟨he16, xe17⟩⟩⟩⟩⟩⟩⟩⟩; have ze19 := xe17.size; replace he3 := he3.ext xe17; replace hS := hS.ext xe17; replace hE := hE.ext xe17; replace X := X.ext xe17; clear xe17; refine cM rfl rfl (lw_pure (pur_extract rfl rfl) rfl (lw_pure (pur_extract rfl rfl) rfl (lw_pure (pur_extract rfl rfl) rfl ?_))); (refine lw_alloc' [_, _, _, _, _, _] zOk rfl rfl ?_; intro be20 we21 ne22); (refine lw_init' [_, _, _, _, _, _] tabOk rfl rfl rfl rfl rfl rfl ne22 rfl ?_; clear ne22; clear we21; intro we23 ne22); have he24 := ne22.blk; have xe25 := ne22.ext; have pe26 := ne22.pos; have ze27 := ne22.size; clear ne22; replace he16 := PG.sits.ext he16 xe25; replace he3 := he3.ext xe25; replace hS := hS.ext xe25; replace hE := hE.ext xe25; replace X := X.ext xe25; clear xe25; refine cA rfl rfl (cA rfl rfl (cN (cM rfl rfl (lw_pure (pur_neq rfl rfl) rfl (cT ?_))))); refine cw_yes rfl (by assumption) ?_; refine cS (cA rfl rfl (cT (cw_ret (qw_then_ret (qw_ret1 rfl rfl ?_))))); rotate_left 1
        exact ⟨rfl, X⟩
end Bk
namespace Bk
open Go Go.RowKit Go.Proofs Go.Lib
theorem cells_of_strs {H : Type} {enc : TypeId × Value → H} {P : Program} {w : World} {base : Nat} {sp : Nat → Bool} {held : Bool} {fuel : Nat} {t e : TypeId} {n : Nat} {cs : List Value} {zs : List (List UInt8)} {p : List MemPlace}
 (ht : P.underlying t = some (.array n e)) (he : P.underlying e = some .string) (hce : P.cellsOf e = 1) (hct : P.cellsOf t = n)
 (h : DataW.trod enc P w base sp held fuel t cs = some (.agg (zs.map fun z => .lit (.string z)), p)) : cs = zs.map str := by
 cases fuel with
 | zero => simp [DataW.trod] at h
 | succ fuel =>
  simp only [DataW.trod, ht, hce, hct, Nat.mul_one] at h
  split at h
  · rename_i hl
    obtain ⟨xs, hm, hx⟩ := Option.map_eq_some_iff.1 h
    have hxs : xs.map (·.1) = zs.map fun z => (DataW.lit (.string z) : DataW H) := by
     have := congrArg Prod.fst hx
     simpa using this
    have hxl : xs.length = n := by simpa using mapM_length hm
    have hzl : zs.length = n := by
     have := congrArg List.length hxs
     simp at this
     omega
    apply List.ext_getElem?
    intro i
    by_cases hi : i < n
    · obtain ⟨b, hb, hf⟩ := mapM_at hm i i (by simp [hi])
      obtain ⟨z, hc, rfl, _⟩ := DataW.trod_string he hf
      have h1 : cs[i]? = some (.string z) := by
       have := congrArg (·[0]?) hc
       simpa [List.getElem?_take, List.getElem?_drop] using this
      have h2 : (xs.map (·.1))[i]? = some (DataW.lit (.string z.data.toList) : DataW H) := by simp [hb]
      rw [hxs] at h2; simp only [List.getElem?_map, Option.map_eq_some_iff, DataW.lit.injEq, Lit.string.injEq] at h2; obtain ⟨z', hz', rfl⟩ := h2
      simp [h1, hz']
    · rw [List.getElem?_eq_none (by omega), List.getElem?_eq_none (by simp; omega)]
  · cases h
end Bk
namespace Bk
open Go Go.RowKit Go.Proofs Go.Lib
theorem gSym4 : Tryd.prog.globalNamed "backstep/arith.symbols" = some 0 := by kernel_rfl
theorem gSymT4 : (Tryd.prog.globals[0]?).map (·.type) = some 73 := by kernel_rfl
theorem uSymT4 : Tryd.prog.underlying 73 = some (.array 43 9) := by kernel_rfl
theorem cSymT4 : Tryd.prog.cellsOf 73 = 43 := by kernel_rfl
theorem uStr4 : Tryd.prog.underlying 9 = some .string := by kernel_rfl
theorem cStr4 : Tryd.prog.cellsOf 9 = 1 := by kernel_rfl
theorem gErr4 : Tryd.prog.globalNamed "strconv.ErrRange" = some 3 := by kernel_rfl
theorem gErrT4 : (Tryd.prog.globals[3]?).map (·.type) = some 93 := by kernel_rfl
theorem uErr4 : ∃ ms, Tryd.prog.underlying 93 = some (.interface ms) := ⟨_, Tryd.underlying93⟩
theorem symData4 : (YtihgojmblldifaaDoor.Rows.laid_backstep_arith_symbols : DataW Unit) = .agg (symbols.map fun z => .lit (.string z)) := rfl
abbrev laid4 : List (String × DataW Unit) := [("backstep/arith.symbols", YtihgojmblldifaaDoor.Rows.laid_backstep_arith_symbols), ("math/bits.deBruijn32tab", YtihgojmblldifaaDoor.Rows.laid_math_bits_deBruijn32tab), ("math/bits.deBruijn64tab", YtihgojmblldifaaDoor.Rows.laid_math_bits_deBruijn64tab), ("internal/strconv.uint64pow10", YtihgojmblldifaaDoor.Rows.laid_internal_strconv_uint64pow10), ("strconv.ErrRange", YtihgojmblldifaaDoor.Rows.laid_strconv_ErrRange), ("strconv.ErrSyntax", YtihgojmblldifaaDoor.Rows.laid_strconv_ErrSyntax)]
theorem syms_of_laid {W : World} (h : laidMetH Tryd.prog laid4 W) : Syms W ∧ Errs W := by
 have h' : laidMet Tryd.prog laid4 W := h; obtain ⟨ps, ⟨g1, t1, cs1, f1, p1, q1, hg1, ht1, hv1, hd1, ⟨g2, t2, cs2, f2, p2, q2, hg2, ht2, hv2, hd2, ⟨g3, t3, cs3, f3, p3, q3, hg3, ht3, hv3, hd3, ⟨g4, t4, cs4, f4, p4, q4, hg4, ht4, hv4, hd4, ⟨g5, t5, cs5, f5, p5, q5, hg5, ht5, hv5, hd5, -, -⟩, -⟩, -⟩, -⟩, -⟩, -⟩ := h'; obtain rfl := Option.some.inj (gSym4.symm.trans hg1); obtain rfl := Option.some.inj (gSymT4.symm.trans ht1); obtain rfl := Option.some.inj (gErr4.symm.trans hg5); obtain rfl := Option.some.inj (gErrT4.symm.trans ht5); rw [symData4] at hd1; have e1 := cells_of_strs uSymT4 uStr4 cStr4 cSymT4 hd1; refine ⟨⟨fun i hi => ?_⟩, ?_⟩
 · rw [World.var?_cell gSym4 hv1 i, ← Array.getElem?_toList, e1, List.getElem?_map]
   have : symbols[i]? = some (symbols.getD i []) := by
    rw [List.getD_eq_getElem?_getD, List.getElem?_eq_getElem (show i < symbols.length from hi)]; rfl
   rw [this]; rfl
 · obtain ⟨ms, hu⟩ := uErr4
   obtain ⟨f, u, v, hc, -, -⟩ := iface_of_trod hu hd5; refine ⟨⟨u, v, ?_⟩⟩; rw [World.var?_cell gErr4 hv5 0, ← Array.getElem?_toList, hc]
   rfl
end Bk
namespace Bk
open Go Go.RowKit Go.Proofs
attribute [local irreducible] Go.Calls
theorem getD_get {ts : List Tok} {i : Nat} (h : i < ts.length) : ts.getD i Tok.zero = ts[i] := by rw [List.getD_eq_getElem?_getD, List.getElem?_eq_getElem h]; rfl
set_option maxRecDepth 100000 in
set_option maxHeartbeats 4000000 in
theorem ParserFirst_c (s more : List UInt8) (w : World) (hs : s.length ≤ 9223372036854775807) (hm : more.length ≤ 9223372036854775807) (hS : Syms w) (hE : Errs w) : Calls Tryd.prog 5 #[str s, str more] w fun e w' => e = .returned (.bool true) ∧ Ext w w' := by
 have X := Ext.refl w
 by_cases h : 600 < s.length
 · refine calls_in Tryd.func5 Tryd.ntmps5 rfl rfl ?_
   focus
    refine cS (cA rfl rfl (cN (cM rfl rfl ?_))); refine cR (by kernel_rfl) rfl (solid_l s _ hs) (fun _ _ h => h.ret) rfl ?_; rintro _ w5 ⟨a1, ⟨k2, ⟨⟨⟩, ⟨h3, x4⟩⟩⟩⟩; have z6 := x4.size; replace hS := hS.ext x4; replace hE := hE.ext x4; replace X := X.ext x4; clear x4; refine cM rfl rfl (lw_pure (pur_extract rfl rfl) rfl (lw_pure (pur_extract rfl rfl) rfl (cA rfl rfl (cA rfl rfl (cT (cw_seq (cS ?_))))))); refine cC (by kernel_rfl) rfl (awake4_c _ (by assumption) (by assumption)) rfl ?_; rintro _ w8 ⟨⟨⟩, x7⟩; have z9 := x7.size; replace h3 := h3.ext x7; replace hS := hS.ext x7; replace hE := hE.ext x7; replace X := X.ext x7; clear x7; refine lw_pure (pur_not rfl) rfl (cM rfl rfl (lw_on rfl rfl rfl (rfl) (cM rfl rfl (lw_on rfl rfl rfl (rfl) (lw_pure (pur_len_s tabOk rfl rfl) rfl (lw_on rfl rfl rfl (rfl) (lw_pure (pur_gtr rfl rfl) rfl (lw_pure (pur_pick_f rfl rfl rfl) rfl (cM rfl rfl ?_))))))))); refine lw_off rfl rfl rfl (gd_ft (by omega)) rfl ?_; refine lw_off rfl rfl rfl (gd_ft (by omega)) rfl ?_; refine lw_off rfl rfl rfl (gd_ft (by omega)) rfl ?_; refine lw_pure (pur_pick_yes rfl rfl (by omega)) rfl ?_; refine cM rfl rfl (lw_off rfl rfl rfl (rfl) rfl (lw_off rfl rfl rfl (rfl) rfl (lw_pure (pur_pick_t rfl rfl rfl) rfl (cT (cw_cond_t rfl (cS ?_)))))); refine cC (by kernel_rfl) rfl (awake4_c _ (by assumption) (by assumption)) rfl ?_; rintro _ w11 ⟨⟨⟩, x10⟩; have z12 := x10.size; replace h3 := h3.ext x10; replace hS := hS.ext x10; replace hE := hE.ext x10; replace X := X.ext x10; clear x10
    refine cA rfl rfl (cT (cw_ret (qw_then_ret (qw_ret1 rfl rfl ?_)))); rotate_left 1
   exact ⟨rfl, X⟩
 by_cases h2 : 600 < more.length
 · refine calls_in Tryd.func5 Tryd.ntmps5 rfl rfl ?_
   focus
    refine cS (cA rfl rfl (cN (cM rfl rfl ?_))); refine cR (by kernel_rfl) rfl (solid_l s _ hs) (fun _ _ h => h.ret) rfl ?_; rintro _ wa5 ⟨aa1, ⟨ka2, ⟨⟨⟩, ⟨ha3, xa4⟩⟩⟩⟩; have za6 := xa4.size; replace hS := hS.ext xa4; replace hE := hE.ext xa4; replace X := X.ext xa4; clear xa4; refine cM rfl rfl (lw_pure (pur_extract rfl rfl) rfl (lw_pure (pur_extract rfl rfl) rfl (cA rfl rfl (cA rfl rfl (cT (cw_seq (cS ?_))))))); refine cC (by kernel_rfl) rfl (awake4_c _ (by assumption) (by assumption)) rfl ?_; rintro _ wa8 ⟨⟨⟩, xa7⟩; have za9 := xa7.size; replace ha3 := ha3.ext xa7; replace hS := hS.ext xa7; replace hE := hE.ext xa7; replace X := X.ext xa7; clear xa7; refine lw_pure (pur_not rfl) rfl (cM rfl rfl (lw_on rfl rfl rfl (rfl) (cM rfl rfl (lw_on rfl rfl rfl (rfl) (lw_pure (pur_len_s tabOk rfl rfl) rfl (lw_on rfl rfl rfl (rfl) (lw_pure (pur_gtr rfl rfl) rfl (lw_pure (pur_pick_f rfl rfl rfl) rfl (cM rfl rfl ?_))))))))); refine lw_on rfl rfl rfl (gd_ff (by omega)) ?_; refine cM rfl rfl ?_; refine lw_on rfl rfl rfl (gd_ff (by omega)) ?_; refine lw_pure (pur_len_s tabOk rfl rfl) rfl ?_; refine lw_on rfl rfl rfl (gd_ff (by omega)) ?_; refine lw_pure (pur_gtr rfl rfl) rfl ?_; refine lw_pure (pur_pick_no rfl rfl (by omega)) rfl ?_; refine cM rfl rfl ?_; refine lw_off rfl rfl rfl (gd_ft (by omega)) rfl ?_; refine lw_off rfl rfl rfl (gd_ft (by omega)) rfl ?_; refine lw_pure (pur_pick_yes rfl rfl (by omega)) rfl ?_; refine cT (cw_cond_t rfl (cS ?_)); refine cC (by kernel_rfl) rfl (awake4_c _ (by assumption) (by assumption)) rfl ?_
    rintro _ wa11 ⟨⟨⟩, xa10⟩; have za12 := xa10.size; replace ha3 := ha3.ext xa10; replace hS := hS.ext xa10; replace hE := hE.ext xa10; replace X := X.ext xa10; clear xa10; refine cA rfl rfl (cT (cw_ret (qw_then_ret (qw_ret1 rfl rfl ?_)))); rotate_left 1
   exact ⟨rfl, X⟩
 cases hsf : (solidFrom s 0).2 with
 | some q =>
  have H0 := Lib.hid (solid_f (s := s) (by omega) hsf); clear hsf; refine calls_in Tryd.func5 Tryd.ntmps5 rfl rfl ?_
  focus
   refine cS (cA rfl rfl (cN (cM rfl rfl ?_))); refine cR (by kernel_rfl) rfl (H0.out _) (fun _ _ h => h.ret) rfl ?_; rintro _ wb5 ⟨ab1, ⟨kb2, ⟨⟨⟩, ⟨hb3, xb4⟩⟩⟩⟩; have zb6 := xb4.size; replace hS := hS.ext xb4; replace hE := hE.ext xb4; replace X := X.ext xb4; clear xb4; refine cM rfl rfl (lw_pure (pur_extract rfl rfl) rfl (lw_pure (pur_extract rfl rfl) rfl (cA rfl rfl (cA rfl rfl (cT (cw_seq (cS ?_))))))); refine cC (by kernel_rfl) rfl (awake4_c _ (by assumption) (by assumption)) rfl ?_; rintro _ wb8 ⟨⟨⟩, xb7⟩; have zb9 := xb7.size; replace hb3 := hb3.ext xb7; replace hS := hS.ext xb7; replace hE := hE.ext xb7; replace X := X.ext xb7; clear xb7; refine lw_pure (pur_not rfl) rfl (cM rfl rfl (lw_on rfl rfl rfl (rfl) (cM rfl rfl (lw_on rfl rfl rfl (rfl) (lw_pure (pur_len_s tabOk rfl rfl) rfl (lw_on rfl rfl rfl (rfl) (lw_pure (pur_gtr rfl rfl) rfl (lw_pure (pur_pick_f rfl rfl rfl) rfl (cM rfl rfl ?_))))))))); refine lw_on rfl rfl rfl (gd_ff (by omega)) ?_; refine cM rfl rfl ?_; refine lw_on rfl rfl rfl (gd_ff (by omega)) ?_; refine lw_pure (pur_len_s tabOk rfl rfl) rfl ?_; refine lw_on rfl rfl rfl (gd_ff (by omega)) ?_; refine lw_pure (pur_gtr rfl rfl) rfl ?_; refine lw_pure (pur_pick_no rfl rfl (by omega)) rfl ?_; refine cM rfl rfl ?_; refine lw_on rfl rfl rfl (gd_ff (by omega)) ?_; refine cM rfl rfl ?_; refine lw_on rfl rfl rfl (gd_ff (by omega)) ?_; refine lw_pure (pur_not rfl) rfl ?_; refine lw_pure (pur_pick_no rfl rfl (by omega)) rfl ?_; refine cT (cw_cond_t rfl (cS ?_)); refine cC (by kernel_rfl) rfl (awake4_c _ (by assumption) (by assumption)) rfl ?_
   rintro _ wb11 ⟨⟨⟩, xb10⟩; have zb12 := xb10.size; replace hb3 := hb3.ext xb10; replace hS := hS.ext xb10; replace hE := hE.ext xb10; replace X := X.ext xb10; clear xb10; refine cA rfl rfl (cT (cw_ret (qw_then_ret (qw_ret1 rfl rfl ?_)))); rotate_left 1
  exact ⟨rfl, X⟩
 | none =>
  obtain ⟨ts, hts⟩ : ∃ ts, solidFrom s 0 = (ts, none) := ⟨_, Prod.ext rfl hsf⟩; clear hsf; have H0 := Lib.hid (solid_t (s := s) (by omega) hts)
  have hE1 : ∀ w, Syms w → Errs w → Calls Tryd.prog 12 #[str s] w (ParsePR w (parseProgram s)) := fun w => Program_p s w (by omega)
  by_cases hp : (parseProgram s).2.2 = 3
  · obtain ⟨j, hj, hj1, -⟩ := form_at (by omega) hts hp
    obtain ⟨q, C⟩ := solid_cut s s.length 0 ts (by omega) (by omega) hts j hj
    have hq : (parseProgram s).2.1 = (q : Int) := by rw [hj1, C.pos]
    have hfirst := parse_first (by omega) (by omega : more.length ≤ 600) hts hj C hp hq
    have hother : ∀ i (hi : i < ts.length), i ≠ j → ts[i].pos ≠ (q : Int) := fun i hi hne e => hne (cut_inj hts hi hj (by rw [getD_get hi, e, C.pos]))
    have hpos := C.pos; have hlen := C.len; rw [getD_get hj] at hpos hlen hfirst; have hts2 := (solid_sum s s.length 0 ts (by omega) (by omega) hts).2; clear C hts hj1
    generalize parseProgram s = r at *
    obtain ⟨g, off, err⟩ := r; simp only at hp hq; subst hp hq
    have H1 := Lib.hid hE1; clear hE1
    have H3 := Lib.hid hfirst; clear hfirst
    have H4 := Lib.hid hother; clear hother
    refine calls_in Tryd.func5 Tryd.ntmps5 rfl rfl ?_
    focus
     refine cS (cA rfl rfl (cN (cM rfl rfl ?_))); refine cR (by kernel_rfl) rfl (H0.out _) (fun _ _ h => h.ret) rfl ?_; rintro _ wc5 ⟨ac1, ⟨kc2, ⟨⟨⟩, ⟨hc3, xc4⟩⟩⟩⟩; have zc6 := xc4.size; replace hS := hS.ext xc4; replace hE := hE.ext xc4; replace X := X.ext xc4; clear xc4; refine cM rfl rfl (lw_pure (pur_extract rfl rfl) rfl (lw_pure (pur_extract rfl rfl) rfl (cA rfl rfl (cA rfl rfl (cT (cw_seq (cS ?_))))))); refine cC (by kernel_rfl) rfl (awake4_c _ (by assumption) (by assumption)) rfl ?_; rintro _ wc8 ⟨⟨⟩, xc7⟩; have zc9 := xc7.size; replace hc3 := hc3.ext xc7; replace hS := hS.ext xc7; replace hE := hE.ext xc7; replace X := X.ext xc7; clear xc7; refine lw_pure (pur_not rfl) rfl (cM rfl rfl (lw_on rfl rfl rfl (rfl) (cM rfl rfl (lw_on rfl rfl rfl (rfl) (lw_pure (pur_len_s tabOk rfl rfl) rfl (lw_on rfl rfl rfl (rfl) (lw_pure (pur_gtr rfl rfl) rfl (lw_pure (pur_pick_f rfl rfl rfl) rfl (cM rfl rfl ?_))))))))); refine lw_on rfl rfl rfl (gd_ff (by omega)) ?_; refine cM rfl rfl ?_; refine lw_on rfl rfl rfl (gd_ff (by omega)) ?_; refine lw_pure (pur_len_s tabOk rfl rfl) rfl ?_; refine lw_on rfl rfl rfl (gd_ff (by omega)) ?_; refine lw_pure (pur_gtr rfl rfl) rfl ?_; refine lw_pure (pur_pick_no rfl rfl (by omega)) rfl ?_; refine cM rfl rfl ?_; refine lw_on rfl rfl rfl (gd_ff (by omega)) ?_; refine cM rfl rfl ?_; refine lw_on rfl rfl rfl (gd_ff (by omega)) ?_; refine lw_pure (pur_not rfl) rfl ?_; refine lw_pure (pur_pick_no rfl rfl (by omega)) rfl ?_; refine cT (cw_cond_f rfl (cw_skip (qw_then (cS (cM rfl rfl ?_)))))
     refine cR (by kernel_rfl) rfl (H1.out _ (by assumption) (by assumption)) (fun _ _ h => h.ret) rfl ?_; rintro _ wc18 ⟨vac10, ⟨vcc11, ⟨pac12, ⟨pcc13, ⟨mac14, ⟨mcc15, ⟨⟨⟩, ⟨hc16, xc17⟩⟩⟩⟩⟩⟩⟩⟩; have zc19 := xc17.size; replace hc3 := hc3.ext xc17; replace hS := hS.ext xc17; replace hE := hE.ext xc17; replace X := X.ext xc17; clear xc17; refine cM rfl rfl (lw_pure (pur_extract rfl rfl) rfl (lw_pure (pur_extract rfl rfl) rfl (lw_pure (pur_extract rfl rfl) rfl ?_))); (refine lw_alloc' [_, _, _, _, _, _] zOk rfl rfl ?_; intro bc20 wc21 nc22); (refine lw_init' [_, _, _, _, _, _] tabOk rfl rfl rfl rfl rfl rfl nc22 rfl ?_; clear nc22; clear wc21; intro wc23 nc22); have hc24 := nc22.blk; dsimp only at hc24; have xc25 := nc22.ext; have pc26 := nc22.pos; have zc27 := nc22.size; clear nc22; replace hc16 := PG.sits.ext hc16 xc25; replace hc3 := hc3.ext xc25; replace hS := hS.ext xc25; replace hE := hE.ext xc25; replace X := X.ext xc25; clear xc25; refine cA rfl rfl (cA rfl rfl (cT (cw_seq (cS (cM rfl rfl (lw_pure (pur_neq rfl rfl) rfl (cT (cw_no rfl (not_not_intro rfl) (cw_skip (qw_then (cw_seq ?_))))))))))); refine cS (cM rfl rfl (lw_pure (pur_len_slice tabOk rfl rfl) rfl (cM rfl rfl (cT (cw_block ?_))))); rotate_left 1
    clear hc24 hc16 H0 H1; refine cw_loop (ι := Nat) (fun i => [(0, str s), (1, str more), (8, .int .i64 (q : Int)), (49, .slice ac1 ts.length kc2), (50, .int .i64 ts.length), (51, .int .i64 i)])
     (fun i w' => i ≤ j ∧ Toks (fun b => w.heap.size ≤ b ∧ b < wc5.heap.size) w' ts ac1 ∧ Syms w' ∧ Errs w' ∧ Ext w w' ∧ wc23.heap.size ≤ w'.heap.size) (fun i => j - i) 0 (by (refine sub_cons rfl ?_; refine sub_cons rfl ?_; refine sub_cons rfl ?_; refine sub_cons rfl ?_; refine sub_cons rfl ?_; refine sub_cons rfl ?_; exact sub_nil)) ⟨Nat.zero_le _, hc3, hS, hE, X, Nat.le_refl _⟩ ?_
    clear hc3 hS hE X; rintro i w1 ⟨hij, hT, hS, hE, X, hz⟩
    have hil : i < ts.length := by omega
    obtain ⟨tb, to, rfl, hkS, hrow⟩ := hT.get (by omega); have hr : Row w1 ⟨tb, to + i * 3, none⟩ ts[i].cells := hrow _ _ (List.getElem?_eq_getElem hil); clear hrow
    by_cases hc : i = j
    · subst hc
      generalize ts[i] = t at *
      obtain ⟨tk, tt, tp⟩ := t; simp only at hpos hlen H3; subst hpos; replace hr : Row w1 ⟨tb, to + i * 3, none⟩ [.int .u8 tk, str tt, .int .i64 (q : Int)] := hr
      have hT2 : s.take (q + tt.length) ++ 10 :: more = (s.take (((q : Int) + (tt.length : Int)).toNat) ++ [10]) ++ more := by rw [show ((q : Int) + (tt.length : Int)).toNat = q + tt.length by omega]; simp
      have hTl : ((s.take (((q : Int) + (tt.length : Int)).toNat) ++ [10]) ++ more).length ≤ 1300 := by simp only [List.length_append, List.length_take, List.length_cons, List.length_nil]; omega
      have hTa : (s.take (((q : Int) + (tt.length : Int)).toNat)).length ≤ 600 := by simp only [List.length_take]; omega
      rw [hT2] at H3; clear hT2
      focus
       refine cS (lw_pure (pur_lss rfl rfl) rfl (cT (cw_seq ?_))); refine cw_yes rfl (by omega) ?_; refine cw_skip (qw_then (cw_seq (cw_block (cS ?_)))); refine lw_pure (pur_indexAddr tabOk rfl rfl rfl rfl (by omega) (by omega)) rfl ?_; refine lw_loads_r0 tabOk rfl rfl rfl hr rfl rfl ?_; (refine lw_alloc' [_, _, _] zOk rfl rfl ?_; intro bd1 wd2 nd3); (refine lw_init' [_, _, _] tabOk rfl rfl rfl rfl rfl rfl nd3 rfl ?_; clear nd3; clear wd2; intro wd4 nd3); have hd5 := nd3.blk; have xd6 := nd3.ext; have pd7 := nd3.pos; have zd8 := nd3.size; clear nd3; replace hS := hS.ext xd6; replace hE := hE.ext xd6; replace X := X.ext xd6; replace hT := hT.ext xd6; replace hr := hr.ext xd6; clear xd6; refine cT (cw_seq (cS (lw_pure (pur_fieldAddr tabOk rfl rfl rfl) rfl (lw_load_b tabOk rfl rfl rfl hd5 rfl rfl (cM rfl rfl (lw_pure (pur_neq rfl rfl) rfl (cT ?_))))))); refine cw_no rfl (by omega) ?_; refine cw_skip (qw_then (cS (cM rfl rfl (cM rfl rfl (lw_pure (pur_fieldAddr tabOk rfl rfl rfl) rfl (lw_load_b tabOk rfl rfl rfl hd5 rfl rfl (lw_pure (pur_len_s tabOk rfl rfl) rfl ?_))))))); refine lw_pure (pur_add rfl rfl (IntWalk.i64_in _ (by omega))) rfl ?_; refine lw_pure (pur_supto tabOk rfl rfl rfl (by omega) (by omega)) rfl ?_; refine lw_pure (pur_sadd rfl rfl (by simp only [List.length_cons, List.length_nil]; omega)) rfl ?_; refine cM rfl rfl ?_; refine lw_pure (pur_sadd rfl rfl (by simp only [List.length_append, List.length_cons, List.length_nil]; omega)) rfl ?_; refine cA rfl rfl (cT (cw_seq (cS (cM rfl rfl ?_))))
       refine cR (by kernel_rfl) rfl (Lex_a _ _ (by omega)) (fun _ _ h => h.ret) rfl ?_; rintro _ wd13 ⟨ad9, ⟨kd10, ⟨⟨⟩, ⟨hd11, xd12⟩⟩⟩⟩; have zd14 := xd12.size; replace hd5 := hd5.ext xd12; replace hS := hS.ext xd12; replace hE := hE.ext xd12; replace X := X.ext xd12; replace hT := hT.ext xd12; replace hr := hr.ext xd12; clear xd12; refine cM rfl rfl (lw_pure (pur_extract rfl rfl) rfl (lw_pure (pur_extract rfl rfl) rfl (lw_pure (pur_extract rfl rfl) rfl (cA rfl rfl (cA rfl rfl (cA rfl rfl (cN (cM rfl rfl (lw_pure (pur_neq rfl rfl) rfl (cT ?_)))))))))); refine cw_decn rfl (fun cd15 => ?_) (fun cd15 => ?_); refine cS (cA rfl rfl (cT (cw_ret (qw_then_ret (qw_block_ret (qw_then_ret (qw_then_ret (qw_block_ret (qw_then_ret (qw_ret1 rfl rfl ?_)))))))))); rotate_left 1; refine cw_skip (qw_then (cS (cM rfl rfl ?_))); refine cR (by kernel_rfl) rfl (Program_p _ _ (by omega) (by assumption) (by assumption)) (fun _ _ h => h.ret) rfl ?_; rintro _ wd24 ⟨vad16, ⟨vcd17, ⟨pad18, ⟨pcd19, ⟨mad20, ⟨mcd21, ⟨⟨⟩, ⟨hd22, xd23⟩⟩⟩⟩⟩⟩⟩⟩; have zd25 := xd23.size; replace hd11 := hd11.ext xd23; replace hd5 := hd5.ext xd23; replace hS := hS.ext xd23; replace hE := hE.ext xd23; replace X := X.ext xd23; replace hT := hT.ext xd23; replace hr := hr.ext xd23; clear xd23; refine cM rfl rfl (lw_pure (pur_extract rfl rfl) rfl (lw_pure (pur_extract rfl rfl) rfl (lw_pure (pur_extract rfl rfl) rfl ?_))); (refine lw_alloc' [_, _, _, _, _, _] zOk rfl rfl ?_; intro bd26 wd27 nd28); (refine lw_init' [_, _, _, _, _, _] tabOk rfl rfl rfl rfl rfl rfl nd28 rfl ?_; clear nd28; clear wd27; intro wd29 nd28)
       have hd30 := nd28.blk; have xd31 := nd28.ext; have pd32 := nd28.pos; have zd33 := nd28.size; clear nd28; replace hd22 := PG.sits.ext hd22 xd31; replace hd11 := hd11.ext xd31; replace hd5 := hd5.ext xd31; replace hS := hS.ext xd31; replace hE := hE.ext xd31; replace X := X.ext xd31; replace hT := hT.ext xd31; replace hr := hr.ext xd31; clear xd31; refine cA rfl rfl (cA rfl rfl (cN (cM rfl rfl (lw_pure (pur_eql rfl rfl) rfl (cM rfl rfl ?_))))); refine lw_dec rfl rfl rfl (fun cd34 => ?_) (fun cd34 => ?_); refine lw_on rfl rfl rfl (gd_tt (by assumption)) ?_; refine cM rfl rfl ?_; refine lw_on rfl rfl rfl (gd_tt (by assumption)) ?_; refine cM rfl rfl ?_; refine lw_on rfl rfl rfl (gd_tt (by assumption)) ?_; refine lw_pure (pur_eql rfl rfl) rfl ?_; refine lw_pure (pur_pick_yes rfl rfl (by assumption)) rfl ?_; refine cA rfl rfl (cT (cw_ret (qw_block_ret (qw_then_ret (qw_then_ret (qw_block_ret (qw_then_ret (qw_ret1 rfl rfl ?_)))))))); rotate_left 1; refine lw_off rfl rfl rfl (gd_tf (by assumption)) rfl ?_; refine lw_off rfl rfl rfl (gd_tf (by assumption)) rfl ?_; refine lw_off rfl rfl rfl (gd_tf (by assumption)) rfl ?_; refine lw_pure (pur_pick_no rfl rfl (by assumption)) rfl ?_; refine cA rfl rfl (cT (cw_ret (qw_block_ret (qw_then_ret (qw_then_ret (qw_block_ret (qw_then_ret (qw_ret1 rfl rfl ?_)))))))); rotate_left 1
      · exact ⟨rfl, X⟩
      · have h3 := H3.out cd15
        exact ⟨by rw [h3]; simp, X⟩
      · have h3 := H3.out cd15
        exact absurd (by rw [h3]) cd34
    · have hne := H4.out i hil hc
      generalize ts[i] = t at *
      obtain ⟨tk, tt, tp⟩ := t; simp only at hne; replace hr : Row w1 ⟨tb, to + i * 3, none⟩ [.int .u8 tk, str tt, .int .i64 tp] := hr
      focus
       refine cS (lw_pure (pur_lss rfl rfl) rfl (cT (cw_seq ?_))); refine cw_yes rfl (by omega) ?_; refine cw_skip (qw_then (cw_seq (cw_block (cS ?_)))); refine lw_pure (pur_indexAddr tabOk rfl rfl rfl rfl (by omega) (by omega)) rfl ?_; refine lw_loads_r0 tabOk rfl rfl rfl hr rfl rfl ?_; (refine lw_alloc' [_, _, _] zOk rfl rfl ?_; intro be1 we2 ne3); (refine lw_init' [_, _, _] tabOk rfl rfl rfl rfl rfl rfl ne3 rfl ?_; clear ne3; clear we2; intro we4 ne3); have he5 := ne3.blk; have xe6 := ne3.ext; have pe7 := ne3.pos; have ze8 := ne3.size; clear ne3; replace hS := hS.ext xe6; replace hE := hE.ext xe6; replace X := X.ext xe6; replace hT := hT.ext xe6; replace hr := hr.ext xe6; clear xe6; refine cT (cw_seq (cS (lw_pure (pur_fieldAddr tabOk rfl rfl rfl) rfl (lw_load_b tabOk rfl rfl rfl he5 rfl rfl (cM rfl rfl (lw_pure (pur_neq rfl rfl) rfl (cT ?_))))))); refine cw_yes rfl (by assumption) ?_; refine cw_exit (qw_then_exit (qw_block_exit (qw_then (cw_region ?_)))); refine lw_pure (pur_add rfl rfl (IntWalk.i64_in _ (by omega))) rfl ?_; refine cM rfl rfl (lw_nil ?_); rotate_left 1
      refine qw_round (i + 1) (by (refine sub_cons rfl ?_; refine sub_cons rfl ?_; refine sub_cons rfl ?_; refine sub_cons rfl ?_; refine sub_cons rfl ?_; refine sub_cons rfl ?_; exact sub_nil)) ⟨by omega, hT, hS, hE, X, by omega⟩ (by omega)
  · have H1 := Lib.hid hE1; clear hE1 hts
    refine calls_in Tryd.func5 Tryd.ntmps5 rfl rfl ?_
    focus
     refine cS (cA rfl rfl (cN (cM rfl rfl ?_))); refine cR (by kernel_rfl) rfl (H0.out _) (fun _ _ h => h.ret) rfl ?_; rintro _ wf5 ⟨af1, ⟨kf2, ⟨⟨⟩, ⟨hf3, xf4⟩⟩⟩⟩; have zf6 := xf4.size; replace hS := hS.ext xf4; replace hE := hE.ext xf4; replace X := X.ext xf4; clear xf4; refine cM rfl rfl (lw_pure (pur_extract rfl rfl) rfl (lw_pure (pur_extract rfl rfl) rfl (cA rfl rfl (cA rfl rfl (cT (cw_seq (cS ?_))))))); refine cC (by kernel_rfl) rfl (awake4_c _ (by assumption) (by assumption)) rfl ?_; rintro _ wf8 ⟨⟨⟩, xf7⟩; have zf9 := xf7.size; replace hf3 := hf3.ext xf7; replace hS := hS.ext xf7; replace hE := hE.ext xf7; replace X := X.ext xf7; clear xf7; refine lw_pure (pur_not rfl) rfl (cM rfl rfl (lw_on rfl rfl rfl (rfl) (cM rfl rfl (lw_on rfl rfl rfl (rfl) (lw_pure (pur_len_s tabOk rfl rfl) rfl (lw_on rfl rfl rfl (rfl) (lw_pure (pur_gtr rfl rfl) rfl (lw_pure (pur_pick_f rfl rfl rfl) rfl (cM rfl rfl ?_))))))))); refine lw_on rfl rfl rfl (gd_ff (by omega)) ?_; refine cM rfl rfl ?_; refine lw_on rfl rfl rfl (gd_ff (by omega)) ?_; refine lw_pure (pur_len_s tabOk rfl rfl) rfl ?_; refine lw_on rfl rfl rfl (gd_ff (by omega)) ?_; refine lw_pure (pur_gtr rfl rfl) rfl ?_; refine lw_pure (pur_pick_no rfl rfl (by omega)) rfl ?_; refine cM rfl rfl ?_; refine lw_on rfl rfl rfl (gd_ff (by omega)) ?_; refine cM rfl rfl ?_; refine lw_on rfl rfl rfl (gd_ff (by omega)) ?_; refine lw_pure (pur_not rfl) rfl ?_; refine lw_pure (pur_pick_no rfl rfl (by omega)) rfl ?_; refine cT (cw_cond_f rfl (cw_skip (qw_then (cS (cM rfl rfl ?_)))))
     refine cR (by kernel_rfl) rfl (H1.out _ (by assumption) (by assumption)) (fun _ _ h => h.ret) rfl ?_; rintro _ wf18 ⟨vaf10, ⟨vcf11, ⟨paf12, ⟨pcf13, ⟨maf14, ⟨mcf15, ⟨⟨⟩, ⟨hf16, xf17⟩⟩⟩⟩⟩⟩⟩⟩; have zf19 := xf17.size; replace hf3 := hf3.ext xf17; replace hS := hS.ext xf17; replace hE := hE.ext xf17; replace X := X.ext xf17; clear xf17; refine cM rfl rfl (lw_pure (pur_extract rfl rfl) rfl (lw_pure (pur_extract rfl rfl) rfl (lw_pure (pur_extract rfl rfl) rfl ?_))); (refine lw_alloc' [_, _, _, _, _, _] zOk rfl rfl ?_; intro bf20 wf21 nf22); (refine lw_init' [_, _, _, _, _, _] tabOk rfl rfl rfl rfl rfl rfl nf22 rfl ?_; clear nf22; clear wf21; intro wf23 nf22); have hf24 := nf22.blk; have xf25 := nf22.ext; have pf26 := nf22.pos; have zf27 := nf22.size; clear nf22; replace hf16 := PG.sits.ext hf16 xf25; replace hf3 := hf3.ext xf25; replace hS := hS.ext xf25; replace hE := hE.ext xf25; replace X := X.ext xf25; clear xf25; refine cA rfl rfl (cA rfl rfl (cT (cw_seq (cS (cM rfl rfl (lw_pure (pur_neq rfl rfl) rfl (cT ?_))))))); refine cw_yes rfl (by assumption) ?_; refine cS (cA rfl rfl (cT (cw_ret (qw_then_ret (qw_ret1 rfl rfl ?_))))); rotate_left 1
    exact ⟨rfl, X⟩
end Bk
namespace Bk
open Go Go.RowKit Go.Proofs
attribute [local irreducible] Go.Calls
def Bytes (w : World) (l : List UInt8) (a : Option Addr) : Prop := l = [] ∨ ∃ b o, a = some ⟨b, o, none⟩ ∧ Row w ⟨b, o, none⟩ (l.map (fun c => Value.int .u8 c.toNat))
theorem Bytes.ext {w w' : World} {l : List UInt8} {a : Option Addr} (h : Bytes w l a) (x : Ext w w') : Bytes w' l a := by
 rcases h with h | ⟨b, o, h1, h2⟩
 · exact Or.inl h
 · exact Or.inr ⟨b, o, h1, h2.ext x⟩
theorem does_pur {P : Program} {n : Nat} {l : Sl} {op : Op} {ty : TypeId} {v : Value} {w : World} (h : Pur P n l (· = w) op ty v) : Does P n l op ty w (fun r w' => match r with | some u => u = v ∧ w = w' | none => False) := by
 unfold Does
 unfold Pur at h
 intro a dst pos after g next Q ha k k0
 unfold Oper.wp
 rw [h a w dst pos after g ha rfl]
 exact k v w ⟨rfl, rfl⟩
theorem parseProgram_sm0 (s : List UInt8) : (parseProgram s).1.small := by
 obtain ⟨h1, h2, h3, h4⟩ := parseProgram_small s
 exact ⟨by omega, by omega, by omega, fun p hp => ⟨by have := (h3 p hp).1; omega, by have := (h3 p hp).2; omega⟩⟩
theorem rem_known {a b c : Int} (h : a % b = c) (h0 : 0 ≤ a) : a.tmod b = c := by rw [Int.tmod_eq_emod_of_nonneg h0]; exact h
theorem layT_snoc (f : Nat → List UInt8) (x : Tok) : ∀ (l : List Tok) (j : Nat), layT f j (l ++ [x]) = layT f j l ++ (x.text ++ f (j + l.length))
 | [], j => by simp [layT]
 | y :: r, j => by
  simp only [List.cons_append, layT, layT_snoc f x r (j + 1), List.length_cons, List.append_assoc]; rw [show j + 1 + r.length = j + (r.length + 1) by omega]
theorem sep_known {c : UInt8} {k : Nat} (h : c.toNat % 5 = k) : sepOf c = seps.getD k [] := by unfold sepOf; rw [h]
set_option maxRecDepth 100000 in
set_option maxHeartbeats 4000000 in
theorem ParserLayout_c (s : List UInt8) (l : List UInt8) (a : Option Addr) (c : Nat) (w : World) (hs : s.length ≤ 9223372036854775807) (hl : l.length ≤ 9223372036854775807) (hB : Bytes w l a) (hS : Syms w) (hE : Errs w) : Calls Tryd.prog 3 #[str s, .slice a l.length c] w fun e w' => e = .returned (.bool true) ∧ Ext w w' := by
 have X := Ext.refl w
 by_cases h : 600 < s.length
 · refine calls_in Tryd.func3 Tryd.ntmps3 rfl rfl ?_
   focus
    refine cS (cA rfl rfl (cN (cM rfl rfl ?_))); refine cR (by kernel_rfl) rfl (solid_l s _ hs) (fun _ _ h => h.ret) rfl ?_; rintro _ w5 ⟨a1, ⟨k2, ⟨⟨⟩, ⟨h3, x4⟩⟩⟩⟩; have z6 := x4.size; replace hB := hB.ext x4; replace hS := hS.ext x4; replace hE := hE.ext x4; replace X := X.ext x4; clear x4; refine cM rfl rfl (lw_pure (pur_extract rfl rfl) rfl (lw_pure (pur_extract rfl rfl) rfl (cA rfl rfl (cA rfl rfl (cT (cw_seq (cS ?_))))))); refine cC (by kernel_rfl) rfl (awake4_c _ (by assumption) (by assumption)) rfl ?_; rintro _ w8 ⟨⟨⟩, x7⟩; have z9 := x7.size; replace h3 := h3.ext x7; replace hB := hB.ext x7; replace hS := hS.ext x7; replace hE := hE.ext x7; replace X := X.ext x7; clear x7; refine lw_pure (pur_not rfl) rfl (cM rfl rfl (lw_on rfl rfl rfl (rfl) (cM rfl rfl (lw_on rfl rfl rfl (rfl) (lw_pure (pur_len_s tabOk rfl rfl) rfl (lw_on rfl rfl rfl (rfl) (lw_pure (pur_gtr rfl rfl) rfl (lw_pure (pur_pick_f rfl rfl rfl) rfl (cM rfl rfl ?_))))))))); refine lw_off rfl rfl rfl (gd_ft (by omega)) rfl ?_; refine lw_off rfl rfl rfl (gd_ft (by omega)) rfl ?_; refine lw_off rfl rfl rfl (gd_ft (by omega)) rfl ?_; refine lw_pure (pur_pick_yes rfl rfl (by omega)) rfl ?_; refine cM rfl rfl (lw_off rfl rfl rfl (rfl) rfl (lw_off rfl rfl rfl (rfl) rfl (lw_pure (pur_pick_t rfl rfl rfl) rfl (cT (cw_cond_t rfl (cS ?_)))))); refine cC (by kernel_rfl) rfl (awake4_c _ (by assumption) (by assumption)) rfl ?_; rintro _ w11 ⟨⟨⟩, x10⟩; have z12 := x10.size; replace h3 := h3.ext x10; replace hB := hB.ext x10; replace hS := hS.ext x10
    replace hE := hE.ext x10; replace X := X.ext x10; clear x10; refine cA rfl rfl (cT (cw_ret (qw_then_ret (qw_ret1 rfl rfl ?_)))); rotate_left 1
   exact ⟨rfl, X⟩
 by_cases h2 : l.length = 0
 · refine calls_in Tryd.func3 Tryd.ntmps3 rfl rfl ?_
   focus
    refine cS (cA rfl rfl (cN (cM rfl rfl ?_))); refine cR (by kernel_rfl) rfl (solid_l s _ hs) (fun _ _ h => h.ret) rfl ?_; rintro _ wa5 ⟨aa1, ⟨ka2, ⟨⟨⟩, ⟨ha3, xa4⟩⟩⟩⟩; have za6 := xa4.size; replace hB := hB.ext xa4; replace hS := hS.ext xa4; replace hE := hE.ext xa4; replace X := X.ext xa4; clear xa4; refine cM rfl rfl (lw_pure (pur_extract rfl rfl) rfl (lw_pure (pur_extract rfl rfl) rfl (cA rfl rfl (cA rfl rfl (cT (cw_seq (cS ?_))))))); refine cC (by kernel_rfl) rfl (awake4_c _ (by assumption) (by assumption)) rfl ?_; rintro _ wa8 ⟨⟨⟩, xa7⟩; have za9 := xa7.size; replace ha3 := ha3.ext xa7; replace hB := hB.ext xa7; replace hS := hS.ext xa7; replace hE := hE.ext xa7; replace X := X.ext xa7; clear xa7; refine lw_pure (pur_not rfl) rfl (cM rfl rfl (lw_on rfl rfl rfl (rfl) (cM rfl rfl (lw_on rfl rfl rfl (rfl) (lw_pure (pur_len_s tabOk rfl rfl) rfl (lw_on rfl rfl rfl (rfl) (lw_pure (pur_gtr rfl rfl) rfl (lw_pure (pur_pick_f rfl rfl rfl) rfl (cM rfl rfl ?_))))))))); refine lw_on rfl rfl rfl (gd_ff (by omega)) ?_; refine cM rfl rfl ?_; refine lw_on rfl rfl rfl (gd_ff (by omega)) ?_; refine lw_pure (pur_len_slice tabOk rfl rfl) rfl ?_; refine lw_on rfl rfl rfl (gd_ff (by omega)) ?_; refine lw_pure (pur_eql rfl rfl) rfl ?_; refine lw_pure (pur_pick_no rfl rfl (by omega)) rfl ?_; refine cM rfl rfl ?_; refine lw_off rfl rfl rfl (gd_ft (by omega)) rfl ?_; refine lw_off rfl rfl rfl (gd_ft (by omega)) rfl ?_; refine lw_pure (pur_pick_yes rfl rfl (by omega)) rfl ?_; refine cT (cw_cond_t rfl (cS ?_))
    refine cC (by kernel_rfl) rfl (awake4_c _ (by assumption) (by assumption)) rfl ?_; rintro _ wa11 ⟨⟨⟩, xa10⟩; have za12 := xa10.size; replace ha3 := ha3.ext xa10; replace hB := hB.ext xa10; replace hS := hS.ext xa10; replace hE := hE.ext xa10; replace X := X.ext xa10; clear xa10; refine cA rfl rfl (cT (cw_ret (qw_then_ret (qw_ret1 rfl rfl ?_)))); rotate_left 1
   exact ⟨rfl, X⟩
 cases hsf : (solidFrom s 0).2 with
 | some q =>
  have H0 := Lib.hid (solid_f (s := s) (by omega) hsf); clear hsf; refine calls_in Tryd.func3 Tryd.ntmps3 rfl rfl ?_
  focus
   refine cS (cA rfl rfl (cN (cM rfl rfl ?_))); refine cR (by kernel_rfl) rfl (H0.out _) (fun _ _ h => h.ret) rfl ?_; rintro _ wb5 ⟨ab1, ⟨kb2, ⟨⟨⟩, ⟨hb3, xb4⟩⟩⟩⟩; have zb6 := xb4.size; replace hB := hB.ext xb4; replace hS := hS.ext xb4; replace hE := hE.ext xb4; replace X := X.ext xb4; clear xb4; refine cM rfl rfl (lw_pure (pur_extract rfl rfl) rfl (lw_pure (pur_extract rfl rfl) rfl (cA rfl rfl (cA rfl rfl (cT (cw_seq (cS ?_))))))); refine cC (by kernel_rfl) rfl (awake4_c _ (by assumption) (by assumption)) rfl ?_; rintro _ wb8 ⟨⟨⟩, xb7⟩; have zb9 := xb7.size; replace hb3 := hb3.ext xb7; replace hB := hB.ext xb7; replace hS := hS.ext xb7; replace hE := hE.ext xb7; replace X := X.ext xb7; clear xb7; refine lw_pure (pur_not rfl) rfl (cM rfl rfl (lw_on rfl rfl rfl (rfl) (cM rfl rfl (lw_on rfl rfl rfl (rfl) (lw_pure (pur_len_s tabOk rfl rfl) rfl (lw_on rfl rfl rfl (rfl) (lw_pure (pur_gtr rfl rfl) rfl (lw_pure (pur_pick_f rfl rfl rfl) rfl (cM rfl rfl ?_))))))))); refine lw_on rfl rfl rfl (gd_ff (by omega)) ?_; refine cM rfl rfl ?_; refine lw_on rfl rfl rfl (gd_ff (by omega)) ?_; refine lw_pure (pur_len_slice tabOk rfl rfl) rfl ?_; refine lw_on rfl rfl rfl (gd_ff (by omega)) ?_; refine lw_pure (pur_eql rfl rfl) rfl ?_; refine lw_pure (pur_pick_no rfl rfl (by omega)) rfl ?_; refine cM rfl rfl ?_; refine lw_on rfl rfl rfl (gd_ff (by omega)) ?_; refine cM rfl rfl ?_; refine lw_on rfl rfl rfl (gd_ff (by omega)) ?_; refine lw_pure (pur_not rfl) rfl ?_; refine lw_pure (pur_pick_no rfl rfl (by omega)) rfl ?_
   refine cT (cw_cond_t rfl (cS ?_)); refine cC (by kernel_rfl) rfl (awake4_c _ (by assumption) (by assumption)) rfl ?_; rintro _ wb11 ⟨⟨⟩, xb10⟩; have zb12 := xb10.size; replace hb3 := hb3.ext xb10; replace hB := hB.ext xb10; replace hS := hS.ext xb10; replace hE := hE.ext xb10; replace X := X.ext xb10; clear xb10; refine cA rfl rfl (cT (cw_ret (qw_then_ret (qw_ret1 rfl rfl ?_)))); rotate_left 1
  exact ⟨rfl, X⟩
 | none =>
  obtain ⟨ts, hts⟩ : ∃ ts, solidFrom s 0 = (ts, none) := ⟨_, Prod.ext rfl hsf⟩; clear hsf; have H0 := Lib.hid (solid_t (s := s) (by omega) hts)
  obtain ⟨bb, bo, rfl, hrow⟩ : ∃ b o, a = some ⟨b, o, none⟩ ∧ Row w ⟨b, o, none⟩ (l.map (fun c => Value.int .u8 c.toNat)) := by
   rcases hB with h | h
   · rw [h] at h2; exact absurd rfl h2
   · exact h
  refine calls_in Tryd.func3 Tryd.ntmps3 rfl rfl ?_
  focus
   refine cS (cA rfl rfl (cN (cM rfl rfl ?_))); refine cR (by kernel_rfl) rfl (H0.out _) (fun _ _ h => h.ret) rfl ?_; rintro _ wc5 ⟨ac1, ⟨kc2, ⟨⟨⟩, ⟨hc3, xc4⟩⟩⟩⟩; have zc6 := xc4.size; replace hS := hS.ext xc4; replace hE := hE.ext xc4; replace X := X.ext xc4; replace hrow := hrow.ext xc4; replace hB := hB.ext xc4; clear xc4; refine cM rfl rfl (lw_pure (pur_extract rfl rfl) rfl (lw_pure (pur_extract rfl rfl) rfl (cA rfl rfl (cA rfl rfl (cT (cw_seq (cS ?_))))))); refine cC (by kernel_rfl) rfl (awake4_c _ (by assumption) (by assumption)) rfl ?_; rintro _ wc8 ⟨⟨⟩, xc7⟩; have zc9 := xc7.size; replace hc3 := hc3.ext xc7; replace hS := hS.ext xc7; replace hE := hE.ext xc7; replace X := X.ext xc7; replace hrow := hrow.ext xc7; replace hB := hB.ext xc7; clear xc7; refine lw_pure (pur_not rfl) rfl (cM rfl rfl (lw_on rfl rfl rfl (rfl) (cM rfl rfl (lw_on rfl rfl rfl (rfl) (lw_pure (pur_len_s tabOk rfl rfl) rfl (lw_on rfl rfl rfl (rfl) (lw_pure (pur_gtr rfl rfl) rfl (lw_pure (pur_pick_f rfl rfl rfl) rfl (cM rfl rfl ?_))))))))); refine lw_on rfl rfl rfl (gd_ff (by omega)) ?_; refine cM rfl rfl ?_; refine lw_on rfl rfl rfl (gd_ff (by omega)) ?_; refine lw_pure (pur_len_slice tabOk rfl rfl) rfl ?_; refine lw_on rfl rfl rfl (gd_ff (by omega)) ?_; refine lw_pure (pur_eql rfl rfl) rfl ?_; refine lw_pure (pur_pick_no rfl rfl (by omega)) rfl ?_; refine cM rfl rfl ?_; refine lw_on rfl rfl rfl (gd_ff (by omega)) ?_; refine cM rfl rfl ?_; refine lw_on rfl rfl rfl (gd_ff (by omega)) ?_; refine lw_pure (pur_not rfl) rfl ?_
   refine lw_pure (pur_pick_no rfl rfl (by omega)) rfl ?_; refine cT (cw_cond_f rfl (cw_skip (qw_then (cS (cA rfl rfl (cT (cw_seq (cS (cM rfl rfl (lw_pure (pur_len_slice tabOk rfl rfl) rfl (cM rfl rfl ?_))))))))))); refine cT (cw_block ?_); rotate_left 1
  obtain ⟨hpl, hp1, hp2⟩ := parse_layout (s := s) (fun j => l.getD (j % l.length) 0) (by omega) hts; have hts2 := (solid_sum s s.length 0 ts (by omega) (by omega) hts).2
  have htl : ∀ (i : Nat) (hi : i < ts.length), ts[i].text.length ≤ 600 := fun i hi => by
   have h1 := startOk (s := s) (by omega) (by rw [hts]); rw [hts] at h1; have := (solid_ok s ts[i] (by rw [h1]; exact List.getElem_mem hi)).len
   omega
  clear hts H0 hB; refine cw_loop (ι := Nat) (fun i => [(0, str s), (1, .slice (some ⟨bb, bo, none⟩) l.length c), (7, str (layT (fun j => sepOf (l.getD (j % l.length) 0)) 0 (ts.take i))), (38, .slice ac1 ts.length kc2), (39, .int .i64 ts.length), (40, .int .i64 i)])
   (fun i w' => i ≤ ts.length ∧ (layT (fun j => sepOf (l.getD (j % l.length) 0)) 0 (ts.take i)).length ≤ 700 * i ∧ Toks (fun b => w.heap.size ≤ b ∧ b < wc5.heap.size) w' ts ac1 ∧ Row w' ⟨bb, bo, none⟩ (l.map (fun c => Value.int .u8 c.toNat)) ∧ Syms w' ∧ Errs w' ∧ Ext w w' ∧ wc8.heap.size ≤ w'.heap.size) (fun i => ts.length - i) 0 (by (refine sub_cons rfl ?_; refine sub_cons rfl ?_; refine sub_cons rfl ?_; refine sub_cons rfl ?_; refine sub_cons rfl ?_; refine sub_cons rfl ?_; exact sub_nil)) ⟨Nat.zero_le _, Nat.le_refl _, hc3, hrow, hS, hE, X, Nat.le_refl _⟩ ?_
  clear hc3 hrow hS hE X; rintro i w1 ⟨hij, hlen, hT, hrow, hS, hE, X, hz⟩
  by_cases hil : i < ts.length
  · obtain ⟨tb, to, rfl, hkS, hrw⟩ := hT.get (by omega)
    have hr : Row w1 ⟨tb, to + i * 3, none⟩ ts[i].cells := hrw _ _ (List.getElem?_eq_getElem hil); have htt := htl i hil
    have htk : ts.take (i + 1) = ts.take i ++ [ts[i]] := by rw [List.take_add_one, List.getElem?_eq_getElem hil]; rfl
    have hnx : layT (fun j => sepOf (l.getD (j % l.length) 0)) 0 (ts.take (i + 1)) = layT (fun j => sepOf (l.getD (j % l.length) 0)) 0 (ts.take i) ++ (ts[i].text ++ sepOf (l.getD (i % l.length) 0)) := by
     rw [htk, layT_snoc, List.length_take, Nat.min_eq_left hij, Nat.zero_add]
    have hml : i % l.length < l.length := Nat.mod_lt _ (by omega)
    have hri : (i : Int) % (l.length : Int) = ((i % l.length : Nat) : Int) := by omega
    have hcell : Row w1 ⟨bb, bo + (i % l.length) * 1, none⟩ [.int .u8 ((l.getD (i % l.length) 0).toNat : Int)] := by
     have h1 := hrow.sub (i % l.length) 1
     have e : ((l.map (fun c => Value.int .u8 c.toNat)).drop (i % l.length)).take 1 = [Value.int .u8 ((l.getD (i % l.length) 0).toNat : Int)] := by
      rw [List.drop_eq_getElem_cons (by simpa using hml)]
      simp [List.getD_eq_getElem?_getD, List.getElem?_eq_getElem hml]
     rw [e] at h1
     rw [Nat.mul_one]; exact h1
    have hg1 := hS.lt; have hg2 := hE.lt; have hbb : bb < w1.heap.size := cell_lt (Row.at0 hcell rfl); have hc8 : (l.getD (i % l.length) 0).toNat < 256 := UInt8.toNat_lt _
    have hlenx : (layT (fun j => sepOf (l.getD (j % l.length) 0)) 0 (ts.take (i + 1))).length ≤ 700 * (i + 1) := by
     have := sep_len (l.getD (i % l.length) 0)
     rw [hnx]; simp only [List.length_append]; omega
    generalize hT1 : layT (fun j => sepOf (l.getD (j % l.length) 0)) 0 (ts.take (i + 1)) = T1 at *
    generalize layT (fun j => sepOf (l.getD (j % l.length) 0)) 0 (ts.take i) = T0 at *
    generalize l.getD (i % l.length) 0 = cc at *
    clear hrw htk
    generalize ts[i] = t at *
    obtain ⟨tk, tt, tp⟩ := t; simp only at htt hnx; replace hr : Row w1 ⟨tb, to + i * 3, none⟩ [.int .u8 tk, str tt, .int .i64 tp] := hr; have h5 : cc.toNat % 5 < 5 := Nat.mod_lt _ (by decide)
    rcases hk : cc.toNat % 5 with _ | _ | _ | _ | _ | k
    · have hr5 : (cc.toNat : Int) % 5 = 0 := by omega
      rw [sep_known hk] at hnx
      focus
       refine cS (lw_pure (pur_lss rfl rfl) rfl (cT (cw_seq ?_))); refine cw_yes rfl (by omega) ?_; refine cw_skip (qw_then (cw_seq (cw_block (cS (cM rfl rfl ?_))))); refine lw_pure (pur_indexAddr tabOk rfl rfl rfl rfl (by omega) (by omega)) rfl ?_; refine lw_loads_r0 tabOk rfl rfl rfl hr rfl rfl ?_; (refine lw_alloc' [_, _, _] zOk rfl rfl ?_; intro bd1 wd2 nd3); have hd5 := nd3.blk; have xd6 := nd3.ext; have pd7 := nd3.pos; have zd8 := nd3.size; clear nd3; replace hrow := hrow.ext xd6; replace hS := hS.ext xd6; replace hE := hE.ext xd6; replace X := X.ext xd6; replace hT := hT.ext xd6; replace hcell := hcell.ext xd6; replace hr := hr.ext xd6; clear xd6; refine cA rfl rfl ?_; (refine lw_store' [_, _, _] [_, _, _] tabOk rfl rfl rfl rfl rfl rfl hd5 rfl rfl ?_; intro wd9 nd10); have hd13 := nd10.blk; have fd11 := nd10.fr; have zd12 := nd10.size; clear nd10 hd5; replace hrow := Row.fr hrow fd11 (by simp only; omega); replace hS := hS.fr fd11 (by omega); replace hE := hE.fr fd11 (by omega); replace X := X.fr fd11 (by omega); replace hT := hT.fr fd11 (by omega); replace hcell := Row.fr hcell fd11 (by simp only; omega); replace hr := Row.fr hr fd11 (by simp only; omega); clear fd11; refine cT ?_; (refine cw_tdraw (fun wz => Ext wd9 wz) 16 (.pure 0 (.pure 1 (.pure 2 (.pure 4 (.pure 5 (.pure 6 (.pure 7 (.pure 8 (.pure 9 (.pure 10 (.pure 11 (.pure 12 (.fork 3 (.pure 13 (.fork 14 (.pure 15 .tail) .none)) .none))))))))))))) mixed (by kernel_rfl) (panicOk_block (panicOk_then (panicOk_then (panicOk_block (panicOk_then panicOk_body))))) ?_; intro wd14 xd15 _)
       have qsd16 : (fun wz => Ext wd9 wz) wd14 := xd15; simp only at qsd16; have d_hd13 := hd13; have d_hrow := hrow; have d_hS := hS; have d_hE := hE; have d_hT := hT; have d_hcell := hcell; have d_hr := hr; have zd17 := xd15.size; replace hd13 := hd13.ext xd15; replace hrow := hrow.ext xd15; replace hS := hS.ext xd15; replace hE := hE.ext xd15; replace X := X.ext xd15; replace hT := hT.ext xd15; replace hcell := hcell.ext xd15; replace hr := hr.ext xd15; clear xd15; refine ⟨qsd16, ?_⟩; refine tw_pure rfl (pur_move rfl) rfl (tw_pure rfl (pur_fieldAddr tabOk rfl rfl rfl) rfl (tw_pure rfl (pur_load tabOk rfl rfl rfl (fun wz hz => Blk.cell (Blk.ext d_hd13 hz) rfl)) rfl (tw_pure rfl (pur_move rfl) rfl (tw_pure rfl (pur_move rfl) rfl (tw_pure rfl (pur_move rfl) rfl (tw_pure rfl (pur_len_slice tabOk rfl rfl) rfl ?_)))))); refine tw_pure rfl (pur_rem rfl rfl (by omega) (rem_known (by assumption) (by omega))) rfl ?_; refine tw_pure rfl (pur_indexAddr tabOk rfl rfl rfl rfl (by omega) (by omega)) rfl ?_; refine tw_pure rfl (pur_load tabOk rfl rfl rfl (fun wz hz => Row.at0 (Row.ext d_hcell hz) rfl)) rfl ?_; refine tw_pure rfl (pur_conv tabOk rfl rfl rfl (IntWalk.i64_in _ (by omega))) rfl ?_; refine tw_pure rfl (pur_rem rfl rfl (by omega) (rem_known (by assumption) (by omega))) rfl ?_; (refine tw_does rfl (does_slice' [_, _, _, _, _] tabOk zOk rfl rfl rfl rfl rfl rfl rfl rfl rfl) rfl ?_ (fun _ h => h) tw_none; rintro _ wd19 ⟨bd18, rfl, nd20, td21⟩); clear td21; have hd22 := nd20.blk; have xd23 := nd20.ext
       have pd24 := nd20.pos; have zd25 := nd20.size; clear nd20; replace qsd16 := qsd16.ext xd23; replace hd13 := hd13.ext xd23; replace hrow := hrow.ext xd23; replace hS := hS.ext xd23; replace hE := hE.ext xd23; replace X := X.ext xd23; replace hT := hT.ext xd23; replace hcell := hcell.ext xd23; replace hr := hr.ext xd23; clear xd23; refine ⟨qsd16, ?_⟩; refine tw_pure rfl (pur_indexAddr tabOk rfl rfl rfl rfl (by omega) (by omega)) rfl ?_; (refine tw_does rfl (does_pur (pur_load tabOk rfl rfl rfl (fun wz hz => by subst hz; exact Blk.cell hd22 rfl))) rfl ?_ (fun _ h => h) tw_none; rintro _ _ ⟨rfl, rfl⟩); refine ⟨qsd16, ?_⟩; refine tw_pure rfl (pur_sadd rfl rfl (by simp only [List.length_cons, List.length_nil]; omega)) rfl ?_; clear d_hd13 d_hrow d_hS d_hE d_hT d_hcell d_hr qsd16; refine tw_tail rfl ?_; refine lw_pure (pur_sadd rfl rfl (by simp only [List.length_append, List.length_cons, List.length_nil]; omega)) rfl ?_; refine cA rfl rfl (lw_nil (qw_block_norm (qw_then (cw_region ?_)))); refine lw_pure (pur_add rfl rfl (IntWalk.i64_in _ (by omega))) rfl ?_; refine cM rfl rfl (lw_nil ?_); rotate_left 1
      refine qw_round (i + 1) (by refine sub_cons rfl (sub_cons rfl (sub_cons' rfl (by rw [hT1, hnx]; rfl) ?_)); (refine sub_cons rfl ?_; refine sub_cons rfl ?_; refine sub_cons rfl ?_; exact sub_nil)) ⟨by omega, by rw [hT1]; exact hlenx, hT, hrow, hS, hE, X, by omega⟩ (by omega)
    · have hr5 : (cc.toNat : Int) % 5 = 1 := by omega
      rw [sep_known hk] at hnx
      focus
       refine cS (lw_pure (pur_lss rfl rfl) rfl (cT (cw_seq ?_))); refine cw_yes rfl (by omega) ?_; refine cw_skip (qw_then (cw_seq (cw_block (cS (cM rfl rfl ?_))))); refine lw_pure (pur_indexAddr tabOk rfl rfl rfl rfl (by omega) (by omega)) rfl ?_; refine lw_loads_r0 tabOk rfl rfl rfl hr rfl rfl ?_; (refine lw_alloc' [_, _, _] zOk rfl rfl ?_; intro be1 we2 ne3); have he5 := ne3.blk; have xe6 := ne3.ext; have pe7 := ne3.pos; have ze8 := ne3.size; clear ne3; replace hrow := hrow.ext xe6; replace hS := hS.ext xe6; replace hE := hE.ext xe6; replace X := X.ext xe6; replace hT := hT.ext xe6; replace hcell := hcell.ext xe6; replace hr := hr.ext xe6; clear xe6; refine cA rfl rfl ?_; (refine lw_store' [_, _, _] [_, _, _] tabOk rfl rfl rfl rfl rfl rfl he5 rfl rfl ?_; intro we9 ne10); have he13 := ne10.blk; have fe11 := ne10.fr; have ze12 := ne10.size; clear ne10 he5; replace hrow := Row.fr hrow fe11 (by simp only; omega); replace hS := hS.fr fe11 (by omega); replace hE := hE.fr fe11 (by omega); replace X := X.fr fe11 (by omega); replace hT := hT.fr fe11 (by omega); replace hcell := Row.fr hcell fe11 (by simp only; omega); replace hr := Row.fr hr fe11 (by simp only; omega); clear fe11; refine cT ?_; (refine cw_tdraw (fun wz => Ext we9 wz) 16 (.pure 0 (.pure 1 (.pure 2 (.pure 4 (.pure 5 (.pure 6 (.pure 7 (.pure 8 (.pure 9 (.pure 10 (.pure 11 (.pure 12 (.fork 3 (.pure 13 (.fork 14 (.pure 15 .tail) .none)) .none))))))))))))) mixed (by kernel_rfl) (panicOk_block (panicOk_then (panicOk_then (panicOk_block (panicOk_then panicOk_body))))) ?_; intro we14 xe15 _)
       have qse16 : (fun wz => Ext we9 wz) we14 := xe15; simp only at qse16; have d_he13 := he13; have d_hrow := hrow; have d_hS := hS; have d_hE := hE; have d_hT := hT; have d_hcell := hcell; have d_hr := hr; have ze17 := xe15.size; replace he13 := he13.ext xe15; replace hrow := hrow.ext xe15; replace hS := hS.ext xe15; replace hE := hE.ext xe15; replace X := X.ext xe15; replace hT := hT.ext xe15; replace hcell := hcell.ext xe15; replace hr := hr.ext xe15; clear xe15; refine ⟨qse16, ?_⟩; refine tw_pure rfl (pur_move rfl) rfl (tw_pure rfl (pur_fieldAddr tabOk rfl rfl rfl) rfl (tw_pure rfl (pur_load tabOk rfl rfl rfl (fun wz hz => Blk.cell (Blk.ext d_he13 hz) rfl)) rfl (tw_pure rfl (pur_move rfl) rfl (tw_pure rfl (pur_move rfl) rfl (tw_pure rfl (pur_move rfl) rfl (tw_pure rfl (pur_len_slice tabOk rfl rfl) rfl ?_)))))); refine tw_pure rfl (pur_rem rfl rfl (by omega) (rem_known (by assumption) (by omega))) rfl ?_; refine tw_pure rfl (pur_indexAddr tabOk rfl rfl rfl rfl (by omega) (by omega)) rfl ?_; refine tw_pure rfl (pur_load tabOk rfl rfl rfl (fun wz hz => Row.at0 (Row.ext d_hcell hz) rfl)) rfl ?_; refine tw_pure rfl (pur_conv tabOk rfl rfl rfl (IntWalk.i64_in _ (by omega))) rfl ?_; refine tw_pure rfl (pur_rem rfl rfl (by omega) (rem_known (by assumption) (by omega))) rfl ?_; (refine tw_does rfl (does_slice' [_, _, _, _, _] tabOk zOk rfl rfl rfl rfl rfl rfl rfl rfl rfl) rfl ?_ (fun _ h => h) tw_none; rintro _ we19 ⟨be18, rfl, ne20, te21⟩); clear te21; have he22 := ne20.blk; have xe23 := ne20.ext
       have pe24 := ne20.pos; have ze25 := ne20.size; clear ne20; replace qse16 := qse16.ext xe23; replace he13 := he13.ext xe23; replace hrow := hrow.ext xe23; replace hS := hS.ext xe23; replace hE := hE.ext xe23; replace X := X.ext xe23; replace hT := hT.ext xe23; replace hcell := hcell.ext xe23; replace hr := hr.ext xe23; clear xe23; refine ⟨qse16, ?_⟩; refine tw_pure rfl (pur_indexAddr tabOk rfl rfl rfl rfl (by omega) (by omega)) rfl ?_; (refine tw_does rfl (does_pur (pur_load tabOk rfl rfl rfl (fun wz hz => by subst hz; exact Blk.cell he22 rfl))) rfl ?_ (fun _ h => h) tw_none; rintro _ _ ⟨rfl, rfl⟩); refine ⟨qse16, ?_⟩; refine tw_pure rfl (pur_sadd rfl rfl (by simp only [List.length_cons, List.length_nil]; omega)) rfl ?_; clear d_he13 d_hrow d_hS d_hE d_hT d_hcell d_hr qse16; refine tw_tail rfl ?_; refine lw_pure (pur_sadd rfl rfl (by simp only [List.length_append, List.length_cons, List.length_nil]; omega)) rfl ?_; refine cA rfl rfl (lw_nil (qw_block_norm (qw_then (cw_region ?_)))); refine lw_pure (pur_add rfl rfl (IntWalk.i64_in _ (by omega))) rfl ?_; refine cM rfl rfl (lw_nil ?_); rotate_left 1
      refine qw_round (i + 1) (by refine sub_cons rfl (sub_cons rfl (sub_cons' rfl (by rw [hT1, hnx]; rfl) ?_)); (refine sub_cons rfl ?_; refine sub_cons rfl ?_; refine sub_cons rfl ?_; exact sub_nil)) ⟨by omega, by rw [hT1]; exact hlenx, hT, hrow, hS, hE, X, by omega⟩ (by omega)
    · have hr5 : (cc.toNat : Int) % 5 = 2 := by omega
      rw [sep_known hk] at hnx
      focus
       refine cS (lw_pure (pur_lss rfl rfl) rfl (cT (cw_seq ?_))); refine cw_yes rfl (by omega) ?_; refine cw_skip (qw_then (cw_seq (cw_block (cS (cM rfl rfl ?_))))); refine lw_pure (pur_indexAddr tabOk rfl rfl rfl rfl (by omega) (by omega)) rfl ?_; refine lw_loads_r0 tabOk rfl rfl rfl hr rfl rfl ?_; (refine lw_alloc' [_, _, _] zOk rfl rfl ?_; intro bf1 wf2 nf3); have hf5 := nf3.blk; have xf6 := nf3.ext; have pf7 := nf3.pos; have zf8 := nf3.size; clear nf3; replace hrow := hrow.ext xf6; replace hS := hS.ext xf6; replace hE := hE.ext xf6; replace X := X.ext xf6; replace hT := hT.ext xf6; replace hcell := hcell.ext xf6; replace hr := hr.ext xf6; clear xf6; refine cA rfl rfl ?_; (refine lw_store' [_, _, _] [_, _, _] tabOk rfl rfl rfl rfl rfl rfl hf5 rfl rfl ?_; intro wf9 nf10); have hf13 := nf10.blk; have ff11 := nf10.fr; have zf12 := nf10.size; clear nf10 hf5; replace hrow := Row.fr hrow ff11 (by simp only; omega); replace hS := hS.fr ff11 (by omega); replace hE := hE.fr ff11 (by omega); replace X := X.fr ff11 (by omega); replace hT := hT.fr ff11 (by omega); replace hcell := Row.fr hcell ff11 (by simp only; omega); replace hr := Row.fr hr ff11 (by simp only; omega); clear ff11; refine cT ?_; (refine cw_tdraw (fun wz => Ext wf9 wz) 16 (.pure 0 (.pure 1 (.pure 2 (.pure 4 (.pure 5 (.pure 6 (.pure 7 (.pure 8 (.pure 9 (.pure 10 (.pure 11 (.pure 12 (.fork 3 (.pure 13 (.fork 14 (.pure 15 .tail) .none)) .none))))))))))))) mixed (by kernel_rfl) (panicOk_block (panicOk_then (panicOk_then (panicOk_block (panicOk_then panicOk_body))))) ?_; intro wf14 xf15 _)
       have qsf16 : (fun wz => Ext wf9 wz) wf14 := xf15; simp only at qsf16; have d_hf13 := hf13; have d_hrow := hrow; have d_hS := hS; have d_hE := hE; have d_hT := hT; have d_hcell := hcell; have d_hr := hr; have zf17 := xf15.size; replace hf13 := hf13.ext xf15; replace hrow := hrow.ext xf15; replace hS := hS.ext xf15; replace hE := hE.ext xf15; replace X := X.ext xf15; replace hT := hT.ext xf15; replace hcell := hcell.ext xf15; replace hr := hr.ext xf15; clear xf15; refine ⟨qsf16, ?_⟩; refine tw_pure rfl (pur_move rfl) rfl (tw_pure rfl (pur_fieldAddr tabOk rfl rfl rfl) rfl (tw_pure rfl (pur_load tabOk rfl rfl rfl (fun wz hz => Blk.cell (Blk.ext d_hf13 hz) rfl)) rfl (tw_pure rfl (pur_move rfl) rfl (tw_pure rfl (pur_move rfl) rfl (tw_pure rfl (pur_move rfl) rfl (tw_pure rfl (pur_len_slice tabOk rfl rfl) rfl ?_)))))); refine tw_pure rfl (pur_rem rfl rfl (by omega) (rem_known (by assumption) (by omega))) rfl ?_; refine tw_pure rfl (pur_indexAddr tabOk rfl rfl rfl rfl (by omega) (by omega)) rfl ?_; refine tw_pure rfl (pur_load tabOk rfl rfl rfl (fun wz hz => Row.at0 (Row.ext d_hcell hz) rfl)) rfl ?_; refine tw_pure rfl (pur_conv tabOk rfl rfl rfl (IntWalk.i64_in _ (by omega))) rfl ?_; refine tw_pure rfl (pur_rem rfl rfl (by omega) (rem_known (by assumption) (by omega))) rfl ?_; (refine tw_does rfl (does_slice' [_, _, _, _, _] tabOk zOk rfl rfl rfl rfl rfl rfl rfl rfl rfl) rfl ?_ (fun _ h => h) tw_none; rintro _ wf19 ⟨bf18, rfl, nf20, tf21⟩); clear tf21; have hf22 := nf20.blk; have xf23 := nf20.ext
       have pf24 := nf20.pos; have zf25 := nf20.size; clear nf20; replace qsf16 := qsf16.ext xf23; replace hf13 := hf13.ext xf23; replace hrow := hrow.ext xf23; replace hS := hS.ext xf23; replace hE := hE.ext xf23; replace X := X.ext xf23; replace hT := hT.ext xf23; replace hcell := hcell.ext xf23; replace hr := hr.ext xf23; clear xf23; refine ⟨qsf16, ?_⟩; refine tw_pure rfl (pur_indexAddr tabOk rfl rfl rfl rfl (by omega) (by omega)) rfl ?_; (refine tw_does rfl (does_pur (pur_load tabOk rfl rfl rfl (fun wz hz => by subst hz; exact Blk.cell hf22 rfl))) rfl ?_ (fun _ h => h) tw_none; rintro _ _ ⟨rfl, rfl⟩); refine ⟨qsf16, ?_⟩; refine tw_pure rfl (pur_sadd rfl rfl (by simp only [List.length_cons, List.length_nil]; omega)) rfl ?_; clear d_hf13 d_hrow d_hS d_hE d_hT d_hcell d_hr qsf16; refine tw_tail rfl ?_; refine lw_pure (pur_sadd rfl rfl (by simp only [List.length_append, List.length_cons, List.length_nil]; omega)) rfl ?_; refine cA rfl rfl (lw_nil (qw_block_norm (qw_then (cw_region ?_)))); refine lw_pure (pur_add rfl rfl (IntWalk.i64_in _ (by omega))) rfl ?_; refine cM rfl rfl (lw_nil ?_); rotate_left 1
      refine qw_round (i + 1) (by refine sub_cons rfl (sub_cons rfl (sub_cons' rfl (by rw [hT1, hnx]; rfl) ?_)); (refine sub_cons rfl ?_; refine sub_cons rfl ?_; refine sub_cons rfl ?_; exact sub_nil)) ⟨by omega, by rw [hT1]; exact hlenx, hT, hrow, hS, hE, X, by omega⟩ (by omega)
    · have hr5 : (cc.toNat : Int) % 5 = 3 := by omega
      rw [sep_known hk] at hnx
      focus
       refine cS (lw_pure (pur_lss rfl rfl) rfl (cT (cw_seq ?_))); refine cw_yes rfl (by omega) ?_; refine cw_skip (qw_then (cw_seq (cw_block (cS (cM rfl rfl ?_))))); refine lw_pure (pur_indexAddr tabOk rfl rfl rfl rfl (by omega) (by omega)) rfl ?_; refine lw_loads_r0 tabOk rfl rfl rfl hr rfl rfl ?_; (refine lw_alloc' [_, _, _] zOk rfl rfl ?_; intro bg1 wg2 ng3); have hg5 := ng3.blk; have xg6 := ng3.ext; have pg7 := ng3.pos; have zg8 := ng3.size; clear ng3; replace hrow := hrow.ext xg6; replace hS := hS.ext xg6; replace hE := hE.ext xg6; replace X := X.ext xg6; replace hT := hT.ext xg6; replace hcell := hcell.ext xg6; replace hr := hr.ext xg6; clear xg6; refine cA rfl rfl ?_; (refine lw_store' [_, _, _] [_, _, _] tabOk rfl rfl rfl rfl rfl rfl hg5 rfl rfl ?_; intro wg9 ng10); have hg13 := ng10.blk; have fg11 := ng10.fr; have zg12 := ng10.size; clear ng10 hg5; replace hrow := Row.fr hrow fg11 (by simp only; omega); replace hS := hS.fr fg11 (by omega); replace hE := hE.fr fg11 (by omega); replace X := X.fr fg11 (by omega); replace hT := hT.fr fg11 (by omega); replace hcell := Row.fr hcell fg11 (by simp only; omega); replace hr := Row.fr hr fg11 (by simp only; omega); clear fg11; refine cT ?_; (refine cw_tdraw (fun wz => Ext wg9 wz) 16 (.pure 0 (.pure 1 (.pure 2 (.pure 4 (.pure 5 (.pure 6 (.pure 7 (.pure 8 (.pure 9 (.pure 10 (.pure 11 (.pure 12 (.fork 3 (.pure 13 (.fork 14 (.pure 15 .tail) .none)) .none))))))))))))) mixed (by kernel_rfl) (panicOk_block (panicOk_then (panicOk_then (panicOk_block (panicOk_then panicOk_body))))) ?_; intro wg14 xg15 _)
       have qsg16 : (fun wz => Ext wg9 wz) wg14 := xg15; simp only at qsg16; have d_hg13 := hg13; have d_hrow := hrow; have d_hS := hS; have d_hE := hE; have d_hT := hT; have d_hcell := hcell; have d_hr := hr; have zg17 := xg15.size; replace hg13 := hg13.ext xg15; replace hrow := hrow.ext xg15; replace hS := hS.ext xg15; replace hE := hE.ext xg15; replace X := X.ext xg15; replace hT := hT.ext xg15; replace hcell := hcell.ext xg15; replace hr := hr.ext xg15; clear xg15; refine ⟨qsg16, ?_⟩; refine tw_pure rfl (pur_move rfl) rfl (tw_pure rfl (pur_fieldAddr tabOk rfl rfl rfl) rfl (tw_pure rfl (pur_load tabOk rfl rfl rfl (fun wz hz => Blk.cell (Blk.ext d_hg13 hz) rfl)) rfl (tw_pure rfl (pur_move rfl) rfl (tw_pure rfl (pur_move rfl) rfl (tw_pure rfl (pur_move rfl) rfl (tw_pure rfl (pur_len_slice tabOk rfl rfl) rfl ?_)))))); refine tw_pure rfl (pur_rem rfl rfl (by omega) (rem_known (by assumption) (by omega))) rfl ?_; refine tw_pure rfl (pur_indexAddr tabOk rfl rfl rfl rfl (by omega) (by omega)) rfl ?_; refine tw_pure rfl (pur_load tabOk rfl rfl rfl (fun wz hz => Row.at0 (Row.ext d_hcell hz) rfl)) rfl ?_; refine tw_pure rfl (pur_conv tabOk rfl rfl rfl (IntWalk.i64_in _ (by omega))) rfl ?_; refine tw_pure rfl (pur_rem rfl rfl (by omega) (rem_known (by assumption) (by omega))) rfl ?_; (refine tw_does rfl (does_slice' [_, _, _, _, _] tabOk zOk rfl rfl rfl rfl rfl rfl rfl rfl rfl) rfl ?_ (fun _ h => h) tw_none; rintro _ wg19 ⟨bg18, rfl, ng20, tg21⟩); clear tg21; have hg22 := ng20.blk; have xg23 := ng20.ext
       have pg24 := ng20.pos; have zg25 := ng20.size; clear ng20; replace qsg16 := qsg16.ext xg23; replace hg13 := hg13.ext xg23; replace hrow := hrow.ext xg23; replace hS := hS.ext xg23; replace hE := hE.ext xg23; replace X := X.ext xg23; replace hT := hT.ext xg23; replace hcell := hcell.ext xg23; replace hr := hr.ext xg23; clear xg23; refine ⟨qsg16, ?_⟩; refine tw_pure rfl (pur_indexAddr tabOk rfl rfl rfl rfl (by omega) (by omega)) rfl ?_; (refine tw_does rfl (does_pur (pur_load tabOk rfl rfl rfl (fun wz hz => by subst hz; exact Blk.cell hg22 rfl))) rfl ?_ (fun _ h => h) tw_none; rintro _ _ ⟨rfl, rfl⟩); refine ⟨qsg16, ?_⟩; refine tw_pure rfl (pur_sadd rfl rfl (by simp only [List.length_cons, List.length_nil]; omega)) rfl ?_; clear d_hg13 d_hrow d_hS d_hE d_hT d_hcell d_hr qsg16; refine tw_tail rfl ?_; refine lw_pure (pur_sadd rfl rfl (by simp only [List.length_append, List.length_cons, List.length_nil]; omega)) rfl ?_; refine cA rfl rfl (lw_nil (qw_block_norm (qw_then (cw_region ?_)))); refine lw_pure (pur_add rfl rfl (IntWalk.i64_in _ (by omega))) rfl ?_; refine cM rfl rfl (lw_nil ?_); rotate_left 1
      refine qw_round (i + 1) (by refine sub_cons rfl (sub_cons rfl (sub_cons' rfl (by rw [hT1, hnx]; rfl) ?_)); (refine sub_cons rfl ?_; refine sub_cons rfl ?_; refine sub_cons rfl ?_; exact sub_nil)) ⟨by omega, by rw [hT1]; exact hlenx, hT, hrow, hS, hE, X, by omega⟩ (by omega)
    · have hr5 : (cc.toNat : Int) % 5 = 4 := by omega
      rw [sep_known hk] at hnx
      focus
       refine cS (lw_pure (pur_lss rfl rfl) rfl (cT (cw_seq ?_))); refine cw_yes rfl (by omega) ?_; refine cw_skip (qw_then (cw_seq (cw_block (cS (cM rfl rfl ?_))))); refine lw_pure (pur_indexAddr tabOk rfl rfl rfl rfl (by omega) (by omega)) rfl ?_; refine lw_loads_r0 tabOk rfl rfl rfl hr rfl rfl ?_; (refine lw_alloc' [_, _, _] zOk rfl rfl ?_; intro bh1 wh2 nh3); have hh5 := nh3.blk; have xh6 := nh3.ext; have ph7 := nh3.pos; have zh8 := nh3.size; clear nh3; replace hrow := hrow.ext xh6; replace hS := hS.ext xh6; replace hE := hE.ext xh6; replace X := X.ext xh6; replace hT := hT.ext xh6; replace hcell := hcell.ext xh6; replace hr := hr.ext xh6; clear xh6; refine cA rfl rfl ?_; (refine lw_store' [_, _, _] [_, _, _] tabOk rfl rfl rfl rfl rfl rfl hh5 rfl rfl ?_; intro wh9 nh10); have hh13 := nh10.blk; have fh11 := nh10.fr; have zh12 := nh10.size; clear nh10 hh5; replace hrow := Row.fr hrow fh11 (by simp only; omega); replace hS := hS.fr fh11 (by omega); replace hE := hE.fr fh11 (by omega); replace X := X.fr fh11 (by omega); replace hT := hT.fr fh11 (by omega); replace hcell := Row.fr hcell fh11 (by simp only; omega); replace hr := Row.fr hr fh11 (by simp only; omega); clear fh11; refine cT ?_; (refine cw_tdraw (fun wz => Ext wh9 wz) 16 (.pure 0 (.pure 1 (.pure 2 (.pure 4 (.pure 5 (.pure 6 (.pure 7 (.pure 8 (.pure 9 (.pure 10 (.pure 11 (.pure 12 (.fork 3 (.pure 13 (.fork 14 (.pure 15 .tail) .none)) .none))))))))))))) mixed (by kernel_rfl) (panicOk_block (panicOk_then (panicOk_then (panicOk_block (panicOk_then panicOk_body))))) ?_; intro wh14 xh15 _)
       have qsh16 : (fun wz => Ext wh9 wz) wh14 := xh15; simp only at qsh16; have d_hh13 := hh13; have d_hrow := hrow; have d_hS := hS; have d_hE := hE; have d_hT := hT; have d_hcell := hcell; have d_hr := hr; have zh17 := xh15.size; replace hh13 := hh13.ext xh15; replace hrow := hrow.ext xh15; replace hS := hS.ext xh15; replace hE := hE.ext xh15; replace X := X.ext xh15; replace hT := hT.ext xh15; replace hcell := hcell.ext xh15; replace hr := hr.ext xh15; clear xh15; refine ⟨qsh16, ?_⟩; refine tw_pure rfl (pur_move rfl) rfl (tw_pure rfl (pur_fieldAddr tabOk rfl rfl rfl) rfl (tw_pure rfl (pur_load tabOk rfl rfl rfl (fun wz hz => Blk.cell (Blk.ext d_hh13 hz) rfl)) rfl (tw_pure rfl (pur_move rfl) rfl (tw_pure rfl (pur_move rfl) rfl (tw_pure rfl (pur_move rfl) rfl (tw_pure rfl (pur_len_slice tabOk rfl rfl) rfl ?_)))))); refine tw_pure rfl (pur_rem rfl rfl (by omega) (rem_known (by assumption) (by omega))) rfl ?_; refine tw_pure rfl (pur_indexAddr tabOk rfl rfl rfl rfl (by omega) (by omega)) rfl ?_; refine tw_pure rfl (pur_load tabOk rfl rfl rfl (fun wz hz => Row.at0 (Row.ext d_hcell hz) rfl)) rfl ?_; refine tw_pure rfl (pur_conv tabOk rfl rfl rfl (IntWalk.i64_in _ (by omega))) rfl ?_; refine tw_pure rfl (pur_rem rfl rfl (by omega) (rem_known (by assumption) (by omega))) rfl ?_; (refine tw_does rfl (does_slice' [_, _, _, _, _] tabOk zOk rfl rfl rfl rfl rfl rfl rfl rfl rfl) rfl ?_ (fun _ h => h) tw_none; rintro _ wh19 ⟨bh18, rfl, nh20, th21⟩); clear th21; have hh22 := nh20.blk; have xh23 := nh20.ext
       have ph24 := nh20.pos; have zh25 := nh20.size; clear nh20; replace qsh16 := qsh16.ext xh23; replace hh13 := hh13.ext xh23; replace hrow := hrow.ext xh23; replace hS := hS.ext xh23; replace hE := hE.ext xh23; replace X := X.ext xh23; replace hT := hT.ext xh23; replace hcell := hcell.ext xh23; replace hr := hr.ext xh23; clear xh23; refine ⟨qsh16, ?_⟩; refine tw_pure rfl (pur_indexAddr tabOk rfl rfl rfl rfl (by omega) (by omega)) rfl ?_; (refine tw_does rfl (does_pur (pur_load tabOk rfl rfl rfl (fun wz hz => by subst hz; exact Blk.cell hh22 rfl))) rfl ?_ (fun _ h => h) tw_none; rintro _ _ ⟨rfl, rfl⟩); refine ⟨qsh16, ?_⟩; refine tw_pure rfl (pur_sadd rfl rfl (by simp only [List.length_cons, List.length_nil]; omega)) rfl ?_; clear d_hh13 d_hrow d_hS d_hE d_hT d_hcell d_hr qsh16; refine tw_tail rfl ?_; refine lw_pure (pur_sadd rfl rfl (by simp only [List.length_append, List.length_cons, List.length_nil]; omega)) rfl ?_; refine cA rfl rfl (lw_nil (qw_block_norm (qw_then (cw_region ?_)))); refine lw_pure (pur_add rfl rfl (IntWalk.i64_in _ (by omega))) rfl ?_; refine cM rfl rfl (lw_nil ?_); rotate_left 1
      refine qw_round (i + 1) (by refine sub_cons rfl (sub_cons rfl (sub_cons' rfl (by rw [hT1, hnx]; rfl) ?_)); (refine sub_cons rfl ?_; refine sub_cons rfl ?_; refine sub_cons rfl ?_; exact sub_nil)) ⟨by omega, by rw [hT1]; exact hlenx, hT, hrow, hS, hE, X, by omega⟩ (by omega)
    · omega
  · have : i = ts.length := by omega
    subst this; rw [List.take_length] at hlen ⊢
    generalize layT (fun j => sepOf (l.getD (j % l.length) 0)) 0 ts = T at *
    have hE1 : ∀ w, Syms w → Errs w → Calls Tryd.prog 12 #[str s] w (ParsePR w (parseProgram s)) := fun w => Program_p s w (by omega)
    have hE2 : ∀ w, Syms w → Errs w → Calls Tryd.prog 12 #[str T] w (ParsePR w (parseProgram T)) := fun w => Program_p T w (by omega)
    have hsm := parseProgram_sm0 s
    generalize parseProgram s = r1 at *
    generalize parseProgram T = r2 at *
    obtain ⟨g1, o1, e1⟩ := r1; obtain ⟨g2, o2, e2⟩ := r2; simp only at hp1 hp2 hsm; subst hp1 hp2
    have H1 := Lib.hid hE1; clear hE1
    have H2 := Lib.hid hE2; clear hE2
    clear hrow hT htl
    focus
     refine cS (lw_pure (pur_lss rfl rfl) rfl (cT (cw_seq ?_))); refine cw_no rfl (by omega) ?_; refine cw_exit (qw_then_exit (qw_then_exit (qw_block_exit (qw_then (cS (cM rfl rfl ?_)))))); refine cR (by kernel_rfl) rfl (H1.out _ (by assumption) (by assumption)) (fun _ _ h => h.ret) rfl ?_; rintro _ wi9 ⟨vai1, ⟨vci2, ⟨pai3, ⟨pci4, ⟨mai5, ⟨mci6, ⟨⟨⟩, ⟨hi7, xi8⟩⟩⟩⟩⟩⟩⟩⟩; have zi10 := xi8.size; replace hS := hS.ext xi8; replace hE := hE.ext xi8; replace X := X.ext xi8; clear xi8; refine cM rfl rfl (lw_pure (pur_extract rfl rfl) rfl (lw_pure (pur_extract rfl rfl) rfl (lw_pure (pur_extract rfl rfl) rfl ?_))); (refine lw_alloc' [_, _, _, _, _, _] zOk rfl rfl ?_; intro bi11 wi12 ni13); (refine lw_init' [_, _, _, _, _, _] tabOk rfl rfl rfl rfl rfl rfl ni13 rfl ?_; clear ni13; clear wi12; intro wi14 ni13); have hi15 := ni13.blk; dsimp only at hi15; have xi16 := ni13.ext; have pi17 := ni13.pos; have zi18 := ni13.size; clear ni13; replace hi7 := PG.sits.ext hi7 xi16; replace hS := hS.ext xi16; replace hE := hE.ext xi16; replace X := X.ext xi16; clear xi16; refine cA rfl rfl (cA rfl rfl (cN (cM rfl rfl ?_))); refine cR (by kernel_rfl) rfl (H2.out _ (by assumption) (by assumption)) (fun _ _ h => h.ret) rfl ?_; rintro _ wi27 ⟨vai19, ⟨vci20, ⟨pai21, ⟨pci22, ⟨mai23, ⟨mci24, ⟨⟨⟩, ⟨hi25, xi26⟩⟩⟩⟩⟩⟩⟩⟩; have zi28 := xi26.size; replace hi15 := hi15.ext xi26; replace hi7 := PG.sits.ext hi7 xi26; replace hS := hS.ext xi26; replace hE := hE.ext xi26; replace X := X.ext xi26; clear xi26; refine cM rfl rfl (lw_pure (pur_extract rfl rfl) rfl (lw_pure (pur_extract rfl rfl) rfl (lw_pure (pur_extract rfl rfl) rfl ?_)))
     (refine lw_alloc' [_, _, _, _, _, _] zOk rfl rfl ?_; intro bi29 wi30 ni31); (refine lw_init' [_, _, _, _, _, _] tabOk rfl rfl rfl rfl rfl rfl ni31 rfl ?_; clear ni31; clear wi30; intro wi32 ni31); have hi33 := ni31.blk; dsimp only at hi33; have xi34 := ni31.ext; have pi35 := ni31.pos; have zi36 := ni31.size; clear ni31; replace hi25 := PG.sits.ext hi25 xi34; replace hi15 := hi15.ext xi34; replace hi7 := PG.sits.ext hi7 xi34; replace hS := hS.ext xi34; replace hE := hE.ext xi34; replace X := X.ext xi34; clear xi34; refine cA rfl rfl (cA rfl rfl (cN (cM rfl rfl (cM rfl rfl (lw_pure (pur_eql rfl rfl) rfl (cM rfl rfl (lw_on rfl rfl rfl (gd_tt (rfl)) (lw_loads_b' [_, _, _, _, _, _] tabOk rfl rfl rfl hi15 rfl rfl rfl (lw_on rfl rfl rfl (gd_tt (rfl)) (lw_loads_b' [_, _, _, _, _, _] tabOk rfl rfl rfl hi33 rfl rfl rfl (lw_on rfl rfl rfl (gd_tt (rfl)) ?_))))))))))); refine cC (by kernel_rfl) rfl (Same_t _ _ _ _ _ _ _ _ _ _ _ _ _ _ _ _ hsm (by assumption) (by assumption)) rfl ?_; rintro _ wi38 ⟨⟨⟩, xi37⟩; have zi39 := xi37.size; replace hi33 := hi33.ext xi37; replace hi25 := PG.sits.ext hi25 xi37; replace hi15 := hi15.ext xi37; replace hi7 := PG.sits.ext hi7 xi37; replace hS := hS.ext xi37; replace hE := hE.ext xi37; replace X := X.ext xi37; clear xi37; refine lw_pure (pur_pick_yes rfl rfl (rfl)) rfl (cA rfl rfl (cT (cw_ret (qw_ret1 rfl rfl ?_)))); rotate_left 1
    exact ⟨rfl, X⟩
end Bk
namespace Bk
open Go Go.RowKit Go.Proofs
set_option maxRecDepth 100000 in
theorem bytes_of_trod {H : Type} {enc : TypeId × Value → H} {W : World} {sp : Nat → Bool} {r : Reach} {b0 : Nat} {held : Bool} {v : Value} {d : DataW H} {ps : List MemPlace} (hval : Value.okWide Tryd.prog W r b0 22 v) (h : DataW.Trod enc Tryd.prog W 0 sp held 22 v d ps) :
 ∃ (l : List UInt8) (a : Option Addr) (c : Nat), v = .slice a l.length c ∧ l.length ≤ 9223372036854775807 ∧ Bytes W l a := by
 obtain ⟨a0, len, cap, rfl⟩ := Go.WideShapes.okWide_slice Tryd.underlying22 hval; obtain ⟨fuel, hf⟩ := h
 have hc : Tryd.prog.cellsOf 5 = 1 := by kernel_rfl
 rcases Go.ChangeShapes.open_ints Tryd.underlying22 Tryd.underlying5 hc hf with ⟨hcs, hx⟩ | ⟨a, len', cap', zs, hcs, -, hle, hmax, hall, -, hcell, hwf⟩
 · simp [Value.cells] at hcs
   obtain ⟨rfl, rfl, rfl⟩ := hcs
   exact ⟨[], none, 0, rfl, by simp, Or.inl rfl⟩
 · simp [Value.cells] at hcs
   obtain ⟨rfl, rfl, rfl⟩ := hcs
   have hzl : len ≤ zs.length := by rw [hall]; split <;> omega
   have hl : ((zs.take len).map (fun z => UInt8.ofNat z.toNat)).length = len := by simp only [List.length_map, List.length_take]; omega
   refine ⟨(zs.take len).map (fun z => UInt8.ofNat z.toNat), some a, cap, by rw [hl], by rw [hl]; unfold maxLen at hmax; omega, ?_⟩
   by_cases h0 : len = 0
   · left; subst h0; rfl
   · right
     obtain ⟨b, o, spot⟩ := a
     have hspot : spot = none := by
      have e0 := hcell 0 (by omega); simp only [Addr.add, if_true] at e0
      unfold World.cell? at e0
      cases spot with
      | none => rfl
      | some q => simp at e0; split at e0 <;> simp at e0
     subst hspot; refine ⟨b, o, rfl, fun i v hv => ?_⟩; rw [List.getElem?_map, List.getElem?_map] at hv
     have hi : i < len := by
      by_cases hi : i < len
      · exact hi
      · rw [List.getElem?_eq_none (by simp only [List.length_take]; omega)] at hv; cases hv
     have hiz : i < zs.length := by omega
     rw [List.getElem?_take, if_pos hi, List.getElem?_eq_getElem hiz] at hv; simp only [Option.map_some, Option.some.injEq] at hv; rw [hcell i hiz, ← hv]; have hz := hwf zs[i] (List.getElem_mem hiz)
     have hz' : 0 ≤ zs[i] ∧ zs[i] ≤ 255 := by simpa [Lit.wf, IntKind.min, IntKind.max, IntKind.signed, IntKind.bits] using hz
     rw [List.getD_eq_getElem?_getD, List.getElem?_eq_getElem hiz]; simp only [Option.getD_some, Option.some.injEq, Value.int.injEq, true_and]; rw [UInt8.toNat_ofNat']
     omega
end Bk
