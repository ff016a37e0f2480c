/- Texts that the proofs of PrinterFixed need. No condition. (Part 8 of 8.) -/
import Derived.Test.YtajjbkcpgfgbiaaGreatDoorPPrx7
set_option linter.unusedSimpArgs false
set_option linter.unusedVariables false
namespace Bk
open Go
section
variable {ts : List Tok} {n : Int}
theorem decl_sound (hd : DigitKinds ts) {σ : PS} (h : σ.at_ ≤ ts.length) (he : (declP ts n σ).2.err = 0) : ∃ a, Seg ts σ (declP ts n σ).2 a ∧ GV a (declP ts n σ).1 := by
 unfold declP at he ⊢
 split at he
 · rename_i hh
   rw [if_pos hh]; obtain ⟨sn, hm⟩ := seg_name (next_le (has_in h hh (by decide))).wf he
   exact ⟨_, (seg_has h hh (by decide)).trans sn, GV.int hm⟩
 · rename_i hh
   rw [if_neg hh]
   split at he
   · rename_i hh
     rw [if_pos hh]; obtain ⟨sn, hm⟩ := seg_name (next_le (has_in h hh (by decide))).wf he
     exact ⟨_, (seg_has h hh (by decide)).trans sn, GV.stack hm⟩
   · rename_i hh
     rw [if_neg hh]
     split at he
     · rename_i hh
       rw [if_pos hh]; simp only at he ⊢; have h1 := next_le (has_in h hh (by decide)); have h2 := name_le (n := n) h1.wf; have h3 := expect_le (n := n) (t := [91]) h2.wf (by decide); have h4 := number_le (n := n) (a := 1) (b := 16) h3.wf; have e4 := (expect_le (n := n) (t := [93]) h4.wf (by decide)).ok he; obtain ⟨sn, hm⟩ := seg_name h1.wf (h3.ok (h4.ok e4)); obtain ⟨t, st, hs, e, -, h5, h6⟩ := seg_number hd h3.wf e4; rw [e]
       exact ⟨_, (((((seg_has h hh (by decide)).trans sn).trans (seg_expect h2.wf (by decide) (h4.ok e4))).trans st).trans (seg_expect h4.wf (by decide) he)), GV.array hm hs (by omega) (by omega)⟩
     · exact absurd he unexp_err
theorem vars_sound (hd : DigitKinds ts) (k : Nat) : ∀ (acc : List VD) (σ : PS), σ.at_ ≤ ts.length → (varsP ts n k acc σ).2.err = 0 → ∃ a l, Seg ts σ (varsP ts n k acc σ).2 a ∧ GVs a l ∧ (varsP ts n k acc σ).1 = acc ++ l := by
 induction k with
 | zero => intro acc σ h he; rw [varsP]; exact ⟨[], [], Seg.refl _, GVs.nil, by simp⟩
 | succ k ih =>
  intro acc σ h he; rw [varsP] at he ⊢
  split at he
  · rename_i hh
    rw [if_pos hh]; simp only at he ⊢
    by_cases c : acc.length = 32
    · rw [if_pos c] at he
      exfalso
      have l0 := fail_le (ts := ts) h (peekP ts σ).pos 5; have l1 := decl_le (n := n) l0.wf
      exact absurd ((l1.trans (vars_le k _ _ l1.wf)).ok he) (fail_err (by decide))
    · rw [if_neg c] at he ⊢
      have l1 := decl_le (n := n) h; obtain ⟨a, sa, ga⟩ := decl_sound hd h ((vars_le k _ _ l1.wf).ok he); obtain ⟨b, l, sb, gb, e⟩ := ih _ _ l1.wf he
      exact ⟨_, _, sa.trans sb, GVs.cons ga gb, by rw [e]; simp⟩
  · rename_i hh
    rw [if_neg hh]
    exact ⟨[], [], Seg.refl _, GVs.nil, by simp⟩
theorem params_sound (hd : DigitKinds ts) (k : Nat) : ∀ (acc : List VD) (σ : PS), σ.at_ ≤ ts.length → (paramsP ts n k acc σ).2.err = 0 → ∃ a l, Seg ts σ (paramsP ts n k acc σ).2 a ∧ GC a l ∧ (paramsP ts n k acc σ).1 = acc ++ l := by
 induction k with
 | zero => intro acc σ h he; rw [paramsP]; exact ⟨[], [], Seg.refl _, GC.nil, by simp⟩
 | succ k ih =>
  intro acc σ h he; rw [paramsP] at he ⊢
  split at he
  · rename_i hh
    rw [if_pos hh]; simp only at he ⊢; have h1 := next_le (has_in h hh (by decide))
    by_cases c : acc.length = 8 ∧ atDeclP ts (nextP σ) = true
    · rw [if_pos c] at he
      exfalso
      have l0 := fail_le (ts := ts) h1.wf (peekP ts (nextP σ)).pos 5; have l1 := decl_le (n := n) l0.wf
      exact absurd ((l1.trans (params_le k _ _ l1.wf)).ok he) (fail_err (by decide))
    · rw [if_neg c] at he ⊢
      have l1 := decl_le (n := n) h1.wf; obtain ⟨a, sa, ga⟩ := decl_sound hd h1.wf ((params_le k _ _ l1.wf).ok he); obtain ⟨b, l, sb, gb, e⟩ := ih _ _ l1.wf he
      exact ⟨[44] :: (a ++ b), (declP ts n (nextP σ)).1 :: l, (seg_has h hh (by decide)).trans (sa.trans sb), GC.cons ga gb, by rw [e]; simp⟩
  · rename_i hh
    rw [if_neg hh]
    exact ⟨[], [], Seg.refl _, GC.nil, by simp⟩
theorem body_sound (hd : DigitKinds ts) {k : Nat} {σ : PS} (h : σ.at_ ≤ ts.length) (hk : 4 * mS ts σ + 8 ≤ k) (he : (bodyP ts n k σ).2.err = 0) : ∃ a, Seg ts σ (bodyP ts n k σ).2 a ∧ GS .bl a [(bodyP ts n k σ).1] := by
 unfold bodyP at he ⊢
 simp only at he ⊢; obtain ⟨e1, e2, e3⟩ := limit_ok he; obtain ⟨a, sa, ga⟩ := (stmt_sound hd k).2.2.2.1 σ h hk e1; refine ⟨a, ?_, ga⟩
 have : limitP (blockP ts n k σ).1 (peekP ts σ).pos (blockP ts n k σ).2 = (blockP ts n k σ).2 := by
  unfold limitP
  rw [if_neg (by rw [e1]; simp), if_neg (by omega), if_neg (by omega)]
 rw [this]; exact sa
theorem proc_sound (hd : DigitKinds ts) {k : Nat} {σ : PS} (h : σ.at_ ≤ ts.length) (hk : 4 * mS ts σ + 8 ≤ k) (he : (procP ts n k σ).2.err = 0) : ∃ a, Seg ts σ (procP ts n k σ).2 a ∧ GPr a (procP ts n k σ).1 := by
 rw [procP_at] at he ⊢; simp only at he ⊢; have l1 := expect_le (n := n) (t := [112, 114, 111, 99]) h (by decide); have l2 := name_le (n := n) l1.wf; have l3 := expect_le (n := n) (t := [40]) l2.wf (by decide); have lq := procQ_le (n := n) (k := k) l3.wf; have lb := bodyP_le (n := n) (k := k) lq.wf; have m := mS_le (((l1.trans l2).trans l3).trans lq); obtain ⟨b, sb, gb⟩ := body_sound hd lq.wf (by omega) he; have eq := lb.ok he; have e3 := lq.ok eq; have e2 := l3.ok e3; have s1 := seg_expect h (by decide) (l2.ok e2); obtain ⟨s2, hm⟩ := seg_name l1.wf e2; have s3 := seg_expect l2.wf (by decide) e3
 have hp : ∃ a, Seg ts (expectP ts n (nameP ts n (expectP ts n σ [112, 114, 111, 99])).2 [40]) (procQ ts n k (expectP ts n (nameP ts n (expectP ts n σ [112, 114, 111, 99])).2 [40])).2 a ∧ ((a = [[41]] ∧ (procQ ts n k (expectP ts n (nameP ts n (expectP ts n σ [112, 114, 111, 99])).2 [40])).1 = []) ∨ ∃ a1 a2 v l, a = a1 ++ (a2 ++ [[41]]) ∧ GV a1 v ∧ GC a2 l ∧ (procQ ts n k (expectP ts n (nameP ts n (expectP ts n σ [112, 114, 111, 99])).2 [40])).1 = v :: l) := by
  unfold procQ at eq ⊢
  split at eq
  · rename_i hc
    rw [if_pos hc]
    exact ⟨_, seg_has l3.wf hc (by decide), Or.inl ⟨rfl, rfl⟩⟩
  · rename_i hc
    rw [if_neg hc]; simp only at eq ⊢; have ld := decl_le (n := n) l3.wf; have lp := params_le (n := n) k [(declP ts n (expectP ts n (nameP ts n (expectP ts n σ [112, 114, 111, 99])).2 [40])).1] _ ld.wf; have e1 := (expect_le (n := n) (t := [41]) lp.wf (by decide)).ok eq; obtain ⟨a1, t1, g1⟩ := decl_sound hd l3.wf (lp.ok e1); obtain ⟨a2, l, t2, g2, e⟩ := params_sound hd k _ _ ld.wf e1
    exact ⟨_, (t1.trans (t2.trans (seg_expect lp.wf (by decide) eq))), Or.inr ⟨a1, a2, _, l, rfl, g1, g2, by rw [e]; rfl⟩⟩
 obtain ⟨a, sa, hc⟩ := hp; refine ⟨_, s1.trans (s2.trans (s3.trans (sa.trans sb))), ?_⟩
 rcases hc with ⟨rfl, e⟩ | ⟨a1, a2, v, l, rfl, g1, g2, e⟩
 · rw [e]; exact GPr.p0 hm gb
 · rw [e]
   have := GPr.p1 hm g1 g2 gb
   simpa using this
theorem procs_sound (hd : DigitKinds ts) (k : Nat) : ∀ (acc : List PD) (σ : PS), σ.at_ ≤ ts.length → (σ.err = 0 → 4 * mS ts σ + 9 ≤ k) → (procsP ts n k acc σ).2.err = 0 → ∃ a l, Seg ts σ (procsP ts n k acc σ).2 a ∧ GPs a l ∧ (procsP ts n k acc σ).1 = acc ++ l := by
 induction k with
 | zero => intro acc σ h hk he; rw [procsP]; exact ⟨[], [], Seg.refl _, GPs.nil, by simp⟩
 | succ k ih =>
  intro acc σ h hk he; rw [procsP] at he ⊢
  split at he
  · rename_i hh
    rw [if_pos hh]; simp only at he ⊢; have h0 := (has_in h hh (by decide)).1; have hk0 := hk h0
    by_cases c : acc.length = 64
    · rw [if_pos c] at he
      exfalso
      have l0 := fail_le (ts := ts) h (peekP ts σ).pos 5; have l1 := procP_le (n := n) (k := k) l0.wf
      exact absurd ((l1.trans (procs_le k _ _ l1.wf)).ok he) (fail_err (by decide))
    · rw [if_neg c] at he ⊢
      have l1 := procP_le (n := n) (k := k) h; have e1 := (procs_le k (acc ++ [(procP ts n k σ).1]) _ l1.wf).ok he; have m1 := mS_dec l1 (procP_lt h) e1; obtain ⟨a, sa, ga⟩ := proc_sound hd h (by omega) e1; obtain ⟨b, l, sb, gb, e⟩ := ih _ _ l1.wf (fun _ => by omega) he
      exact ⟨_, _, sa.trans sb, GPs.cons ga gb, by rw [e]; simp⟩
  · rename_i hh
    rw [if_neg hh]
    exact ⟨[], [], Seg.refl _, GPs.nil, by simp⟩
theorem program_sound (hd : DigitKinds ts) {k : Nat} {σ : PS} (h : σ.at_ ≤ ts.length) (hk : 4 * mS ts σ + 9 ≤ k) (he : (programP ts n k σ).2.err = 0) : ∃ a, Seg ts σ (programP ts n k σ).2 a ∧ GPG a (programP ts n k σ).1 := by
 unfold programP at he ⊢
 simp only at he ⊢; have l1 := vars_le (n := n) k [] σ h; have l2 := procs_le (n := n) k [] _ l1.wf; have l3 := expect_le (n := n) (t := [109, 97, 105, 110]) l2.wf (by decide); have l4 := bodyP_le (n := n) (k := k) l3.wf; have e3 := l4.ok he; have e2 := l3.ok e3; have e1 := l2.ok e2; have m1 := mS_le l1; have m3 := mS_le ((l1.trans l2).trans l3); obtain ⟨a, l, sa, ga, ea⟩ := vars_sound hd k [] σ h e1; obtain ⟨b, q, sb, gb, eb⟩ := procs_sound hd k [] _ l1.wf (fun _ => by omega) e2; obtain ⟨c, sc, gc⟩ := body_sound hd l3.wf (by omega) he; refine ⟨_, sa.trans (sb.trans ((seg_expect l2.wf (by decide) e3).trans sc)), ?_⟩; rw [ea, eb]
 exact GPG.mk ga gb gc
end
theorem parse_err {s : List UInt8} (h : (startP s).2.err ≠ 0) : (parseProgram s).2.2 ≠ 0 := by
 intro he; have hw : (startP s).2.at_ ≤ (startP s).1.length := Nat.zero_le _
 unfold parseProgram at he
 generalize startP s = st at *
 simp only at he
 split at he
 · rename_i c; exact c he
 · rename_i c
   obtain ⟨f1, -⟩ := finish_ok (by simpa using c)
   unfold programP at f1
   simp only at f1; have l1 := vars_le (ts := st.1) (n := s.length) (fuelP s) [] st.2 hw; have l2 := procs_le (n := s.length) (fuelP s) [] _ l1.wf; have l3 := expect_le (n := s.length) (t := [109, 97, 105, 110]) l2.wf (by decide); have l4 := bodyP_le (n := s.length) (k := fuelP s) l3.wf
   exact h (l1.ok (l2.ok (l3.ok (l4.ok f1))))
theorem parseP_phrase {s : List UInt8} (hs : ¬ 65536 < s.length) (he : (parseProgram s).2.2 = 0) : ∃ ts, solidFrom s 0 = (ts, none) ∧ GPG (txt ts) (parseProgram s).1 ∧ DigT (txt ts) ∧ wt (txt ts) ≤ s.length := by
 have hlex : (solidFrom s 0).2 = none := by
  cases hsf : (solidFrom s 0).2 with
  | none => rfl
  | some q => exact absurd he (parse_err (by rw [startBad hs hsf]; simp))
 obtain ⟨ts, hts⟩ : ∃ ts, solidFrom s 0 = (ts, none) := ⟨_, Prod.ext rfl hlex⟩; have hst := startOk hs hlex; rw [hts] at hst; simp only at hst; have hd := digitKinds_start s; have hl := start_len s; rw [hst] at hd hl; simp only at hd hl; refine ⟨ts, hts, ?_, ?_, ?_⟩
 · unfold parseProgram at he ⊢
   rw [hst] at he ⊢; simp only at he ⊢
   split at he
   · rename_i c; exact absurd he c
   · rename_i c
     rw [if_neg c]; obtain ⟨f1, f2⟩ := finish_ok (by simpa using c)
     have hm : mS ts ⟨0, 0, 0⟩ = ts.length := by simp [mS]
     obtain ⟨a, sa, ga⟩ := program_sound hd (Nat.zero_le _) (by rw [hm]; unfold fuelP; omega) f1
     generalize programP ts s.length (fuelP s) ⟨0, 0, 0⟩ = r at *
     have h1 : rem ts r.2 = [] := by
      have := rem_len (ts := ts) r.2
      exact List.eq_nil_of_length_eq_zero (by omega)
     have h2 : rem ts st00 = a ++ rem ts r.2 := sa; rw [h1, List.append_nil, rem_st] at h2
     rw [h2]; exact ga
 · intro u hu hsd
   simp only [txt, List.mem_map] at hu; obtain ⟨tok, htk, rfl⟩ := hu; have hok := solid_ok s tok (by rw [hst]; exact htk)
   exact (hok.num (hok.dig.2 hsd)).2
 · have hw := wt_cnt s s.length 0 ts (by omega) (by omega) hts
   rw [List.drop_zero] at hw; have : cnt s ≤ s.length := List.length_filter_le _ _
   omega
theorem GV.len {a : Txt} {v : VD} (h : GV a v) (hd : DigT a) : v.text.length + 2 ≤ 32 * wt a := by
 cases h with
 | @int m hm => simp only [VD.text, if_true, wt, List.length_append, List.length_cons, List.length_nil]; omega
 | @stack m hm => simp only [VD.text, wt]; simp; omega
 | @array m t hm ht h1 h2 =>
  have hdg := hd t (by simp) ht
  have hne : t ≠ [] := by rintro rfl; simp [startsDigit] at ht
  have := num_len hne hdg; simp only [VD.text, wt]; rw [itoa_dec (by omega), Int.toNat_natCast]
  simp
  omega
theorem GVs.len {a : Txt} {l : List VD} (h : GVs a l) : DigT a → (cat VD.line l).length ≤ 32 * wt a := by
 induction h with
 | nil => intro _; simp [cat]
 | @cons a b v l hv hl ih =>
  intro hd; have h1 := hv.len hd.app.1; have h2 := ih hd.app.2
  have e : cat VD.line (v :: l) = VD.line v ++ cat VD.line l := by simp [cat]
  rw [e, wt_append]; simp only [VD.line, List.length_append, List.length_cons, List.length_nil]
  omega
theorem GC.len {a : Txt} {l : List VD} (h : GC a l) : DigT a → (commas VD.text false l).length ≤ 32 * wt a := by
 induction h with
 | nil => intro _; simp [commas]
 | @cons a b v l hv hl ih =>
  intro hd; have h1 := hv.len hd.tl.app.1; have h2 := ih hd.tl.app.2; simp only [commas, Bool.false_eq_true, if_false, wt, wt_append, List.length_append, List.length_cons, List.length_nil]
  omega
theorem bl_len {b : Txt} {x : Nd} (h : GS .bl b [x]) (hd : DigT b) (hw : x.wf) (hx : x.depth ≤ 80) : (x.linesT 1).length + 4 ≤ 32 * wt b := by
 have := h.len hd ⟨hw, trivial⟩; simp only [LenS] at this; have := (this 0 x rfl (by omega)).1
 omega
theorem GPr.len {a : Txt} {p : PD} (h : GPr a p) (hd : DigT a) (hw : p.wf) (hx : p.body.depth ≤ 80) : p.text.length ≤ 32 * wt a := by
 cases h with
 | @p0 m b x hm hb =>
  have := bl_len hb hd.tl.tl.tl.tl hw.body hx; simp only [PD.text, commas, wt, List.length_append, List.length_cons, List.length_nil]
  omega
 | @p1 m a c b v l x hm hv hc hb =>
  have hd1 := hd.tl.tl.tl.app; have hd2 := hd1.2.app; have h1 := hv.len hd1.1; have h2 := hc.len hd2.1; have h3 := bl_len hb hd2.2.tl hw.body hx; simp only [PD.text, commas, wt, wt_append, if_true, List.length_append, List.length_cons, List.length_nil]
  omega
theorem GPs.len {a : Txt} {l : List PD} (h : GPs a l) : DigT a → (∀ p ∈ l, p.wf ∧ p.body.depth ≤ 80) → (cat PD.text l).length ≤ 32 * wt a := by
 induction h with
 | nil => intro _ _; simp [cat]
 | @cons a b p l hp hl ih =>
  intro hd hw; obtain ⟨w1, w2⟩ := hw p (by simp); have h1 := hp.len hd.app.1 w1 w2; have h2 := ih hd.app.2 (fun q hq => hw q (by simp [hq]))
  have e : cat PD.text (p :: l) = PD.text p ++ cat PD.text l := by simp [cat]
  rw [e, wt_append, List.length_append]
  omega
theorem GPG.len {a : Txt} {g : PG} (h : GPG a g) (hd : DigT a) (hw : g.wf) (hp : ∀ p ∈ g.procs, p.body.depth ≤ 80) (hm : g.main.depth ≤ 80) : g.text.length ≤ 32 * wt a := by
 cases h with
 | @mk a b c vs ps x hv hps hx =>
  have hd2 := hd.app.2.app; have h1 := hv.len hd.app.1; have h2 := hps.len hd2.1 (fun p hpm => ⟨hw.procs p hpm, hp p hpm⟩); have h3 := bl_len hx hd2.2.tl hw.main hm; simp only [PG.text, wt, wt_append, List.length_append, List.length_cons, List.length_nil] at h3 ⊢
  omega
theorem fixed_plain {s : List UInt8} (hs : s.length ≤ 2000) (he : (parseProgram s).2.2 = 0) : (parseProgram s).1.ok = true ∧ (parseProgram s).1.wf ∧ parseProgram (parseProgram s).1.text = ((parseProgram s).1, 0, 0) ∧ (parseProgram s).1.text.length ≤ 65536 := by
 have hok := ((parseProgram_ok s).1 he).1; have hw := parseProgram_wf s (by omega) he; obtain ⟨ts, h1, h2, h3, h4⟩ := parseP_phrase (by omega) he
 generalize (parseProgram s).1 = g at *
 have hok2 := hok; simp only [PG.ok, Bool.and_eq_true, decide_eq_true_eq] at hok2; obtain ⟨⟨⟨⟨n1, n2⟩, -⟩, hp⟩, hb⟩ := hok2
 have hl := h2.len h3 hw (fun p hpm => by
  have hpo := List.all_eq_true.1 hp p hpm; simp only [PD.ok, Bool.and_eq_true, decide_eq_true_eq] at hpo
  exact (body_facts hpo.2).2.1) (body_facts hb).2.1
 have hl2 : g.text.length ≤ 65536 := by omega
 exact ⟨hok, hw, parse_program hok hw hl2, hl2⟩
end Bk
namespace Bk
open Go Go.RowKit Go.Proofs
attribute [local irreducible] Go.Calls
set_option maxRecDepth 100000 in
set_option maxHeartbeats 4000000 in
theorem PrinterFixed_c (s : List UInt8) (w : World) (hl : s.length ≤ 9223372036854775807) (ht : Tabs5 w ∧ Syms w) (hE : Errs w) :
 Calls Tryz.prog 7 #[str s] w fun e w' => e = .returned (.bool true) ∧ Ext w w' := by
 have X := Ext.refl w; obtain ⟨ht, hS⟩ := ht
 by_cases h2 : s.length ≤ 2000
 · have HT := Lib.hid (fun w => Program_p s w (by omega))
   by_cases he : (parseProgram s).2.2 = 0
   · obtain ⟨hok, hwf, hp, hle⟩ := fixed_plain h2 he
     generalize parseProgram s = r at *
     have HP := Lib.hid (pProgram_v hwf hok); have hfew := few_ok hok; have HS := Lib.hid (fun (S S' : Nat → Prop) (va pa ma va' pa' ma' : Option Addr) (vc pc mc vc' pc' mc' : Nat) (w : World) => SameA_t r.1 S S' va pa ma va' pa' ma' vc pc mc vc' pc' mc' w hfew); have HT2 := Lib.hid (fun w => Program_p r.1.text w (by omega)); rw [hp] at HT2; clear hok hwf hp hfew
     generalize r.1.text = T at *
     obtain ⟨g, q, e⟩ := r; simp only at he HT HP HS HT2; subst he; refine calls_in Tryz.func7 Tryz.ntmps7 rfl rfl ?_
     focus
      refine cS (cA rfl rfl (cT (cw_seq (cS ?_)))); refine cC (by kernel_rfl) rfl (awake5_c _ (Tabs5.t (by assumption)) (Tabs5.g (by assumption))) rfl ?_; rintro _ w2 ⟨⟨⟩, x1⟩; have z3 := x1.size; replace hE := hE.ext x1; replace X := X.ext x1; replace ht := ht.ext x1; replace hS := hS.ext x1; clear x1; refine lw_pure (pur_not rfl) rfl (cT (cw_cond_f rfl (cw_skip (qw_then (cw_seq (cS (cM rfl rfl (lw_pure (pur_len_s tabOk rfl rfl) rfl (lw_pure (pur_gtr rfl rfl) rfl (cT ?_)))))))))); refine cw_no rfl (by omega) ?_; refine cw_skip (qw_then (cS (cM rfl rfl ?_))); refine cR (by kernel_rfl) rfl (HT.out _ (by assumption) (by assumption)) (fun _ _ h => h.ret) rfl ?_; rintro _ w12 ⟨va4, ⟨vc5, ⟨pa6, ⟨pc7, ⟨ma8, ⟨mc9, ⟨⟨⟩, ⟨h10, x11⟩⟩⟩⟩⟩⟩⟩⟩; have z13 := x11.size; replace hE := hE.ext x11; replace X := X.ext x11; replace ht := ht.ext x11; replace hS := hS.ext x11; clear x11; refine cM rfl rfl (lw_pure (pur_extract rfl rfl) rfl (lw_pure (pur_extract rfl rfl) rfl (lw_pure (pur_extract rfl rfl) rfl ?_))); (refine lw_alloc' [_, _, _, _, _, _] zOk rfl rfl ?_; intro b14 w15 n16); (refine lw_init' [_, _, _, _, _, _] tabOk rfl rfl rfl rfl rfl rfl n16 rfl ?_; clear n16; clear w15; intro w17 n16); have h18 := n16.blk; dsimp only at h18; have x19 := n16.ext; have p20 := n16.pos; have z21 := n16.size; clear n16; replace h10 := PG.sits.ext h10 x19; replace hE := hE.ext x19; replace X := X.ext x19; replace ht := ht.ext x19; replace hS := hS.ext x19; clear x19; refine cA rfl rfl (cA rfl rfl (cT (cw_seq (cS (cM rfl rfl (lw_pure (pur_neq rfl rfl) rfl (cT (cw_no rfl (not_not_intro rfl) (cw_skip (qw_then (cS ?_)))))))))))
      refine lw_loads_b' [_, _, _, _, _, _] tabOk rfl rfl rfl h18 rfl rfl rfl ?_; refine cC (by kernel_rfl) rfl (HP.out _ _ _ _ _ _ _ _ (by assumption) (by assumption)) rfl ?_; rintro _ w23 ⟨⟨⟩, x22⟩; have z24 := x22.size; replace h18 := h18.ext x22; replace h10 := PG.sits.ext h10 x22; replace hE := hE.ext x22; replace X := X.ext x22; replace ht := ht.ext x22; replace hS := hS.ext x22; clear x22; refine cM rfl rfl (lw_pure (pur_extract rfl rfl) rfl (lw_pure (pur_extract rfl rfl) rfl (cA rfl rfl (cA rfl rfl (cN (cM rfl rfl ?_)))))); refine cR (by kernel_rfl) rfl (HT2.out _ (by assumption) (by assumption)) (fun _ _ h => h.ret) rfl ?_; rintro _ w33 ⟨va25, ⟨vc26, ⟨pa27, ⟨pc28, ⟨ma29, ⟨mc30, ⟨⟨⟩, ⟨h31, x32⟩⟩⟩⟩⟩⟩⟩⟩; have z34 := x32.size; replace h18 := h18.ext x32; replace h10 := PG.sits.ext h10 x32; replace hE := hE.ext x32; replace X := X.ext x32; replace ht := ht.ext x32; replace hS := hS.ext x32; clear x32; refine cM rfl rfl (lw_pure (pur_extract rfl rfl) rfl (lw_pure (pur_extract rfl rfl) rfl (lw_pure (pur_extract rfl rfl) rfl ?_))); (refine lw_alloc' [_, _, _, _, _, _] zOk rfl rfl ?_; intro b35 w36 n37); (refine lw_init' [_, _, _, _, _, _] tabOk rfl rfl rfl rfl rfl rfl n37 rfl ?_; clear n37; clear w36; intro w38 n37); have h39 := n37.blk; dsimp only at h39; have x40 := n37.ext; have p41 := n37.pos; have z42 := n37.size; clear n37; replace h31 := PG.sits.ext h31 x40; replace h18 := h18.ext x40; replace h10 := PG.sits.ext h10 x40; replace hE := hE.ext x40; replace X := X.ext x40
      replace ht := ht.ext x40; replace hS := hS.ext x40; clear x40; refine cA rfl rfl (cA rfl rfl (cN (lw_loads_b' [_, _, _, _, _, _] tabOk rfl rfl rfl h39 rfl rfl rfl ?_))); refine cC (by kernel_rfl) rfl (HP.out _ _ _ _ _ _ _ _ (by assumption) (by assumption)) rfl ?_; rintro _ w44 ⟨⟨⟩, x43⟩; have z45 := x43.size; replace h39 := h39.ext x43; replace h31 := PG.sits.ext h31 x43; replace h18 := h18.ext x43; replace h10 := PG.sits.ext h10 x43; replace hE := hE.ext x43; replace X := X.ext x43; replace ht := ht.ext x43; replace hS := hS.ext x43; clear x43; refine cM rfl rfl (lw_pure (pur_extract rfl rfl) rfl (lw_pure (pur_extract rfl rfl) rfl (cA rfl rfl (cA rfl rfl (cN (cM rfl rfl (lw_pure (pur_eql rfl rfl) rfl (cM rfl rfl ?_)))))))); refine lw_on rfl rfl rfl (gd_tt (by decide)) ?_; refine cM rfl rfl ?_; refine lw_on rfl rfl rfl (gd_tt (by decide)) ?_; refine lw_pure (pur_eql rfl rfl) rfl ?_; refine lw_pure (pur_pick_yes rfl rfl (by decide)) rfl ?_; refine cM rfl rfl (lw_on rfl rfl rfl (gd_tt (rfl)) (cM rfl rfl (lw_on rfl rfl rfl (gd_tt (rfl)) (lw_pure (pur_eql rfl rfl) rfl (lw_pure (pur_pick_yes rfl rfl (rfl)) rfl (cM rfl rfl ?_)))))); refine lw_on rfl rfl rfl (gd_tt (by decide)) ?_; refine cM rfl rfl ?_; refine lw_on rfl rfl rfl (gd_tt (by decide)) ?_; refine cM rfl rfl ?_; refine lw_on rfl rfl rfl (gd_tt (by decide)) ?_; refine lw_pure (pur_seql rfl rfl) rfl ?_; refine lw_pure (pur_pick_yes rfl rfl (by decide)) rfl ?_; refine cM rfl rfl (lw_on rfl rfl rfl (gd_tt (rfl)) (lw_loads_b' [_, _, _, _, _, _] tabOk rfl rfl rfl h18 rfl rfl rfl (lw_on rfl rfl rfl (gd_tt (rfl)) (lw_loads_b' [_, _, _, _, _, _] tabOk rfl rfl rfl h39 rfl rfl rfl (lw_on rfl rfl rfl (gd_tt (rfl)) ?_)))))
      refine cC (by kernel_rfl) rfl (HS.out _ _ _ _ _ _ _ _ _ _ _ _ _ _ _ (by assumption) (by assumption)) rfl ?_; rintro _ w47 ⟨⟨⟩, x46⟩; have z48 := x46.size; replace h39 := h39.ext x46; replace h31 := PG.sits.ext h31 x46; replace h18 := h18.ext x46; replace h10 := PG.sits.ext h10 x46; replace hE := hE.ext x46; replace X := X.ext x46; replace ht := ht.ext x46; replace hS := hS.ext x46; clear x46; refine lw_pure (pur_pick_yes rfl rfl (rfl)) rfl (cA rfl rfl (cT (cw_ret (qw_ret1 rfl rfl ?_)))); rotate_left 1
     exact ⟨rfl, X⟩
   · generalize parseProgram s = r at *
     obtain ⟨g, q, e⟩ := r; simp only at he HT; refine calls_in Tryz.func7 Tryz.ntmps7 rfl rfl ?_
     focus
      refine cS (cA rfl rfl (cT (cw_seq (cS ?_)))); refine cC (by kernel_rfl) rfl (awake5_c _ (Tabs5.t (by assumption)) (Tabs5.g (by assumption))) rfl ?_; rintro _ wa2 ⟨⟨⟩, xa1⟩; have za3 := xa1.size; replace hE := hE.ext xa1; replace X := X.ext xa1; replace ht := ht.ext xa1; replace hS := hS.ext xa1; clear xa1; refine lw_pure (pur_not rfl) rfl (cT (cw_cond_f rfl (cw_skip (qw_then (cw_seq (cS (cM rfl rfl (lw_pure (pur_len_s tabOk rfl rfl) rfl (lw_pure (pur_gtr rfl rfl) rfl (cT ?_)))))))))); refine cw_no rfl (by omega) ?_; refine cw_skip (qw_then (cS (cM rfl rfl ?_))); refine cR (by kernel_rfl) rfl (HT.out _ (by assumption) (by assumption)) (fun _ _ h => h.ret) rfl ?_; rintro _ wa12 ⟨vaa4, ⟨vca5, ⟨paa6, ⟨pca7, ⟨maa8, ⟨mca9, ⟨⟨⟩, ⟨ha10, xa11⟩⟩⟩⟩⟩⟩⟩⟩; have za13 := xa11.size; replace hE := hE.ext xa11; replace X := X.ext xa11; replace ht := ht.ext xa11; replace hS := hS.ext xa11; clear xa11; refine cM rfl rfl (lw_pure (pur_extract rfl rfl) rfl (lw_pure (pur_extract rfl rfl) rfl (lw_pure (pur_extract rfl rfl) rfl ?_))); (refine lw_alloc' [_, _, _, _, _, _] zOk rfl rfl ?_; intro ba14 wa15 na16); (refine lw_init' [_, _, _, _, _, _] tabOk rfl rfl rfl rfl rfl rfl na16 rfl ?_; clear na16; clear wa15; intro wa17 na16); have ha18 := na16.blk; dsimp only at ha18; have xa19 := na16.ext; have pa20 := na16.pos; have za21 := na16.size; clear na16; replace ha10 := PG.sits.ext ha10 xa19; replace hE := hE.ext xa19; replace X := X.ext xa19; replace ht := ht.ext xa19; replace hS := hS.ext xa19; clear xa19
      refine cA rfl rfl (cA rfl rfl (cT (cw_seq (cS (cM rfl rfl (lw_pure (pur_neq rfl rfl) rfl (cT ?_))))))); refine cw_yes rfl (by assumption) ?_; refine cS (cA rfl rfl (cT (cw_ret (qw_then_ret (qw_ret1 rfl rfl ?_))))); rotate_left 1
     exact ⟨rfl, X⟩
 · refine calls_in Tryz.func7 Tryz.ntmps7 rfl rfl ?_
   focus
    refine cS (cA rfl rfl (cT (cw_seq (cS ?_)))); refine cC (by kernel_rfl) rfl (awake5_c _ (Tabs5.t (by assumption)) (Tabs5.g (by assumption))) rfl ?_; rintro _ wb2 ⟨⟨⟩, xb1⟩; have zb3 := xb1.size; replace hE := hE.ext xb1; replace X := X.ext xb1; replace ht := ht.ext xb1; replace hS := hS.ext xb1; clear xb1; refine lw_pure (pur_not rfl) rfl (cT (cw_cond_f rfl (cw_skip (qw_then (cw_seq (cS (cM rfl rfl (lw_pure (pur_len_s tabOk rfl rfl) rfl (lw_pure (pur_gtr rfl rfl) rfl (cT ?_)))))))))); refine cw_yes rfl (by omega) ?_; refine cS (cA rfl rfl (cT (cw_ret (qw_then_ret (qw_ret1 rfl rfl ?_))))); rotate_left 1
   exact ⟨rfl, X⟩
end Bk
namespace Bk
open Go Go.RowKit Go.Proofs
def AllB : Nat → Prop := fun _ => True
end Bk
namespace Bk
open Go Go.RowKit Go.Proofs
section
variable {H : Type} (enc : TypeId × Value → H) (W : World) (sp : Nat → Bool)
end
end Bk
namespace Bk
open Go Go.RowKit Go.Proofs
theorem PrinterFixed_d (s : List UInt8) (w : World) (hl : s.length ≤ 9223372036854775807) (hT : Tabs5 w ∧ Syms w) (hE : Errs w) :
 Calls Tryz.prog 7 #[str s] w fun e w' => e = .returned (.bool true) ∧ Ext w w' := PrinterFixed_c s w hl hT hE
end Bk
namespace Bk
open Go Go.RowKit Go.Proofs Go.Lib
theorem cells_of_strs {H : Type} {enc : TypeId × Value → H} {P : Program} {w : World} {base : Nat} {sp : Nat → Bool} {held : Bool} {fuel : Nat} {t e : TypeId} {n : Nat} {cs : List Value} {zs : List (List UInt8)} {p : List MemPlace}
 (ht : P.underlying t = some (.array n e)) (he : P.underlying e = some .string) (hce : P.cellsOf e = 1) (hct : P.cellsOf t = n)
 (h : DataW.trod enc P w base sp held fuel t cs = some (.agg (zs.map fun z => .lit (.string z)), p)) : cs = zs.map str := by
 cases fuel with
 | zero => simp [DataW.trod] at h
 | succ fuel =>
  simp only [DataW.trod, ht, hce, hct, Nat.mul_one] at h
  split at h
  · rename_i hl
    obtain ⟨xs, hm, hx⟩ := Option.map_eq_some_iff.1 h
    have hxs : xs.map (·.1) = zs.map fun z => (DataW.lit (.string z) : DataW H) := by
     have := congrArg Prod.fst hx
     simpa using this
    have hxl : xs.length = n := by simpa using mapM_length hm
    have hzl : zs.length = n := by
     have := congrArg List.length hxs
     simp at this
     omega
    apply List.ext_getElem?
    intro i
    by_cases hi : i < n
    · obtain ⟨b, hb, hf⟩ := mapM_at hm i i (by simp [hi])
      obtain ⟨z, hc, rfl, _⟩ := DataW.trod_string he hf
      have h1 : cs[i]? = some (.string z) := by
       have := congrArg (·[0]?) hc
       simpa [List.getElem?_take, List.getElem?_drop] using this
      have h2 : (xs.map (·.1))[i]? = some (DataW.lit (.string z.data.toList) : DataW H) := by simp [hb]
      rw [hxs] at h2; simp only [List.getElem?_map, Option.map_eq_some_iff, DataW.lit.injEq, Lit.string.injEq] at h2; obtain ⟨z', hz', rfl⟩ := h2
      simp [h1, hz']
    · rw [List.getElem?_eq_none (by omega), List.getElem?_eq_none (by simp; omega)]
  · cases h
end Bk
namespace Bk
open Go Go.RowKit Go.Proofs Go.Lib
theorem gSym4 : Tryz.prog.globalNamed "backstep/arith.symbols" = some 0 := by kernel_rfl
theorem gSymT4 : (Tryz.prog.globals[0]?).map (·.type) = some 111 := by kernel_rfl
theorem uSymT4 : Tryz.prog.underlying 111 = some (.array 43 9) := by kernel_rfl
theorem cSymT4 : Tryz.prog.cellsOf 111 = 43 := by kernel_rfl
theorem uStr4 : Tryz.prog.underlying 9 = some .string := by kernel_rfl
theorem cStr4 : Tryz.prog.cellsOf 9 = 1 := by kernel_rfl
theorem gErr4 : Tryz.prog.globalNamed "strconv.ErrRange" = some 4 := by kernel_rfl
theorem gErrT4 : (Tryz.prog.globals[4]?).map (·.type) = some 105 := by kernel_rfl
theorem uErr4 : ∃ ms, Tryz.prog.underlying 105 = some (.interface ms) := ⟨_, Tryz.underlying105⟩
theorem symData4 : (YtajjbkcpgfgbiaaGreatDoor.Rows.laid_backstep_arith_symbols : DataW Unit) = .agg (symbols.map fun z => .lit (.string z)) := rfl
abbrev laid4 : List (String × DataW Unit) := [("backstep/arith.symbols", YtajjbkcpgfgbiaaGreatDoor.Rows.laid_backstep_arith_symbols), ("math/bits.deBruijn32tab", YtajjbkcpgfgbiaaGreatDoor.Rows.laid_math_bits_deBruijn32tab), ("math/bits.deBruijn64tab", YtajjbkcpgfgbiaaGreatDoor.Rows.laid_math_bits_deBruijn64tab), ("internal/strconv.uint64pow10", YtajjbkcpgfgbiaaGreatDoor.Rows.laid_internal_strconv_uint64pow10), ("strconv.ErrRange", YtajjbkcpgfgbiaaGreatDoor.Rows.laid_strconv_ErrRange), ("strconv.ErrSyntax", YtajjbkcpgfgbiaaGreatDoor.Rows.laid_strconv_ErrSyntax)]
theorem syms_of_laid {W : World} (h : laidMetH Tryz.prog laid4 W) : Syms W ∧ Errs W := by
 have h' : laidMet Tryz.prog laid4 W := h; obtain ⟨ps, ⟨g1, t1, cs1, f1, p1, q1, hg1, ht1, hv1, hd1, ⟨g2, t2, cs2, f2, p2, q2, hg2, ht2, hv2, hd2, ⟨g3, t3, cs3, f3, p3, q3, hg3, ht3, hv3, hd3, ⟨g4, t4, cs4, f4, p4, q4, hg4, ht4, hv4, hd4, ⟨g5, t5, cs5, f5, p5, q5, hg5, ht5, hv5, hd5, -, -⟩, -⟩, -⟩, -⟩, -⟩, -⟩ := h'; obtain rfl := Option.some.inj (gSym4.symm.trans hg1); obtain rfl := Option.some.inj (gSymT4.symm.trans ht1); obtain rfl := Option.some.inj (gErr4.symm.trans hg5); obtain rfl := Option.some.inj (gErrT4.symm.trans ht5); rw [symData4] at hd1; have e1 := cells_of_strs uSymT4 uStr4 cStr4 cSymT4 hd1; refine ⟨⟨fun i hi => ?_⟩, ?_⟩
 · rw [World.var?_cell gSym4 hv1 i, ← Array.getElem?_toList, e1, List.getElem?_map]
   have : symbols[i]? = some (symbols.getD i []) := by
    rw [List.getD_eq_getElem?_getD, List.getElem?_eq_getElem (show i < symbols.length from hi)]; rfl
   rw [this]; rfl
 · obtain ⟨ms, hu⟩ := uErr4
   obtain ⟨f, u, v, hc, -, -⟩ := iface_of_trod hu hd5; refine ⟨⟨u, v, ?_⟩⟩; rw [World.var?_cell gErr4 hv5 0, ← Array.getElem?_toList, hc]
   rfl
end Bk
namespace Bk
open Go Go.RowKit Go.Proofs Go.Lib
theorem gPow5 : Tryz.prog.globalNamed "internal/strconv.uint64pow10" = some 1 := by kernel_rfl
theorem gPowT5 : (Tryz.prog.globals[1]?).map (·.type) = some 135 := by kernel_rfl
theorem uPowT5 : Tryz.prog.underlying 135 = some (.array 20 127) := by kernel_rfl
theorem uU645 : Tryz.prog.underlying 127 = some (.int .u64) := by kernel_rfl
theorem cU645 : Tryz.prog.cellsOf 127 = 1 := by kernel_rfl
theorem cPowT5 : Tryz.prog.cellsOf 135 = 20 := by kernel_rfl
theorem powData5 : (YtajjbkcpgfgbiaaGreatDoor.Rows.laid_internal_strconv_uint64pow10 : DataW Unit) = tabData .u64 pow10Tab := rfl
theorem heap5_of_laid {W : World} (h : laidMetH Tryz.prog laid4 W) : Tryz.prog.globals.size ≤ W.heap.size := by
 have h' : laidMet Tryz.prog laid4 W := h; obtain ⟨ps, ⟨g1, t1, cs1, f1, p1, q1, hg1, ht1, hv1, hd1, ⟨g2, t2, cs2, f2, p2, q2, hg2, ht2, hv2, hd2, ⟨g3, t3, cs3, f3, p3, q3, hg3, ht3, hv3, hd3, -, -⟩, -⟩, -⟩, -⟩ := h'
 have hg : Tryz.prog.globalNamed "math/bits.deBruijn64tab" = some 6 := by kernel_rfl
 have hn : Tryz.prog.globals.size ≤ 6 + 1 := of_decide_eq_true (by kernel_rfl); obtain rfl := Option.some.inj (hg.symm.trans hg3)
 rcases Nat.lt_or_ge 6 W.heap.size with hlt | hge
 · omega
 · unfold World.var? at hv3
   rw [hg] at hv3
   simp [Array.getElem?_eq_none hge] at hv3
theorem tabs5_of_laid {W : World} (h : laidMetH Tryz.prog laid4 W) : (Tabs5 W ∧ Syms W) ∧ Errs W := by
 obtain ⟨hS, hE⟩ := syms_of_laid h; have hg := heap5_of_laid h; have h' : laidMet Tryz.prog laid4 W := h; obtain ⟨ps, ⟨g1, t1, cs1, f1, p1, q1, hg1, ht1, hv1, hd1, ⟨g2, t2, cs2, f2, p2, q2, hg2, ht2, hv2, hd2, ⟨g3, t3, cs3, f3, p3, q3, hg3, ht3, hv3, hd3, ⟨g4, t4, cs4, f4, p4, q4, hg4, ht4, hv4, hd4, -, -⟩, -⟩, -⟩, -⟩, -⟩ := h'; obtain rfl := Option.some.inj (gPow5.symm.trans hg4); obtain rfl := Option.some.inj (gPowT5.symm.trans ht4); rw [powData5] at hd4; have e4 := cells_of_tab uPowT5 uU645 cU645 cPowT5 hd4; refine ⟨⟨⟨⟨hS.sym, ?_⟩, hg⟩, hS⟩, hE⟩
 unfold TabIs
 rw [hv4, ← e4]
end Bk
