/- Texts that the proofs of FuntextBack, FuntextLevels need. No condition. (Part 7 of 7.) -/
import Derived.Test.YtmmjpjmkkhflkaaGreatDoorPFka6
set_option linter.unusedSimpArgs false
set_option linter.unusedVariables false
namespace Bk
open Go
theorem allTok {s : List UInt8} (hne : s ≠ []) (h : ∀ c ∈ s, letter c = true) : firstTok s = (1, s.length) := by
 cases s with
 | nil => exact absurd rfl hne
 | cons c r =>
  have hc := h c (by simp); have hs := span_all' (p := wordish) (c :: r) (fun d hd => by unfold wordish; rw [h d hd]; rfl); simp only [firstTok, hc, if_true, hs]
theorem funName_isName {s : List UInt8} (h : funName s = true) : isName s = true := by
 unfold funName at h
 simp only [Bool.and_eq_true, decide_eq_true_eq] at h; obtain ⟨⟨⟨⟨h1, h2⟩, h3⟩, h4⟩, -⟩ := h
 have hne : s ≠ [] := by rintro rfl; simp at h1
 have hf := allTok hne (fun c hc => List.all_eq_true.1 h4 c hc)
 unfold isName
 rw [hf, h1, h3]; have : decide (s.length ≤ 16) = true := decide_eq_true (by omega); rw [this]
 simp
mutual
def Nd.okR : Nd → Prop
 | .mk k n s l => formN k n s l.length = true ∧ (k = 81 ∨ k = 84 ∨ k = 85 → isName s = true) ∧ (80 ≤ k ∧ k ≤ 90) ∧ n ≤ 9223372036854775807 ∧ rowOkR l
def rowOkR : List Nd → Prop
 | [] => True
 | t :: r => t.okR ∧ rowOkR r
end
theorem rowOkR_mem {l : List Nd} (h : rowOkR l) {x : Nd} (hx : x ∈ l) : x.okR := by
 induction l with
 | nil => cases hx
 | cons a r ih =>
  rcases List.mem_cons.1 hx with rfl | hx
  · exact h.1
  · exact ih h.2 hx
theorem formN_kind {k n : Int} {s : List UInt8} {c : Nat} (h : formN k n s c = true) : 80 ≤ k ∧ k ≤ 90 := by
 unfold formN at h
 repeat' split at h
 all_goals first
  | omega
  | (simp at h)
mutual
theorem chk_okR {lib : List FD} (hlib : ∀ f ∈ lib, funName f.name = true) : ∀ (t : Nd) (v : Vis), t.wf → t.formed = true → (t.chk lib v).2 = 0 → (∀ p ∈ v, funName p.1 = true) → t.okR
 | .mk k n s l, v, hw, hf, hc, hv => by
  simp only [Nd.wf] at hw; obtain ⟨-, -, -, w4, -, -, w7⟩ := hw; simp only [Nd.formed, Bool.and_eq_true] at hf; obtain ⟨f1, f2⟩ := hf; rw [Nd.chk] at hc
  split at hc
  · rename_i h; exact absurd hc h
  · rename_i hr
    have hr : reachF lib v k s l.length = 0 := Decidable.not_not.1 hr
    split at hc
    · rename_i h; exact absurd hc h
    · rename_i hrow
      have hrow : (rowChk lib v k s [] l).2 = 0 := Decidable.not_not.1 hrow
      have h84 : k = 84 → funName s = true := fun h => by subst h; exact (formN_84 f1).1
      have hs : k = 81 ∨ k = 84 ∨ k = 85 → isName s = true := by
       rintro (k1 | k4 | k5)
       · subst k1
         simp only [reachF, if_true] at hr
         split at hr
         · rename_i hse
           obtain ⟨b, hb⟩ := Option.isSome_iff_exists.1 hse
           exact funName_isName (hv _ (seen_mem hb))
         · cases hr
       · exact funName_isName (h84 k4)
       · subst k5
         simp only [reachF, show ¬ (85 : Int) = 81 by decide, show ¬ (85 : Int) = 84 by decide, if_false, if_true] at hr
         cases hff : findF lib s with
         | none => rw [hff] at hr; cases hr
         | some i =>
          obtain ⟨f, hf, rfl⟩ := findF_name hff
          exact funName_isName (hlib f hf)
      simp only [Nd.okR]
      exact ⟨f1, hs, formN_kind f1, w4, row_okR hlib l v k s [] w7 f2 hrow hv h84⟩
theorem row_okR {lib : List FD} (hlib : ∀ f ∈ lib, funName f.name = true) : ∀ (l : List Nd) (v : Vis) (k : Int) (s : List UInt8) (acc : List Bool), rowWf l → rowFormed l = true → (rowChk lib v k s acc l).2 = 0 → (∀ p ∈ v, funName p.1 = true) → (k = 84 → funName s = true) → rowOkR l
 | [], _, _, _, _, _, _, _, _, _ => trivial
 | t :: r, v, k, s, acc, hw, hf, hc, hv, hs => by
  simp only [rowFormed, Bool.and_eq_true] at hf; rw [rowChk] at hc
  have hv2 : ∀ p ∈ (if k = 84 ∧ acc.length = 1 then (s, acc.getD 0 false) :: v else v), funName p.1 = true := fun p hp => by
   split at hp
   · rename_i h84
     rcases List.mem_cons.1 hp with rfl | hp
     · exact hs h84.1
     · exact hv p hp
   · exact hv p hp
  generalize (if k = 84 ∧ acc.length = 1 then (s, acc.getD 0 false) :: v else v) = v2 at hc hv2
  split at hc
  · rename_i h; exact absurd hc h
  · rename_i h
    have h := Decidable.not_not.1 h
    exact ⟨chk_okR hlib t _ hw.1 hf.1 h hv2, row_okR hlib r v k s _ hw.2 hf.2 hc hv hs⟩
end
structure GoodR (f : FD) : Prop where
 name : isName f.name = true
 len : f.params.length ≤ 8
 par : ∀ p ∈ f.params, isName p.name = true
 ok : f.body.okR
theorem lib_goodR {lib : List FD} (h : libErr lib = none) (hw : ∀ f ∈ lib, f.body.wf) : ∀ f ∈ lib, GoodR f := by
 have hz := libErrFrom_none lib 0 h
 have hn : ∀ f ∈ lib, funName f.name = true := fun f hf => by
  obtain ⟨i, hi, rfl⟩ := List.mem_iff_getElem.1 hf
  exact (fnErr_zero (hz i hi)).2.1
 intro f hf; have hfw := hw f hf; obtain ⟨i, hi, rfl⟩ := List.mem_iff_getElem.1 hf; obtain ⟨-, a2, a3, a4, a5, a6⟩ := fnErr_zero (hz i hi); obtain ⟨b1, b2, -⟩ := paramErr_zero a3; refine ⟨funName_isName a2, b1, fun p hp => funName_isName (b2 p hp), chk_okR hn _ _ hfw a4 a6 (fun p hp => ?_)⟩; obtain ⟨q, hq, rfl⟩ := List.mem_map.1 hp
 exact b2 q hq
def commaP : List (List Pc) → List Pc
 | [] => []
 | [x] => x
 | x :: y :: r => x ++ (.tk [44] :: .sp [32] :: commaP (y :: r))
def appP (w : List UInt8) (ls : List (List Pc)) : List Pc := .tk w :: .tk [40] :: (commaP ls ++ [.tk [41]])
def wrapB (lv : Int) (h : Int × Int) : Bool := decide (h.1 = 82) && decide (level h.2 < lv)
def spp : Pc := .sp [32]
def ifP (a b c : List Pc) : List Pc := .tk [105, 102] :: spp :: (a ++ (spp :: .tk [123] :: spp :: (b ++ (spp :: .tk [125] :: spp :: .tk [101, 108, 115, 101] :: spp :: .tk [123] :: spp :: (c ++ [spp, .tk [125]])))))
def letP (s : List UInt8) (a b : List Pc) : List Pc := .tk [108, 111, 99, 97, 108] :: spp :: .tk s :: spp :: .tk [61] :: spp :: (a ++ (spp :: .tk [123] :: spp :: (b ++ [spp, .tk [125]])))
def opP (n : Int) (a b : List Pc) : List Pc := a ++ (spp :: .tk (symbol n) :: spp :: b)
def pcsN (k n : Int) (s : List UInt8) (ps : List (List Pc)) (hs : List (Int × Int)) : List Pc :=
 if k = 80 then [.tk (Lib.itoa n)]
 else if k = 81 then [.tk s]
 else if k = 82 then opP n (pw (wrapB (level n) (hs.getD 0 (0, 0))) (ps.getD 0 [])) (pw (wrapB (level n + 1) (hs.getD 1 (0, 0))) (ps.getD 1 []))
 else if k = 83 then ifP (ps.getD 0 []) (ps.getD 1 []) (ps.getD 2 [])
 else if k = 84 then letP s (ps.getD 0 []) (ps.getD 1 [])
 else if k = 86 then [.tk [91], .tk [93]]
 else if k = 87 then appP [112, 117, 115, 104] ps
 else if k = 89 then appP [112, 111, 112] ps
 else if k = 88 then appP [116, 111, 112] ps
 else if k = 90 then .tk [33] :: pw (wrapB 9 (hs.getD 0 (0, 0))) (ps.getD 0 [])
 else appP s ps
mutual
def Nd.fpcs : Nd → List Pc
 | .mk k n s l => pcsN k n s (rowPcs l) (l.map fun t => (t.kind, t.num))
def rowPcs : List Nd → List (List Pc)
 | [] => []
 | t :: r => t.fpcs :: rowPcs r
end
theorem flat_comma : ∀ ls : List (List Pc), flat (commaP ls) = Lib.join (ls.map flat) [44, 32]
 | [] => rfl
 | [x] => by simp only [commaP, List.map_cons, List.map_nil, Lib.join_one]
 | x :: y :: r => by
  have := flat_comma (y :: r); simp only [List.map_cons] at this ⊢; rw [join_two, ← this]; simp only [commaP, flat_append, flat, List.append_assoc, List.cons_append, List.nil_append]
theorem flat_app (w : List UInt8) (ls : List (List Pc)) : flat (appP w ls) = appT w (ls.map flat) := by
 simp only [appP, flat, flat_append, flat_comma, appT, List.append_assoc, List.append_nil]
theorem wrapB_T (lv : Int) (h : Int × Int) (L : List Pc) : flat (pw (wrapB lv h) L) = wrapT lv h (flat L) := by
 rw [flat_pw]
 unfold wrap wrapT wrapB
 by_cases c : h.1 = 82 ∧ level h.2 < lv
 · rw [if_pos c, decide_eq_true c.1, decide_eq_true c.2]; simp
 · rw [if_neg c]
   have : (decide (h.1 = 82) && decide (level h.2 < lv)) = false := by
    rw [Bool.and_eq_false_iff, decide_eq_false_iff_not, decide_eq_false_iff_not]
    by_cases h1 : h.1 = 82
    · exact Or.inr (fun h2 => c ⟨h1, h2⟩)
    · exact Or.inl h1
   rw [this]; simp
theorem getD_flat (ls : List (List Pc)) (i : Nat) : flat (ls.getD i []) = (ls.map flat).getD i [] := by
 simp only [List.getD_eq_getElem?_getD, List.getElem?_map]
 cases ls[i]? <;> rfl
theorem flat_pcsN (k n : Int) (s : List UInt8) (ps : List (List Pc)) (hs : List (Int × Int)) : flat (pcsN k n s ps hs) = textN k n s (ps.map flat) hs := by
 unfold pcsN textN
 by_cases k0 : k = 80
 · rw [if_pos k0, if_pos k0]; simp only [flat, List.append_nil]
 rw [if_neg k0, if_neg k0]
 by_cases k1 : k = 81
 · rw [if_pos k1, if_pos k1]; simp only [flat, List.append_nil]
 rw [if_neg k1, if_neg k1]
 by_cases k2 : k = 82
 · rw [if_pos k2, if_pos k2]
   simp only [opP, spp, flat_append, flat, wrapB_T, getD_flat, List.append_assoc]
 rw [if_neg k2, if_neg k2]
 by_cases k3 : k = 83
 · rw [if_pos k3, if_pos k3]
   simp only [ifP, spp, flat_append, flat, getD_flat, List.append_assoc, List.append_nil, List.cons_append, List.nil_append]
 rw [if_neg k3, if_neg k3]
 by_cases k4 : k = 84
 · rw [if_pos k4, if_pos k4]
   simp only [letP, spp, flat_append, flat, getD_flat, List.append_assoc, List.append_nil, List.cons_append, List.nil_append]
 rw [if_neg k4, if_neg k4]
 by_cases k6 : k = 86
 · rw [if_pos k6, if_pos k6]; rfl
 rw [if_neg k6, if_neg k6]
 by_cases k7 : k = 87
 · rw [if_pos k7, if_pos k7, flat_app]
 rw [if_neg k7, if_neg k7]
 by_cases k9 : k = 89
 · rw [if_pos k9, if_pos k9, flat_app]
 rw [if_neg k9, if_neg k9]
 by_cases k8 : k = 88
 · rw [if_pos k8, if_pos k8, flat_app]
 rw [if_neg k8, if_neg k8]
 by_cases k10 : k = 90
 · rw [if_pos k10, if_pos k10]
   simp only [flat, wrapB_T, getD_flat]
 rw [if_neg k10, if_neg k10, flat_app]
mutual
theorem flat_fpcs : ∀ t : Nd, flat t.fpcs = t.ftext
 | .mk k n s l => by
  simp only [Nd.fpcs, Nd.ftext, flat_pcsN, flat_rowPcs l]
theorem flat_rowPcs : ∀ l : List Nd, (rowPcs l).map flat = rowText l
 | [] => rfl
 | t :: r => by simp only [rowPcs, rowText, List.map_cons, flat_fpcs t, flat_rowPcs r]
end
theorem Nice.cons {t : List UInt8} {R : List Pc} (ht : TokT t) (ho : ∀ c ∈ t.head?, c ≠ 61 ∧ c ≠ 62 ∧ c ≠ 38 ∧ c ≠ 124) (hR : Bk.wf (some t) R) (hf : ∃ u, endOf (some t) R = some u ∧ CloseT u) : Nice (.tk t :: R) :=
 ⟨fun p hp => ⟨ht, fun u hu c hc => adj_open (hp u hu) (ho c hc), hR⟩, fun p => hf⟩
theorem wf_spp {p : Option (List UInt8)} {R : List Pc} (h : wf none R) : wf p (spp :: R) := ⟨by decide, h⟩
theorem wf_none {t : List UInt8} {R : List Pc} (ht : TokT t) (h : wf (some t) R) : wf none (.tk t :: R) := ⟨ht, by simp, h⟩
theorem Nice.then {L : List Pc} (h : Nice L) {p : Option (List UInt8)} (hp : OpenP p) {R : List Pc} (hR : Bk.wf none R) : Bk.wf p (L ++ spp :: R) := by
 rw [wf_append]
 exact ⟨h.wf p hp, wf_spp hR⟩
theorem end_then {L : List Pc} {p : Option (List UInt8)} {R : List Pc} : endOf p (L ++ spp :: R) = endOf none R := by
 rw [endOf_append]; rfl
theorem tokB : TokT [123] ∧ TokT [125] ∧ TokT [40] ∧ TokT [41] ∧ TokT [44] ∧ TokT [61] ∧ TokT [105, 102] ∧ TokT [101, 108, 115, 101] ∧ TokT [108, 111, 99, 97, 108] ∧ TokT [91] ∧ TokT [93] ∧ TokT [33] := by
 refine ⟨?_, ?_, ?_, ?_, ?_, ?_, ?_, ?_, ?_, ?_, ?_, ?_⟩ <;> exact tokT_lit (by decide)
theorem nice_op {n : Int} {a b : List Pc} (h0 : 8 ≤ n) (h1 : n ≤ 23) (ha : Nice a) (hb : Nice b) : Nice (opP n a b) := by
 have hsy := symbol_tok (k := n) (by omega) (by omega)
 unfold opP
 refine ⟨fun p hp => ha.then hp (wf_none hsy.1 (wf_spp (hb.wf _ openP_none))), fun p => ?_⟩; rw [end_then]
 exact hb.fin _
theorem nice_if {a b c : List Pc} (ha : Nice a) (hb : Nice b) (hc : Nice c) : Nice (ifP a b c) := by
 obtain ⟨t1, t2, t3, t4, t5, t6, t7, t8, t9, -⟩ := tokB
 unfold ifP
 refine Nice.cons t7 (by decide) (wf_spp (ha.then openP_none (wf_none t1 (wf_spp (hb.then openP_none (wf_none t2 (wf_spp (wf_none t8 (wf_spp (wf_none t1 (wf_spp (hc.then openP_none (wf_none t2 trivial)))))))))))))
  ⟨[125], ?_, closeT_sign (by decide)⟩
 show endOf none (a ++ _) = _
 rw [end_then]
 show endOf none (b ++ _) = _
 rw [end_then]
 show endOf none (c ++ _) = _
 rw [end_then]; rfl
theorem nice_let {s : List UInt8} {a b : List Pc} (hs : TokT s) (ha : Nice a) (hb : Nice b) : Nice (letP s a b) := by
 obtain ⟨t1, t2, t3, t4, t5, t6, t7, t8, t9, -⟩ := tokB
 unfold letP
 refine Nice.cons t9 (by decide) (wf_spp (wf_none hs (wf_spp (wf_none t6 (wf_spp (ha.then openP_none (wf_none t1 (wf_spp (hb.then openP_none (wf_none t2 trivial))))))))))
  ⟨[125], ?_, closeT_sign (by decide)⟩
 show endOf none (a ++ _) = _
 rw [end_then]
 show endOf none (b ++ _) = _
 rw [end_then]; rfl
theorem nice_comma : ∀ ls : List (List Pc), (∀ x ∈ ls, Nice x) → ls ≠ [] → Nice (commaP ls)
 | [], _, h => absurd rfl h
 | [x], h, _ => h x (by simp)
 | x :: y :: r, h, _ => by
  have h1 := h x (by simp); have h2 := nice_comma (y :: r) (fun z hz => h z (by simp [hz])) (by simp); refine ⟨fun p hp => ?_, fun p => ?_⟩
  · show wf p (x ++ (.tk [44] :: .sp [32] :: commaP (y :: r)))
    rw [wf_append]; obtain ⟨t, e, ct⟩ := h1.fin p; refine ⟨h1.wf p hp, tokB.2.2.2.2.1, fun u hu c hc => ?_, wf_spp (h2.wf _ openP_none)⟩
    have : c = 44 := by simpa using hc.symm
    have : t = u := by rw [e] at hu; simpa using hu
    subst_vars; exact ct.2.2.2
  · show ∃ t, endOf p (x ++ (.tk [44] :: spp :: commaP (y :: r))) = some t ∧ CloseT t
    rw [endOf_append]
    exact h2.fin _
theorem nice_app {w : List UInt8} {ls : List (List Pc)} (hw : TokT w) (h1 : (firstTok w).1 = 1) (ho : ∀ c ∈ w.head?, letter c = true) (h : ∀ x ∈ ls, Nice x) : Nice (appP w ls) := by
 obtain ⟨t1, t2, t3, t4, -⟩ := tokB
 unfold appP
 have hadj : ∀ t0 ∈ some w, ∀ c ∈ ([40] : List UInt8).head?, Adj t0 c := fun u hu c hc => by
  have : c = 40 := by simpa using hc.symm
  have : w = u := by simpa using hu
  subst_vars
  exact ⟨fun _ => (by decide), fun e => (by rw [h1] at e; cases e), fun e => (by rw [h1] at e; cases e)⟩
 refine Nice.cons hw (fun c hc => letter_open (ho c hc)) ⟨t3, hadj, ?_⟩ ⟨[41], ?_, closeT_sign (by decide)⟩
 · by_cases hl : ls = []
   · subst hl
     refine ⟨t4, fun u hu c hc => ?_, trivial⟩
     have : c = 41 := by simpa using hc.symm
     have : [40] = u := by simpa using hu
     rw [← this]
     exact adj_open (by decide) (by subst_vars; decide)
   · have hn := nice_comma ls h hl
     rw [wf_append]; obtain ⟨t, e, ct⟩ := hn.fin (some [40]); refine ⟨hn.wf _ (openP_sign (by decide)), t4, fun u hu c hc => ?_, trivial⟩
     have : c = 41 := by simpa using hc.symm
     have : t = u := by rw [e] at hu; simpa using hu
     subst_vars; exact ct.1
 · show endOf (some [40]) (commaP ls ++ [.tk [41]]) = _
   rw [endOf_append]; rfl
mutual
theorem fpcs_nice : ∀ t : Nd, t.okR → Nice t.fpcs
 | .mk k n s l, h => by
  simp only [Nd.okR] at h; obtain ⟨f1, f2, f3, f4, f5⟩ := h; have hr := row_nice l f5; have h0 := formN_num f1; simp only [Nd.fpcs]
  unfold pcsN
  by_cases k0 : k = 80
  · rw [if_pos k0]
    obtain ⟨h1, h2, h3⟩ := dec_val n.toNat; rw [itoa_dec h0]
    exact nice_tok (tokT_num h3 h2).1 (head_of (fun c hc => digit_open (h2 c hc))) (closeT_num (tokT_num h3 h2).2)
  rw [if_neg k0]
  by_cases k1 : k = 81
  · rw [if_pos k1]
    have hn := f2 (Or.inl k1)
    exact nice_tok (tokT_name hn).1 (fun c hc => letter_open (name_letter hn c hc)) (closeT_name (tokT_name hn).2)
  rw [if_neg k1]
  by_cases k2 : k = 82
  · rw [if_pos k2]
    subst k2; obtain ⟨a1, a2, a3⟩ := formN_82 f1; obtain ⟨x, y, rfl⟩ := len2 a3
    exact nice_op a1 a2 ((hr _ (by simp [rowPcs])).pw _) ((hr _ (by simp [rowPcs])).pw _)
  rw [if_neg k2]
  by_cases k3 : k = 83
  · rw [if_pos k3]
    subst k3; obtain ⟨x, y, z, rfl⟩ := len3 (formN_83' f1)
    exact nice_if (hr _ (by simp [rowPcs])) (hr _ (by simp [rowPcs])) (hr _ (by simp [rowPcs]))
  rw [if_neg k3]
  by_cases k4 : k = 84
  · rw [if_pos k4]
    have hn := f2 (Or.inr (Or.inl k4)); subst k4; obtain ⟨x, y, rfl⟩ := len2 (formN_84 f1).2
    exact nice_let (tokT_name hn).1 (hr _ (by simp [rowPcs])) (hr _ (by simp [rowPcs]))
  rw [if_neg k4]
  by_cases k6 : k = 86
  · rw [if_pos k6]
    exact Nice.cons tokB.2.2.2.2.2.2.2.2.2.1 (by decide) ⟨tokB.2.2.2.2.2.2.2.2.2.2.1, fun u hu c hc => by
     have : [91] = u := by simpa using hu
     have : c = 93 := by simpa using hc.symm
     subst_vars
     exact adj_open (by decide) (by decide), trivial⟩ ⟨_, rfl, closeT_sign (by decide)⟩
  rw [if_neg k6]
  by_cases k7 : k = 87
  · rw [if_pos k7]; exact nice_app (tokT_lit (by decide)) (by decide) (by simp; decide) hr
  rw [if_neg k7]
  by_cases k9 : k = 89
  · rw [if_pos k9]; exact nice_app (tokT_lit (by decide)) (by decide) (by simp; decide) hr
  rw [if_neg k9]
  by_cases k8 : k = 88
  · rw [if_pos k8]; exact nice_app (tokT_lit (by decide)) (by decide) (by simp; decide) hr
  rw [if_neg k8]
  by_cases k10 : k = 90
  · rw [if_pos k10]
    subst k10; obtain ⟨x, rfl⟩ := len1 (formN_90 f1); have hx := (hr x.fpcs (by simp [rowPcs])).pw (wrapB 9 (x.kind, x.num))
    exact Nice.cons tokB.2.2.2.2.2.2.2.2.2.2.2 (by decide) (hx.wf _ (openP_sign (by decide))) (hx.fin _)
  rw [if_neg k10]; have hn := f2 (Or.inr (Or.inr (by omega)))
  exact nice_app (tokT_name hn).1 (tokT_name hn).2 (name_letter hn) hr
theorem row_nice : ∀ l : List Nd, rowOkR l → ∀ x ∈ rowPcs l, Nice x
 | [], _ => by intro x hx; simp [rowPcs] at hx
 | t :: r, h => by
  intro x hx; simp only [rowPcs, List.mem_cons] at hx
  rcases hx with rfl | hx
  · exact fpcs_nice t h.1
  · exact row_nice r h.2 x hx
end
end Bk
namespace Bk
open Go
def Nd.tks (t : Nd) : Txt := toks t.fpcs
def tailA : List Nd → Txt
 | [] => []
 | x :: r => [44] :: (x.tks ++ tailA r)
def argsA : List Nd → Txt
 | [] => []
 | x :: r => x.tks ++ tailA r
theorem toks_comma : ∀ l : List Nd, toks (commaP (rowPcs l)) = argsA l
 | [] => rfl
 | [x] => by simp [rowPcs, commaP, argsA, tailA, Nd.tks]
 | x :: y :: r => by
  have := toks_comma (y :: r); simp only [rowPcs] at this; simp only [rowPcs, commaP, toks_append, toks, this, argsA, tailA, Nd.tks]
theorem toks_app (w : List UInt8) (l : List Nd) : toks (appP w (rowPcs l)) = w :: [40] :: (argsA l ++ [[41]]) := by
 simp only [appP, toks, toks_append, toks_comma]
mutual
theorem tks_head : ∀ x : Nd, x.okR → ∃ t r, x.tks = t :: r ∧ t ≠ [41]
 | .mk k n s l, h => by
  simp only [Nd.okR] at h; obtain ⟨f1, f2, f3, f4, f5⟩ := h
  unfold Nd.tks
  simp only [Nd.fpcs]
  unfold pcsN
  by_cases k0 : k = 80
  · rw [if_pos k0]
    refine ⟨_, _, rfl, ?_⟩; obtain ⟨h1, h2, h3⟩ := dec_val n.toNat; rw [itoa_dec (formN_num f1)]; intro e; rw [e] at h2
    exact absurd (h2 41 (by simp)) (by decide)
  rw [if_neg k0]
  by_cases k1 : k = 81
  · rw [if_pos k1]
    refine ⟨_, _, rfl, ?_⟩; rintro rfl
    exact absurd (f2 (Or.inl k1)) (by decide)
  rw [if_neg k1]
  by_cases k2 : k = 82
  · rw [if_pos k2]
    subst k2; obtain ⟨a1, a2, a3⟩ := formN_82 f1; obtain ⟨t, r, e, hne⟩ := row_head l f5 (by omega); have e' : toks ((rowPcs l).getD 0 []) = t :: r := e
    unfold opP
    rw [toks_append, toks_pw]
    split
    · exact ⟨_, _, rfl, by decide⟩
    · rw [e']; exact ⟨_, _, rfl, hne⟩
  rw [if_neg k2]
  by_cases k3 : k = 83
  · rw [if_pos k3]; exact ⟨_, _, rfl, by decide⟩
  rw [if_neg k3]
  by_cases k4 : k = 84
  · rw [if_pos k4]; exact ⟨_, _, rfl, by decide⟩
  rw [if_neg k4]
  by_cases k6 : k = 86
  · rw [if_pos k6]; exact ⟨_, _, rfl, by decide⟩
  rw [if_neg k6]
  by_cases k7 : k = 87
  · rw [if_pos k7]; exact ⟨_, _, rfl, by decide⟩
  rw [if_neg k7]
  by_cases k9 : k = 89
  · rw [if_pos k9]; exact ⟨_, _, rfl, by decide⟩
  rw [if_neg k9]
  by_cases k8 : k = 88
  · rw [if_pos k8]; exact ⟨_, _, rfl, by decide⟩
  rw [if_neg k8]
  by_cases k10 : k = 90
  · rw [if_pos k10]; exact ⟨_, _, rfl, by decide⟩
  rw [if_neg k10]; refine ⟨_, _, rfl, ?_⟩; rintro rfl
  exact absurd (f2 (Or.inr (Or.inr (by omega)))) (by decide)
theorem row_head : ∀ l : List Nd, rowOkR l → 0 < l.length → ∃ t r, toks ((rowPcs l).getD 0 []) = t :: r ∧ t ≠ [41]
 | [], _, h => absurd h (by simp)
 | x :: r, h, _ => tks_head x h.1
end
def NoPar (b : Txt) : Prop := ∀ t ∈ b.head?, t ≠ [40]
section
variable {ts : List Tok} {n : Int}
theorem has_remF {σ : PS} {u : List UInt8} (hw : σ.at_ ≤ ts.length) (he : σ.err = 0) : hasP ts σ u = decide (((rem ts σ).head?).getD [] = u) := by unfold hasP; rw [peek_rem hw he]
theorem rem_leF {σ : PS} {a b : Txt} (hw : σ.at_ ≤ ts.length) (h : rem ts σ = a ++ b) : (adv σ a.length).at_ ≤ ts.length := by
 have := rem_len (ts := ts) σ; rw [h] at this; simp only [List.length_append] at this
 show σ.at_ + a.length ≤ ts.length
 omega
theorem primF_of {σ : PS} {t : List UInt8} {r : Txt} (k : Nat) (h : rem ts σ = t :: r) (he : σ.err = 0) : primF ts n (k + 1) σ =
 if t = [91] then (.mk 86 0 [] [], expectP ts n (adv σ 1) [93])
 else if t = [112, 117, 115, 104] then (.mk 87 0 [] (args2F ts n k (adv σ 1)).1, (args2F ts n k (adv σ 1)).2)
 else if t = [112, 111, 112] then (.mk 89 0 [] (args1F ts n k (adv σ 1)).1, (args1F ts n k (adv σ 1)).2)
 else if t = [116, 111, 112] then (.mk 88 0 [] (args1F ts n k (adv σ 1)).1, (args1F ts n k (adv σ 1)).2)
 else if t = [33] then (.mk 90 0 [] [(primF ts n k (adv σ 1)).1], (primF ts n k (adv σ 1)).2)
 else if t = [105, 102] then ifF ts n k σ
 else if t = [108, 111, 99, 97, 108] then letF ts n k σ
 else if t = [40] then ((exprF ts n k 1 (adv σ 1)).1, expectP ts n (exprF ts n k 1 (adv σ 1)).2 [41])
 else if (peekP ts σ).kind = 2 then fnumP ts σ
 else namedF ts n k σ := by
 rw [primF]; simp only [has_cons h he, decide_eq_true_eq, next_adv]
theorem climb_stopR {σ : PS} {k : Nat} {lv : Int} {x : Nd} (hw : σ.at_ ≤ ts.length) (he : σ.err = 0) (hk : 1 ≤ k) (h : StopL lv (rem ts σ)) : climbF ts n k lv x σ = (x, σ) := by
 obtain ⟨k, rfl⟩ : ∃ j, k = j + 1 := ⟨k - 1, by omega⟩; rw [climbF, peek_rem hw he]
 cases hr : rem ts σ with
 | nil => rfl
 | cons t b =>
  simp only [List.head?_cons, Option.getD_some]
  cases ho : binOf t with
  | none => rfl
  | some op =>
   have := h t (by rw [hr]; rfl) op ho; simp only [if_pos this]
theorem climb_op {σ : PS} {k : Nat} {lv op : Int} {x : Nd} {t : List UInt8} {b : Txt} (he : σ.err = 0) (h : rem ts σ = t :: b) (ho : binOf t = some op) (hl : lv ≤ level op) : climbF ts n (k + 1) lv x σ = climbF ts n k lv (.mk 82 op [] [x, (exprF ts n k (level op + 1) (adv σ 1)).1]) (exprF ts n k (level op + 1) (adv σ 1)).2 := by
 rw [climbF, peek_cons h he]; simp only [ho, next_adv]; rw [if_neg (by omega)]
structure RdC (ts : List Tok) (n : Int) (x : Nd) : Prop where
 p : ∀ (σ : PS) (k : Nat) (rest : Txt), σ.at_ ≤ ts.length → σ.err = 0 → x.kind ≠ 82 → rem ts σ = x.tks ++ rest → NoPar rest → 4 * x.tks.length + 3 ≤ k → primF ts n k σ = (x, adv σ x.tks.length)
 e : ∀ (σ : PS) (k : Nat) (lv : Int) (rest : Txt), σ.at_ ≤ ts.length → σ.err = 0 → rem ts σ = x.tks ++ rest → NoPar rest → (x.kind = 82 → lv ≤ level x.num ∧ StopL (level x.num + 1) rest) → 4 * x.tks.length + 4 ≤ k → ∃ k', k ≤ k' + 4 * x.tks.length ∧ exprF ts n k lv σ = climbF ts n k' lv x (adv σ x.tks.length)
theorem stop_of {u : List UInt8} (h : binOf u = none) (lv : Int) (r : Txt) : StopL lv (u :: r) := fun t ht op ho => by
 have : u = t := by simpa using ht
 subst this; rw [h] at ho; cases ho
theorem nopar_of {u : List UInt8} (h : u ≠ [40]) (r : Txt) : NoPar (u :: r) := fun t ht => by
 have : u = t := by simpa using ht
 subst this; exact h
theorem level_pos {op : Int} (h : 8 ≤ op ∧ op ≤ 23) : 1 ≤ level op ∧ level op ≤ 8 := by
 unfold level
 repeat' split
 all_goals omega
theorem okR_op {x : Nd} (h : x.okR) (hk : x.kind = 82) : 8 ≤ x.num ∧ x.num ≤ 23 := by
 obtain ⟨k, n, s, l⟩ := x; simp only [Nd.kind] at hk; simp only [Nd.okR] at h; obtain ⟨f1, -⟩ := h; subst hk; obtain ⟨a, b, -⟩ := formN_82 f1
 exact ⟨a, b⟩
theorem RdC.full {x : Nd} (h : RdC ts n x) (hx : x.okR) {σ : PS} {k : Nat} {u : List UInt8} {rest : Txt} (hw : σ.at_ ≤ ts.length) (he : σ.err = 0) (hr : rem ts σ = x.tks ++ u :: rest) (hu : binOf u = none) (hp : u ≠ [40]) (hk : 4 * x.tks.length + 4 ≤ k) : exprF ts n k 1 σ = (x, adv σ x.tks.length) := by
 obtain ⟨k', h1, h2⟩ := h.e σ k 1 _ hw he hr (nopar_of hp _) (fun hk => ⟨(level_pos (okR_op hx hk)).1, stop_of hu _ _⟩) hk; rw [h2]
 exact climb_stopR (rem_leF hw hr) he (by omega) (by rw [rem_adv hr]; exact stop_of hu _ _)
theorem RdC.par {x : Nd} (h : RdC ts n x) (hx : x.okR) {σ : PS} {k : Nat} {rest : Txt} (hw : σ.at_ ≤ ts.length) (he : σ.err = 0) (hr : rem ts σ = [40] :: (x.tks ++ [41] :: rest)) (hk : 4 * (x.tks.length + 2) + 3 ≤ k) : primF ts n k σ = (x, adv σ (x.tks.length + 2)) := by
 obtain ⟨k, rfl⟩ : ∃ j, k = j + 1 := ⟨k - 1, by omega⟩; have h1 := rem_cons hr; have hw1 : (adv σ 1).at_ ≤ ts.length := rem_lt hr; rw [primF_of k hr he, if_neg (by decide), if_neg (by decide), if_neg (by decide), if_neg (by decide), if_neg (by decide), if_neg (by decide), if_neg (by decide), if_pos rfl]; rw [h.full hx hw1 he h1 (by decide) (by decide) (by omega)]; have h2 := rem_adv h1; rw [adv_adv] at h2 ⊢; simp only; rw [expect_cons h2 he, adv_adv]
 congr 2; omega
theorem toks_pw' (b : Bool) (x : Nd) : toks (pw b x.fpcs) = if b then [40] :: (x.tks ++ [[41]]) else x.tks := toks_pw b x.fpcs
theorem RdC.opd {x : Nd} (h : RdC ts n x) (hx : x.okR) (b : Bool) {σ : PS} {k : Nat} {lv : Int} {rest : Txt} (hw : σ.at_ ≤ ts.length) (he : σ.err = 0) (hr : rem ts σ = toks (pw b x.fpcs) ++ rest) (hn : NoPar rest) (hs : b = false → x.kind = 82 → lv ≤ level x.num ∧ StopL (level x.num + 1) rest) (hk : 4 * (toks (pw b x.fpcs)).length + 4 ≤ k) :
 ∃ k', k ≤ k' + 4 * (toks (pw b x.fpcs)).length ∧ exprF ts n k lv σ = climbF ts n k' lv x (adv σ (toks (pw b x.fpcs)).length) := by
 rw [toks_pw'] at *
 cases b with
 | false =>
  simp only [Bool.false_eq_true, if_false] at *
  exact h.e σ k lv rest hw he hr hn (hs trivial) hk
 | true =>
  simp only [if_true] at *; obtain ⟨k, rfl⟩ : ∃ j, k = j + 1 := ⟨k - 1, by omega⟩; simp only [List.cons_append, List.append_assoc, List.nil_append, List.length_cons, List.length_append, List.length_nil] at hr hk ⊢; refine ⟨k, by omega, ?_⟩; rw [exprF, h.par hx hw he hr (by omega)]
theorem RdC.opdp {x : Nd} (h : RdC ts n x) (hx : x.okR) (b : Bool) {σ : PS} {k : Nat} {rest : Txt} (hw : σ.at_ ≤ ts.length) (he : σ.err = 0) (hr : rem ts σ = toks (pw b x.fpcs) ++ rest) (hn : NoPar rest) (hs : b = false → x.kind ≠ 82) (hk : 4 * (toks (pw b x.fpcs)).length + 3 ≤ k) :
 primF ts n k σ = (x, adv σ (toks (pw b x.fpcs)).length) := by
 rw [toks_pw'] at *
 cases b with
 | false =>
  simp only [Bool.false_eq_true, if_false] at *
  exact h.p σ k rest hw he (hs trivial) hr hn hk
 | true =>
  simp only [if_true] at *; simp only [List.cons_append, List.append_assoc, List.nil_append, List.length_cons, List.length_append, List.length_nil] at hr hk ⊢; rw [h.par hx hw he hr (by omega)]
theorem brace_read {x : Nd} (h : RdC ts n x) (hx : x.okR) {σ : PS} {k : Nat} {rest : Txt} (he : σ.err = 0) (hr : rem ts σ = [123] :: (x.tks ++ [125] :: rest)) (hk : 4 * x.tks.length + 5 ≤ k) : braceF ts n k σ = (x, adv σ (x.tks.length + 2)) := by
 obtain ⟨k, rfl⟩ : ∃ j, k = j + 1 := ⟨k - 1, by omega⟩; have h1 := rem_cons hr; have hw1 : (adv σ 1).at_ ≤ ts.length := rem_lt hr; rw [braceF]; rw [expect_cons hr he, h.full hx hw1 he h1 (by decide) (by decide) (by omega)]; have h2 := rem_adv h1; rw [adv_adv] at h2 ⊢; simp only; rw [expect_cons h2 he, adv_adv]
 congr 2; omega
theorem more_read : ∀ (r : List Nd) (acc : List Nd) (σ : PS) (k : Nat) (rest : Txt), (∀ x ∈ r, RdC ts n x ∧ x.okR) → σ.at_ ≤ ts.length → σ.err = 0 → rem ts σ = tailA r ++ [41] :: rest → 4 * (tailA r).length + 1 ≤ k → moreF ts n k acc σ = (acc ++ r, adv σ (tailA r).length)
 | [], acc, σ, k, rest, _, hw, he, hr, hk => by
  obtain ⟨k, rfl⟩ : ∃ j, k = j + 1 := ⟨k - 1, by omega⟩; rw [moreF, has_cons hr he]
  simp [tailA, adv_0]
 | x :: r, acc, σ, k, rest, hR, hw, he, hr, hk => by
  obtain ⟨k, rfl⟩ : ∃ j, k = j + 1 := ⟨k - 1, by omega⟩; simp only [tailA, List.cons_append, List.append_assoc, List.length_cons, List.length_append] at hr hk ⊢; rw [moreF, has_cons hr he, if_pos (by decide), next_adv]; obtain ⟨hx, hok⟩ := hR x (by simp); have h1 := rem_cons hr; have hw1 : (adv σ 1).at_ ≤ ts.length := rem_lt hr
  obtain ⟨u, w, e, hu, hp⟩ : ∃ u w, tailA r ++ [41] :: rest = u :: w ∧ binOf u = none ∧ u ≠ [40] := by
   cases r with
   | nil => exact ⟨_, _, rfl, by decide, by decide⟩
   | cons y r => exact ⟨_, _, rfl, by decide, by decide⟩
  rw [hx.full hok hw1 he (by rw [h1, e]) hu hp (by omega)]; simp only; have h2 := rem_adv h1; have hw2 : (adv (adv σ 1) x.tks.length).at_ ≤ ts.length := rem_leF hw1 h1; rw [more_read r (acc ++ [x]) _ k rest (fun y hy => hR y (by simp [hy])) hw2 he h2 (by omega), adv_adv, adv_adv]; simp only [List.append_assoc, List.singleton_append]
  congr 2; omega
theorem args1_read {x : Nd} (h : RdC ts n x) (hx : x.okR) {σ : PS} {k : Nat} {rest : Txt} (he : σ.err = 0) (hr : rem ts σ = [40] :: (x.tks ++ [41] :: rest)) (hk : 4 * x.tks.length + 5 ≤ k) : args1F ts n k σ = ([x], adv σ (x.tks.length + 2)) := by
 obtain ⟨k, rfl⟩ : ∃ j, k = j + 1 := ⟨k - 1, by omega⟩; have h1 := rem_cons hr; have hw1 : (adv σ 1).at_ ≤ ts.length := rem_lt hr; rw [args1F]; rw [expect_cons hr he, h.full hx hw1 he h1 (by decide) (by decide) (by omega)]; have h2 := rem_adv h1; rw [adv_adv] at h2 ⊢; simp only; rw [expect_cons h2 he, adv_adv]
 congr 2; omega
theorem args2_read {x y : Nd} (h : RdC ts n x) (hx : x.okR) (hh : RdC ts n y) (hy : y.okR) {σ : PS} {k : Nat} {rest : Txt} (he : σ.err = 0) (hr : rem ts σ = [40] :: (x.tks ++ [44] :: (y.tks ++ [41] :: rest))) (hk : 4 * x.tks.length + 4 * y.tks.length + 5 ≤ k) : args2F ts n k σ = ([x, y], adv σ (x.tks.length + y.tks.length + 3)) := by
 obtain ⟨k, rfl⟩ : ∃ j, k = j + 1 := ⟨k - 1, by omega⟩; have h1 := rem_cons hr; have hw1 : (adv σ 1).at_ ≤ ts.length := rem_lt hr; rw [args2F]; rw [expect_cons hr he, h.full hx hw1 he h1 (by decide) (by decide) (by omega)]; have h2 := rem_adv h1; rw [adv_adv] at h2 ⊢; simp only; have h3 := rem_cons h2; have hw3 : (adv (adv σ (1 + x.tks.length)) 1).at_ ≤ ts.length := rem_lt h2; rw [expect_cons h2 he, hh.full hy hw3 he h3 (by decide) (by decide) (by omega)]; have h4 := rem_adv h3; rw [adv_adv, adv_adv] at h4 ⊢; simp only; rw [expect_cons h4 he, adv_adv]
 congr 2; omega
theorem isName_ne' {s u : List UInt8} (h : isName s = true) (hu : isName u = false) : s ≠ u := by rintro rfl; rw [h] at hu; cases hu
theorem name_dig {s : List UInt8} (h : isName s = true) : startsDigit s = false := (name_not h).2.2.2.2.2
theorem call_read {s : List UInt8} (hs : isName s = true) {l : List Nd} (hR : ∀ x ∈ l, RdC ts n x ∧ x.okR) {σ : PS} {k : Nat} {rest : Txt} (he : σ.err = 0) (hr : rem ts σ = s :: [40] :: (argsA l ++ [41] :: rest)) (hk : 4 * (argsA l).length + 6 ≤ k) : namedF ts n k σ = (.mk 85 0 s l, adv σ ((argsA l).length + 3)) := by
 obtain ⟨k, rfl⟩ : ∃ j, k = j + 1 := ⟨k - 1, by omega⟩; have h1 := rem_cons hr; have h2 := rem_cons h1; rw [adv_adv] at h2; rw [namedF]; simp only; rw [name_cons hr he hs]; simp only; rw [has_cons h1 he, if_pos (by decide), next_adv, adv_adv]
 cases l with
 | nil =>
  simp only [argsA, List.nil_append] at h2; rw [has_cons h2 he, if_pos (by decide), next_adv, adv_adv]
  rfl
 | cons x r =>
  obtain ⟨hx, hok⟩ := hR x (by simp); simp only [argsA, List.append_assoc, List.length_append] at h2 hk ⊢; have hw2 : (adv σ 2).at_ ≤ ts.length := rem_lt h1
  obtain ⟨u, w, e, hu, hp⟩ : ∃ u w, tailA r ++ [41] :: rest = u :: w ∧ binOf u = none ∧ u ≠ [40] := by
   cases r with
   | nil => exact ⟨_, _, rfl, by decide, by decide⟩
   | cons y r => exact ⟨_, _, rfl, by decide, by decide⟩
  have hnp : hasP ts (adv σ (1 + 1)) [41] = false := by
   obtain ⟨t, q, e1, hne⟩ := tks_head x hok; rw [e1] at h2; rw [has_cons h2 he]
   exact decide_eq_false hne
  rw [hnp, if_neg (by simp), hx.full hok hw2 he (by rw [h2, e]) hu hp (by omega)]; simp only; have h3 := rem_adv h2; have hw3 : (adv (adv σ 2) x.tks.length).at_ ≤ ts.length := rem_leF hw2 h2; rw [more_read r [x] _ k rest (fun y hy => hR y (by simp [hy])) hw3 he h3 (by omega)]; simp only [List.singleton_append]; have h4 := rem_adv h3; rw [adv_adv, adv_adv] at h4 ⊢; rw [expect_cons h4 he, adv_adv]
  congr 2; omega
end
theorem formN_80 {n : Int} {s : List UInt8} {c : Nat} (h : formN 80 n s c = true) : s = [] ∧ c = 0 := by
 simp [formN] at h; exact ⟨h.1.2, h.2⟩
theorem formN_81 {n : Int} {s : List UInt8} {c : Nat} (h : formN 81 n s c = true) : n = 0 ∧ c = 0 := by
 simp [formN] at h; exact h
theorem formN_82s {n : Int} {s : List UInt8} {c : Nat} (h : formN 82 n s c = true) : s = [] := by
 simp [formN] at h; exact h.1.2
theorem formN_83s {n : Int} {s : List UInt8} {c : Nat} (h : formN 83 n s c = true) : n = 0 ∧ s = [] := by
 simp [formN] at h; exact h.1
theorem formN_84n {n : Int} {s : List UInt8} {c : Nat} (h : formN 84 n s c = true) : n = 0 := by
 simp [formN] at h; exact h.1.1
theorem formN_85n {n : Int} {s : List UInt8} {c : Nat} (h : formN 85 n s c = true) : n = 0 := by
 simp [formN] at h; exact h
theorem formN_86s {n : Int} {s : List UInt8} {c : Nat} (h : formN 86 n s c = true) : n = 0 ∧ s = [] ∧ c = 0 := by
 simp [formN] at h; exact ⟨h.1.1, h.1.2, h.2⟩
theorem formN_87s {n : Int} {s : List UInt8} {c : Nat} (h : formN 87 n s c = true) : n = 0 ∧ s = [] ∧ c = 2 := by
 simp [formN] at h; exact ⟨h.1.1, h.1.2, h.2⟩
theorem formN_88s {k n : Int} {s : List UInt8} {c : Nat} (hk : k = 88 ∨ k = 89 ∨ k = 90) (h : formN k n s c = true) : n = 0 ∧ s = [] ∧ c = 1 := by
 rcases hk with rfl | rfl | rfl <;> (simp [formN] at h; exact ⟨h.1.1, h.1.2, h.2⟩)
theorem dig_ne {s u : List UInt8} (h : startsDigit s = true) (hu : startsDigit u = false) : s ≠ u := by rintro rfl; rw [h] at hu; cases hu
theorem toks_op (n : Int) (a b : List Pc) : toks (opP n a b) = toks a ++ symbol n :: toks b := by
 simp only [opP, spp, toks_append, toks]
theorem toks_if (a b c : List Pc) : toks (ifP a b c) = [105, 102] :: (toks a ++ [123] :: (toks b ++ [125] :: [101, 108, 115, 101] :: [123] :: (toks c ++ [[125]]))) := by
 simp only [ifP, spp, toks_append, toks]
theorem toks_let (s : List UInt8) (a b : List Pc) : toks (letP s a b) = [108, 111, 99, 97, 108] :: s :: [61] :: (toks a ++ [123] :: (toks b ++ [[125]])) := by
 simp only [letP, spp, toks_append, toks]
theorem wrapB_false {lv : Int} {h : Int × Int} (e : wrapB lv h = false) (hk : h.1 = 82) : lv ≤ level h.2 := by
 unfold wrapB at e
 rw [decide_eq_true hk, Bool.true_and, decide_eq_false_iff_not] at e
 omega
theorem sym_ne {op : Int} (h0 : 8 ≤ op) (h1 : op ≤ 23) : symbol op ≠ [40] := by
 have : op = 8 ∨ op = 9 ∨ op = 10 ∨ op = 11 ∨ op = 12 ∨ op = 13 ∨ op = 14 ∨ op = 15 ∨ op = 16 ∨ op = 17 ∨ op = 18 ∨ op = 19 ∨ op = 20 ∨ op = 21 ∨ op = 22 ∨ op = 23 := by omega
 rcases this with rfl | rfl | rfl | rfl | rfl | rfl | rfl | rfl | rfl | rfl | rfl | rfl | rfl | rfl | rfl | rfl <;> decide
theorem binOf_sym {k : Int} (h0 : 8 ≤ k) (h1 : k ≤ 23) : binOf (symbol k) = some k := by
 have : k = 8 ∨ k = 9 ∨ k = 10 ∨ k = 11 ∨ k = 12 ∨ k = 13 ∨ k = 14 ∨ k = 15 ∨ k = 16 ∨ k = 17 ∨ k = 18 ∨ k = 19 ∨ k = 20 ∨ k = 21 ∨ k = 22 ∨ k = 23 := by omega
 rcases this with rfl | rfl | rfl | rfl | rfl | rfl | rfl | rfl | rfl | rfl | rfl | rfl | rfl | rfl | rfl | rfl <;> decide
section
variable {ts : List Tok} {n : Int}
theorem rd_prim {x : Nd} (hx : x.okR) (hk : x.kind ≠ 82) (p : ∀ (σ : PS) (k : Nat) (rest : Txt), σ.at_ ≤ ts.length → σ.err = 0 → rem ts σ = x.tks ++ rest → NoPar rest → 4 * x.tks.length + 3 ≤ k → primF ts n k σ = (x, adv σ x.tks.length)) : RdC ts n x := by
 refine ⟨fun σ k rest hw he _ hr hn hk => p σ k rest hw he hr hn hk, fun σ k lv rest hw he hr hn _ hk => ?_⟩; obtain ⟨k, rfl⟩ : ∃ j, k = j + 1 := ⟨k - 1, by omega⟩; obtain ⟨t, r, e, -⟩ := tks_head x hx
 have hl : 1 ≤ x.tks.length := by rw [e]; simp
 exact ⟨k, by omega, by rw [exprF, p σ k rest hw he hr hn (by omega)]⟩
theorem rd_op {op : Int} {a b : Nd} (h0 : 8 ≤ op) (h1 : op ≤ 23) (ha : RdC ts n a) (hb : RdC ts n b) (oa : a.okR) (ob : b.okR) : RdC ts n (.mk 82 op [] [a, b]) := by
 refine ⟨fun σ k rest hw he hk => absurd rfl hk, fun σ k lv rest hw he hr hn hs hk => ?_⟩; obtain ⟨hl, hs⟩ := hs rfl
 have et : (Nd.mk 82 op [] [a, b]).tks = toks (pw (wrapB (level op) (a.kind, a.num)) a.fpcs) ++ symbol op :: toks (pw (wrapB (level op + 1) (b.kind, b.num)) b.fpcs) := by
  show toks (opP op _ _) = _
  rw [toks_op]; rfl
 rw [et] at hr hk ⊢; simp only [List.append_assoc, List.cons_append, List.length_append, List.length_cons] at hr hk ⊢; have hl' : lv ≤ level op := hl; have hs' : StopL (level op + 1) rest := hs
 obtain ⟨k1, e1, e2⟩ := ha.opd oa _ (lv := lv) hw he hr (nopar_of (sym_ne h0 h1) _) (fun e hk => by
  have this0 := wrapB_false e hk; refine ⟨Int.le_trans hl' this0, fun t ht o ho => ?_⟩
  have : symbol op = t := by simpa using ht
  subst this; rw [binOf_sym h0 h1] at ho
  cases ho
  have this : level op ≤ level a.num := this0
  omega) (k := k) (by omega)
 generalize hA : toks (pw (wrapB (level op) (a.kind, a.num)) a.fpcs) = A at *
 have hr1 := rem_adv hr; have hw1 := rem_leF hw hr; obtain ⟨k1, rfl⟩ : ∃ j, k1 = j + 1 := ⟨k1 - 1, by omega⟩; have hr2 := rem_cons hr1; have hw2 : (adv (adv σ A.length) 1).at_ ≤ ts.length := rem_lt hr1
 obtain ⟨k2, e3, e4⟩ := hb.opd ob _ (lv := level op + 1) (k := k1) hw2 he hr2 hn (fun e hk => by
  have this0 : level op + 1 ≤ level b.num := wrapB_false e hk
  exact ⟨this0, fun t ht o ho => by have := hs' t ht o ho; omega⟩) (by omega)
 generalize hB : toks (pw (wrapB (level op + 1) (b.kind, b.num)) b.fpcs) = B at *
 have hr3 := rem_adv hr2; have hw3 := rem_leF hw2 hr2
 have e5 : exprF ts n k1 (level op + 1) (adv (adv σ A.length) 1) = (b, adv (adv (adv σ A.length) 1) B.length) := by
  rw [e4]
  exact climb_stopR hw3 he (by omega) (by rw [hr3]; exact hs')
 refine ⟨k1, by omega, ?_⟩; rw [e2, climb_op (σ := adv σ A.length) he hr1 (binOf_sym h0 h1) hl', e5, adv_adv, adv_adv]
 congr 1
 simp only [adv]
 congr 1; omega
theorem rd_all (hd : DigitKinds ts) (N : Nat) : ∀ t : Nd, t.size < N → t.okR → RdC ts n t := by
 induction N with
 | zero => intro t h; omega
 | succ N ih =>
  intro t hs hok; obtain ⟨k, m, s, l⟩ := t; have hok0 := hok; simp only [Nd.okR] at hok; obtain ⟨f1, f2, f3, f4, f5⟩ := hok; simp only [Nd.size] at hs
  have hI : ∀ x ∈ l, RdC ts n x ∧ x.okR := fun x hx => ⟨ih x (by have := size_mem hx; omega) (rowOkR_mem f5 hx), rowOkR_mem f5 hx⟩
  by_cases k2 : k = 82
  · subst k2
    obtain ⟨a1, a2, a3⟩ := formN_82 f1; obtain rfl := formN_82s f1; obtain ⟨x, y, rfl⟩ := len2 a3; obtain ⟨hx, ox⟩ := hI x (by simp); obtain ⟨hy, oy⟩ := hI y (by simp)
    exact rd_op a1 a2 hx hy ox oy
  refine rd_prim hok0 k2 (fun σ k' rest hw he hr hn hk => ?_); obtain ⟨k', rfl⟩ : ∃ j, k' = j + 1 := ⟨k' - 1, by omega⟩; have hT : (Nd.mk k m s l).tks = toks (pcsN k m s (rowPcs l) (l.map fun t => (t.kind, t.num))) := rfl; rw [hT] at hr hk ⊢
  unfold pcsN at hr hk ⊢
  by_cases k0 : k = 80
  · subst k0
    simp only [if_true, toks, List.cons_append, List.nil_append, List.length_cons, List.length_nil] at hr hk ⊢; obtain ⟨rfl, hl⟩ := formN_80 f1; obtain rfl : l = [] := List.eq_nil_of_length_eq_zero hl; have h0 := formN_num f1; obtain ⟨h1, h2, h3⟩ := dec_val m.toNat; rw [← itoa_dec h0] at h1 h2 h3
    have hsd : startsDigit (Lib.itoa m) = true := by
     cases hi : Lib.itoa m with
     | nil => exact absurd hi h3
     | cons c r => rw [hi] at h2; have := h2 c (by simp); simpa [startsDigit] using this
    have hne : ∀ u, startsDigit u = false → Lib.itoa m ≠ u := fun u hu => dig_ne hsd hu
    rw [primF_of k' hr he, if_neg (hne _ (by decide)), if_neg (hne _ (by decide)), if_neg (hne _ (by decide)), if_neg (hne _ (by decide)), if_neg (hne _ (by decide)), if_neg (hne _ (by decide)), if_neg (hne _ (by decide)), if_neg (hne _ (by decide)), if_pos ((kind_dig hd hr he).2 hsd)]
    unfold fnumP
    rw [peek_cons hr he, h1]
    have : ((m.toNat : Nat) : Int) = m := by omega
    rw [this, if_pos f4]; rfl
  rw [if_neg k0] at hr hk ⊢
  by_cases k1 : k = 81
  · subst k1
    simp only [if_true, toks, List.cons_append, List.nil_append, List.length_cons, List.length_nil] at hr hk ⊢; obtain ⟨rfl, hl⟩ := formN_81 f1; obtain rfl : l = [] := List.eq_nil_of_length_eq_zero hl; have hnm := f2 (Or.inl rfl)
    have hne : ∀ u, isName u = false → s ≠ u := fun u hu => isName_ne' hnm hu
    rw [primF_of k' hr he, if_neg (hne _ (by decide)), if_neg (hne _ (by decide)), if_neg (hne _ (by decide)), if_neg (hne _ (by decide)), if_neg (hne _ (by decide)), if_neg (hne _ (by decide)), if_neg (hne _ (by decide)), if_neg (hne _ (by decide)), if_neg (fun e => by rw [kind_dig hd hr he, name_dig hnm] at e; cases e)]; obtain ⟨k', rfl⟩ : ∃ j, k' = j + 1 := ⟨k' - 1, by omega⟩; rw [namedF]; simp only; rw [name_cons hr he hnm]; simp only; have h1 := rem_cons hr; have hw1 : (adv σ 1).at_ ≤ ts.length := rem_lt hr
    have : hasP ts (adv σ 1) [40] = false := by
     rw [has_remF hw1 he, h1]
     cases rest with
     | nil => decide
     | cons u r => exact decide_eq_false (hn u rfl)
    rw [this]; rfl
  rw [if_neg k1] at hr hk ⊢; rw [if_neg k2] at hr hk ⊢
  by_cases k3 : k = 83
  · subst k3
    simp only [if_true] at hr hk ⊢; obtain ⟨rfl, rfl⟩ := formN_83s f1; obtain ⟨x, y, z, rfl⟩ := len3 (formN_83' f1); obtain ⟨hx, ox⟩ := hI x (by simp); obtain ⟨hy, oy⟩ := hI y (by simp); obtain ⟨hz, oz⟩ := hI z (by simp); rw [toks_if] at hr hk ⊢; simp only [rowPcs, List.getD_cons_zero, List.getD_cons_succ] at hr hk ⊢; rw [show toks x.fpcs = x.tks from rfl, show toks y.fpcs = y.tks from rfl, show toks z.fpcs = z.tks from rfl] at hr hk ⊢; simp only [List.append_assoc, List.cons_append, List.nil_append, List.length_append, List.length_cons, List.length_nil] at hr hk ⊢; rw [primF_of k' hr he, if_neg (by decide), if_neg (by decide), if_neg (by decide), if_neg (by decide), if_neg (by decide), if_pos rfl]; obtain ⟨k', rfl⟩ : ∃ j, k' = j + 1 := ⟨k' - 1, by omega⟩; rw [ifF]; have h1 := rem_cons hr; have hw1 : (adv σ 1).at_ ≤ ts.length := rem_lt hr; rw [expect_cons hr he, hx.full ox hw1 he h1 (by decide) (by decide) (by omega)]; simp only; have h2 := rem_adv h1; rw [adv_adv] at h2 ⊢; rw [brace_read hy oy (by exact he) h2 (by omega)]; simp only
    have h3 : rem ts (adv (adv σ (1 + x.tks.length)) (y.tks.length + 2)) = [101, 108, 115, 101] :: [123] :: (z.tks ++ [125] :: rest) := by
     have := rem_adv (a := [123] :: (y.tks ++ [[125]])) (b := [101, 108, 115, 101] :: [123] :: (z.tks ++ [125] :: rest)) (by rw [h2]; simp)
     have e : ([123] :: (y.tks ++ [[125]])).length = y.tks.length + 2 := by simp
     rw [e] at this; exact this
    rw [adv_adv] at h3 ⊢; have h4 := rem_cons h3; rw [expect_cons h3 he, brace_read hz oz (by exact he) h4 (by omega), adv_adv, adv_adv]; simp only
    congr 2; omega
  rw [if_neg k3] at hr hk ⊢
  by_cases k4 : k = 84
  · subst k4
    simp only [if_true] at hr hk ⊢; obtain rfl := formN_84n f1; obtain ⟨x, y, rfl⟩ := len2 (formN_84 f1).2; obtain ⟨hx, ox⟩ := hI x (by simp); obtain ⟨hy, oy⟩ := hI y (by simp); have hnm := f2 (Or.inr (Or.inl rfl)); rw [toks_let] at hr hk ⊢; simp only [rowPcs, List.getD_cons_zero, List.getD_cons_succ] at hr hk ⊢; rw [show toks x.fpcs = x.tks from rfl, show toks y.fpcs = y.tks from rfl] at hr hk ⊢; simp only [List.append_assoc, List.cons_append, List.nil_append, List.length_append, List.length_cons, List.length_nil] at hr hk ⊢; rw [primF_of k' hr he, if_neg (by decide), if_neg (by decide), if_neg (by decide), if_neg (by decide), if_neg (by decide), if_neg (by decide), if_pos rfl]; obtain ⟨k', rfl⟩ : ∃ j, k' = j + 1 := ⟨k' - 1, by omega⟩; rw [letF]; have h1 := rem_cons hr; rw [expect_cons hr he, name_cons h1 he hnm]; simp only; have h2 := rem_cons h1; rw [adv_adv] at h2 ⊢; have h3 := rem_cons h2; have hw3 : (adv (adv σ (1 + 1)) 1).at_ ≤ ts.length := rem_lt h2; rw [expect_cons h2 he, hx.full ox hw3 he h3 (by decide) (by decide) (by omega)]; simp only; have h4 := rem_adv h3; rw [brace_read hy oy (by exact he) h4 (by omega), adv_adv, adv_adv, adv_adv]; simp only
    congr 2; omega
  rw [if_neg k4] at hr hk ⊢
  by_cases k6 : k = 86
  · subst k6
    obtain ⟨rfl, rfl, hl⟩ := formN_86s f1; obtain rfl : l = [] := List.eq_nil_of_length_eq_zero hl; simp only [if_true, toks, List.cons_append, List.nil_append, List.length_cons, List.length_nil] at hr hk ⊢; rw [primF_of k' hr he, if_pos rfl, expect_cons (rem_cons hr) he, adv_adv]
  rw [if_neg k6] at hr hk ⊢
  by_cases k7 : k = 87
  · subst k7
    simp only [if_true] at hr hk ⊢; obtain ⟨rfl, rfl, hl⟩ := formN_87s f1; obtain ⟨x, y, rfl⟩ := len2 hl; obtain ⟨hx, ox⟩ := hI x (by simp); obtain ⟨hy, oy⟩ := hI y (by simp); rw [toks_app] at hr hk ⊢; simp only [argsA, tailA, List.append_nil, List.append_assoc, List.cons_append, List.nil_append, List.length_append, List.length_cons, List.length_nil] at hr hk ⊢; rw [primF_of k' hr he, if_neg (by decide), if_pos rfl, args2_read (σ := adv σ 1) hx ox hy oy he (rem_cons hr) (by omega), adv_adv]; simp only
    congr 2; omega
  rw [if_neg k7] at hr hk ⊢
  by_cases k9 : k = 89
  · subst k9
    simp only [if_true] at hr hk ⊢; obtain ⟨rfl, rfl, hl⟩ := formN_88s (Or.inr (Or.inl rfl)) f1; obtain ⟨x, rfl⟩ := len1 hl; obtain ⟨hx, ox⟩ := hI x (by simp); rw [toks_app] at hr hk ⊢; simp only [argsA, tailA, List.append_nil, List.append_assoc, List.cons_append, List.nil_append, List.length_append, List.length_cons, List.length_nil] at hr hk ⊢; rw [primF_of k' hr he, if_neg (by decide), if_neg (by decide), if_pos rfl, args1_read (σ := adv σ 1) hx ox he (rem_cons hr) (by omega), adv_adv]; simp only
    congr 2; omega
  rw [if_neg k9] at hr hk ⊢
  by_cases k8 : k = 88
  · subst k8
    simp only [if_true] at hr hk ⊢; obtain ⟨rfl, rfl, hl⟩ := formN_88s (Or.inl rfl) f1; obtain ⟨x, rfl⟩ := len1 hl; obtain ⟨hx, ox⟩ := hI x (by simp); rw [toks_app] at hr hk ⊢; simp only [argsA, tailA, List.append_nil, List.append_assoc, List.cons_append, List.nil_append, List.length_append, List.length_cons, List.length_nil] at hr hk ⊢; rw [primF_of k' hr he, if_neg (by decide), if_neg (by decide), if_neg (by decide), if_pos rfl, args1_read (σ := adv σ 1) hx ox he (rem_cons hr) (by omega), adv_adv]; simp only
    congr 2; omega
  rw [if_neg k8] at hr hk ⊢
  by_cases k10 : k = 90
  · subst k10
    simp only [if_true] at hr hk ⊢; obtain ⟨rfl, rfl, hl⟩ := formN_88s (Or.inr (Or.inr rfl)) f1; obtain ⟨x, rfl⟩ := len1 hl; obtain ⟨hx, ox⟩ := hI x (by simp); simp only [rowPcs, List.map_cons, List.map_nil, List.getD_cons_zero, toks, List.cons_append, List.length_cons] at hr hk ⊢; rw [primF_of k' hr he, if_neg (by decide), if_neg (by decide), if_neg (by decide), if_neg (by decide), if_pos rfl]; have hw1 : (adv σ 1).at_ ≤ ts.length := rem_lt hr
    rw [hx.opdp ox _ hw1 he (rem_cons hr) hn (fun e hk => by
     have h1 := wrapB_false e hk; have h2 := (level_pos (okR_op ox hk)).2; simp only at h1
     omega) (by omega), adv_adv]
    simp only
    congr 2; omega
  rw [if_neg k10] at hr hk ⊢
  obtain rfl : k = 85 := by omega
  obtain rfl := formN_85n f1; have hnm := f2 (Or.inr (Or.inr rfl)); rw [toks_app] at hr hk ⊢; simp only [List.append_assoc, List.cons_append, List.nil_append, List.length_append, List.length_cons, List.length_nil] at hr hk ⊢
  have hne : ∀ u, isName u = false → s ≠ u := fun u hu => isName_ne' hnm hu
  rw [primF_of k' hr he, if_neg (hne _ (by decide)), if_neg (hne _ (by decide)), if_neg (hne _ (by decide)), if_neg (hne _ (by decide)), if_neg (hne _ (by decide)), if_neg (hne _ (by decide)), if_neg (hne _ (by decide)), if_neg (hne _ (by decide)), if_neg (fun e => by rw [kind_dig hd hr he, name_dig hnm] at e; cases e)]; rw [call_read hnm hI he hr (by omega)]
end
end Bk
namespace Bk
open Go
section
variable {ts : List Tok} {n : Int}
theorem fuel_params (k m : Nat) (h : m + 1 ≤ k) : EqB ts n m (paramsC (k + 1)) (paramsC k) :=
 EqB.rd (c := eqF [41]) (eqF_nil (by decide)) (fun _ _ _ => EqB.refl _) (fun _ _ => EqB.bind (fuel_fparams k m [] h) (good_fparams _ _) (fun _ => EqB.refl _))
theorem fuel_function (k m : Nat) (h : 4 * m + 5 ≤ k) : EqB ts n m (fun ts n σ => functionP ts n (k + 1) σ) (fun ts n σ => functionP ts n k σ) := by
 refine EqB.congr (functionP_at (k + 1)) (functionP_at k) ?_
 unfold functionC headC
 refine EqB.bindL (EqB.refl _) (good_exp (t := [112, 114, 111, 99]) (by decide)) lt_exp (fun _ => EqB.bind (EqB.refl _) good_name (fun _ => EqB.bind (EqB.refl _) (good_exp (t := [40]) (by decide)) (fun _ => EqB.bind (fuel_params k (m - 1) (by omega)) (good_paramsC _) (fun _ => EqB.bind (EqB.refl _) good_list (fun _ => EqB.bind ((fuel_F k).b (m - 1) (by omega)) (good_F (k + 1)).b (fun _ => EqB.refl _))))))
theorem fuel_lib (k : Nat) : ∀ (acc : List FD) (at_ : List Int) (σ : PS), σ.at_ ≤ ts.length → 4 * mS ts σ + 6 ≤ k → libP ts n (k + 1) acc at_ σ = libP ts n k acc at_ σ := by
 induction k with
 | zero => intro acc at_ σ _ h; omega
 | succ k ih =>
  intro acc at_ σ hw hk
  conv => lhs; rw [libP]
  conv => rhs; rw [libP]
  by_cases hc : σ.err = 0 ∧ σ.at_ < ts.length
  · rw [if_pos hc, if_pos hc]
    have hf := fuel_function (n := n) k (mS ts σ) (by omega) σ hw (Nat.le_refl _); dsimp only at hf; rw [hf]; have l1 := (good_function k).le ts n σ hw; have h3 := mS_lt l1 (lt_function k ts n σ hw); have h4 := mS_pos hc
    exact ih _ _ _ l1.wf (by omega)
  · rw [if_neg hc, if_neg hc]
theorem lib_same {k k' : Nat} (hkk : k ≤ k') (acc : List FD) (at_ : List Int) (σ : PS) (h : σ.at_ ≤ ts.length) (hk : 4 * mS ts σ + 6 ≤ k) : libP ts n k' acc at_ σ = libP ts n k acc at_ σ := by
 induction k' with
 | zero => omega
 | succ k' ih =>
  by_cases hlt : k ≤ k'
  · rw [← ih hlt]
    exact fuel_lib k' acc at_ σ h (by omega)
  · obtain rfl : k = k' + 1 := by omega
    rfl
end
def finL (r : (List FD × List Int) × PS) : List FD × Int × Int :=
 if r.2.err ≠ 0 then ([], r.2.off, r.2.err) else match libErr r.1.1 with
 | some (i, e) => ([], r.1.2.getD i 0, e)
 | none => (r.1.1, 0, 0)
theorem parseLib_at {s : List UInt8} {ts : List Tok} (hs : ¬ 65536 < s.length) (h : solidFrom s 0 = (ts, none)) {K : Nat} (hK : 4 * ts.length + 6 ≤ K) : parseLib s = finL (libP ts s.length K [] [] ⟨0, 0, 0⟩) := by
 have hst := startOk hs (by rw [h]); rw [h] at hst; simp only at hst; have hl := start_len s; rw [hst] at hl; simp only at hl
 have hm : mS ts ⟨0, 0, 0⟩ = ts.length := by simp [mS]
 have e1 : libP ts s.length (fuelP s) [] [] ⟨0, 0, 0⟩ = libP ts s.length K [] [] ⟨0, 0, 0⟩ := by
  have hf : 4 * ts.length + 6 ≤ fuelP s := by unfold fuelP; omega
  rcases Nat.le_total K (fuelP s) with hk | hk
  · exact lib_same hk [] [] ⟨0, 0, 0⟩ (Nat.zero_le _) (by rw [hm]; exact hK)
  · exact (lib_same hk [] [] ⟨0, 0, 0⟩ (Nat.zero_le _) (by rw [hm]; exact hf)).symm
 rw [← e1]
 unfold parseLib
 rw [hst, if_neg (by simp)]
 rfl
end Bk
namespace Bk
open Go
def paramP (p : FP) : List Pc := [.tk (typeT p.list), spp, .tk p.name]
def tailFn (f : FD) : List Pc := spp :: .tk (typeT f.list) :: spp :: .tk [123] :: spp :: (f.body.fpcs ++ (spp :: .tk [125] :: [.sp [10]]))
def fnP (f : FD) : List Pc := .tk [112, 114, 111, 99] :: spp :: .tk f.name :: .tk [40] :: (commaP (f.params.map paramP) ++ (.tk [41] :: tailFn f))
def fnsP (l : List FD) : List Pc := (l.map fnP).flatten
theorem flat_fnP (f : FD) : flat (fnP f) = funT f := by
 have hp : (f.params.map paramP).map flat = f.params.map paramT := by
  rw [List.map_map]
  congr 1
  funext p
  simp [paramP, spp, flat, paramT]
 simp only [fnP, tailFn, spp, flat, flat_append, flat_comma, hp, flat_fpcs, funT, headT, tailT, List.append_assoc, List.cons_append, List.nil_append, List.append_nil]
theorem flat_fnsP : ∀ l : List FD, flat (fnsP l) = libT l
 | [] => rfl
 | f :: r => by
  have := flat_fnsP r
  unfold fnsP libT at *
  simp only [List.map_cons, List.flatten_cons, flat_append, flat_fnP, this]
theorem typeT_tok (b : Bool) : TokT (typeT b) ∧ (firstTok (typeT b)).1 = 1 ∧ ∀ c ∈ (typeT b).head?, letter c = true := by
 cases b
 · exact ⟨tokT_lit (by decide), by decide, by simp [typeT]; decide⟩
 · exact ⟨tokT_lit (by decide), by decide, by simp [typeT]; decide⟩
theorem paramP_nice {p : FP} (h : isName p.name = true) : Nice (paramP p) := by
 obtain ⟨t1, t2, t3⟩ := typeT_tok p.list
 exact Nice.cons t1 (fun c hc => letter_open (t3 c hc)) (wf_spp (wf_none (tokT_name h).1 trivial)) ⟨_, rfl, closeT_name (tokT_name h).2⟩
theorem tailFn_wf {f : FD} (h : f.body.okR) (p : Option (List UInt8)) : wf p (tailFn f) ∧ endOf p (tailFn f) = none := by
 obtain ⟨t1, t2, -⟩ := tokB; have hb := fpcs_nice _ h; refine ⟨wf_spp (wf_none (typeT_tok f.list).1 (wf_spp (wf_none t1 (wf_spp (hb.then openP_none (wf_none t2 ⟨by decide, trivial⟩)))))), ?_⟩
 show endOf none (f.body.fpcs ++ _) = _
 rw [end_then]; rfl
theorem fnP_wf {f : FD} (h : GoodR f) : wf none (fnP f) ∧ endOf none (fnP f) = none := by
 obtain ⟨t1, t2, t3, t4, -⟩ := tokB; have hw := tokT_name h.name; have hT := tailFn_wf h.ok
 have hadj : ∀ t0 ∈ some f.name, ∀ c ∈ ([40] : List UInt8).head?, Adj t0 c := fun u hu c hc => by
  have : c = 40 := by simpa using hc.symm
  have : f.name = u := by simpa using hu
  subst_vars
  exact ⟨fun _ => (by decide), fun e => (by rw [hw.2] at e; cases e), fun e => (by rw [hw.2] at e; cases e)⟩
 have hn : ∀ x ∈ f.params.map paramP, Nice x := fun x hx => by
  obtain ⟨p, hp, rfl⟩ := List.mem_map.1 hx
  exact paramP_nice (h.par p hp)
 have hmid : wf (some [40]) (commaP (f.params.map paramP) ++ (.tk [41] :: tailFn f)) := by
  by_cases hl : f.params.map paramP = []
  · rw [hl]
    refine ⟨t4, fun u hu c hc => ?_, (hT _).1⟩
    have : c = 41 := by simpa using hc.symm
    have : [40] = u := by simpa using hu
    rw [← this]
    exact adj_open (by decide) (by subst_vars; decide)
  · have hc := nice_comma _ hn hl
    rw [wf_append]; obtain ⟨t, e, ct⟩ := hc.fin (some [40]); refine ⟨hc.wf _ (openP_sign (by decide)), t4, fun u hu c hc => ?_, (hT _).1⟩
    have : c = 41 := by simpa using hc.symm
    have : t = u := by rw [e] at hu; simpa using hu
    subst_vars; exact ct.1
 refine ⟨wf_none (tokT_lit (by decide)) (wf_spp ⟨hw.1, by simp, t3, hadj, hmid⟩), ?_⟩
 show endOf (some [40]) (commaP (f.params.map paramP) ++ (.tk [41] :: tailFn f)) = none
 rw [endOf_append]
 exact (hT (some [41])).2
theorem fnsP_wf : ∀ l : List FD, (∀ f ∈ l, GoodR f) → wf none (fnsP l)
 | [], _ => trivial
 | f :: r, h => by
  have h1 := fnP_wf (h f (by simp)); have h2 := fnsP_wf r (fun g hg => h g (by simp [hg]))
  show wf none ((List.map fnP (f :: r)).flatten)
  rw [List.map_cons, List.flatten_cons, wf_append, h1.2]
  exact ⟨h1.1, h2⟩
def tailQ : List FP → Txt
 | [] => []
 | p :: r => [44] :: typeT p.list :: p.name :: tailQ r
def parsQ : List FP → Txt
 | [] => []
 | p :: r => typeT p.list :: p.name :: tailQ r
theorem toks_params : ∀ l : List FP, toks (commaP (l.map paramP)) = parsQ l
 | [] => rfl
 | [p] => rfl
 | p :: q :: r => by
  have := toks_params (q :: r); simp only [List.map_cons] at this; simp only [List.map_cons, commaP, toks_append, toks, this]
  rfl
def FD.tks (f : FD) : Txt := [112, 114, 111, 99] :: f.name :: [40] :: (parsQ f.params ++ ([41] :: typeT f.list :: [123] :: (f.body.tks ++ [[125]])))
theorem toks_fnP (f : FD) : toks (fnP f) = f.tks := by
 simp only [fnP, tailFn, spp, toks, toks_append, toks_params, FD.tks, Nd.tks]
section
variable {ts : List Tok} {n : Int}
theorem list_read {b : Bool} {σ : PS} {r : Txt} (he : σ.err = 0) (hr : rem ts σ = typeT b :: r) : listP ts n σ = (b, adv σ 1) := by
 unfold listP
 rw [has_cons hr he]
 cases b with
 | false =>
  rw [if_neg (by decide)]; have : rem ts σ = [105, 110, 116] :: r := hr; rw [expect_cons this he]
 | true => rw [if_pos (by decide)]; rfl
theorem fparam_read {p : FP} (hp : isName p.name = true) {σ : PS} {r : Txt} (he : σ.err = 0) (hr : rem ts σ = typeT p.list :: p.name :: r) : fparamP ts n σ = (p, adv σ 2) := by
 unfold fparamP
 rw [list_read he hr]; simp only; rw [name_cons (rem_cons hr) he hp, adv_adv]
theorem fparams_read : ∀ (r : List FP) (p : FP) (acc : List FP) (σ : PS) (k : Nat) (rest : Txt), (∀ q ∈ p :: r, isName q.name = true) → σ.err = 0 → rem ts σ = typeT p.list :: p.name :: (tailQ r ++ [41] :: rest) → r.length + 1 ≤ k → fparamsP ts n k acc σ = (acc ++ p :: r, adv σ (2 + (tailQ r).length))
 | [], p, acc, σ, k, rest, hq, he, hr, hk => by
  obtain ⟨k, rfl⟩ : ∃ j, k = j + 1 := ⟨k - 1, by omega⟩; rw [fparamsP]; rw [fparam_read (hq p (by simp)) he hr]; simp only; have h1 := rem_cons (rem_cons hr); rw [adv_adv] at h1; rw [has_cons h1 he, if_neg (by decide)]
  rfl
 | q :: r, p, acc, σ, k, rest, hq, he, hr, hk => by
  obtain ⟨k, rfl⟩ : ∃ j, k = j + 1 := ⟨k - 1, by simp at hk; omega⟩; rw [fparamsP]; rw [fparam_read (hq p (by simp)) he hr]; simp only; have h1 := rem_cons (rem_cons hr); rw [adv_adv] at h1; simp only [tailQ, List.cons_append] at h1; have h2 := rem_cons h1; rw [has_cons h1 he, if_pos (by decide), next_adv]; rw [fparams_read r q (acc ++ [p]) _ k rest (fun x hx => hq x (List.mem_cons_of_mem _ hx)) (by exact he) h2 (by simp at hk; omega), adv_adv, adv_adv]; simp only [List.append_assoc, List.singleton_append, tailQ, List.length_cons]
  congr 2; omega
theorem tailQ_len : ∀ r : List FP, (tailQ r).length = 3 * r.length
 | [] => rfl
 | p :: r => by simp only [tailQ, List.length_cons, tailQ_len r]; omega
theorem parsQ_len (l : List FP) : l.length ≤ (parsQ l).length := by
 cases l with
 | nil => simp
 | cons p r => simp only [parsQ, List.length_cons, tailQ_len]; omega
theorem function_read (hd : DigitKinds ts) {f : FD} (h : GoodR f) {σ : PS} {k : Nat} {rest : Txt} (he : σ.err = 0) (hr : rem ts σ = f.tks ++ rest) (hk : 4 * f.tks.length + 5 ≤ k) : functionP ts n k σ = (f, adv σ f.tks.length) := by
 have hB := rd_all (n := n) hd (f.body.size + 1) f.body (Nat.lt_succ_self _) h.ok; have hpl := parsQ_len f.params
 unfold FD.tks at hr hk ⊢
 simp only [List.cons_append, List.append_assoc, List.nil_append, List.length_cons, List.length_append, List.length_nil] at hr hk ⊢; have h1 := rem_cons hr; have h2 := rem_cons h1; have h3 := rem_cons h2; rw [adv_adv] at h2; rw [adv_adv, adv_adv] at h3
 have key : ∀ τ : PS, τ = adv σ (3 + (parsQ f.params).length + 1) → rem ts τ = typeT f.list :: [123] :: (f.body.tks ++ [125] :: rest) → braceF ts n k (listP ts n τ).2 = (f.body, adv σ ((parsQ f.params).length + (f.body.tks.length + (0 + 1) + 1 + 1 + 1) + 1 + 1 + 1)) ∧ (listP ts n τ).1 = f.list := by
  intro τ e hq
  have heτ : τ.err = 0 := by rw [e]; exact he
  rw [list_read heτ hq]; refine ⟨?_, rfl⟩; simp only; rw [brace_read hB h.ok (by exact heτ) (rem_cons hq) (by omega), e, adv_adv, adv_adv]
  congr 2; omega
 unfold functionP
 rw [expect_cons hr he, name_cons h1 he h.name]; simp only; rw [adv_adv, expect_cons h2 he, adv_adv]; obtain ⟨nm, ps, ls, bd⟩ := f
 cases ps with
 | nil =>
  simp only [parsQ, List.nil_append, List.length_nil] at h3 key hk ⊢; rw [has_cons h3 he, if_pos (by decide)]; simp only; obtain ⟨k1, k2⟩ := key (nextP (adv σ (1 + 1 + 1))) (by simp [next_adv, adv_adv]) (by rw [next_adv]; exact rem_cons h3); rw [k1, k2]
 | cons p r =>
  simp only [parsQ, List.cons_append] at h3 key hk ⊢
  have hnp : hasP ts (adv σ (1 + 1 + 1)) [41] = false := by
   rw [has_cons h3 he]
   cases p.list <;> decide
  rw [hnp, if_neg (by simp)]; rw [fparams_read r p [] (adv σ (1 + 1 + 1)) k _ h.par he h3 (by have := tailQ_len r; simp only [List.length_cons] at hk; omega)]; simp only [List.nil_append]
  have h4 : rem ts (adv σ (3 + (typeT p.list :: p.name :: tailQ r).length)) = [41] :: typeT ls :: [123] :: (bd.tks ++ [125] :: rest) := by
   have := rem_adv (a := typeT p.list :: p.name :: tailQ r) h3
   rw [adv_adv] at this; exact this
  have e4 : adv (adv σ (1 + 1 + 1)) (2 + (tailQ r).length) = adv σ (3 + (typeT p.list :: p.name :: tailQ r).length) := by
   rw [adv_adv]; congr 1; simp only [List.length_cons]; omega
  rw [e4, expect_cons h4 he]; obtain ⟨k1, k2⟩ := key (adv (adv σ (3 + (typeT p.list :: p.name :: tailQ r).length)) 1) (by rw [adv_adv]) (rem_cons h4); rw [k1, k2]
def libQ (l : List FD) : Txt := (l.map FD.tks).flatten
theorem toks_fnsP : ∀ l : List FD, toks (fnsP l) = libQ l
 | [] => rfl
 | f :: r => by
  have := toks_fnsP r
  unfold fnsP libQ at *
  simp only [List.map_cons, List.flatten_cons, toks_append, toks_fnP, this]
theorem lib_read (hd : DigitKinds ts) : ∀ (l : List FD) (acc : List FD) (at_ : List Int) (σ : PS) (k : Nat), (∀ f ∈ l, GoodR f) → σ.at_ ≤ ts.length → σ.err = 0 → rem ts σ = libQ l → 4 * (libQ l).length + 6 ≤ k → (libP ts n k acc at_ σ).1.1 = acc ++ l ∧ (libP ts n k acc at_ σ).2.err = 0
 | [], acc, at_, σ, k, hl, hw, he, hr, hk => by
  obtain ⟨k, rfl⟩ : ∃ j, k = j + 1 := ⟨k - 1, by omega⟩; have hlen := rem_len (ts := ts) σ; rw [hr] at hlen; simp only [libQ, List.map_nil, List.flatten_nil, List.length_nil] at hlen; rw [libP, if_neg (by omega)]
  exact ⟨by simp, he⟩
 | f :: r, acc, at_, σ, k, hl, hw, he, hr, hk => by
  obtain ⟨k, rfl⟩ : ∃ j, k = j + 1 := ⟨k - 1, by omega⟩
  have e0 : libQ (f :: r) = f.tks ++ libQ r := by simp [libQ]
  rw [e0] at hr hk; simp only [List.length_append] at hk; have hlt : σ.at_ < ts.length := rem_lt (t := [112, 114, 111, 99]) (b := f.name :: [40] :: (parsQ f.params ++ ([41] :: typeT f.list :: [123] :: (f.body.tks ++ [[125]]))) ++ libQ r) (by rw [hr]; rfl)
  have hlen : 1 ≤ f.tks.length := by unfold FD.tks; simp
  rw [libP, if_pos ⟨he, hlt⟩, function_read hd (hl f (by simp)) he hr (by omega)]; simp only; have := lib_read hd r (acc ++ [f]) (at_ ++ [(ts.getD σ.at_ Tok.zero).pos]) (adv σ f.tks.length) k (fun g hg => hl g (by simp [hg])) (rem_leF hw hr) he (rem_adv hr) (by omega); rw [List.append_assoc] at this
  exact this
end
theorem parse_libT {lib : List FD} (h : libErr lib = none) (hw : ∀ f ∈ lib, f.body.wf) (hl : ¬ 65536 < (libT lib).length) : parseLib (libT lib) = (lib, 0, 0) := by
 have hg := lib_goodR h hw; obtain ⟨us, h1, h2⟩ := pcs_solid (fnsP lib) none (fnsP_wf lib hg); rw [flat_fnsP] at h1; rw [toks_fnsP] at h2; have hd := digitKinds_start (libT lib); rw [startOk hl (by rw [h1]), h1] at hd; simp only at hd
 have hul : (libQ lib).length = us.length := by rw [← h2]; simp [txt]
 have hr := lib_read (n := (libT lib).length) hd lib [] [] ⟨0, 0, 0⟩ (4 * us.length + 6) hg (Nat.zero_le _) rfl (by unfold rem; rw [h2]; rfl) (by omega); rw [parseLib_at hl h1 (Nat.le_refl _)]
 unfold finL
 rw [hr.1, hr.2, if_neg (by simp)]; simp only [List.nil_append, h]
end Bk
namespace Bk
open Go Go.RowKit Go.Proofs
attribute [local irreducible] Go.Calls
theorem printL_none {lib : List FD} (h : libErr lib = none) : printL lib = (libT lib, 0) := by unfold printL; rw [h]
theorem validI_none {lib : List FD} (h : libErr lib = none) : validI lib = (-1, 0) := by unfold validI; rw [h]
theorem validI_some {lib : List FD} {i : Nat} {e : Int} (h : libErr lib = some (i, e)) : validI lib = ((i : Int), e) := by unfold validI; rw [h]
set_option maxRecDepth 100000 in
set_option maxHeartbeats 4000000 in
theorem back36_c (lib : List FD) (S : Nat → Prop) (a : Option Addr) (c : Nat) (w : World) (hl : lib.length ≤ 9223372036854775807) (hw : ∀ f ∈ lib, f.wfA) (hs : FDs S w lib a) (ht : TabsF w) (hE : Errs w) :
 Calls Tryz.prog 5 #[.slice a lib.length c] w fun e w' => e = .returned (.bool true) ∧ Ext w w' := by
 have X := Ext.refl w; replace hs := hs.ltA; have hS : Syms w := ⟨ht.t.sym⟩; have HF := Lib.hid (fun (S : Nat → Prop) (a : Option Addr) (c : Nat) (w : World) hs => few36_c lib S a c w hl hw hs)
 cases hf : fewL lib with
 | false =>
  rw [hf] at HF; clear hw; refine calls_in Tryz.func5 Tryz.ntmps5 rfl rfl ?_
  focus
   refine cS (cA rfl rfl (cT (cw_seq (cS ?_)))); refine cC (by kernel_rfl) rfl (awake36_c _ (by assumption) (by assumption)) rfl ?_; rintro _ w2 ⟨⟨⟩, x1⟩; have z3 := x1.size; replace ht := ht.ext x1; replace hE := hE.ext x1; replace X := X.ext x1; replace hs := hs.ext x1; replace hS := hS.ext x1; clear x1; refine lw_pure (pur_not rfl) rfl (cM rfl rfl (lw_on rfl rfl rfl (rfl) (cM rfl rfl (lw_on rfl rfl rfl (rfl) ?_)))); refine cC (by kernel_rfl) rfl (HF.out _ _ _ _ (by assumption)) rfl ?_; rintro _ w5 ⟨⟨⟩, x4⟩; have z6 := x4.size; replace ht := ht.ext x4; replace hE := hE.ext x4; replace X := X.ext x4; replace hs := hs.ext x4; replace hS := hS.ext x4; clear x4; refine lw_on rfl rfl rfl (rfl) (lw_pure (pur_not rfl) rfl (lw_pure (pur_pick_f rfl rfl rfl) rfl (cT (cw_cond_t rfl (cS ?_))))); refine cC (by kernel_rfl) rfl (awake36_c _ (by assumption) (by assumption)) rfl ?_; rintro _ w8 ⟨⟨⟩, x7⟩; have z9 := x7.size; replace ht := ht.ext x7; replace hE := hE.ext x7; replace X := X.ext x7; replace hs := hs.ext x7; replace hS := hS.ext x7; clear x7; refine cA rfl rfl (cT (cw_ret (qw_then_ret (qw_ret1 rfl rfl ?_)))); rotate_left 1
  exact ⟨rfl, X⟩
 | true =>
  rw [hf] at HF; have hL := few_lib hf hw; have HL := Lib.hid hL
  have hwf : ∀ f ∈ lib, f.body.wf := fun f hf => (hL.all f hf).2.2.2.2
  have HP := Lib.hid (fun (S : Nat → Prop) (a : Option Addr) (c : Nat) (w : World) hs ht => Print_c lib S a c w hL hs ht); have hpl := printL_len hL; clear hf hw
  cases hv : libErr lib with
  | some q =>
   obtain ⟨i, e⟩ := q; obtain ⟨hi, hne⟩ := libErr_some hv; have HV := Lib.hid (Valid_v (validI_some hv)); clear hv hwf HP hpl; refine calls_in Tryz.func5 Tryz.ntmps5 rfl rfl ?_
   focus
    refine cS (cA rfl rfl (cT (cw_seq (cS ?_)))); refine cC (by kernel_rfl) rfl (awake36_c _ (by assumption) (by assumption)) rfl ?_; rintro _ wa2 ⟨⟨⟩, xa1⟩; have za3 := xa1.size; replace ht := ht.ext xa1; replace hE := hE.ext xa1; replace X := X.ext xa1; replace hs := hs.ext xa1; replace hS := hS.ext xa1; clear xa1; refine lw_pure (pur_not rfl) rfl (cM rfl rfl (lw_on rfl rfl rfl (rfl) (cM rfl rfl (lw_on rfl rfl rfl (rfl) ?_)))); refine cC (by kernel_rfl) rfl (HF.out _ _ _ _ (by assumption)) rfl ?_; rintro _ wa5 ⟨⟨⟩, xa4⟩; have za6 := xa4.size; replace ht := ht.ext xa4; replace hE := hE.ext xa4; replace X := X.ext xa4; replace hs := hs.ext xa4; replace hS := hS.ext xa4; clear xa4; refine lw_on rfl rfl rfl (rfl) (lw_pure (pur_not rfl) rfl (lw_pure (pur_pick_f rfl rfl rfl) rfl (cT (cw_cond_f rfl (cw_skip (qw_then (cw_seq (cS (cM rfl rfl ?_))))))))); refine cC (by kernel_rfl) rfl (HV.out _ _ _ _ HL.out (by assumption)) rfl ?_; rintro _ wa8 ⟨⟨⟩, xa7⟩; have za9 := xa7.size; replace ht := ht.ext xa7; replace hE := hE.ext xa7; replace X := X.ext xa7; replace hs := hs.ext xa7; replace hS := hS.ext xa7; clear xa7; refine cM rfl rfl (lw_pure (pur_extract rfl rfl) rfl (lw_pure (pur_extract rfl rfl) rfl (cA rfl rfl (cA rfl rfl (cN (cM rfl rfl (lw_pure (pur_neq rfl rfl) rfl (cT ?_)))))))); refine cw_yes rfl (by assumption) ?_; refine cS (cA rfl rfl (cT (cw_ret (qw_then_ret (qw_ret1 rfl rfl ?_))))); rotate_left 1
   exact ⟨rfl, X⟩
  | none =>
   have HV := Lib.hid (Valid_v (validI_none hv)); rw [printL_none hv] at HP hpl; simp only at hpl
   by_cases h65 : 65536 < (libT lib).length
   · clear hv hwf
     generalize libT lib = T at *
     have h66 : (65536 : Int) < ((T, (0 : Int)).1.length : Int) := by dsimp only; omega
     refine calls_in Tryz.func5 Tryz.ntmps5 rfl rfl ?_
     focus
      refine cS (cA rfl rfl (cT (cw_seq (cS ?_)))); refine cC (by kernel_rfl) rfl (awake36_c _ (by assumption) (by assumption)) rfl ?_; rintro _ wb2 ⟨⟨⟩, xb1⟩; have zb3 := xb1.size; replace ht := ht.ext xb1; replace hE := hE.ext xb1; replace X := X.ext xb1; replace hs := hs.ext xb1; replace hS := hS.ext xb1; clear xb1; refine lw_pure (pur_not rfl) rfl (cM rfl rfl (lw_on rfl rfl rfl (rfl) (cM rfl rfl (lw_on rfl rfl rfl (rfl) ?_)))); refine cC (by kernel_rfl) rfl (HF.out _ _ _ _ (by assumption)) rfl ?_; rintro _ wb5 ⟨⟨⟩, xb4⟩; have zb6 := xb4.size; replace ht := ht.ext xb4; replace hE := hE.ext xb4; replace X := X.ext xb4; replace hs := hs.ext xb4; replace hS := hS.ext xb4; clear xb4; refine lw_on rfl rfl rfl (rfl) (lw_pure (pur_not rfl) rfl (lw_pure (pur_pick_f rfl rfl rfl) rfl (cT (cw_cond_f rfl (cw_skip (qw_then (cw_seq (cS (cM rfl rfl ?_))))))))); refine cC (by kernel_rfl) rfl (HV.out _ _ _ _ HL.out (by assumption)) rfl ?_; rintro _ wb8 ⟨⟨⟩, xb7⟩; have zb9 := xb7.size; replace ht := ht.ext xb7; replace hE := hE.ext xb7; replace X := X.ext xb7; replace hs := hs.ext xb7; replace hS := hS.ext xb7; clear xb7; refine cM rfl rfl (lw_pure (pur_extract rfl rfl) rfl (lw_pure (pur_extract rfl rfl) rfl (cA rfl rfl (cA rfl rfl (cN (cM rfl rfl (lw_pure (pur_neq rfl rfl) rfl (cT ?_)))))))); refine cw_no rfl (by decide) ?_; refine cw_skip (qw_then (cS (cM rfl rfl ?_))); refine cC (by kernel_rfl) rfl (HP.out _ _ _ _ (by assumption) (by assumption)) rfl ?_; rintro _ wb11 ⟨⟨⟩, xb10⟩; have zb12 := xb10.size
      replace ht := ht.ext xb10; replace hE := hE.ext xb10; replace X := X.ext xb10; replace hs := hs.ext xb10; replace hS := hS.ext xb10; clear xb10; refine cM rfl rfl (lw_pure (pur_extract rfl rfl) rfl (lw_pure (pur_extract rfl rfl) rfl (cA rfl rfl (cA rfl rfl (cT (cw_seq (cS (cM rfl rfl (lw_pure (pur_len_s tabOk rfl rfl) rfl (lw_pure (pur_gtr rfl rfl) rfl (cT ?_))))))))))); refine cw_yes rfl (by assumption) ?_; refine cS (cM rfl rfl (lw_pure (pur_eql rfl rfl) rfl (cA rfl rfl (cT (cw_ret (qw_then_ret (qw_ret1 rfl rfl ?_))))))); rotate_left 1
     exact ⟨rfl, X⟩
   · have hpa := parse_libT hv hwf h65
     have HR := Lib.hid (fun w hS hE => funParse_c (libT lib) w (by omega) hS hE); rw [hpa] at HR; obtain ⟨hf1, hf2⟩ := hL.same
     have HS := Lib.hid hf2; clear hf2
     clear hv hwf hpa
     generalize libT lib = T at *
     have h66 : ¬ (65536 : Int) < ((T, (0 : Int)).1.length : Int) := by dsimp only; omega
     refine calls_in Tryz.func5 Tryz.ntmps5 rfl rfl ?_
     focus
      refine cS (cA rfl rfl (cT (cw_seq (cS ?_)))); refine cC (by kernel_rfl) rfl (awake36_c _ (by assumption) (by assumption)) rfl ?_; rintro _ wc2 ⟨⟨⟩, xc1⟩; have zc3 := xc1.size; replace ht := ht.ext xc1; replace hE := hE.ext xc1; replace X := X.ext xc1; replace hs := hs.ext xc1; replace hS := hS.ext xc1; clear xc1; refine lw_pure (pur_not rfl) rfl (cM rfl rfl (lw_on rfl rfl rfl (rfl) (cM rfl rfl (lw_on rfl rfl rfl (rfl) ?_)))); refine cC (by kernel_rfl) rfl (HF.out _ _ _ _ (by assumption)) rfl ?_; rintro _ wc5 ⟨⟨⟩, xc4⟩; have zc6 := xc4.size; replace ht := ht.ext xc4; replace hE := hE.ext xc4; replace X := X.ext xc4; replace hs := hs.ext xc4; replace hS := hS.ext xc4; clear xc4; refine lw_on rfl rfl rfl (rfl) (lw_pure (pur_not rfl) rfl (lw_pure (pur_pick_f rfl rfl rfl) rfl (cT (cw_cond_f rfl (cw_skip (qw_then (cw_seq (cS (cM rfl rfl ?_))))))))); refine cC (by kernel_rfl) rfl (HV.out _ _ _ _ HL.out (by assumption)) rfl ?_; rintro _ wc8 ⟨⟨⟩, xc7⟩; have zc9 := xc7.size; replace ht := ht.ext xc7; replace hE := hE.ext xc7; replace X := X.ext xc7; replace hs := hs.ext xc7; replace hS := hS.ext xc7; clear xc7; refine cM rfl rfl (lw_pure (pur_extract rfl rfl) rfl (lw_pure (pur_extract rfl rfl) rfl (cA rfl rfl (cA rfl rfl (cN (cM rfl rfl (lw_pure (pur_neq rfl rfl) rfl (cT ?_)))))))); refine cw_no rfl (by decide) ?_; refine cw_skip (qw_then (cS (cM rfl rfl ?_))); refine cC (by kernel_rfl) rfl (HP.out _ _ _ _ (by assumption) (by assumption)) rfl ?_; rintro _ wc11 ⟨⟨⟩, xc10⟩; have zc12 := xc10.size
      replace ht := ht.ext xc10; replace hE := hE.ext xc10; replace X := X.ext xc10; replace hs := hs.ext xc10; replace hS := hS.ext xc10; clear xc10; refine cM rfl rfl (lw_pure (pur_extract rfl rfl) rfl (lw_pure (pur_extract rfl rfl) rfl (cA rfl rfl (cA rfl rfl (cT (cw_seq (cS (cM rfl rfl (lw_pure (pur_len_s tabOk rfl rfl) rfl (lw_pure (pur_gtr rfl rfl) rfl (cT ?_))))))))))); refine cw_no rfl (by assumption) ?_; refine cw_skip (qw_then (cS (cM rfl rfl ?_))); refine cR (by kernel_rfl) rfl (HR.out _ (by assumption) (by assumption)) (fun _ _ h => h.ret) rfl ?_; rintro _ wc17 ⟨lac13, ⟨lcc14, ⟨⟨⟩, ⟨hc15, xc16⟩⟩⟩⟩; have zc18 := xc16.size; replace ht := ht.ext xc16; replace hE := hE.ext xc16; replace X := X.ext xc16; replace hs := hs.ext xc16; replace hS := hS.ext xc16; clear xc16; refine cM rfl rfl (lw_pure (pur_extract rfl rfl) rfl (lw_pure (pur_extract rfl rfl) rfl (lw_pure (pur_extract rfl rfl) rfl (cA rfl rfl (cA rfl rfl (cA rfl rfl (cN (cM rfl rfl (lw_pure (pur_eql rfl rfl) rfl (cM rfl rfl ?_)))))))))); refine lw_on rfl rfl rfl (gd_tt (by omega)) ?_; refine cM rfl rfl ?_; refine lw_on rfl rfl rfl (gd_tt (by omega)) ?_; refine lw_pure (pur_eql rfl rfl) rfl ?_; refine lw_pure (pur_pick_yes rfl rfl (by omega)) rfl ?_; refine cM rfl rfl (lw_on rfl rfl rfl (gd_tt (rfl)) (cM rfl rfl (lw_on rfl rfl rfl (gd_tt (rfl)) (lw_pure (pur_eql rfl rfl) rfl (lw_pure (pur_pick_yes rfl rfl (rfl)) rfl (cM rfl rfl (lw_on rfl rfl rfl (gd_tt (rfl)) (cM rfl rfl (lw_on rfl rfl rfl (gd_tt (rfl)) (cM rfl rfl (lw_on rfl rfl rfl (gd_tt (rfl)) ?_)))))))))))
      refine cC (by kernel_rfl) rfl (same36_t _ _ _ _ _ _ _ _ hf1 HS.out (by assumption) (by assumption)) rfl ?_; rintro _ wc20 ⟨⟨⟩, xc19⟩; have zc21 := xc19.size; replace hc15 := hc15.ext xc19; replace ht := ht.ext xc19; replace hE := hE.ext xc19; replace X := X.ext xc19; replace hs := hs.ext xc19; replace hS := hS.ext xc19; clear xc19; refine lw_pure (pur_pick_yes rfl rfl (rfl)) rfl (cA rfl rfl (cT (cw_ret (qw_ret1 rfl rfl ?_)))); rotate_left 1
     exact ⟨rfl, X⟩
end Bk
namespace Bk
open Go Go.RowKit Go.Proofs
def AllB : Nat → Prop := fun _ => True
theorem row_build (W : World) (b o : Nat) : ∀ (len i0 : Nat), (∀ i, i < len → ∃ (t : Nd) (a' : Option Addr) (c' : Nat), t.wf ∧ W.cell? ⟨b, o + (i0 + i) * 4, none⟩ = some (.int .u8 t.kind) ∧ W.cell? ⟨b, o + (i0 + i) * 4 + 1, none⟩ = some (.int .i64 t.num) ∧ W.cell? ⟨b, o + (i0 + i) * 4 + 2, none⟩ = some (str t.name) ∧ W.cell? ⟨b, o + (i0 + i) * 4 + 3, none⟩ = some (.slice a' t.kids.length c') ∧ t.sits AllB W a') →
 ∃ l : List Nd, l.length = len ∧ rowWf l ∧ rowSits AllB W l (some ⟨b, o + i0 * 4, none⟩)
 | 0, _, _ => ⟨[], rfl, by simp [rowWf], by simp [rowSits]⟩
 | len + 1, i0, h => by
  obtain ⟨l, hl, hw, hs⟩ := row_build W b o len (i0 + 1) (fun i hi => by
   have := h (i + 1) (by omega)
   rwa [show i0 + (i + 1) = i0 + 1 + i from by omega] at this)
  obtain ⟨t, a', c', hwf, h0, h1, h2, h3, hsk⟩ := h 0 (by omega); rw [Nat.add_zero] at h0 h1 h2 h3; refine ⟨t :: l, by simp [hl], by simp [rowWf, hwf, hw], ?_⟩; simp only [rowSits]; refine ⟨b, o + i0 * 4, a', c', rfl, trivial, h0, h1, h2, h3, hsk, ?_⟩
  rwa [show o + i0 * 4 + 4 = o + (i0 + 1) * 4 from by omega]
theorem cells4 {W : World} {a : Addr} {cs : List Value} (h : W.cells? 0 a 4 = some cs) : ∃ c0 c1 c2 c3, cs = [c0, c1, c2, c3] ∧ W.cell? (a.add 0) = some c0 ∧ W.cell? (a.add 1) = some c1 ∧ W.cell? (a.add 2) = some c2 ∧ W.cell? (a.add 3) = some c3 := by
 unfold World.cells? at h
 rw [if_pos (Nat.zero_le _)] at h; rw [show List.range 4 = [0, 1, 2, 3] from rfl] at h
 cases e0 : W.cell? (a.add 0) <;> simp [e0] at h
 cases e1 : W.cell? (a.add 1) <;> simp [e1] at h
 cases e2 : W.cell? (a.add 2) <;> simp [e2] at h
 cases e3 : W.cell? (a.add 3) <;> simp [e3] at h
 exact ⟨_, _, _, _, h.symm, rfl, rfl, rfl, rfl⟩
theorem addr_add2 (b o n m : Nat) : ((⟨b, o, none⟩ : Addr).add n).add m = ⟨b, o + n + m, none⟩ := by
 unfold Addr.add
 by_cases hn : n = 0 <;> by_cases hm : m = 0 <;> simp [hn, hm]
theorem cellsNode : Tryz.prog.cellsOf 43 = 4 := by kernel_rfl
theorem cells5 : Tryz.prog.cellsOf 5 = 1 := by kernel_rfl
theorem cells3 : Tryz.prog.cellsOf 3 = 1 := by kernel_rfl
theorem cells9 : Tryz.prog.cellsOf 9 = 1 := by kernel_rfl
theorem cells22 : Tryz.prog.cellsOf 41 = 1 := by kernel_rfl
theorem node_of_trod {H : Type} (enc : TypeId × Value → H) (W : World) (sp : Nat → Bool) (N : Nat) : ∀ (fuel : Nat), fuel < N → ∀ (cs : List Value) (x : DataW H × List MemPlace), DataW.trod enc Tryz.prog W 0 sp true fuel 43 cs = some x →
 ∃ (t : Nd) (a : Option Addr) (c : Nat), cs = [.int .u8 t.kind, .int .i64 t.num, str t.name, .slice a t.kids.length c] ∧ t.wf ∧ t.sits AllB W a := by
 induction N with
 | zero => intro fuel h; omega
 | succ N ih =>
  intro fuel hN cs x h; obtain ⟨xs, n, rfl, -, hl, hlen, hf⟩ := DataW.trod_struct Tryz.underlying43 h; rw [cellsNode] at hl
  obtain ⟨c0, c1, c2, c3, rfl⟩ : ∃ c0 c1 c2 c3, cs = [c0, c1, c2, c3] := by
   rcases cs with _ | ⟨c0, _ | ⟨c1, _ | ⟨c2, _ | ⟨c3, _ | ⟨c4, cs⟩⟩⟩⟩⟩
   · simp at hl
   · simp at hl
   · simp at hl
   · simp at hl
   · exact ⟨_, _, _, _, rfl⟩
   · simp at hl
  obtain ⟨y0, y1, y2, y3, rfl⟩ : ∃ y0 y1 y2 y3, xs = [y0, y1, y2, y3] := by
   have hlen' : xs.length = 4 := hlen
   rcases xs with _ | ⟨c0, _ | ⟨c1, _ | ⟨c2, _ | ⟨c3, _ | ⟨c4, cs⟩⟩⟩⟩⟩
   · simp at hlen'
   · simp at hlen'
   · simp at hlen'
   · simp at hlen'
   · exact ⟨_, _, _, _, rfl⟩
   · simp at hlen'
  · have f0 : DataW.trod enc Tryz.prog W 0 sp true n 5 (([c0, c1, c2, c3].drop 0).take (Tryz.prog.cellsOf 5)) = some y0 := hf 0 _ rfl
    have f1 : DataW.trod enc Tryz.prog W 0 sp true n 3 (([c0, c1, c2, c3].drop 1).take (Tryz.prog.cellsOf 3)) = some y1 := hf 1 _ rfl; have f2 : DataW.trod enc Tryz.prog W 0 sp true n 9 (([c0, c1, c2, c3].drop 2).take (Tryz.prog.cellsOf 9)) = some y2 := hf 2 _ rfl; have f3 : DataW.trod enc Tryz.prog W 0 sp true n 41 (([c0, c1, c2, c3].drop 3).take (Tryz.prog.cellsOf 41)) = some y3 := hf 3 _ rfl; simp only [cells5, cells3, cells9, cells22, List.drop_zero, List.drop_succ_cons, List.take_succ_cons, List.take_zero] at f0 f1 f2 f3; obtain ⟨k, hk, -, wk⟩ := DataW.trod_int (show Tryz.prog.underlying 5 = some (.int .u8) by kernel_rfl) f0; obtain ⟨m, hm, -, wm⟩ := DataW.trod_int Tryz.underlying3 f1; obtain ⟨s, hs, -, ws⟩ := DataW.trod_string (show Tryz.prog.underlying 9 = some .string by kernel_rfl) f2; simp only [List.cons.injEq, and_true] at hk hm hs; subst hk hm hs
    have wk' : 0 ≤ k ∧ k ≤ 255 := by simpa [Lit.wf, IntKind.min, IntKind.max, IntKind.signed, IntKind.bits] using wk
    have wm' : -9223372036854775808 ≤ m ∧ m ≤ 9223372036854775807 := by simpa [Lit.wf, IntKind.min, IntKind.max, IntKind.signed, IntKind.bits] using wm
    have ws' : s.data.toList.length ≤ 9223372036854775807 := by
     have : s.data.toList.length = s.size := by rw [Array.length_toList]; rfl
     unfold maxLen at ws; omega
    rcases DataW.trod_slice Tryz.underlying41 f3 with ⟨hc, -⟩ | ⟨a, len, cap, elems, rest, n', hn', hc, -, -, hle, hcm, hel, hE, -⟩
    · simp only [List.cons.injEq, and_true] at hc
      subst hc
      exact ⟨.mk k m s.data.toList [], none, 0, rfl, ⟨wk'.1, wk'.2, wm'.1, wm'.2, ws', by simp, by simp [rowWf]⟩, by simp [Nd.sits, rowSits]⟩
    · simp only [List.cons.injEq, and_true] at hc
      subst hc; rw [cellsNode] at hE
      rcases Nat.eq_zero_or_pos len with h0 | hpos
      · subst h0
        exact ⟨.mk k m s.data.toList [], some a, cap, rfl, ⟨wk'.1, wk'.2, wm'.1, wm'.2, ws', by simp, by simp [rowWf]⟩, by simp [Nd.sits, rowSits]⟩
      · have step : ∀ i, i < len → ∃ (t : Nd) (a' : Option Addr) (c' : Nat), t.wf ∧ W.cell? ((a.add (i * 4)).add 0) = some (.int .u8 t.kind) ∧ W.cell? ((a.add (i * 4)).add 1) = some (.int .i64 t.num) ∧ W.cell? ((a.add (i * 4)).add 2) = some (str t.name) ∧ W.cell? ((a.add (i * 4)).add 3) = some (.slice a' t.kids.length c') ∧ t.sits AllB W a' := by
         intro i hi; have hEi := hE i hi
         cases hc4 : W.cells? 0 (a.add (i * 4)) 4 with
         | none =>
          rw [hc4] at hEi; have hh : elems[i]? = some elems[i] := List.getElem?_eq_getElem (by omega); rw [hh] at hEi
          simp at hEi
         | some cs4 =>
          rw [hc4, List.getElem?_eq_getElem (by omega)] at hEi; obtain ⟨d0, d1, d2, d3, rfl, e0, e1, e2, e3⟩ := cells4 hc4; obtain ⟨t, a', c', hcs, hw, hs⟩ := ih n' (by omega) _ _ hEi; simp only [List.cons.injEq, and_true] at hcs; obtain ⟨rfl, rfl, rfl, rfl⟩ := hcs
          exact ⟨t, a', c', hw, e0, e1, e2, e3, hs⟩
        obtain ⟨b, o, spot⟩ := a
        have hspot : spot = none := by
         obtain ⟨t, a', c', -, e0, -⟩ := step 0 hpos; simp only [Nat.zero_mul, Addr.add, if_true] at e0
         unfold World.cell? at e0
         cases spot with
         | none => rfl
         | some q => simp at e0; split at e0 <;> simp at e0
        subst hspot
        obtain ⟨l, hl', hw', hs'⟩ := row_build W b o len 0 (fun i hi => by
         obtain ⟨t, a', c', hw, e0, e1, e2, e3, hs⟩ := step i hi; rw [addr_add2] at e0 e1 e2 e3; rw [Nat.zero_add]
         exact ⟨t, a', c', hw, e0, e1, e2, e3, hs⟩)
        subst hl'; refine ⟨.mk k m s.data.toList l, some ⟨b, o, none⟩, cap, rfl, ⟨wk'.1, wk'.2, wm'.1, wm'.2, ws', by unfold maxLen at hcm; omega, hw'⟩, ?_⟩
        simpa [Nd.sits] using hs'
end Bk
namespace Bk
open Go Go.RowKit Go.Proofs
section
theorem cells_rowF {W : World} {p : Addr} {k : Nat} {cs : List Value} (h : W.cells? 0 p k = some cs) : Row W p cs ∧ cs.length = k := by
 unfold World.cells? at h
 rw [if_pos (Nat.zero_le _)] at h; refine ⟨fun i v hi => ?_, by simpa using mapM_some_length h⟩
 have hl : cs.length = k := by simpa using mapM_some_length h
 have hik : i < k := by
  rcases Nat.lt_or_ge i cs.length with h' | h'
  · omega
  · rw [List.getElem?_eq_none h'] at hi; cases hi
 have := mapM_some_get h i i (by simp [hik]); rw [hi] at this
 exact this
theorem addr_addF (b o i : Nat) : (⟨b, o, none⟩ : Addr).add i = ⟨b, o + i, none⟩ := by unfold Addr.add; by_cases h0 : i = 0 <;> simp [h0]
theorem arr_of_trodC {α H : Type} (enc : TypeId × Value → H) (W : World) (sp : Nat → Bool) {t e k : Nat} (ht : Tryz.prog.underlying t = some (.slice e)) (hk : Tryz.prog.cellsOf e = k) (hk0 : 0 < k) (G : List Value → α → Prop)
 {fuel : Nat} (hG : ∀ (n : Nat) (cs : List Value) (x : DataW H × List MemPlace), n < fuel → DataW.trod enc Tryz.prog W 0 sp true n e cs = some x → ∃ y, G cs y) {c : Value} {x : DataW H × List MemPlace} (h : DataW.trod enc Tryz.prog W 0 sp true fuel t [c] = some x) :
 ∃ (l : List α) (a : Option Addr) (cap : Nat), c = .slice a l.length cap ∧ l.length ≤ 9223372036854775807 ∧ l.length ≤ cap ∧ Arr AllB k (fun w b o y => ∃ cs, Row w ⟨b, o, none⟩ cs ∧ G cs y) W l a := by
 rcases DataW.trod_slice ht h with ⟨hc, -⟩ | ⟨a, len, cap, elems, rest, n', hn', hc, -, -, hle, hcm, hel, hE, -⟩
 · simp only [List.cons.injEq, and_true] at hc
   exact ⟨[], none, 0, hc, by simp, by simp, Or.inl rfl⟩
 · simp only [List.cons.injEq, and_true] at hc
   rw [hk] at hE
   unfold maxLen at hcm
   rcases Nat.eq_zero_or_pos len with h0 | hpos
   · subst h0
     exact ⟨[], some a, cap, hc, by simp, by simp, Or.inl rfl⟩
   · have step : ∀ i, i < len → ∃ y cs, Row W (a.add (i * k)) cs ∧ cs.length = k ∧ G cs y := fun i hi => by
      have hEi := hE i hi
      cases hc4 : W.cells? 0 (a.add (i * k)) k with
      | none =>
       rw [hc4, List.getElem?_eq_getElem (by omega)] at hEi
       simp at hEi
      | some cs =>
       rw [hc4, List.getElem?_eq_getElem (by omega)] at hEi; obtain ⟨r1, r2⟩ := cells_rowF hc4; obtain ⟨y, hy⟩ := hG n' cs _ (by omega) hEi
       exact ⟨y, cs, r1, r2, hy⟩
     obtain ⟨b, o, spot⟩ := a
     have hspot : spot = none := by
      obtain ⟨y, cs, r, hl, -⟩ := step 0 hpos; simp only [Nat.zero_mul, Addr.add, if_true] at r
      cases cs with
      | nil => simp at hl; omega
      | cons v vs =>
       have := r 0 v rfl; simp only [Addr.add, if_true] at this
       exact cell_spot this
     subst hspot
     have hl : ∃ l : List α, l.length = len ∧ ∀ i y, l[i]? = some y → ∃ cs, Row W ⟨b, o + i * k, none⟩ cs ∧ G cs y := by
      have key : ∀ m, m ≤ len → ∃ l : List α, l.length = m ∧ ∀ i y, l[i]? = some y → ∃ cs, Row W ⟨b, o + i * k, none⟩ cs ∧ G cs y := by
       intro m
       induction m with
       | zero => intro _; exact ⟨[], rfl, by simp⟩
       | succ m ih =>
        intro hm; obtain ⟨l, h1, h2⟩ := ih (by omega); obtain ⟨y, cs, r, -, hg⟩ := step m (by omega); rw [addr_addF] at r; refine ⟨l ++ [y], by simp [h1], fun i z hz => ?_⟩
        rcases Nat.lt_or_ge i m with hi | hi
        · rw [List.getElem?_append_left (by omega)] at hz; exact h2 i z hz
        · rw [List.getElem?_append_right (by omega)] at hz
          obtain rfl : i = m := by
           rcases Nat.lt_or_ge m i with h' | h'
           · rw [List.getElem?_eq_none (by simp; omega)] at hz; cases hz
           · omega
          simp [h1] at hz
          subst hz
          exact ⟨cs, r, hg⟩
      exact key len (Nat.le_refl _)
     obtain ⟨l, h1, h2⟩ := hl; subst h1
     exact ⟨l, some ⟨b, o, none⟩, cap, hc, by omega, by omega, Or.inr ⟨b, o, rfl, trivial, h2⟩⟩
theorem len2F {cs : List Value} (h : cs.length = 2) : ∃ a b, cs = [a, b] := by
 rcases cs with _ | ⟨a, _ | ⟨b, _ | ⟨c, r⟩⟩⟩ <;> simp at h; exact ⟨a, b, rfl⟩
theorem len7F {cs : List Value} (h : cs.length = 7) : ∃ a b c d e f g, cs = [a, b, c, d, e, f, g] := by
 rcases cs with _ | ⟨a, _ | ⟨b, _ | ⟨c, _ | ⟨d, _ | ⟨e, _ | ⟨f, _ | ⟨g, _ | ⟨i, r⟩⟩⟩⟩⟩⟩⟩⟩ <;> simp at h; exact ⟨a, b, c, d, e, f, g, rfl⟩
theorem get_of_lenF {α : Type} {xs : List α} {n i : Nat} (h : xs.length = n) (hi : i < n) : ∃ y, xs[i]? = some y := ⟨xs[i], List.getElem?_eq_getElem (by omega)⟩
theorem cFP : Tryz.prog.cellsOf 48 = 2 := by kernel_rfl
theorem cFPs : Tryz.prog.cellsOf 49 = 1 := by kernel_rfl
theorem cFD : Tryz.prog.cellsOf 51 = 7 := by kernel_rfl
theorem cBool : Tryz.prog.cellsOf 4 = 1 := by kernel_rfl
end
section
variable {H : Type} (enc : TypeId × Value → H) (W : World) (sp : Nat → Bool)
theorem fp_of_trod {fuel : Nat} {cs : List Value} {x : DataW H × List MemPlace} (h : DataW.trod enc Tryz.prog W 0 sp true fuel 48 cs = some x) : ∃ v : FP, cs = v.cells ∧ v.name.length ≤ 9223372036854775807 := by
 obtain ⟨xs, n, rfl, -, hl, hlen, hf⟩ := DataW.trod_struct Tryz.underlying48 h; rw [cFP] at hl; obtain ⟨c0, c1, rfl⟩ := len2F hl; obtain ⟨y0, e0⟩ := get_of_lenF (i := 0) hlen (by decide); obtain ⟨y1, e1⟩ := get_of_lenF (i := 1) hlen (by decide); have f0 : DataW.trod enc Tryz.prog W 0 sp true n 9 (([c0, c1].drop 0).take (Tryz.prog.cellsOf 9)) = some y0 := (hf 0 _ rfl).trans e0; have f1 : DataW.trod enc Tryz.prog W 0 sp true n 4 (([c0, c1].drop 1).take (Tryz.prog.cellsOf 4)) = some y1 := (hf 1 _ rfl).trans e1; simp only [cells9, cBool, List.drop_zero, List.drop_succ_cons, List.take_succ_cons, List.take_zero] at f0 f1; obtain ⟨s, hs, -, ws⟩ := DataW.trod_string underStr f0; obtain ⟨b, hb, -⟩ := DataW.trod_bool Tryz.underlying4 f1; simp only [List.cons.injEq, and_true] at hs hb; subst hs hb
 have ws' : s.data.toList.length ≤ 9223372036854775807 := by
  have : s.data.toList.length = s.size := by rw [Array.length_toList]; rfl
  unfold maxLen at ws; omega
 exact ⟨⟨s.data.toList, b⟩, rfl, ws'⟩
theorem fps_of_trod {fuel : Nat} {c : Value} {x : DataW H × List MemPlace} (h : DataW.trod enc Tryz.prog W 0 sp true fuel 49 [c] = some x) :
 ∃ (l : List FP) (a : Option Addr) (cap : Nat), c = .slice a l.length cap ∧ l.length ≤ 9223372036854775807 ∧ (∀ v ∈ l, v.name.length ≤ 9223372036854775807) ∧ FPs AllB W l a := by
 obtain ⟨l, a, cap, h1, h2, -, h3⟩ := arr_of_trodC (α := FP) enc W sp Tryz.underlying49 cFP (by decide) (fun cs v => cs = v.cells ∧ v.name.length ≤ 9223372036854775807) (fun n cs x _ hx => fp_of_trod enc W sp hx) h; refine ⟨l, a, cap, h1, h2, fun v hv => ?_, h3.mono (fun _ h => h) (fun b o v _ _ ⟨cs, r, e, _⟩ => by subst e; exact r)⟩
 rcases h3 with rfl | ⟨b, o, -, -, hh⟩
 · cases hv
 · obtain ⟨i, hi, rfl⟩ := List.mem_iff_getElem.1 hv
   obtain ⟨cs, -, -, hw⟩ := hh i _ (List.getElem?_eq_getElem hi)
   exact hw
theorem fd_of_trod {fuel : Nat} {cs : List Value} {x : DataW H × List MemPlace} (h : DataW.trod enc Tryz.prog W 0 sp true fuel 51 cs = some x) : ∃ f : FD, (∃ pa pc ba bc, cs = f.cells pa pc ba bc ∧ FPs AllB W f.params pa ∧ f.body.sits AllB W ba) ∧ f.wfA := by
 obtain ⟨xs, n, rfl, -, hl, hlen, hf⟩ := DataW.trod_struct Tryz.underlying51 h; rw [cFD] at hl; obtain ⟨c0, c1, c2, c3, c4, c5, c6, rfl⟩ := len7F hl; obtain ⟨y0, e0⟩ := get_of_lenF (i := 0) hlen (by decide); obtain ⟨y1, e1⟩ := get_of_lenF (i := 1) hlen (by decide); obtain ⟨y2, e2⟩ := get_of_lenF (i := 2) hlen (by decide); obtain ⟨y3, e3⟩ := get_of_lenF (i := 3) hlen (by decide); have f0 : DataW.trod enc Tryz.prog W 0 sp true n 9 (([c0, c1, c2, c3, c4, c5, c6].drop 0).take (Tryz.prog.cellsOf 9)) = some y0 := (hf 0 _ rfl).trans e0; have f1 : DataW.trod enc Tryz.prog W 0 sp true n 49 (([c0, c1, c2, c3, c4, c5, c6].drop 1).take (Tryz.prog.cellsOf 49)) = some y1 := (hf 1 _ rfl).trans e1; have f2 : DataW.trod enc Tryz.prog W 0 sp true n 4 (([c0, c1, c2, c3, c4, c5, c6].drop 2).take (Tryz.prog.cellsOf 4)) = some y2 := (hf 2 _ rfl).trans e2; have f3 : DataW.trod enc Tryz.prog W 0 sp true n 43 (([c0, c1, c2, c3, c4, c5, c6].drop 3).take (Tryz.prog.cellsOf 43)) = some y3 := (hf 3 _ rfl).trans e3; simp only [cFPs, cBool, cells9, cellsNode, List.drop_zero, List.drop_succ_cons, List.take_succ_cons, List.take_zero] at f0 f1 f2 f3; obtain ⟨s, hs, -, ws⟩ := DataW.trod_string underStr f0; obtain ⟨l, pa, pc, hc, hll, hlw, hls⟩ := fps_of_trod enc W sp f1; obtain ⟨q, hq, -⟩ := DataW.trod_bool Tryz.underlying4 f2; obtain ⟨t, ba, bc, hcs, hw, hsit⟩ := node_of_trod enc W sp (n + 1) n (by omega) _ _ f3; simp only [List.cons.injEq, and_true] at hs hcs hq; obtain ⟨rfl, rfl, rfl, rfl⟩ := hcs; subst hs hc hq
 have ws' : s.data.toList.length ≤ 9223372036854775807 := by
  have : s.data.toList.length = s.size := by rw [Array.length_toList]; rfl
  unfold maxLen at ws; omega
 exact ⟨⟨s.data.toList, l, q, t⟩, ⟨pa, pc, ba, bc, rfl, hls, hsit⟩, ws', hll, hlw, hw⟩
set_option maxRecDepth 100000 in
theorem lib_of_trod {r : Reach} {b0 : Nat} {v : Value} {d : DataW H} {ps : List MemPlace} {sp : Nat → Bool} (hval : Value.okWide Tryz.prog W r b0 22 v) (h : DataW.Trod enc Tryz.prog W 0 sp true 22 v d ps) :
 ∃ (l : List FD) (a : Option Addr) (c : Nat), v = .slice a l.length c ∧ l.length ≤ 9223372036854775807 ∧ l.length ≤ c ∧ (∀ f ∈ l, f.wfA) ∧ FDs AllB W l a := by
 obtain ⟨a0, len, cap, rfl⟩ := Go.WideShapes.okWide_slice Tryz.underlying22 hval; obtain ⟨fuel, hf⟩ := h; obtain ⟨l, a, c, h1, h2, h3, h4⟩ := arr_of_trodC (α := FD) enc W sp Tryz.underlying22 cFD (by decide) (fun cs f => (∃ pa pc ba bc, cs = f.cells pa pc ba bc ∧ FPs AllB W f.params pa ∧ f.body.sits AllB W ba) ∧ f.wfA) (fun n cs x _ hx => fd_of_trod enc W sp hx) hf; refine ⟨l, a, c, h1, h2, h3, fun f hf => ?_, ?_⟩
 · rcases h4 with rfl | ⟨b, o, -, -, hh⟩
   · cases hf
   · obtain ⟨i, hi, rfl⟩ := List.mem_iff_getElem.1 hf
     obtain ⟨cs, -, -, hw⟩ := hh i _ (List.getElem?_eq_getElem hi)
     exact hw
 · refine h4.mono (fun _ h => h) (fun b o p _ _ ⟨cs, r, ⟨pa, pc, ba, bc, e, h1, h2⟩, _⟩ => ?_)
   subst e
   exact ⟨pa, pc, ba, bc, r, h1, h2⟩
end
end Bk
namespace Bk
open Go Go.RowKit Go.Proofs
theorem FuntextBack_d (lib : List FD) (a : Option Addr) (c : Nat) (w : World) (hl : lib.length ≤ 9223372036854775807) (hc : lib.length ≤ c) (hw : ∀ f ∈ lib, f.wfA) (hs : FDs AllB w lib a) (ht : TabsF w) (hE : Errs w) :
 Calls Tryz.prog 5 #[.slice a lib.length c] w fun e w' => e = .returned (.bool true) ∧ Ext w w' := back36_c lib AllB a c w hl hw hs ht hE
end Bk
namespace Bk
open Go Go.RowKit Go.Proofs Go.Lib
theorem cells_of_strs {H : Type} {enc : TypeId × Value → H} {P : Program} {w : World} {base : Nat} {sp : Nat → Bool} {held : Bool} {fuel : Nat} {t e : TypeId} {n : Nat} {cs : List Value} {zs : List (List UInt8)} {p : List MemPlace}
 (ht : P.underlying t = some (.array n e)) (he : P.underlying e = some .string) (hce : P.cellsOf e = 1) (hct : P.cellsOf t = n)
 (h : DataW.trod enc P w base sp held fuel t cs = some (.agg (zs.map fun z => .lit (.string z)), p)) : cs = zs.map str := by
 cases fuel with
 | zero => simp [DataW.trod] at h
 | succ fuel =>
  simp only [DataW.trod, ht, hce, hct, Nat.mul_one] at h
  split at h
  · rename_i hl
    obtain ⟨xs, hm, hx⟩ := Option.map_eq_some_iff.1 h
    have hxs : xs.map (·.1) = zs.map fun z => (DataW.lit (.string z) : DataW H) := by
     have := congrArg Prod.fst hx
     simpa using this
    have hxl : xs.length = n := by simpa using mapM_length hm
    have hzl : zs.length = n := by
     have := congrArg List.length hxs
     simp at this
     omega
    apply List.ext_getElem?
    intro i
    by_cases hi : i < n
    · obtain ⟨b, hb, hf⟩ := mapM_at hm i i (by simp [hi])
      obtain ⟨z, hc, rfl, _⟩ := DataW.trod_string he hf
      have h1 : cs[i]? = some (.string z) := by
       have := congrArg (·[0]?) hc
       simpa [List.getElem?_take, List.getElem?_drop] using this
      have h2 : (xs.map (·.1))[i]? = some (DataW.lit (.string z.data.toList) : DataW H) := by simp [hb]
      rw [hxs] at h2; simp only [List.getElem?_map, Option.map_eq_some_iff, DataW.lit.injEq, Lit.string.injEq] at h2; obtain ⟨z', hz', rfl⟩ := h2
      simp [h1, hz']
    · rw [List.getElem?_eq_none (by omega), List.getElem?_eq_none (by simp; omega)]
  · cases h
end Bk
namespace Bk
open Go Go.RowKit Go.Proofs Go.Lib
theorem gSym4 : Tryz.prog.globalNamed "backstep/arith.symbols" = some 0 := by kernel_rfl
theorem gSymT4 : (Tryz.prog.globals[0]?).map (·.type) = some 90 := by kernel_rfl
theorem uSymT4 : Tryz.prog.underlying 90 = some (.array 43 9) := by kernel_rfl
theorem cSymT4 : Tryz.prog.cellsOf 90 = 43 := by kernel_rfl
theorem uStr4 : Tryz.prog.underlying 9 = some .string := by kernel_rfl
theorem cStr4 : Tryz.prog.cellsOf 9 = 1 := by kernel_rfl
theorem gErr4 : Tryz.prog.globalNamed "strconv.ErrRange" = some 6 := by kernel_rfl
theorem gErrT4 : (Tryz.prog.globals[6]?).map (·.type) = some 60 := by kernel_rfl
theorem uErr4 : ∃ ms, Tryz.prog.underlying 60 = some (.interface ms) := ⟨_, Tryz.underlying60⟩
theorem symData4 : (YtmmjpjmkkhflkaaGreatDoor.Rows.laid_backstep_arith_symbols : DataW Unit) = .agg (symbols.map fun z => .lit (.string z)) := rfl
abbrev laid4 : List (String × DataW Unit) := [("backstep/arith.symbols", YtmmjpjmkkhflkaaGreatDoor.Rows.laid_backstep_arith_symbols), ("math/bits.deBruijn32tab", YtmmjpjmkkhflkaaGreatDoor.Rows.laid_math_bits_deBruijn32tab), ("math/bits.deBruijn64tab", YtmmjpjmkkhflkaaGreatDoor.Rows.laid_math_bits_deBruijn64tab), ("internal/strconv.uint64pow10", YtmmjpjmkkhflkaaGreatDoor.Rows.laid_internal_strconv_uint64pow10), ("strconv.ErrRange", YtmmjpjmkkhflkaaGreatDoor.Rows.laid_strconv_ErrRange), ("strconv.ErrSyntax", YtmmjpjmkkhflkaaGreatDoor.Rows.laid_strconv_ErrSyntax)]
theorem syms_of_laid {W : World} (h : laidMetH Tryz.prog laid4 W) : Syms W ∧ Errs W := by
 have h' : laidMet Tryz.prog laid4 W := h; obtain ⟨ps, ⟨g1, t1, cs1, f1, p1, q1, hg1, ht1, hv1, hd1, ⟨g2, t2, cs2, f2, p2, q2, hg2, ht2, hv2, hd2, ⟨g3, t3, cs3, f3, p3, q3, hg3, ht3, hv3, hd3, ⟨g4, t4, cs4, f4, p4, q4, hg4, ht4, hv4, hd4, ⟨g5, t5, cs5, f5, p5, q5, hg5, ht5, hv5, hd5, -, -⟩, -⟩, -⟩, -⟩, -⟩, -⟩ := h'; obtain rfl := Option.some.inj (gSym4.symm.trans hg1); obtain rfl := Option.some.inj (gSymT4.symm.trans ht1); obtain rfl := Option.some.inj (gErr4.symm.trans hg5); obtain rfl := Option.some.inj (gErrT4.symm.trans ht5); rw [symData4] at hd1; have e1 := cells_of_strs uSymT4 uStr4 cStr4 cSymT4 hd1; refine ⟨⟨fun i hi => ?_⟩, ?_⟩
 · rw [World.var?_cell gSym4 hv1 i, ← Array.getElem?_toList, e1, List.getElem?_map]
   have : symbols[i]? = some (symbols.getD i []) := by
    rw [List.getD_eq_getElem?_getD, List.getElem?_eq_getElem (show i < symbols.length from hi)]; rfl
   rw [this]; rfl
 · obtain ⟨ms, hu⟩ := uErr4
   obtain ⟨f, u, v, hc, -, -⟩ := iface_of_trod hu hd5; refine ⟨⟨u, v, ?_⟩⟩; rw [World.var?_cell gErr4 hv5 0, ← Array.getElem?_toList, hc]
   rfl
end Bk
namespace Bk
open Go Go.RowKit Go.Proofs Go.Lib
theorem gPow36 : Tryz.prog.globalNamed "internal/strconv.uint64pow10" = some 2 := by kernel_rfl
theorem gPowT36 : (Tryz.prog.globals[2]?).map (·.type) = some 146 := by kernel_rfl
theorem uPowT36 : Tryz.prog.underlying 146 = some (.array 20 139) := by kernel_rfl
theorem uU6436 : Tryz.prog.underlying 139 = some (.int .u64) := by kernel_rfl
theorem cU6436 : Tryz.prog.cellsOf 139 = 1 := by kernel_rfl
theorem cPowT36 : Tryz.prog.cellsOf 146 = 20 := by kernel_rfl
theorem powData36 : (YtmmjpjmkkhflkaaGreatDoor.Rows.laid_internal_strconv_uint64pow10 : DataW Unit) = tabData .u64 pow10Tab := rfl
theorem heap36_of_laid {W : World} (h : laidMetH Tryz.prog laid4 W) : Tryz.prog.globals.size ≤ W.heap.size := by
 have h' : laidMet Tryz.prog laid4 W := h; obtain ⟨ps, ⟨g1, t1, cs1, f1, p1, q1, hg1, ht1, hv1, hd1, ⟨g2, t2, cs2, f2, p2, q2, hg2, ht2, hv2, hd2, ⟨g3, t3, cs3, f3, p3, q3, hg3, ht3, hv3, hd3, ⟨g4, t4, cs4, f4, p4, q4, hg4, ht4, hv4, hd4, ⟨g5, t5, cs5, f5, p5, q5, hg5, ht5, hv5, hd5, ⟨g6, t6, cs6, f6, p6, q6, hg6, ht6, hv6, hd6, -, -⟩, -⟩, -⟩, -⟩, -⟩, -⟩, -⟩ := h'
 have key : ∀ (nm : String) (g : Nat) (v : _), Tryz.prog.globalNamed nm = some g → W.var? Tryz.prog nm = some v → g < W.heap.size := by
  intro nm g v hg hv
  rcases Nat.lt_or_ge g W.heap.size with hlt | hge
  · exact hlt
  · unfold World.var? at hv
    rw [hg] at hv
    simp [Array.getElem?_eq_none hge] at hv
 have k5 := key _ 6 _ (by kernel_rfl) hv5; have k6 := key _ 5 _ (by kernel_rfl) hv6; have k4 := key _ 2 _ (by kernel_rfl) hv4; have k3 := key _ 4 _ (by kernel_rfl) hv3; have hn : Tryz.prog.globals.size ≤ max (max 6 5) (max 2 4) + 1 := of_decide_eq_true (by kernel_rfl)
 omega
theorem tabs36_of_laid {W : World} (h : laidMetH Tryz.prog laid4 W) : TabsF W ∧ Errs W := by
 obtain ⟨hS, hE⟩ := syms_of_laid h; have hg := heap36_of_laid h; have h' : laidMet Tryz.prog laid4 W := h; obtain ⟨ps, ⟨g1, t1, cs1, f1, p1, q1, hg1, ht1, hv1, hd1, ⟨g2, t2, cs2, f2, p2, q2, hg2, ht2, hv2, hd2, ⟨g3, t3, cs3, f3, p3, q3, hg3, ht3, hv3, hd3, ⟨g4, t4, cs4, f4, p4, q4, hg4, ht4, hv4, hd4, -, -⟩, -⟩, -⟩, -⟩, -⟩ := h'; obtain rfl := Option.some.inj (gPow36.symm.trans hg4); obtain rfl := Option.some.inj (gPowT36.symm.trans ht4); rw [powData36] at hd4; have e4 := cells_of_tab uPowT36 uU6436 cU6436 cPowT36 hd4; refine ⟨⟨⟨hS.sym, ?_⟩, hg⟩, hE⟩
 unfold TabIs
 rw [hv4, ← e4]
end Bk
namespace Bk
open Go
def vx : Nd := .mk 81 0 [120] []
def vy : Nd := .mk 81 0 [121] []
def vz : Nd := .mk 81 0 [122] []
def levF (p q : Int) (r : Bool) : Nd := if r then .mk 82 p [] [vx, .mk 82 q [] [vy, vz]] else .mk 82 q [] [.mk 82 p [] [vx, vy], vz]
def levD (p q : Int) (r : Bool) : FD := ⟨[102], [⟨[120], false⟩, ⟨[121], false⟩, ⟨[122], false⟩], false, levF p q r⟩
def levW (p q : Int) (r : Bool) : List UInt8 :=
 if r then
  if level q ≤ level p then ((([120, 32] ++ symbol p) ++ [32, 40, 121, 32]) ++ symbol q) ++ [32, 122, 41] else ((([120, 32] ++ symbol p) ++ [32, 121, 32]) ++ symbol q) ++ [32, 122]
 else
  if level p < level q then ((([40, 120, 32] ++ symbol p) ++ [32, 121, 41, 32]) ++ symbol q) ++ [32, 122] else ((([120, 32] ++ symbol p) ++ [32, 121, 32]) ++ symbol q) ++ [32, 122]
theorem lev_formed {p q : Int} (hp : 8 ≤ p ∧ p ≤ 23) (hq : 8 ≤ q ∧ q ≤ 23) (r : Bool) : (levF p q r).formed = true := by
 have e1 : formN 82 p [] 2 = true := by simp [formN, hp.1, hp.2]
 have e2 : formN 82 q [] 2 = true := by simp [formN, hq.1, hq.2]
 cases r
 · show (formN 82 q [] 2 && ((formN 82 p [] 2 && _) && _)) = true
   rw [e1, e2]; rfl
 · show (formN 82 p [] 2 && (_ && ((formN 82 q [] 2 && _) && _))) = true
   rw [e1, e2]; rfl
theorem lev_chk (p q : Int) (r : Bool) : (levF p q r).chk [levD p q r] ((levD p q r).params.map fun p => (p.name, p.list)) = (false, 0) := by
 cases r <;> kernel_rfl
theorem lev_size (p q : Int) (r : Bool) : (levF p q r).size = 5 ∧ (levF p q r).depth = 3 := by cases r <;> exact ⟨rfl, rfl⟩
theorem lev_valid {p q : Int} (hp : 8 ≤ p ∧ p ≤ 23) (hq : 8 ≤ q ∧ q ≤ 23) (r : Bool) : libErr [levD p q r] = none := by
 have h : fnErr [levD p q r] 0 (levD p q r) = 0 := by
  obtain ⟨s1, s2⟩ := lev_size p q r; have hfm := lev_formed hp hq r; have hc := lev_chk p q r
  unfold fnErr
  rw [show (levD p q r).body = levF p q r from rfl, hc, s1, s2, hfm]
  rw [if_neg (by omega), if_neg (show ¬ (!funName (levD p q r).name) = true by show ¬ (!funName [102]) = true; decide), if_neg (by omega), if_neg (show ¬ paramErr (levD p q r).params ≠ 0 by show ¬ paramErr [⟨[120], false⟩, ⟨[121], false⟩, ⟨[122], false⟩] ≠ 0; decide),
   if_neg (by decide), if_neg (by decide), if_neg (by decide)]
  rfl
 unfold libErr
 rw [libErrFrom, if_neg (by rw [h]; decide), libErrFrom]
theorem lev_text (p q : Int) (r : Bool) : libT [levD p q r] = ([112, 114, 111, 99, 32, 102, 40, 105, 110, 116, 32, 120, 44, 32, 105, 110, 116, 32, 121, 44, 32, 105, 110, 116, 32, 122, 41, 32, 105, 110, 116, 32, 123, 32] ++ levW p q r) ++ ([32, 125] ++ [10]) := by
 have hb : (levF p q r).ftext = levW p q r := by
  cases r
  · show wrapT (level q) (82, p) (wrapT (level p) (81, 0) [120] ++ [32] ++ symbol p ++ [32] ++ wrapT (level p + 1) (81, 0) [121]) ++ [32] ++ symbol q ++ [32] ++ wrapT (level q + 1) (81, 0) [122] = _
    have e : ∀ lv t, wrapT lv (81, 0) t = t := fun lv t => by unfold wrapT; rw [if_neg (by rintro ⟨h, -⟩; cases h)]
    rw [e, e, e]
    unfold wrapT levW
    by_cases h : level p < level q
    · rw [if_pos ⟨rfl, h⟩, if_neg (by decide), if_pos h]; simp [List.append_assoc]
    · rw [if_neg (fun h' => h h'.2), if_neg (by decide), if_neg h]; simp [List.append_assoc]
  · show wrapT (level p) (81, 0) [120] ++ [32] ++ symbol p ++ [32] ++ wrapT (level p + 1) (82, q) (wrapT (level q) (81, 0) [121] ++ [32] ++ symbol q ++ [32] ++ wrapT (level q + 1) (81, 0) [122]) = _
    have e : ∀ lv t, wrapT lv (81, 0) t = t := fun lv t => by unfold wrapT; rw [if_neg (by rintro ⟨h, -⟩; cases h)]
    rw [e, e, e]
    unfold wrapT levW
    by_cases h : level q ≤ level p
    · rw [if_pos ⟨rfl, show level q < level p + 1 by omega⟩, if_pos rfl, if_pos h]; simp [List.append_assoc]
    · rw [if_neg (fun h' => h (by have := h'.2; simp only at this; omega)), if_pos rfl, if_neg h]; simp [List.append_assoc]
 have hj : Lib.join ([⟨[120], false⟩, ⟨[121], false⟩, ⟨[122], false⟩].map paramT) [44, 32] = [105, 110, 116, 32, 120, 44, 32, 105, 110, 116, 32, 121, 44, 32, 105, 110, 116, 32, 122] := by
  simp only [List.map_cons, List.map_nil]
  rw [join_two, join_two, Lib.join_one]; rfl
 unfold libT
 simp only [List.map_cons, List.map_nil, List.flatten_cons, List.flatten_nil, List.append_nil]
 unfold funT headT tailT
 rw [show (levD p q r).body = levF p q r from rfl, hb, show (levD p q r).params = [⟨[120], false⟩, ⟨[121], false⟩, ⟨[122], false⟩] from rfl, hj]
 show (([112, 114, 111, 99, 32] ++ [102] ++ [40] ++ [105, 110, 116, 32, 120, 44, 32, 105, 110, 116, 32, 121, 44, 32, 105, 110, 116, 32, 122] ++ [41, 32]) ++ ([105, 110, 116] ++ [32, 123, 32] ++ levW p q r ++ ([32, 125] ++ [10]))) = _
 simp [List.append_assoc]
end Bk
namespace Bk
theorem rem_known {a b c : Int} (h : a % b = c) (h0 : 0 ≤ a) : a.tmod b = c := by rw [Int.tmod_eq_emod_of_nonneg h0]; exact h
end Bk
namespace Bk
open Go Go.RowKit Go.Proofs
attribute [local irreducible] Go.Calls
def LevR (w : World) (S : Nat → Prop) (t : Nd) (e : Ending) (w' : World) : Prop := ∃ la lc, e = .returned (t.val la lc) ∧ t.sits (fun b => S b ∨ (w.heap.size ≤ b ∧ b < w'.heap.size)) w' la ∧ Ext w w'
def LevN (w : World) (t : Nd) (e : Ending) (w' : World) : Prop := ∃ la lc, e = .returned (t.val la lc) ∧ t.sits (fun b => w.heap.size ≤ b ∧ b < w'.heap.size) w' la ∧ Ext w w'
theorem LevR.ret {w : World} {S : Nat → Prop} {t : Nd} {e : Ending} {w' : World} (h : LevR w S t e w') : ∃ v, e = .returned v := by
 obtain ⟨_, _, h, -⟩ := h
 exact ⟨_, h⟩
theorem LevN.ret {w : World} {t : Nd} {e : Ending} {w' : World} (h : LevN w t e w') : ∃ v, e = .returned v := by
 obtain ⟨_, _, h, -⟩ := h
 exact ⟨_, h⟩
theorem levR_mk {w w' : World} {S : Nat → Prop} {t : Nd} {la : Option Addr} {lc : Nat} (hs : t.sits (fun b => S b ∨ (w.heap.size ≤ b ∧ b < w'.heap.size)) w' la) (x : Ext w w') : LevR w S t (.returned (t.val la lc)) w' := ⟨_, _, rfl, hs, x⟩
set_option maxRecDepth 100000 in
set_option maxHeartbeats 4000000 in
theorem levOp_c (k : Int) (hk : 8 ≤ k ∧ k ≤ 23) (x y : Nd) (xa ya : Option Addr) (xc yc : Nat) (S : Nat → Prop) (w : World) (hx : x.sits S w xa) (hy : y.sits S w ya) :
 Calls Tryz.prog 17 #[.int .u8 k, x.val xa xc, y.val ya yc] w (LevR w S (.mk 82 k [] [x, y])) := by
 have X := Ext.refl w; replace hx := sits_lt2 _ _ hx; replace hy := sits_lt2 _ _ hy; refine calls_in Tryz.func17 Tryz.ntmps17 rfl rfl ?_
 focus
  refine cS ?_; (refine lw_box' [_, _, _, _] rfl rfl rfl ?_; intro b1 w2 n3); have h4 := n3.blk; have x5 := n3.ext; have p6 := n3.pos; have z7 := n3.size; clear n3; replace X := X.ext x5; replace hx := Nd.sits.ext hx x5; replace hy := Nd.sits.ext hy x5; clear x5; (refine lw_box' [_, _, _, _] rfl rfl rfl ?_; intro b8 w9 n10); have h11 := n10.blk; have x12 := n10.ext; have p13 := n10.pos; have z14 := n10.size; clear n10; replace h4 := h4.ext x12; replace X := X.ext x12; replace hx := Nd.sits.ext hx x12; replace hy := Nd.sits.ext hy x12; clear x12; (refine lw_alloc' [_, _, _, _] zOk rfl rfl ?_; intro b15 w16 n17); have h19 := n17.blk; have x20 := n17.ext; have p21 := n17.pos; have z22 := n17.size; clear n17; replace h11 := h11.ext x20; replace h4 := h4.ext x20; replace X := X.ext x20; replace hx := Nd.sits.ext hx x20; replace hy := Nd.sits.ext hy x20; clear x20; refine cN (cM rfl rfl ?_); refine lw_pure (pur_conv tabOk rfl rfl rfl (IntWalk.i64_in _ (by omega))) rfl ?_; refine lw_loads_b' [_, _, _, _] tabOk rfl rfl rfl h4 rfl rfl rfl (lw_loads_b' [_, _, _, _] tabOk rfl rfl rfl h11 rfl rfl rfl ?_); (refine lw_does (does_slice' [_, _, _, _, _, _, _, _] tabOk zOk rfl rfl rfl rfl rfl rfl rfl rfl rfl) rfl ?_ (fun _ h => h); rintro _ w24 ⟨b23, rfl, n25, t26⟩); clear t26; have h27 := n25.blk; have x28 := n25.ext; have p29 := n25.pos; have z30 := n25.size; clear n25; replace h19 := h19.ext x28; replace h11 := h11.ext x28; replace h4 := h4.ext x28; replace X := X.ext x28; replace hx := Nd.sits.ext hx x28
  replace hy := Nd.sits.ext hy x28; clear x28; refine lw_pure (pur_build' [_, _, _, _] tabOk zOk rfl rfl rfl rfl) rfl ?_; (refine lw_store' [_, _, _, _] [_, _, _, _] tabOk rfl rfl rfl rfl rfl rfl h19 rfl rfl ?_; intro w31 n32); have h35 := n32.blk; have f33 := n32.fr; have z34 := n32.size; clear n32 h19; replace h27 := h27.fr f33 (by omega); replace h11 := h11.fr f33 (by omega); replace h4 := h4.fr f33 (by omega); replace X := X.fr f33 (by omega); replace hx := Nd.sits.fr hx f33 (by omega); replace hy := Nd.sits.fr hy f33 (by omega); clear f33; refine cT (cw_ret (qw_retc rfl tabOk rfl rfl rfl h35 rfl ?_)); rotate_left 1
 exact levR_mk (sits_2 h27 (Or.inr ⟨by omega, by omega⟩) hx (fun b h => Or.inl h.1) hy (fun b h => Or.inl h.1)) X
theorem ops_row {w : World} {b i : Nat} (h : Row w ⟨b, 0, none⟩ ((ops8 16).map (.int .u8 ·))) (hi : i < 16) : Row w ⟨b, 0 + i * 1, none⟩ [.int .u8 (8 + (i : Int))] := by
 have h1 := h.sub i 1
 have e : (((ops8 16).map (.int .u8 ·)).drop i).take 1 = [Value.int .u8 (8 + (i : Int))] := by
  have : i = 0 ∨ i = 1 ∨ i = 2 ∨ i = 3 ∨ i = 4 ∨ i = 5 ∨ i = 6 ∨ i = 7 ∨ i = 8 ∨ i = 9 ∨ i = 10 ∨ i = 11 ∨ i = 12 ∨ i = 13 ∨ i = 14 ∨ i = 15 := by omega
  rcases this with rfl | rfl | rfl | rfl | rfl | rfl | rfl | rfl | rfl | rfl | rfl | rfl | rfl | rfl | rfl | rfl <;> rfl
 rw [e] at h1
 rw [Nat.mul_one]; exact h1
theorem leaf_sits {k n : Int} {s : List UInt8} {S : Nat → Prop} {w : World} {a : Option Addr} : (Nd.mk k n s []).sits S w a := by simp [Nd.sits, rowSits]
theorem lev1_c (k : Int) (hk : 8 ≤ k ∧ k ≤ 23) (a b : List UInt8) (w : World) :
 Calls Tryz.prog 17 #[.int .u8 k, .agg #[.int .u8 81, .int .i64 0, str a, .slice none 0 0], .agg #[.int .u8 81, .int .i64 0, str b, .slice none 0 0]] w (LevN w (.mk 82 k [] [.mk 81 0 a [], .mk 81 0 b []])) :=
 (levOp_c k hk (.mk 81 0 a []) (.mk 81 0 b []) none none 0 0 (fun _ => False) w leaf_sits leaf_sits).mono fun _ _ ⟨la, lc, h1, h2, h3⟩ => ⟨la, lc, h1, h2.wide (fun b h => h.elim False.elim id), h3⟩
theorem lev2_c (k : Int) (hk : 8 ≤ k ∧ k ≤ 23) (t : Nd) (ta : Option Addr) (tc : Nat) (b : List UInt8) (S : Nat → Prop) (w : World) (ht : t.sits S w ta) :
 Calls Tryz.prog 17 #[.int .u8 k, t.val ta tc, .agg #[.int .u8 81, .int .i64 0, str b, .slice none 0 0]] w (LevR w S (.mk 82 k [] [t, .mk 81 0 b []])) :=
 levOp_c k hk t (.mk 81 0 b []) ta none tc 0 _ w ht leaf_sits
theorem lev3_c (k : Int) (hk : 8 ≤ k ∧ k ≤ 23) (t : Nd) (ta : Option Addr) (tc : Nat) (b : List UInt8) (S : Nat → Prop) (w : World) (ht : t.sits S w ta) :
 Calls Tryz.prog 17 #[.int .u8 k, .agg #[.int .u8 81, .int .i64 0, str b, .slice none 0 0], t.val ta tc] w (LevR w S (.mk 82 k [] [.mk 81 0 b [], t])) :=
 levOp_c k hk (.mk 81 0 b []) t none ta 0 tc _ w leaf_sits ht
theorem lev_wlen {p q : Int} (hp : 8 ≤ p ∧ p ≤ 23) (hq : 8 ≤ q ∧ q ≤ 23) (r : Bool) : (levW p q r).length ≤ 20 := by
 have h1 := symbol_len hp.1 hp.2; have h2 := symbol_len hq.1 hq.2
 unfold levW
 split
 · split <;> (simp only [List.length_append, List.length_cons, List.length_nil]; omega)
 · split <;> (simp only [List.length_append, List.length_cons, List.length_nil]; omega)
theorem lev_few {p q : Int} (hp : 8 ≤ p ∧ p ≤ 23) (hq : 8 ≤ q ∧ q ≤ 23) (r : Bool) : LibFew [levD p q r] := ⟨by simp, fun f hf => by
 obtain rfl := List.mem_singleton.1 hf; refine ⟨by simp [levD], by simp [levD], by simp [levD], by show (levF p q r).size ≤ 1000000; rw [(lev_size p q r).1]; decide, ?_⟩
 show (levF p q r).wf
 cases r
 · simp [levF, vx, vy, vz, Nd.wf, rowWf]; omega
 · simp [levF, vx, vy, vz, Nd.wf, rowWf]; omega⟩
theorem lev_fds {S : Nat → Prop} {w : World} {p q : Int} {r : Bool} {fb pb nc : Nat} {na : Option Addr} (h1 : Blk w fb [str [102], .slice (some ⟨pb, 0, none⟩) 3 3, .bool false, .int .u8 (levF p q r).kind, .int .i64 (levF p q r).num, str (levF p q r).name, .slice na (levF p q r).kids.length nc])
 (h2 : Blk w pb [str [120], .bool false, str [121], .bool false, str [122], .bool false]) (h3 : (levF p q r).sits S w na) (h4 : S fb) (h5 : S pb) : FDs S w [levD p q r] (some ⟨fb, 0, none⟩) := by
 refine Or.inr ⟨fb, 0, rfl, h4, fun i x hi => ?_⟩
 match i, hi with
 | 0, hi =>
  obtain rfl : levD p q r = x := by simpa using hi
  refine ⟨some ⟨pb, 0, none⟩, 3, na, nc, h1.row, Or.inr ⟨pb, 0, rfl, h5, fun k y hk => ?_⟩, h3⟩
  match k, hk with
  | 0, hk => obtain rfl : (⟨[120], false⟩ : FP) = y := by simpa [levD] using hk
             exact h2.row.sub 0 2
  | 1, hk => obtain rfl : (⟨[121], false⟩ : FP) = y := by simpa [levD] using hk
             exact h2.row.sub 2 2
  | 2, hk => obtain rfl : (⟨[122], false⟩ : FP) = y := by simpa [levD] using hk
             exact h2.row.sub 4 2
  | k + 3, hk => simp [levD] at hk
 | i + 1, hi => simp at hi
set_option maxRecDepth 100000 in
set_option maxHeartbeats 8000000 in
theorem levels36_c (a b : Int) (r : Bool) (ha : 0 ≤ a ∧ a ≤ 255) (hb : 0 ≤ b ∧ b ≤ 255) (w : World) (ht : TabsF w) (hE : Errs w) :
 Calls Tryz.prog 6 #[.int .u8 a, .int .u8 b, .bool r] w fun e w' => e = .returned (.bool true) ∧ Ext w w' := by
 have X := Ext.refl w; have hS : Syms w := ⟨ht.t.sym⟩; have hg2 := hE.ltF; have hg3 := ht.g; obtain ⟨i, hi, hi2⟩ : ∃ i : Nat, a % 16 = i ∧ i < 16 := ⟨(a % 16).toNat, by omega, by omega⟩; obtain ⟨j, hj, hj2⟩ : ∃ j : Nat, b % 16 = j ∧ j < 16 := ⟨(b % 16).toNat, by omega, by omega⟩; refine calls_in Tryz.func6 Tryz.ntmps6 rfl rfl ?_
 focus
  refine cS (cA rfl rfl (cN ?_)); refine cR (by kernel_rfl) rfl (Operators_c _) (fun _ _ h => h.ret) rfl ?_; rintro _ w7 ⟨b1, ⟨k2, ⟨⟨⟩, ⟨h3, ⟨h4, ⟨h5, x6⟩⟩⟩⟩⟩⟩; have z8 := x6.size; replace ht := ht.ext x6; replace hE := hE.ext x6; replace X := X.ext x6; replace hS := hS.ext x6; clear x6; refine cA rfl rfl (cT (cw_seq (cS ?_))); refine cC (by kernel_rfl) rfl (awake36_c _ (by assumption) (by assumption)) rfl ?_; rintro _ w10 ⟨⟨⟩, x9⟩; have z11 := x9.size; replace h5 := h5.ext x9; replace ht := ht.ext x9; replace hE := hE.ext x9; replace X := X.ext x9; replace hS := hS.ext x9; clear x9; refine lw_pure (pur_not rfl) rfl (cM rfl rfl (lw_on rfl rfl rfl (rfl) (cM rfl rfl (lw_on rfl rfl rfl (rfl) (lw_pure (pur_len_slice tabOk rfl rfl) rfl (lw_on rfl rfl rfl (rfl) (lw_pure (pur_eql rfl rfl) rfl (lw_pure (pur_pick_f rfl rfl rfl) rfl (cT ?_))))))))); refine cw_no rfl (by decide) ?_; refine cw_skip (qw_then ?_); rotate_left 1
 have hr1 := ops_row h5 hi2; have hr2 := ops_row h5 hj2; clear h5
 focus
  refine cw_seq ?_; (refine cw_tdraw (fun wz => Ext w10 wz) 17 (.pure 0 (.pure 1 (.pure 2 (.pure 3 (.pure 4 (.pure 5 (.pure 6 (.pure 7 (.pure 8 (.pure 9 (.pure 10 (.pure 11 (.pure 12 (.pure 13 (.pure 14 (.pure 15 (.pure 16 .tail))))))))))))))))) mixed (by kernel_rfl) (panicOk_then panicOk_body) ?_; intro wa1 xa2 _); have qsa3 : (fun wz => Ext w10 wz) wa1 := xa2; simp only at qsa3; have d_ht := ht; have d_hE := hE; have d_hS := hS; have d_hr1 := hr1; have d_hr2 := hr2; have za4 := xa2.size; replace ht := ht.ext xa2; replace hE := hE.ext xa2; replace X := X.ext xa2; replace hS := hS.ext xa2; replace hr1 := hr1.ext xa2; replace hr2 := hr2.ext xa2; clear xa2; refine ⟨qsa3, ?_⟩; refine tw_pure rfl (pur_move rfl) rfl (tw_pure rfl (pur_move rfl) rfl ?_); refine tw_pure rfl (pur_conv tabOk rfl rfl rfl (IntWalk.i64_in _ (by omega))) rfl ?_; refine tw_pure rfl (pur_move rfl) rfl (tw_pure rfl (pur_len_slice tabOk rfl rfl) rfl ?_); refine tw_pure rfl (pur_rem rfl rfl (by omega) (rem_known (by assumption) (by omega))) rfl ?_; refine tw_pure rfl (pur_indexAddr tabOk rfl rfl rfl rfl (by omega) (by omega)) rfl ?_; refine tw_pure rfl (pur_load tabOk rfl rfl rfl (fun wz hz => Row.at0 (Row.ext d_hr1 hz) rfl)) rfl (tw_pure rfl (pur_move rfl) rfl (tw_pure rfl (pur_move rfl) rfl ?_)); refine tw_pure rfl (pur_conv tabOk rfl rfl rfl (IntWalk.i64_in _ (by omega))) rfl ?_; refine tw_pure rfl (pur_move rfl) rfl (tw_pure rfl (pur_len_slice tabOk rfl rfl) rfl ?_); refine tw_pure rfl (pur_rem rfl rfl (by omega) (rem_known (by assumption) (by omega))) rfl ?_
  refine tw_pure rfl (pur_indexAddr tabOk rfl rfl rfl rfl (by omega) (by omega)) rfl ?_; refine tw_pure rfl (pur_load tabOk rfl rfl rfl (fun wz hz => Row.at0 (Row.ext d_hr2 hz) rfl)) rfl (tw_pure rfl (pur_assign rfl) rfl ?_); clear qsa3 d_ht d_hE d_hS d_hr1 d_hr2; refine tw_tail rfl (cA rfl rfl (cN (lw_pure (pur_build' [_, _, _, _] tabOk zOk rfl rfl rfl rfl) rfl (lw_pure (pur_build' [_, _, _, _] tabOk zOk rfl rfl rfl rfl) rfl (lw_pure (pur_build' [_, _, _, _] tabOk zOk rfl rfl rfl rfl) rfl ?_))))); (refine lw_alloc' [_, _, _, _] zOk rfl rfl ?_; intro ba5 wa6 na7); have ha9 := na7.blk; have xa10 := na7.ext; have pa11 := na7.pos; have za12 := na7.size; clear na7; replace ht := ht.ext xa10; replace hE := hE.ext xa10; replace X := X.ext xa10; replace hS := hS.ext xa10; replace hr1 := hr1.ext xa10; replace hr2 := hr2.ext xa10; clear xa10; (refine lw_alloc' [_, _, _, _] zOk rfl rfl ?_; intro ba13 wa14 na15); have ha17 := na15.blk; have xa18 := na15.ext; have pa19 := na15.pos; have za20 := na15.size; clear na15; replace ha9 := ha9.ext xa18; replace ht := ht.ext xa18; replace hE := hE.ext xa18; replace X := X.ext xa18; replace hS := hS.ext xa18; replace hr1 := hr1.ext xa18; replace hr2 := hr2.ext xa18; clear xa18; (refine lw_alloc' [_, _, _, _] zOk rfl rfl ?_; intro ba21 wa22 na23); have ha25 := na23.blk; have xa26 := na23.ext; have pa27 := na23.pos; have za28 := na23.size; clear na23; replace ha17 := ha17.ext xa26; replace ha9 := ha9.ext xa26; replace ht := ht.ext xa26; replace hE := hE.ext xa26
  replace X := X.ext xa26; replace hS := hS.ext xa26; replace hr1 := hr1.ext xa26; replace hr2 := hr2.ext xa26; clear xa26; (refine lw_store' [_, _, _, _] [_, _, _, _] tabOk rfl rfl rfl rfl rfl rfl ha9 rfl rfl ?_; intro wa29 na30); have ha33 := na30.blk; have fa31 := na30.fr; have za32 := na30.size; clear na30 ha9; replace ha25 := ha25.fr fa31 (by omega); replace ha17 := ha17.fr fa31 (by omega); replace ht := ht.fr fa31 (by omega); replace hE := hE.fr fa31 (by omega); replace X := X.fr fa31 (by omega); replace hS := hS.fr fa31 (by omega); replace hr1 := Row.fr hr1 fa31 (by simp only; omega); replace hr2 := Row.fr hr2 fa31 (by simp only; omega); clear fa31; (refine lw_store' [_, _, _, _] [_, _, _, _] tabOk rfl rfl rfl rfl rfl rfl ha17 rfl rfl ?_; intro wa34 na35); have ha38 := na35.blk; have fa36 := na35.fr; have za37 := na35.size; clear na35 ha17; replace ha33 := ha33.fr fa36 (by omega); replace ha25 := ha25.fr fa36 (by omega); replace ht := ht.fr fa36 (by omega); replace hE := hE.fr fa36 (by omega); replace X := X.fr fa36 (by omega); replace hS := hS.fr fa36 (by omega); replace hr1 := Row.fr hr1 fa36 (by simp only; omega); replace hr2 := Row.fr hr2 fa36 (by simp only; omega); clear fa36; (refine lw_store' [_, _, _, _] [_, _, _, _] tabOk rfl rfl rfl rfl rfl rfl ha25 rfl rfl ?_; intro wa39 na40); have ha43 := na40.blk; have fa41 := na40.fr; have za42 := na40.size; clear na40 ha25; replace ha38 := ha38.fr fa41 (by omega); replace ha33 := ha33.fr fa41 (by omega); replace ht := ht.fr fa41 (by omega)
  replace hE := hE.fr fa41 (by omega); replace X := X.fr fa41 (by omega); replace hS := hS.fr fa41 (by omega); replace hr1 := Row.fr hr1 fa41 (by simp only; omega); replace hr2 := Row.fr hr2 fa41 (by simp only; omega); clear fa41; refine cN (cA rfl rfl (cT ?_)); rotate_left 1
 have hz0 : wa39.heap.size ≤ wa39.heap.size := Nat.le_refl _; refine cw_meet (ι := Nat × Option Addr × Nat) (fun y => [(2, .bool r), (8, .int .u8 (8 + (i : Int))), (9, .int .u8 (8 + (j : Int))), (10, .pointer (some ⟨ba5, 0, none⟩)), (11, .pointer (some ⟨ba13, 0, none⟩)), (12, .pointer (some ⟨ba21, 0, none⟩)), (13, .func (.func 17) #[] #[]), (14, .pointer (some ⟨y.1, 0, none⟩))])
  (fun y w' => Blk w' ba21 [.int .u8 81, .int .i64 0, str [122], .slice none 0 0] ∧ Blk w' ba13 [.int .u8 81, .int .i64 0, str [121], .slice none 0 0] ∧ Blk w' ba5 [.int .u8 81, .int .i64 0, str [120], .slice none 0 0] ∧
   Blk w' y.1 [.int .u8 82, .int .i64 (8 + (j : Int)), str [], .slice y.2.1 2 y.2.2] ∧ (levF (8 + (i : Int)) (8 + (j : Int)) false).sits (fun b => wa39.heap.size ≤ b) w' y.2.1 ∧ wa39.heap.size ≤ y.1 ∧ y.1 < w'.heap.size ∧ TabsF w' ∧ Errs w' ∧ Syms w' ∧ Ext w w') ?_ ?_
 · focus
    (refine cw_tdraw (fun wz => Ext wa39 wz) 10 (.pure 0 (.pure 1 (.pure 2 (.pure 3 (.pure 4 (.pure 5 (.pure 7 (.fork 6 (.fork 8 (.fork 9 .tail .none) (.fork 9 (.fork 8 .tail .none) .none)) (.fork 9 (.fork 6 (.fork 8 .tail .none) .none) .none))))))))) mixed (by kernel_rfl) (panicOk_then panicOk_body) ?_; intro wb1 xb2 _); have qsb3 : (fun wz => Ext wa39 wz) wb1 := xb2; simp only at qsb3; have d_ha43 := ha43; have d_ha38 := ha38; have d_ha33 := ha33; have d_ht := ht; have d_hE := hE; have d_hS := hS; have d_hr1 := hr1; have d_hr2 := hr2; have zb4 := xb2.size; replace ha43 := ha43.ext xb2; replace ha38 := ha38.ext xb2; replace ha33 := ha33.ext xb2; replace ht := ht.ext xb2; replace hE := hE.ext xb2; replace X := X.ext xb2; replace hS := hS.ext xb2; replace hr1 := hr1.ext xb2; replace hr2 := hr2.ext xb2; clear xb2; refine ⟨qsb3, ?_⟩; refine tw_pure rfl (pur_move rfl) rfl (tw_pure rfl (pur_move rfl) rfl (tw_pure rfl (pur_move rfl) rfl (tw_pure rfl (pur_move rfl) rfl (tw_pure rfl (pur_loads_blk' [_, _, _, _] tabOk rfl rfl rfl (fun wz hz => (Blk.ext d_ha33 hz)) rfl rfl) rfl (tw_pure rfl (pur_loads_blk' [_, _, _, _] tabOk rfl rfl rfl (fun wz hz => (Blk.ext d_ha38 hz)) rfl rfl) rfl (tw_pure rfl (pur_loads_blk' [_, _, _, _] tabOk rfl rfl rfl (fun wz hz => (Blk.ext d_ha43 hz)) rfl rfl) rfl ?_)))))); refine tw_does rfl (does_callv (fi := []) (ca := []) (by kernel_rfl) rfl rfl (lev1_c _ ⟨by omega, by omega⟩ _ _ _) (fun _ _ h => LevN.ret h)) rfl ?_ (fun _ h => h) ?krb5; rintro _ wb10 ⟨lab6, ⟨lcb7, ⟨⟨⟩, ⟨hb8, xb9⟩⟩⟩⟩
    have zb11 := xb9.size; replace qsb3 := qsb3.ext xb9; replace ha43 := ha43.ext xb9; replace ha38 := ha38.ext xb9; replace ha33 := ha33.ext xb9; replace ht := ht.ext xb9; replace hE := hE.ext xb9; replace X := X.ext xb9; replace hS := hS.ext xb9; replace hr1 := hr1.ext xb9; replace hr2 := hr2.ext xb9; clear xb9; refine ⟨qsb3, ?_⟩; refine tw_does rfl (does_callv (fi := []) (ca := []) (by kernel_rfl) rfl rfl (lev2_c _ ⟨by omega, by omega⟩ _ _ _ _ _ _ (by assumption)) (fun _ _ h => LevR.ret h)) rfl ?_ (fun _ h => h) ?krb12; rintro _ wb17 ⟨lab13, ⟨lcb14, ⟨⟨⟩, ⟨hb15, xb16⟩⟩⟩⟩; have zb18 := xb16.size; replace hb8 := Nd.sits.ext hb8 xb16; replace qsb3 := qsb3.ext xb16; replace ha43 := ha43.ext xb16; replace ha38 := ha38.ext xb16; replace ha33 := ha33.ext xb16; replace ht := ht.ext xb16; replace hE := hE.ext xb16; replace X := X.ext xb16; replace hS := hS.ext xb16; replace hr1 := hr1.ext xb16; replace hr2 := hr2.ext xb16; clear xb16; refine ⟨qsb3, ?_⟩; (refine tw_does rfl (does_alloc zOk rfl) rfl ?_ (fun _ h => h) tw_none; rintro _ wb21 ⟨bb20, rfl, nb22⟩); have hb23 := nb22.blk; dsimp only at hb23; have xb24 := nb22.ext; have pb25 := nb22.pos; have zb26 := nb22.size; clear nb22; replace hb15 := Nd.sits.ext hb15 xb24; replace hb8 := Nd.sits.ext hb8 xb24; replace qsb3 := qsb3.ext xb24; replace ha43 := ha43.ext xb24; replace ha38 := ha38.ext xb24; replace ha33 := ha33.ext xb24; replace ht := ht.ext xb24; replace hE := hE.ext xb24; replace X := X.ext xb24; replace hS := hS.ext xb24; replace hr1 := hr1.ext xb24
    replace hr2 := hr2.ext xb24; clear xb24; refine ⟨qsb3, ?_⟩; clear d_ha43 d_ha38 d_ha33 d_ht d_hE d_hS d_hr1 d_hr2 qsb3; refine tw_tail rfl ?_; (refine lw_store' [_, _, _, _] [_, _, _, _] tabOk rfl rfl rfl rfl rfl rfl hb23 rfl rfl ?_; intro wb27 nb28); have hb31 := nb28.blk; have fb29 := nb28.fr; have zb30 := nb28.size; clear nb28 hb23; replace hb15 := Nd.sits.fr hb15 fb29 (fun k hk => by dsimp only at hk ⊢; omega); replace hb8 := Nd.sits.fr hb8 fb29 (by omega); replace ha43 := ha43.fr fb29 (by omega); replace ha38 := ha38.fr fb29 (by omega); replace ha33 := ha33.fr fb29 (by omega); replace ht := ht.fr fb29 (by omega); replace hE := hE.fr fb29 (by omega); replace X := X.fr fb29 (by omega); replace hS := hS.fr fb29 (by omega); replace hr1 := Row.fr hr1 fb29 (by simp only; omega); replace hr2 := Row.fr hr2 fb29 (by simp only; omega); clear fb29; refine lw_nil ?_; rotate_left 1; (refine tw_does rfl (does_alloc zOk rfl) rfl ?_ (fun _ h => h) tw_none; rintro _ wb34 ⟨bb33, rfl, nb35⟩); have hb36 := nb35.blk; dsimp only at hb36; have xb37 := nb35.ext; have pb38 := nb35.pos; have zb39 := nb35.size; clear nb35; replace hb8 := Nd.sits.ext hb8 xb37; replace qsb3 := qsb3.ext xb37; replace ha43 := ha43.ext xb37; replace ha38 := ha38.ext xb37; replace ha33 := ha33.ext xb37; replace ht := ht.ext xb37; replace hE := hE.ext xb37; replace X := X.ext xb37; replace hS := hS.ext xb37; replace hr1 := hr1.ext xb37; replace hr2 := hr2.ext xb37; clear xb37; refine ⟨qsb3, ?_⟩; refine tw_does rfl (does_callv (fi := []) (ca := []) (by kernel_rfl) rfl rfl (lev2_c _ ⟨by omega, by omega⟩ _ _ _ _ _ _ (by assumption)) (fun _ _ h => LevR.ret h)) rfl ?_ (fun _ h => h) tw_none
    rintro _ wb45 ⟨lab41, ⟨lcb42, ⟨⟨⟩, ⟨hb43, xb44⟩⟩⟩⟩; have zb46 := xb44.size; replace hb36 := hb36.ext xb44; replace hb8 := Nd.sits.ext hb8 xb44; replace qsb3 := qsb3.ext xb44; replace ha43 := ha43.ext xb44; replace ha38 := ha38.ext xb44; replace ha33 := ha33.ext xb44; replace ht := ht.ext xb44; replace hE := hE.ext xb44; replace X := X.ext xb44; replace hS := hS.ext xb44; replace hr1 := hr1.ext xb44; replace hr2 := hr2.ext xb44; clear xb44; refine ⟨qsb3, ?_⟩; clear d_ha43 d_ha38 d_ha33 d_ht d_hE d_hS d_hr1 d_hr2 qsb3; refine tw_tail rfl ?_; (refine lw_store' [_, _, _, _] [_, _, _, _] tabOk rfl rfl rfl rfl rfl rfl hb36 rfl rfl ?_; intro wb47 nb48); have hb51 := nb48.blk; have fb49 := nb48.fr; have zb50 := nb48.size; clear nb48 hb36; replace hb43 := Nd.sits.fr hb43 fb49 (fun k hk => by dsimp only at hk ⊢; omega); replace hb8 := Nd.sits.fr hb8 fb49 (by omega); replace ha43 := ha43.fr fb49 (by omega); replace ha38 := ha38.fr fb49 (by omega); replace ha33 := ha33.fr fb49 (by omega); replace ht := ht.fr fb49 (by omega); replace hE := hE.fr fb49 (by omega); replace X := X.fr fb49 (by omega); replace hS := hS.fr fb49 (by omega); replace hr1 := Row.fr hr1 fb49 (by simp only; omega); replace hr2 := Row.fr hr2 fb49 (by simp only; omega); clear fb49; refine lw_nil ?_; rotate_left 1; (refine tw_does rfl (does_alloc zOk rfl) rfl ?_ (fun _ h => h) tw_none; rintro _ wb54 ⟨bb53, rfl, nb55⟩); have hb56 := nb55.blk; dsimp only at hb56; have xb57 := nb55.ext; have pb58 := nb55.pos; have zb59 := nb55.size
    clear nb55; replace qsb3 := qsb3.ext xb57; replace ha43 := ha43.ext xb57; replace ha38 := ha38.ext xb57; replace ha33 := ha33.ext xb57; replace ht := ht.ext xb57; replace hE := hE.ext xb57; replace X := X.ext xb57; replace hS := hS.ext xb57; replace hr1 := hr1.ext xb57; replace hr2 := hr2.ext xb57; clear xb57; refine ⟨qsb3, ?_⟩; refine tw_does rfl (does_callv (fi := []) (ca := []) (by kernel_rfl) rfl rfl (lev1_c _ ⟨by omega, by omega⟩ _ _ _) (fun _ _ h => LevN.ret h)) rfl ?_ (fun _ h => h) tw_none; rintro _ wb65 ⟨lab61, ⟨lcb62, ⟨⟨⟩, ⟨hb63, xb64⟩⟩⟩⟩; have zb66 := xb64.size; replace hb56 := hb56.ext xb64; replace qsb3 := qsb3.ext xb64; replace ha43 := ha43.ext xb64; replace ha38 := ha38.ext xb64; replace ha33 := ha33.ext xb64; replace ht := ht.ext xb64; replace hE := hE.ext xb64; replace X := X.ext xb64; replace hS := hS.ext xb64; replace hr1 := hr1.ext xb64; replace hr2 := hr2.ext xb64; clear xb64; refine ⟨qsb3, ?_⟩; refine tw_does rfl (does_callv (fi := []) (ca := []) (by kernel_rfl) rfl rfl (lev2_c _ ⟨by omega, by omega⟩ _ _ _ _ _ _ (by assumption)) (fun _ _ h => LevR.ret h)) rfl ?_ (fun _ h => h) tw_none; rintro _ wb72 ⟨lab68, ⟨lcb69, ⟨⟨⟩, ⟨hb70, xb71⟩⟩⟩⟩; have zb73 := xb71.size; replace hb63 := Nd.sits.ext hb63 xb71; replace hb56 := hb56.ext xb71; replace qsb3 := qsb3.ext xb71; replace ha43 := ha43.ext xb71; replace ha38 := ha38.ext xb71; replace ha33 := ha33.ext xb71; replace ht := ht.ext xb71; replace hE := hE.ext xb71; replace X := X.ext xb71; replace hS := hS.ext xb71
    replace hr1 := hr1.ext xb71; replace hr2 := hr2.ext xb71; clear xb71; refine ⟨qsb3, ?_⟩; clear d_ha43 d_ha38 d_ha33 d_ht d_hE d_hS d_hr1 d_hr2 qsb3; refine tw_tail rfl ?_; (refine lw_store' [_, _, _, _] [_, _, _, _] tabOk rfl rfl rfl rfl rfl rfl hb56 rfl rfl ?_; intro wb74 nb75); have hb78 := nb75.blk; have fb76 := nb75.fr; have zb77 := nb75.size; clear nb75 hb56; replace hb70 := Nd.sits.fr hb70 fb76 (fun k hk => by dsimp only at hk ⊢; omega); replace hb63 := Nd.sits.fr hb63 fb76 (by omega); replace ha43 := ha43.fr fb76 (by omega); replace ha38 := ha38.fr fb76 (by omega); replace ha33 := ha33.fr fb76 (by omega); replace ht := ht.fr fb76 (by omega); replace hE := hE.fr fb76 (by omega); replace X := X.fr fb76 (by omega); replace hS := hS.fr fb76 (by omega); replace hr1 := Row.fr hr1 fb76 (by simp only; omega); replace hr2 := Row.fr hr2 fb76 (by simp only; omega); clear fb76; refine lw_nil ?_; rotate_left 1
   all_goals exact qw_meet (_, _, _) (by (repeat (first | exact sub_nil | refine sub_cons rfl ?_ | refine sub_cons' rfl (by go_num) ?_))) ⟨by assumption, by assumption, by assumption, by assumption, Nd.sits.wide (by assumption) (fun b h => by dsimp only at h ⊢; omega), by simp only; omega, by simp only; omega, by assumption, by assumption, by assumption, by assumption⟩
 · rintro ⟨nb, na, nc⟩ w1 ⟨hbz, hby, hbx, hbn, hsn, hn1, hn2, ht, hE, hS, X⟩
   simp only at hbn hsn hn1 hn2; clear ha43 ha38 ha33 hr1 hr2; have hl1 := symbol_len (n := 8 + (i : Int)) (by omega) (by omega); have hl2 := symbol_len (n := 8 + (j : Int)) (by omega) (by omega); have hp8 : 8 ≤ 8 + (i : Int) ∧ 8 + (i : Int) ≤ 23 := ⟨by omega, by omega⟩; have hq8 : 8 ≤ 8 + (j : Int) ∧ 8 + (j : Int) ≤ 23 := ⟨by omega, by omega⟩; have hval := lev_valid hp8 hq8 r; have hfew := lev_few hp8 hq8 r; have htx := lev_text (8 + (i : Int)) (8 + (j : Int)) r; have hwl := lev_wlen hp8 hq8 r; have HP := Lib.hid (fun (S : Nat → Prop) (a : Option Addr) (c : Nat) (w : World) hs ht => Print_c [levD (8 + (i : Int)) (8 + (j : Int)) r] S a c w hfew hs ht); rw [printL_none hval, htx] at HP
   have hlen : (libT [levD (8 + (i : Int)) (8 + (j : Int)) r]).length ≤ 100 := by rw [htx]; simp only [List.length_append, List.length_cons, List.length_nil]; omega
   have hpa := parse_libT hval (fun f hf => (hfew.all f hf).2.2.2.2) (by omega); have HR := Lib.hid (fun w hS hE => funParse_c (libT [levD (8 + (i : Int)) (8 + (j : Int)) r]) w (by omega) hS hE); rw [hpa, htx] at HR; obtain ⟨hf1, hf2⟩ := hfew.same
   have HS := Lib.hid hf2; clear hf2
   clear hval hfew htx hlen hpa
   cases r with
   | false =>
    focus
     refine cS (cM rfl rfl ?_); refine cC (by kernel_rfl) rfl (arith_Symbol_s _ _ (by omega) (by omega) (by assumption)) rfl ?_; rintro _ wc1 ⟨⟨⟩, rfl⟩; refine lw_pure (pur_sadd rfl rfl (by simp only [List.length_cons, List.length_nil]; omega)) rfl ?_; refine lw_pure (pur_sadd rfl rfl (by simp only [List.length_append, List.length_cons, List.length_nil]; omega)) rfl ?_; refine cM rfl rfl ?_; refine cC (by kernel_rfl) rfl (arith_Symbol_s _ _ (by omega) (by omega) (by assumption)) rfl ?_; rintro _ wc2 ⟨⟨⟩, rfl⟩; refine lw_pure (pur_sadd rfl rfl (by simp only [List.length_append, List.length_cons, List.length_nil]; omega)) rfl ?_; refine lw_pure (pur_sadd rfl rfl (by simp only [List.length_append, List.length_cons, List.length_nil]; omega)) rfl ?_; refine cA rfl rfl (cN (cM rfl rfl ?_)); refine cC (by kernel_rfl) rfl (arith_Level_c _ _ (by omega) (by omega)) rfl ?_; rintro _ wc3 ⟨⟨⟩, rfl⟩; refine cM rfl rfl ?_; refine cC (by kernel_rfl) rfl (arith_Level_c _ _ (by omega) (by omega)) rfl ?_; rintro _ wc4 ⟨⟨⟩, rfl⟩; refine lw_pure (pur_lss rfl rfl) rfl (cA rfl rfl (cT (cw_seq (cS (cM rfl rfl (cT ?_)))))); refine cw_dec rfl (fun cc5 => ?_) (fun cc5 => ?_); refine cw_region (cM rfl rfl ?_); refine cC (by kernel_rfl) rfl (arith_Symbol_s _ _ (by omega) (by omega) (by assumption)) rfl ?_; rintro _ wc6 ⟨⟨⟩, rfl⟩; refine lw_pure (pur_sadd rfl rfl (by simp only [List.length_cons, List.length_nil]; omega)) rfl ?_; refine lw_pure (pur_sadd rfl rfl (by simp only [List.length_append, List.length_cons, List.length_nil]; omega)) rfl ?_
     refine cM rfl rfl ?_; refine cC (by kernel_rfl) rfl (arith_Symbol_s _ _ (by omega) (by omega) (by assumption)) rfl ?_; rintro _ wc7 ⟨⟨⟩, rfl⟩; refine lw_pure (pur_sadd rfl rfl (by simp only [List.length_append, List.length_cons, List.length_nil]; omega)) rfl ?_; refine lw_pure (pur_sadd rfl rfl (by simp only [List.length_append, List.length_cons, List.length_nil]; omega)) rfl ?_; refine cA rfl rfl (cT (cw_seq (cS (cM rfl rfl (cT (cw_cond_f rfl (cw_skip (qw_then (cS (lw_pure (pur_build' [_, _] tabOk zOk rfl rfl rfl rfl) rfl (lw_pure (pur_build' [_, _] tabOk zOk rfl rfl rfl rfl) rfl ?_))))))))))); refine lw_pure (pur_build' [_, _] tabOk zOk rfl rfl rfl rfl) rfl ?_; (refine lw_does (does_slice' [_, _, _, _, _, _] tabOk zOk rfl rfl rfl rfl rfl rfl rfl rfl rfl) rfl ?_ (fun _ h => h); rintro _ wc9 ⟨bc8, rfl, nc10, tc11⟩); clear tc11; have hc12 := nc10.blk; have xc13 := nc10.ext; have pc14 := nc10.pos; have zc15 := nc10.size; clear nc10; replace hbz := hbz.ext xc13; replace hby := hby.ext xc13; replace hbx := hbx.ext xc13; replace hbn := hbn.ext xc13; replace hsn := Nd.sits.ext hsn xc13; replace ht := ht.ext xc13; replace hE := hE.ext xc13; replace hS := hS.ext xc13; replace X := X.ext xc13; clear xc13; refine lw_loads_b' [_, _, _, _] tabOk rfl rfl rfl hbn rfl rfl rfl (lw_pure (pur_build' [_, _, _, _, _, _, _] tabOk zOk rfl rfl rfl rfl) rfl ?_); (refine lw_does (does_slice' [_, _, _, _, _, _, _] tabOk zOk rfl rfl rfl rfl rfl rfl rfl rfl rfl) rfl ?_ (fun _ h => h); rintro _ wc17 ⟨bc16, rfl, nc18, tc19⟩)
     clear tc19; have hc20 := nc18.blk; have xc21 := nc18.ext; have pc22 := nc18.pos; have zc23 := nc18.size; clear nc18; replace hc12 := hc12.ext xc21; replace hbz := hbz.ext xc21; replace hby := hby.ext xc21; replace hbx := hbx.ext xc21; replace hbn := hbn.ext xc21; replace hsn := Nd.sits.ext hsn xc21; replace ht := ht.ext xc21; replace hE := hE.ext xc21; replace hS := hS.ext xc21; replace X := X.ext xc21; clear xc21; refine cA rfl rfl (cT ?_); rotate_left 1; refine cw_skip (qw_then (cw_seq (cS (cM rfl rfl (cT (cw_cond_f rfl (cw_skip (qw_then (cS (lw_pure (pur_build' [_, _] tabOk zOk rfl rfl rfl rfl) rfl (lw_pure (pur_build' [_, _] tabOk zOk rfl rfl rfl rfl) rfl ?_))))))))))); refine lw_pure (pur_build' [_, _] tabOk zOk rfl rfl rfl rfl) rfl ?_; (refine lw_does (does_slice' [_, _, _, _, _, _] tabOk zOk rfl rfl rfl rfl rfl rfl rfl rfl rfl) rfl ?_ (fun _ h => h); rintro _ wc25 ⟨bc24, rfl, nc26, tc27⟩); clear tc27; have hc28 := nc26.blk; have xc29 := nc26.ext; have pc30 := nc26.pos; have zc31 := nc26.size; clear nc26; replace hbz := hbz.ext xc29; replace hby := hby.ext xc29; replace hbx := hbx.ext xc29; replace hbn := hbn.ext xc29; replace hsn := Nd.sits.ext hsn xc29; replace ht := ht.ext xc29; replace hE := hE.ext xc29; replace hS := hS.ext xc29; replace X := X.ext xc29; clear xc29; refine lw_loads_b' [_, _, _, _] tabOk rfl rfl rfl hbn rfl rfl rfl (lw_pure (pur_build' [_, _, _, _, _, _, _] tabOk zOk rfl rfl rfl rfl) rfl ?_); (refine lw_does (does_slice' [_, _, _, _, _, _, _] tabOk zOk rfl rfl rfl rfl rfl rfl rfl rfl rfl) rfl ?_ (fun _ h => h); rintro _ wc33 ⟨bc32, rfl, nc34, tc35⟩)
     clear tc35; have hc36 := nc34.blk; have xc37 := nc34.ext; have pc38 := nc34.pos; have zc39 := nc34.size; clear nc34; replace hc28 := hc28.ext xc37; replace hbz := hbz.ext xc37; replace hby := hby.ext xc37; replace hbx := hbx.ext xc37; replace hbn := hbn.ext xc37; replace hsn := Nd.sits.ext hsn xc37; replace ht := ht.ext xc37; replace hE := hE.ext xc37; replace hS := hS.ext xc37; replace X := X.ext xc37; clear xc37; refine cA rfl rfl (cT ?_); rotate_left 1
    · refine CW.sub (m := [(15, str (levW (8 + (i : Int)) (8 + (j : Int)) false)), (17, .slice (some ⟨bc16, 0, none⟩) 1 1)]) ?_ (by refine sub_cons' rfl (by unfold levW; rw [if_neg (by decide), if_pos cc5]) ?_; (refine sub_cons rfl ?_; exact sub_nil))
      have hfd := lev_fds (p := 8 + (i : Int)) (q := 8 + (j : Int)) (r := false) (S := fun b => wa39.heap.size ≤ b) hc20 hc12 (hsn) (by omega) (by omega); clear hc20 hc12
      focus
       refine cS (cM rfl rfl ?_); refine cC (by kernel_rfl) rfl (HP.out _ _ _ _ (by assumption) (by assumption)) rfl ?_; rintro _ wd2 ⟨⟨⟩, xd1⟩; have zd3 := xd1.size; replace hbz := hbz.ext xd1; replace hby := hby.ext xd1; replace hbx := hbx.ext xd1; replace hbn := hbn.ext xd1; replace hsn := Nd.sits.ext hsn xd1; replace ht := ht.ext xd1; replace hE := hE.ext xd1; replace hS := hS.ext xd1; replace X := X.ext xd1; replace hfd := hfd.ext xd1; clear xd1; refine cM rfl rfl (lw_pure (pur_extract rfl rfl) rfl (lw_pure (pur_extract rfl rfl) rfl (cA rfl rfl (cA rfl rfl (cN (cM rfl rfl ?_)))))); refine cR (by kernel_rfl) rfl (HR.out _ (by assumption) (by assumption)) (fun _ _ h => h.ret) rfl ?_; rintro _ wd8 ⟨lad4, ⟨lcd5, ⟨⟨⟩, ⟨hd6, xd7⟩⟩⟩⟩; have zd9 := xd7.size; replace hbz := hbz.ext xd7; replace hby := hby.ext xd7; replace hbx := hbx.ext xd7; replace hbn := hbn.ext xd7; replace hsn := Nd.sits.ext hsn xd7; replace ht := ht.ext xd7; replace hE := hE.ext xd7; replace hS := hS.ext xd7; replace X := X.ext xd7; replace hfd := hfd.ext xd7; clear xd7; refine cM rfl rfl (lw_pure (pur_extract rfl rfl) rfl (lw_pure (pur_extract rfl rfl) rfl (lw_pure (pur_extract rfl rfl) rfl (cA rfl rfl (cA rfl rfl (cA rfl rfl (cN (cM rfl rfl (lw_pure (pur_eql rfl rfl) rfl (cM rfl rfl ?_)))))))))); refine lw_on rfl rfl rfl (gd_tt (by omega)) ?_; refine cM rfl rfl ?_; refine lw_on rfl rfl rfl (gd_tt (by omega)) ?_; refine lw_pure (pur_eql rfl rfl) rfl ?_; refine lw_pure (pur_pick_yes rfl rfl (by omega)) rfl ?_
       refine cM rfl rfl (lw_on rfl rfl rfl (gd_tt (rfl)) (cM rfl rfl (lw_on rfl rfl rfl (gd_tt (rfl)) (cM rfl rfl (lw_on rfl rfl rfl (gd_tt (rfl)) ?_))))); refine lw_pure (pur_sadd rfl rfl (by simp only [List.length_cons, List.length_nil]; omega)) rfl ?_; refine lw_on rfl rfl rfl (gd_tt (rfl)) ?_; refine lw_pure (pur_sadd rfl rfl (by simp only [List.length_append, List.length_cons, List.length_nil]; omega)) rfl ?_; refine lw_on rfl rfl rfl (gd_tt (rfl)) (lw_pure (pur_seql rfl rfl) rfl (lw_pure (pur_pick_yes rfl rfl (rfl)) rfl (cM rfl rfl (lw_on rfl rfl rfl (gd_tt (rfl)) (cM rfl rfl (lw_on rfl rfl rfl (gd_tt (rfl)) (cM rfl rfl (lw_on rfl rfl rfl (gd_tt (rfl)) ?_)))))))); refine cC (by kernel_rfl) rfl (same36_t [levD (8 + (i : Int)) (8 + (j : Int)) false] _ _ _ _ _ _ _ hf1 HS.out (by assumption) (by assumption)) rfl ?_; rintro _ wd11 ⟨⟨⟩, xd10⟩; have zd12 := xd10.size; replace hd6 := hd6.ext xd10; replace hbz := hbz.ext xd10; replace hby := hby.ext xd10; replace hbx := hbx.ext xd10; replace hbn := hbn.ext xd10; replace hsn := Nd.sits.ext hsn xd10; replace ht := ht.ext xd10; replace hE := hE.ext xd10; replace hS := hS.ext xd10; replace X := X.ext xd10; replace hfd := hfd.ext xd10; clear xd10; refine lw_pure (pur_pick_yes rfl rfl (rfl)) rfl (cA rfl rfl (cT (cw_ret (qw_ret1 rfl rfl ?_)))); rotate_left 1
      exact ⟨rfl, X⟩
    · refine CW.sub (m := [(15, str (levW (8 + (i : Int)) (8 + (j : Int)) false)), (17, .slice (some ⟨bc32, 0, none⟩) 1 1)]) ?_ (by refine sub_cons' rfl (by unfold levW; rw [if_neg (by decide), if_neg cc5]) ?_; (refine sub_cons rfl ?_; exact sub_nil))
      have hfd := lev_fds (p := 8 + (i : Int)) (q := 8 + (j : Int)) (r := false) (S := fun b => wa39.heap.size ≤ b) hc36 hc28 (hsn) (by omega) (by omega); clear hc36 hc28
      focus
       refine cS (cM rfl rfl ?_); refine cC (by kernel_rfl) rfl (HP.out _ _ _ _ (by assumption) (by assumption)) rfl ?_; rintro _ we2 ⟨⟨⟩, xe1⟩; have ze3 := xe1.size; replace hbz := hbz.ext xe1; replace hby := hby.ext xe1; replace hbx := hbx.ext xe1; replace hbn := hbn.ext xe1; replace hsn := Nd.sits.ext hsn xe1; replace ht := ht.ext xe1; replace hE := hE.ext xe1; replace hS := hS.ext xe1; replace X := X.ext xe1; replace hfd := hfd.ext xe1; clear xe1; refine cM rfl rfl (lw_pure (pur_extract rfl rfl) rfl (lw_pure (pur_extract rfl rfl) rfl (cA rfl rfl (cA rfl rfl (cN (cM rfl rfl ?_)))))); refine cR (by kernel_rfl) rfl (HR.out _ (by assumption) (by assumption)) (fun _ _ h => h.ret) rfl ?_; rintro _ we8 ⟨lae4, ⟨lce5, ⟨⟨⟩, ⟨he6, xe7⟩⟩⟩⟩; have ze9 := xe7.size; replace hbz := hbz.ext xe7; replace hby := hby.ext xe7; replace hbx := hbx.ext xe7; replace hbn := hbn.ext xe7; replace hsn := Nd.sits.ext hsn xe7; replace ht := ht.ext xe7; replace hE := hE.ext xe7; replace hS := hS.ext xe7; replace X := X.ext xe7; replace hfd := hfd.ext xe7; clear xe7; refine cM rfl rfl (lw_pure (pur_extract rfl rfl) rfl (lw_pure (pur_extract rfl rfl) rfl (lw_pure (pur_extract rfl rfl) rfl (cA rfl rfl (cA rfl rfl (cA rfl rfl (cN (cM rfl rfl (lw_pure (pur_eql rfl rfl) rfl (cM rfl rfl ?_)))))))))); refine lw_on rfl rfl rfl (gd_tt (by omega)) ?_; refine cM rfl rfl ?_; refine lw_on rfl rfl rfl (gd_tt (by omega)) ?_; refine lw_pure (pur_eql rfl rfl) rfl ?_; refine lw_pure (pur_pick_yes rfl rfl (by omega)) rfl ?_
       refine cM rfl rfl (lw_on rfl rfl rfl (gd_tt (rfl)) (cM rfl rfl (lw_on rfl rfl rfl (gd_tt (rfl)) (cM rfl rfl (lw_on rfl rfl rfl (gd_tt (rfl)) ?_))))); refine lw_pure (pur_sadd rfl rfl (by simp only [List.length_cons, List.length_nil]; omega)) rfl ?_; refine lw_on rfl rfl rfl (gd_tt (rfl)) ?_; refine lw_pure (pur_sadd rfl rfl (by simp only [List.length_append, List.length_cons, List.length_nil]; omega)) rfl ?_; refine lw_on rfl rfl rfl (gd_tt (rfl)) (lw_pure (pur_seql rfl rfl) rfl (lw_pure (pur_pick_yes rfl rfl (rfl)) rfl (cM rfl rfl (lw_on rfl rfl rfl (gd_tt (rfl)) (cM rfl rfl (lw_on rfl rfl rfl (gd_tt (rfl)) (cM rfl rfl (lw_on rfl rfl rfl (gd_tt (rfl)) ?_)))))))); refine cC (by kernel_rfl) rfl (same36_t [levD (8 + (i : Int)) (8 + (j : Int)) false] _ _ _ _ _ _ _ hf1 HS.out (by assumption) (by assumption)) rfl ?_; rintro _ we11 ⟨⟨⟩, xe10⟩; have ze12 := xe10.size; replace he6 := he6.ext xe10; replace hbz := hbz.ext xe10; replace hby := hby.ext xe10; replace hbx := hbx.ext xe10; replace hbn := hbn.ext xe10; replace hsn := Nd.sits.ext hsn xe10; replace ht := ht.ext xe10; replace hE := hE.ext xe10; replace hS := hS.ext xe10; replace X := X.ext xe10; replace hfd := hfd.ext xe10; clear xe10; refine lw_pure (pur_pick_yes rfl rfl (rfl)) rfl (cA rfl rfl (cT (cw_ret (qw_ret1 rfl rfl ?_)))); rotate_left 1
      exact ⟨rfl, X⟩
   | true =>
    clear hsn
    focus
     refine cS (cM rfl rfl ?_); refine cC (by kernel_rfl) rfl (arith_Symbol_s _ _ (by omega) (by omega) (by assumption)) rfl ?_; rintro _ wf1 ⟨⟨⟩, rfl⟩; refine lw_pure (pur_sadd rfl rfl (by simp only [List.length_cons, List.length_nil]; omega)) rfl ?_; refine lw_pure (pur_sadd rfl rfl (by simp only [List.length_append, List.length_cons, List.length_nil]; omega)) rfl ?_; refine cM rfl rfl ?_; refine cC (by kernel_rfl) rfl (arith_Symbol_s _ _ (by omega) (by omega) (by assumption)) rfl ?_; rintro _ wf2 ⟨⟨⟩, rfl⟩; refine lw_pure (pur_sadd rfl rfl (by simp only [List.length_append, List.length_cons, List.length_nil]; omega)) rfl ?_; refine lw_pure (pur_sadd rfl rfl (by simp only [List.length_append, List.length_cons, List.length_nil]; omega)) rfl ?_; refine cA rfl rfl (cN (cM rfl rfl ?_)); refine cC (by kernel_rfl) rfl (arith_Level_c _ _ (by omega) (by omega)) rfl ?_; rintro _ wf3 ⟨⟨⟩, rfl⟩; refine cM rfl rfl ?_; refine cC (by kernel_rfl) rfl (arith_Level_c _ _ (by omega) (by omega)) rfl ?_; rintro _ wf4 ⟨⟨⟩, rfl⟩; refine lw_pure (pur_lss rfl rfl) rfl (cA rfl rfl (cT (cw_seq (cS (cM rfl rfl (cT ?_)))))); refine cw_dec rfl (fun cf5 => ?_) (fun cf5 => ?_); refine cw_region (cM rfl rfl ?_); refine cC (by kernel_rfl) rfl (arith_Symbol_s _ _ (by omega) (by omega) (by assumption)) rfl ?_; rintro _ wf6 ⟨⟨⟩, rfl⟩; refine lw_pure (pur_sadd rfl rfl (by simp only [List.length_cons, List.length_nil]; omega)) rfl ?_; refine lw_pure (pur_sadd rfl rfl (by simp only [List.length_append, List.length_cons, List.length_nil]; omega)) rfl ?_
     refine cM rfl rfl ?_; refine cC (by kernel_rfl) rfl (arith_Symbol_s _ _ (by omega) (by omega) (by assumption)) rfl ?_; rintro _ wf7 ⟨⟨⟩, rfl⟩; refine lw_pure (pur_sadd rfl rfl (by simp only [List.length_append, List.length_cons, List.length_nil]; omega)) rfl ?_; refine lw_pure (pur_sadd rfl rfl (by simp only [List.length_append, List.length_cons, List.length_nil]; omega)) rfl ?_; refine cA rfl rfl (cT (cw_seq (cS (cM rfl rfl (cT (cw_cond_t rfl (cw_seq ?_))))))); (refine cw_tdraw (fun wz => Ext w1 wz) 8 (.pure 0 (.pure 1 (.pure 2 (.pure 3 (.pure 4 (.pure 5 (.pure 6 (.fork 7 .tail .none)))))))) mixed (by kernel_rfl) (panicOk_then (panicOk_then panicOk_body)) ?_; intro wf8 xf9 _); have qsf10 : (fun wz => Ext w1 wz) wf8 := xf9; simp only at qsf10; have d_hbz := hbz; have d_hby := hby; have d_hbx := hbx; have d_hbn := hbn; have d_ht := ht; have d_hE := hE; have d_hS := hS; have zf11 := xf9.size; replace hbz := hbz.ext xf9; replace hby := hby.ext xf9; replace hbx := hbx.ext xf9; replace hbn := hbn.ext xf9; replace ht := ht.ext xf9; replace hE := hE.ext xf9; replace hS := hS.ext xf9; replace X := X.ext xf9; clear xf9; refine ⟨qsf10, ?_⟩; refine tw_pure rfl (pur_move rfl) rfl (tw_pure rfl (pur_move rfl) rfl (tw_pure rfl (pur_loads_blk' [_, _, _, _] tabOk rfl rfl rfl (fun wz hz => (Blk.ext d_hbx hz)) rfl rfl) rfl (tw_pure rfl (pur_move rfl) rfl (tw_pure rfl (pur_move rfl) rfl (tw_pure rfl (pur_loads_blk' [_, _, _, _] tabOk rfl rfl rfl (fun wz hz => (Blk.ext d_hby hz)) rfl rfl) rfl (tw_pure rfl (pur_loads_blk' [_, _, _, _] tabOk rfl rfl rfl (fun wz hz => (Blk.ext d_hbz hz)) rfl rfl) rfl ?_))))))
     refine tw_does rfl (does_callv (fi := []) (ca := []) (by kernel_rfl) rfl rfl (lev1_c _ ⟨by omega, by omega⟩ _ _ _) (fun _ _ h => LevN.ret h)) rfl ?_ (fun _ h => h) tw_none; rintro _ wf17 ⟨laf13, ⟨lcf14, ⟨⟨⟩, ⟨hf15, xf16⟩⟩⟩⟩; have zf18 := xf16.size; replace qsf10 := qsf10.ext xf16; replace hbz := hbz.ext xf16; replace hby := hby.ext xf16; replace hbx := hbx.ext xf16; replace hbn := hbn.ext xf16; replace ht := ht.ext xf16; replace hE := hE.ext xf16; replace hS := hS.ext xf16; replace X := X.ext xf16; clear xf16; refine ⟨qsf10, ?_⟩; clear d_hbz d_hby d_hbx d_hbn d_ht d_hE d_hS qsf10; refine tw_tail rfl ?_; refine lw_does (does_callv (fi := []) (ca := []) (by kernel_rfl) rfl rfl (lev3_c _ ⟨by omega, by omega⟩ _ _ _ _ _ _ (by assumption)) (fun _ _ h => LevR.ret h)) rfl ?_ (fun _ h => h); rintro _ wf23 ⟨laf19, ⟨lcf20, ⟨⟨⟩, ⟨hf21, xf22⟩⟩⟩⟩; have zf24 := xf22.size; replace hf15 := Nd.sits.ext hf15 xf22; replace hbz := hbz.ext xf22; replace hby := hby.ext xf22; replace hbx := hbx.ext xf22; replace hbn := hbn.ext xf22; replace ht := ht.ext xf22; replace hE := hE.ext xf22; replace hS := hS.ext xf22; replace X := X.ext xf22; clear xf22; (refine lw_store' [_, _, _, _] [_, _, _, _] tabOk rfl rfl rfl rfl rfl rfl hbn rfl rfl ?_; intro wf25 nf26); have hf29 := nf26.blk; have ff27 := nf26.fr; have zf28 := nf26.size; clear nf26 hbn; replace hf21 := Nd.sits.fr hf21 ff27 (fun k hk => by dsimp only at hk ⊢; omega); replace hf15 := Nd.sits.fr hf15 ff27 (fun k hk => by dsimp only at hk ⊢; omega)
     replace hbz := hbz.fr ff27 (by omega); replace hby := hby.fr ff27 (by omega); replace hbx := hbx.fr ff27 (by omega); replace ht := TabsF.fr ht ff27 (fun k hk => by dsimp only at hk ⊢; omega); replace hE := hE.fr ff27 (by omega); replace hS := Syms.fr hS ff27 (fun k hk => by dsimp only at hk ⊢; omega); replace X := Ext.fr X ff27 (fun k hk => by dsimp only at hk ⊢; omega); clear ff27; refine cN (cM rfl rfl ?_); refine cC (by kernel_rfl) rfl (arith_Symbol_s _ _ (by omega) (by omega) (by assumption)) rfl ?_; rintro _ wf30 ⟨⟨⟩, rfl⟩; refine lw_pure (pur_sadd rfl rfl (by simp only [List.length_cons, List.length_nil]; omega)) rfl ?_; refine lw_pure (pur_sadd rfl rfl (by simp only [List.length_append, List.length_cons, List.length_nil]; omega)) rfl ?_; refine cM rfl rfl ?_; refine cC (by kernel_rfl) rfl (arith_Symbol_s _ _ (by omega) (by omega) (by assumption)) rfl ?_; rintro _ wf31 ⟨⟨⟩, rfl⟩; refine lw_pure (pur_sadd rfl rfl (by simp only [List.length_append, List.length_cons, List.length_nil]; omega)) rfl ?_; refine lw_pure (pur_sadd rfl rfl (by simp only [List.length_append, List.length_cons, List.length_nil]; omega)) rfl ?_; refine cA rfl rfl (cN (cM rfl rfl ?_)); refine cC (by kernel_rfl) rfl (arith_Level_c _ _ (by omega) (by omega)) rfl ?_; rintro _ wf32 ⟨⟨⟩, rfl⟩; refine cM rfl rfl ?_; refine cC (by kernel_rfl) rfl (arith_Level_c _ _ (by omega) (by omega)) rfl ?_; rintro _ wf33 ⟨⟨⟩, rfl⟩; refine lw_pure (pur_leq rfl rfl) rfl (cT ?_); refine cw_no rfl (by omega) ?_; refine cw_skip (qw_then (cS (lw_pure (pur_build' [_, _] tabOk zOk rfl rfl rfl rfl) rfl (lw_pure (pur_build' [_, _] tabOk zOk rfl rfl rfl rfl) rfl (lw_pure (pur_build' [_, _] tabOk zOk rfl rfl rfl rfl) rfl ?_)))))
     (refine lw_does (does_slice' [_, _, _, _, _, _] tabOk zOk rfl rfl rfl rfl rfl rfl rfl rfl rfl) rfl ?_ (fun _ h => h); rintro _ wf35 ⟨bf34, rfl, nf36, tf37⟩); clear tf37; have hf38 := nf36.blk; have xf39 := nf36.ext; have pf40 := nf36.pos; have zf41 := nf36.size; clear nf36; replace hf29 := hf29.ext xf39; replace hf21 := Nd.sits.ext hf21 xf39; replace hf15 := Nd.sits.ext hf15 xf39; replace hbz := hbz.ext xf39; replace hby := hby.ext xf39; replace hbx := hbx.ext xf39; replace ht := ht.ext xf39; replace hE := hE.ext xf39; replace hS := hS.ext xf39; replace X := X.ext xf39; clear xf39; refine lw_loads_b' [_, _, _, _] tabOk rfl rfl rfl hf29 rfl rfl rfl (lw_pure (pur_build' [_, _, _, _, _, _, _] tabOk zOk rfl rfl rfl rfl) rfl ?_); (refine lw_does (does_slice' [_, _, _, _, _, _, _] tabOk zOk rfl rfl rfl rfl rfl rfl rfl rfl rfl) rfl ?_ (fun _ h => h); rintro _ wf43 ⟨bf42, rfl, nf44, tf45⟩); clear tf45; have hf46 := nf44.blk; have xf47 := nf44.ext; have pf48 := nf44.pos; have zf49 := nf44.size; clear nf44; replace hf38 := hf38.ext xf47; replace hf29 := hf29.ext xf47; replace hf21 := Nd.sits.ext hf21 xf47; replace hf15 := Nd.sits.ext hf15 xf47; replace hbz := hbz.ext xf47; replace hby := hby.ext xf47; replace hbx := hbx.ext xf47; replace ht := ht.ext xf47; replace hE := hE.ext xf47; replace hS := hS.ext xf47; replace X := X.ext xf47; clear xf47; refine cA rfl rfl (cT ?_); rotate_left 1; refine cw_skip (qw_then (cw_seq (cS (cM rfl rfl (cT (cw_cond_t rfl (cw_seq ?_))))))); (refine cw_tdraw (fun wz => Ext w1 wz) 8 (.pure 0 (.pure 1 (.pure 2 (.pure 3 (.pure 4 (.pure 5 (.pure 6 (.fork 7 .tail .none)))))))) mixed (by kernel_rfl) (panicOk_then (panicOk_then panicOk_body)) ?_; intro wf50 xf51 _)
     have qsf52 : (fun wz => Ext w1 wz) wf50 := xf51; simp only at qsf52; have d_hbz := hbz; have d_hby := hby; have d_hbx := hbx; have d_hbn := hbn; have d_ht := ht; have d_hE := hE; have d_hS := hS; have zf53 := xf51.size; replace hbz := hbz.ext xf51; replace hby := hby.ext xf51; replace hbx := hbx.ext xf51; replace hbn := hbn.ext xf51; replace ht := ht.ext xf51; replace hE := hE.ext xf51; replace hS := hS.ext xf51; replace X := X.ext xf51; clear xf51; refine ⟨qsf52, ?_⟩; refine tw_pure rfl (pur_move rfl) rfl (tw_pure rfl (pur_move rfl) rfl (tw_pure rfl (pur_loads_blk' [_, _, _, _] tabOk rfl rfl rfl (fun wz hz => (Blk.ext d_hbx hz)) rfl rfl) rfl (tw_pure rfl (pur_move rfl) rfl (tw_pure rfl (pur_move rfl) rfl (tw_pure rfl (pur_loads_blk' [_, _, _, _] tabOk rfl rfl rfl (fun wz hz => (Blk.ext d_hby hz)) rfl rfl) rfl (tw_pure rfl (pur_loads_blk' [_, _, _, _] tabOk rfl rfl rfl (fun wz hz => (Blk.ext d_hbz hz)) rfl rfl) rfl ?_)))))); refine tw_does rfl (does_callv (fi := []) (ca := []) (by kernel_rfl) rfl rfl (lev1_c _ ⟨by omega, by omega⟩ _ _ _) (fun _ _ h => LevN.ret h)) rfl ?_ (fun _ h => h) tw_none; rintro _ wf59 ⟨laf55, ⟨lcf56, ⟨⟨⟩, ⟨hf57, xf58⟩⟩⟩⟩; have zf60 := xf58.size; replace qsf52 := qsf52.ext xf58; replace hbz := hbz.ext xf58; replace hby := hby.ext xf58; replace hbx := hbx.ext xf58; replace hbn := hbn.ext xf58; replace ht := ht.ext xf58; replace hE := hE.ext xf58; replace hS := hS.ext xf58; replace X := X.ext xf58; clear xf58; refine ⟨qsf52, ?_⟩; clear d_hbz d_hby d_hbx d_hbn d_ht d_hE d_hS qsf52
     refine tw_tail rfl ?_; refine lw_does (does_callv (fi := []) (ca := []) (by kernel_rfl) rfl rfl (lev3_c _ ⟨by omega, by omega⟩ _ _ _ _ _ _ (by assumption)) (fun _ _ h => LevR.ret h)) rfl ?_ (fun _ h => h); rintro _ wf65 ⟨laf61, ⟨lcf62, ⟨⟨⟩, ⟨hf63, xf64⟩⟩⟩⟩; have zf66 := xf64.size; replace hf57 := Nd.sits.ext hf57 xf64; replace hbz := hbz.ext xf64; replace hby := hby.ext xf64; replace hbx := hbx.ext xf64; replace hbn := hbn.ext xf64; replace ht := ht.ext xf64; replace hE := hE.ext xf64; replace hS := hS.ext xf64; replace X := X.ext xf64; clear xf64; (refine lw_store' [_, _, _, _] [_, _, _, _] tabOk rfl rfl rfl rfl rfl rfl hbn rfl rfl ?_; intro wf67 nf68); have hf71 := nf68.blk; have ff69 := nf68.fr; have zf70 := nf68.size; clear nf68 hbn; replace hf63 := Nd.sits.fr hf63 ff69 (fun k hk => by dsimp only at hk ⊢; omega); replace hf57 := Nd.sits.fr hf57 ff69 (fun k hk => by dsimp only at hk ⊢; omega); replace hbz := hbz.fr ff69 (by omega); replace hby := hby.fr ff69 (by omega); replace hbx := hbx.fr ff69 (by omega); replace ht := TabsF.fr ht ff69 (fun k hk => by dsimp only at hk ⊢; omega); replace hE := hE.fr ff69 (by omega); replace hS := Syms.fr hS ff69 (fun k hk => by dsimp only at hk ⊢; omega); replace X := Ext.fr X ff69 (fun k hk => by dsimp only at hk ⊢; omega); clear ff69; refine cN (cM rfl rfl ?_); refine cC (by kernel_rfl) rfl (arith_Symbol_s _ _ (by omega) (by omega) (by assumption)) rfl ?_; rintro _ wf72 ⟨⟨⟩, rfl⟩; refine lw_pure (pur_sadd rfl rfl (by simp only [List.length_cons, List.length_nil]; omega)) rfl ?_
     refine lw_pure (pur_sadd rfl rfl (by simp only [List.length_append, List.length_cons, List.length_nil]; omega)) rfl ?_; refine cM rfl rfl ?_; refine cC (by kernel_rfl) rfl (arith_Symbol_s _ _ (by omega) (by omega) (by assumption)) rfl ?_; rintro _ wf73 ⟨⟨⟩, rfl⟩; refine lw_pure (pur_sadd rfl rfl (by simp only [List.length_append, List.length_cons, List.length_nil]; omega)) rfl ?_; refine lw_pure (pur_sadd rfl rfl (by simp only [List.length_append, List.length_cons, List.length_nil]; omega)) rfl ?_; refine cA rfl rfl (cN (cM rfl rfl ?_)); refine cC (by kernel_rfl) rfl (arith_Level_c _ _ (by omega) (by omega)) rfl ?_; rintro _ wf74 ⟨⟨⟩, rfl⟩; refine cM rfl rfl ?_; refine cC (by kernel_rfl) rfl (arith_Level_c _ _ (by omega) (by omega)) rfl ?_; rintro _ wf75 ⟨⟨⟩, rfl⟩; refine lw_pure (pur_leq rfl rfl) rfl (cT ?_); refine cw_yes rfl (by omega) ?_; refine cw_region (cM rfl rfl ?_); refine cC (by kernel_rfl) rfl (arith_Symbol_s _ _ (by omega) (by omega) (by assumption)) rfl ?_; rintro _ wf76 ⟨⟨⟩, rfl⟩; refine lw_pure (pur_sadd rfl rfl (by simp only [List.length_cons, List.length_nil]; omega)) rfl ?_; refine lw_pure (pur_sadd rfl rfl (by simp only [List.length_append, List.length_cons, List.length_nil]; omega)) rfl ?_; refine cM rfl rfl ?_; refine cC (by kernel_rfl) rfl (arith_Symbol_s _ _ (by omega) (by omega) (by assumption)) rfl ?_; rintro _ wf77 ⟨⟨⟩, rfl⟩; refine lw_pure (pur_sadd rfl rfl (by simp only [List.length_append, List.length_cons, List.length_nil]; omega)) rfl ?_; refine lw_pure (pur_sadd rfl rfl (by simp only [List.length_append, List.length_cons, List.length_nil]; omega)) rfl ?_
     refine cA rfl rfl (cN (lw_pure (pur_build' [_, _] tabOk zOk rfl rfl rfl rfl) rfl (lw_pure (pur_build' [_, _] tabOk zOk rfl rfl rfl rfl) rfl (lw_pure (pur_build' [_, _] tabOk zOk rfl rfl rfl rfl) rfl ?_)))); (refine lw_does (does_slice' [_, _, _, _, _, _] tabOk zOk rfl rfl rfl rfl rfl rfl rfl rfl rfl) rfl ?_ (fun _ h => h); rintro _ wf79 ⟨bf78, rfl, nf80, tf81⟩); clear tf81; have hf82 := nf80.blk; have xf83 := nf80.ext; have pf84 := nf80.pos; have zf85 := nf80.size; clear nf80; replace hf71 := hf71.ext xf83; replace hf63 := Nd.sits.ext hf63 xf83; replace hf57 := Nd.sits.ext hf57 xf83; replace hbz := hbz.ext xf83; replace hby := hby.ext xf83; replace hbx := hbx.ext xf83; replace ht := ht.ext xf83; replace hE := hE.ext xf83; replace hS := hS.ext xf83; replace X := X.ext xf83; clear xf83; refine lw_loads_b' [_, _, _, _] tabOk rfl rfl rfl hf71 rfl rfl rfl (lw_pure (pur_build' [_, _, _, _, _, _, _] tabOk zOk rfl rfl rfl rfl) rfl ?_); (refine lw_does (does_slice' [_, _, _, _, _, _, _] tabOk zOk rfl rfl rfl rfl rfl rfl rfl rfl rfl) rfl ?_ (fun _ h => h); rintro _ wf87 ⟨bf86, rfl, nf88, tf89⟩); clear tf89; have hf90 := nf88.blk; have xf91 := nf88.ext; have pf92 := nf88.pos; have zf93 := nf88.size; clear nf88; replace hf82 := hf82.ext xf91; replace hf71 := hf71.ext xf91; replace hf63 := Nd.sits.ext hf63 xf91; replace hf57 := Nd.sits.ext hf57 xf91; replace hbz := hbz.ext xf91; replace hby := hby.ext xf91; replace hbx := hbx.ext xf91; replace ht := ht.ext xf91; replace hE := hE.ext xf91
     replace hS := hS.ext xf91; replace X := X.ext xf91; clear xf91; refine cA rfl rfl (cT ?_); rotate_left 1
    · refine CW.sub (m := [(15, str (levW (8 + (i : Int)) (8 + (j : Int)) true)), (17, .slice (some ⟨bf42, 0, none⟩) 1 1)]) ?_ (by refine sub_cons' rfl (by unfold levW; rw [if_pos rfl, if_neg (by omega)]) ?_; (refine sub_cons rfl ?_; exact sub_nil))
      have hfd := lev_fds (p := 8 + (i : Int)) (q := 8 + (j : Int)) (r := true) (S := fun b => wa39.heap.size ≤ b) hf46 hf38 (Nd.sits.wide hf21 (fun b h => by dsimp only at h ⊢; omega)) (by omega) (by omega); clear hf46 hf38
      focus
       refine cS (cM rfl rfl ?_); refine cC (by kernel_rfl) rfl (HP.out _ _ _ _ (by assumption) (by assumption)) rfl ?_; rintro _ wg2 ⟨⟨⟩, xg1⟩; have zg3 := xg1.size; replace hf29 := hf29.ext xg1; replace hf21 := Nd.sits.ext hf21 xg1; replace hf15 := Nd.sits.ext hf15 xg1; replace hbz := hbz.ext xg1; replace hby := hby.ext xg1; replace hbx := hbx.ext xg1; replace ht := ht.ext xg1; replace hE := hE.ext xg1; replace hS := hS.ext xg1; replace X := X.ext xg1; replace hfd := hfd.ext xg1; clear xg1; refine cM rfl rfl (lw_pure (pur_extract rfl rfl) rfl (lw_pure (pur_extract rfl rfl) rfl (cA rfl rfl (cA rfl rfl (cN (cM rfl rfl ?_)))))); refine cR (by kernel_rfl) rfl (HR.out _ (by assumption) (by assumption)) (fun _ _ h => h.ret) rfl ?_; rintro _ wg8 ⟨lag4, ⟨lcg5, ⟨⟨⟩, ⟨hg6, xg7⟩⟩⟩⟩; have zg9 := xg7.size; replace hf29 := hf29.ext xg7; replace hf21 := Nd.sits.ext hf21 xg7; replace hf15 := Nd.sits.ext hf15 xg7; replace hbz := hbz.ext xg7; replace hby := hby.ext xg7; replace hbx := hbx.ext xg7; replace ht := ht.ext xg7; replace hE := hE.ext xg7; replace hS := hS.ext xg7; replace X := X.ext xg7; replace hfd := hfd.ext xg7; clear xg7; refine cM rfl rfl (lw_pure (pur_extract rfl rfl) rfl (lw_pure (pur_extract rfl rfl) rfl (lw_pure (pur_extract rfl rfl) rfl (cA rfl rfl (cA rfl rfl (cA rfl rfl (cN (cM rfl rfl (lw_pure (pur_eql rfl rfl) rfl (cM rfl rfl ?_)))))))))); refine lw_on rfl rfl rfl (gd_tt (by omega)) ?_; refine cM rfl rfl ?_; refine lw_on rfl rfl rfl (gd_tt (by omega)) ?_; refine lw_pure (pur_eql rfl rfl) rfl ?_
       refine lw_pure (pur_pick_yes rfl rfl (by omega)) rfl ?_; refine cM rfl rfl (lw_on rfl rfl rfl (gd_tt (rfl)) (cM rfl rfl (lw_on rfl rfl rfl (gd_tt (rfl)) (cM rfl rfl (lw_on rfl rfl rfl (gd_tt (rfl)) ?_))))); refine lw_pure (pur_sadd rfl rfl (by simp only [List.length_cons, List.length_nil]; omega)) rfl ?_; refine lw_on rfl rfl rfl (gd_tt (rfl)) ?_; refine lw_pure (pur_sadd rfl rfl (by simp only [List.length_append, List.length_cons, List.length_nil]; omega)) rfl ?_; refine lw_on rfl rfl rfl (gd_tt (rfl)) (lw_pure (pur_seql rfl rfl) rfl (lw_pure (pur_pick_yes rfl rfl (rfl)) rfl (cM rfl rfl (lw_on rfl rfl rfl (gd_tt (rfl)) (cM rfl rfl (lw_on rfl rfl rfl (gd_tt (rfl)) (cM rfl rfl (lw_on rfl rfl rfl (gd_tt (rfl)) ?_)))))))); refine cC (by kernel_rfl) rfl (same36_t [levD (8 + (i : Int)) (8 + (j : Int)) true] _ _ _ _ _ _ _ hf1 HS.out (by assumption) (by assumption)) rfl ?_; rintro _ wg11 ⟨⟨⟩, xg10⟩; have zg12 := xg10.size; replace hg6 := hg6.ext xg10; replace hf29 := hf29.ext xg10; replace hf21 := Nd.sits.ext hf21 xg10; replace hf15 := Nd.sits.ext hf15 xg10; replace hbz := hbz.ext xg10; replace hby := hby.ext xg10; replace hbx := hbx.ext xg10; replace ht := ht.ext xg10; replace hE := hE.ext xg10; replace hS := hS.ext xg10; replace X := X.ext xg10; replace hfd := hfd.ext xg10; clear xg10; refine lw_pure (pur_pick_yes rfl rfl (rfl)) rfl (cA rfl rfl (cT (cw_ret (qw_ret1 rfl rfl ?_)))); rotate_left 1
      exact ⟨rfl, X⟩
    · refine CW.sub (m := [(15, str (levW (8 + (i : Int)) (8 + (j : Int)) true)), (17, .slice (some ⟨bf86, 0, none⟩) 1 1)]) ?_ (by refine sub_cons' rfl (by unfold levW; rw [if_pos rfl, if_pos (by omega)]) ?_; (refine sub_cons rfl ?_; exact sub_nil))
      have hfd := lev_fds (p := 8 + (i : Int)) (q := 8 + (j : Int)) (r := true) (S := fun b => wa39.heap.size ≤ b) hf90 hf82 (Nd.sits.wide hf63 (fun b h => by dsimp only at h ⊢; omega)) (by omega) (by omega); clear hf90 hf82
      focus
       refine cS (cM rfl rfl ?_); refine cC (by kernel_rfl) rfl (HP.out _ _ _ _ (by assumption) (by assumption)) rfl ?_; rintro _ wh2 ⟨⟨⟩, xh1⟩; have zh3 := xh1.size; replace hf71 := hf71.ext xh1; replace hf63 := Nd.sits.ext hf63 xh1; replace hf57 := Nd.sits.ext hf57 xh1; replace hbz := hbz.ext xh1; replace hby := hby.ext xh1; replace hbx := hbx.ext xh1; replace ht := ht.ext xh1; replace hE := hE.ext xh1; replace hS := hS.ext xh1; replace X := X.ext xh1; replace hfd := hfd.ext xh1; clear xh1; refine cM rfl rfl (lw_pure (pur_extract rfl rfl) rfl (lw_pure (pur_extract rfl rfl) rfl (cA rfl rfl (cA rfl rfl (cN (cM rfl rfl ?_)))))); refine cR (by kernel_rfl) rfl (HR.out _ (by assumption) (by assumption)) (fun _ _ h => h.ret) rfl ?_; rintro _ wh8 ⟨lah4, ⟨lch5, ⟨⟨⟩, ⟨hh6, xh7⟩⟩⟩⟩; have zh9 := xh7.size; replace hf71 := hf71.ext xh7; replace hf63 := Nd.sits.ext hf63 xh7; replace hf57 := Nd.sits.ext hf57 xh7; replace hbz := hbz.ext xh7; replace hby := hby.ext xh7; replace hbx := hbx.ext xh7; replace ht := ht.ext xh7; replace hE := hE.ext xh7; replace hS := hS.ext xh7; replace X := X.ext xh7; replace hfd := hfd.ext xh7; clear xh7; refine cM rfl rfl (lw_pure (pur_extract rfl rfl) rfl (lw_pure (pur_extract rfl rfl) rfl (lw_pure (pur_extract rfl rfl) rfl (cA rfl rfl (cA rfl rfl (cA rfl rfl (cN (cM rfl rfl (lw_pure (pur_eql rfl rfl) rfl (cM rfl rfl ?_)))))))))); refine lw_on rfl rfl rfl (gd_tt (by omega)) ?_; refine cM rfl rfl ?_; refine lw_on rfl rfl rfl (gd_tt (by omega)) ?_; refine lw_pure (pur_eql rfl rfl) rfl ?_
       refine lw_pure (pur_pick_yes rfl rfl (by omega)) rfl ?_; refine cM rfl rfl (lw_on rfl rfl rfl (gd_tt (rfl)) (cM rfl rfl (lw_on rfl rfl rfl (gd_tt (rfl)) (cM rfl rfl (lw_on rfl rfl rfl (gd_tt (rfl)) ?_))))); refine lw_pure (pur_sadd rfl rfl (by simp only [List.length_cons, List.length_nil]; omega)) rfl ?_; refine lw_on rfl rfl rfl (gd_tt (rfl)) ?_; refine lw_pure (pur_sadd rfl rfl (by simp only [List.length_append, List.length_cons, List.length_nil]; omega)) rfl ?_; refine lw_on rfl rfl rfl (gd_tt (rfl)) (lw_pure (pur_seql rfl rfl) rfl (lw_pure (pur_pick_yes rfl rfl (rfl)) rfl (cM rfl rfl (lw_on rfl rfl rfl (gd_tt (rfl)) (cM rfl rfl (lw_on rfl rfl rfl (gd_tt (rfl)) (cM rfl rfl (lw_on rfl rfl rfl (gd_tt (rfl)) ?_)))))))); refine cC (by kernel_rfl) rfl (same36_t [levD (8 + (i : Int)) (8 + (j : Int)) true] _ _ _ _ _ _ _ hf1 HS.out (by assumption) (by assumption)) rfl ?_; rintro _ wh11 ⟨⟨⟩, xh10⟩; have zh12 := xh10.size; replace hh6 := hh6.ext xh10; replace hf71 := hf71.ext xh10; replace hf63 := Nd.sits.ext hf63 xh10; replace hf57 := Nd.sits.ext hf57 xh10; replace hbz := hbz.ext xh10; replace hby := hby.ext xh10; replace hbx := hbx.ext xh10; replace ht := ht.ext xh10; replace hE := hE.ext xh10; replace hS := hS.ext xh10; replace X := X.ext xh10; replace hfd := hfd.ext xh10; clear xh10; refine lw_pure (pur_pick_yes rfl rfl (rfl)) rfl (cA rfl rfl (cT (cw_ret (qw_ret1 rfl rfl ?_)))); rotate_left 1
      exact ⟨rfl, X⟩
end Bk
namespace Bk
open Go Go.RowKit Go.Proofs
theorem FuntextLevels_d (a b : Int) (r : Bool) (w : World) (ha0 : 0 ≤ a) (ha1 : a ≤ 255) (hb0 : 0 ≤ b) (hb1 : b ≤ 255) (ht : TabsF w) (hE : Errs w) :
 Calls Tryz.prog 6 #[.int .u8 a, .int .u8 b, .bool r] w fun e w' => e = .returned (.bool true) ∧ Ext w w' := levels36_c a b r ⟨ha0, ha1⟩ ⟨hb0, hb1⟩ w ht hE
end Bk
