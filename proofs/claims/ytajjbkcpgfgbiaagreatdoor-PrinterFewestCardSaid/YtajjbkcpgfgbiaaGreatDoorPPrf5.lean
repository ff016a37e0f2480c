/- Texts that the proofs of PrinterFewest need. No condition. (Part 5 of 6.) -/
import Derived.Test.YtajjbkcpgfgbiaaGreatDoorPPrf4
set_option linter.unusedSimpArgs false
set_option linter.unusedVariables false
namespace Bk
open Go
abbrev Txt := List (List UInt8)
inductive Nt where
 | ex (lv : Int) : Nt
 | cl (lv : Int) (x : Nd) : Nt
 | un : Nt
 | pl : Nt
def StopL (lv : Int) (b : Txt) : Prop := ∀ t ∈ b.head?, ∀ op, binOf t = some op → level op < lv
def NoBr (b : Txt) : Prop := ∀ t ∈ b.head?, t ≠ [91]
inductive G : Nt → Txt → Nd → Prop where
 | ex {lv : Int} {a b : Txt} {x y : Nd} : G .un a x → G (.cl lv x) b y → G (.ex lv) (a ++ b) y
 | cl0 {lv : Int} {x : Nd} : G (.cl lv x) [] x
 | cl1 {lv op : Int} {t : List UInt8} {a b : Txt} {x y z : Nd} : binOf t = some op → lv ≤ level op → G (.ex (level op + 1)) a y → StopL (level op + 1) b → G (.cl lv (.mk op 0 [] [x, y])) b z → G (.cl lv x) (t :: (a ++ b)) z
 | neg {a : Txt} {x : Nd} : G .un a x → G .un ([45] :: a) (.mk 6 0 [] [x])
 | not {a : Txt} {x : Nd} : G .un a x → G .un ([33] :: a) (.mk 7 0 [] [x])
 | num {t : List UInt8} : startsDigit t = true → (digitsVal t : Int) ≤ 9223372036854775807 → G .un [t] (.mk 1 (digitsVal t) [] [])
 | top {m : List UInt8} : isName m = true → G .un [[116, 111, 112], [40], m, [41]] (.mk 4 0 m [])
 | size {m : List UInt8} : isName m = true → G .un [[115, 105, 122, 101], [40], m, [41]] (.mk 5 0 m [])
 | par {a : Txt} {x : Nd} : G (.ex 1) a x → G .un ([40] :: (a ++ [[41]])) x
 | place {a : Txt} {x : Nd} : G .pl a x → G .un a x
 | var {m : List UInt8} : isName m = true → G .pl [m] (.mk 2 0 m [])
 | item {m : List UInt8} {a : Txt} {x : Nd} : isName m = true → G (.ex 1) a x → G .pl (m :: [91] :: (a ++ [[93]])) (.mk 3 0 m [x])
section
variable {ts : List Tok} {n : Int}
def txt (ts : List Tok) : Txt := ts.map Tok.text
def adv (σ : PS) (k : Nat) : PS := ⟨σ.at_ + k, σ.off, σ.err⟩
theorem adv_adv (σ : PS) (a b : Nat) : adv (adv σ a) b = adv σ (a + b) := by simp [adv, Nat.add_assoc]
theorem next_adv (σ : PS) : nextP σ = adv σ 1 := rfl
def rem (ts : List Tok) (σ : PS) : Txt := (txt ts).drop σ.at_
theorem rem_len (σ : PS) : (rem ts σ).length = ts.length - σ.at_ := by simp [rem, txt]
theorem rem_adv {σ : PS} {a b : Txt} (h : rem ts σ = a ++ b) : rem ts (adv σ a.length) = b := by
 unfold rem adv at *
 simp only; rw [← List.drop_drop, h]
 simp
theorem rem_cons {σ : PS} {t : List UInt8} {b : Txt} (h : rem ts σ = t :: b) : rem ts (adv σ 1) = b := rem_adv (a := [t]) h
theorem rem_lt {σ : PS} {t : List UInt8} {b : Txt} (h : rem ts σ = t :: b) : σ.at_ < ts.length := by
 have := rem_len (ts := ts) σ; rw [h] at this
 simp at this
 omega
theorem peek_cons {σ : PS} {t : List UInt8} {b : Txt} (h : rem ts σ = t :: b) (he : σ.err = 0) : (peekP ts σ).text = t := by
 have hl := rem_lt h
 unfold peekP
 rw [if_neg (by rintro (h | h); exact h he; omega)]
 unfold rem txt at h
 rw [List.drop_eq_getElem_cons (by simpa using hl)] at h; simp only [List.getElem_map, List.cons.injEq] at h; rw [List.getD_eq_getElem?_getD, List.getElem?_eq_getElem hl]
 exact h.1
theorem peek_nil {σ : PS} (hw : σ.at_ ≤ ts.length) (h : rem ts σ = []) : (peekP ts σ).text = [] := by
 have := rem_len (ts := ts) σ; rw [h] at this
 rw [peek_end (by simp at this; omega)]; rfl
theorem peek_rem {σ : PS} (hw : σ.at_ ≤ ts.length) (he : σ.err = 0) : (peekP ts σ).text = ((rem ts σ).head?).getD [] := by
 cases h : rem ts σ with
 | nil => rw [peek_nil hw h]; rfl
 | cons t b => rw [peek_cons h he]; rfl
theorem has_cons {σ : PS} {t u : List UInt8} {b : Txt} (h : rem ts σ = t :: b) (he : σ.err = 0) : hasP ts σ u = decide (t = u) := by unfold hasP; rw [peek_cons h he]
theorem peek_mem {σ : PS} (hl : σ.at_ < ts.length) (he : σ.err = 0) : peekP ts σ ∈ ts := by
 unfold peekP
 rw [if_neg (by rintro (h | h); exact h he; omega), List.getD_eq_getElem?_getD, List.getElem?_eq_getElem hl]
 exact List.getElem_mem hl
theorem kind_dig (hd : DigitKinds ts) {σ : PS} {t : List UInt8} {b : Txt} (h : rem ts σ = t :: b) (he : σ.err = 0) : (peekP ts σ).kind = 2 ↔ startsDigit t = true := by
 rw [← peek_cons h he]
 exact hd _ (peek_mem (rem_lt h) he)
theorem expect_cons {σ : PS} {t : List UInt8} {b : Txt} (h : rem ts σ = t :: b) (he : σ.err = 0) : expectP ts n σ t = adv σ 1 := by unfold expectP; rw [has_cons h he]; simp [next_adv]
theorem name_cons {σ : PS} {t : List UInt8} {b : Txt} (h : rem ts σ = t :: b) (he : σ.err = 0) (ht : isName t = true) : nameP ts n σ = (t, adv σ 1) := by unfold nameP; rw [peek_cons h he, if_pos ht]; rfl
theorem rem_step {σ : PS} (hl : σ.at_ < ts.length) (he : σ.err = 0) : rem ts σ = (peekP ts σ).text :: rem ts (adv σ 1) := by
 cases h : rem ts σ with
 | nil => have := rem_len (ts := ts) σ; rw [h] at this; simp at this; omega
 | cons t b => rw [peek_cons h he, rem_cons h]
end
theorem name_not {m : List UInt8} (h : isName m = true) : m ≠ [45] ∧ m ≠ [33] ∧ m ≠ [40] ∧ m ≠ [116, 111, 112] ∧ m ≠ [115, 105, 122, 101] ∧ startsDigit m = false := by
 refine ⟨?_, ?_, ?_, ?_, ?_, ?_⟩
 · rintro rfl; revert h; decide
 · rintro rfl; revert h; decide
 · rintro rfl; revert h; decide
 · rintro rfl; revert h; decide
 · rintro rfl; revert h; decide
 · cases m with
   | nil => rfl
   | cons c r =>
    have hk : (firstTok (c :: r)).1 = 1 := by
     simp only [isName, Bool.and_eq_true, beq_iff_eq] at h
     exact h.1.1.2
    cases hd : startsDigit (c :: r)
    · rfl
    · exfalso
      have hdg : digit c = true := by simpa [startsDigit] using hd
      have hl : letter c = false := by
       cases hl : letter c
       · rfl
       · simp only [letter, digit, Bool.and_eq_true, decide_eq_true_eq] at hl hdg; omega
      simp [firstTok, hl, hdg] at hk
theorem G.head {nt : Nt} {a : Txt} {x : Nd} (h : G nt a x) : match nt with
 | .cl lv _ => ∀ t r, a = t :: r → ∃ op, binOf t = some op ∧ lv ≤ level op
 | _ => a ≠ [] := by
 induction h with
 | ex _ _ i1 _ => simp only at *; intro h; exact i1 (List.append_eq_nil_iff.1 h).1
 | cl0 => intro t r h; cases h
 | cl1 h1 h2 => intro t r h; simp only [List.cons.injEq] at h; obtain ⟨rfl, -⟩ := h; exact ⟨_, h1, h2⟩
 | neg => simp
 | not => simp
 | num => simp
 | top => simp
 | size => simp
 | par => simp
 | place _ i => exact i
 | var => simp
 | item => simp
end Bk
namespace Bk
open Go
inductive Pc where
 | tk (t : List UInt8) : Pc
 | sp (s : List UInt8) : Pc
def flat : List Pc → List UInt8
 | [] => []
 | .tk t :: r => t ++ flat r
 | .sp s :: r => s ++ flat r
def toks : List Pc → Txt
 | [] => []
 | .tk t :: r => t :: toks r
 | .sp _ :: r => toks r
theorem flat_append : ∀ (a b : List Pc), flat (a ++ b) = flat a ++ flat b
 | [], b => rfl
 | .tk t :: r, b => by simp only [List.cons_append, flat, flat_append r b, List.append_assoc]
 | .sp t :: r, b => by simp only [List.cons_append, flat, flat_append r b, List.append_assoc]
theorem toks_append : ∀ (a b : List Pc), toks (a ++ b) = toks a ++ toks b
 | [], b => rfl
 | .tk t :: r, b => by simp only [List.cons_append, toks, toks_append r b]
 | .sp t :: r, b => by simp only [List.cons_append, toks, toks_append r b]
structure TokT (t : List UInt8) : Prop where
 ne : t ≠ []
 len : (firstTok t).2 = t.length
 kind : (firstTok t).1 = 1 ∨ (firstTok t).1 = 2 ∨ (firstTok t).1 = 3
structure Adj (t : List UInt8) (c : UInt8) : Prop where
 word : (firstTok t).1 = 1 → wordish c = false
 num : (firstTok t).1 = 2 → digit c = false
 sign : (firstTok t).1 = 3 → c ≠ 61 ∧ c ≠ 62 ∧ c ≠ 38 ∧ c ≠ 124
def wf : Option (List UInt8) → List Pc → Prop
 | _, [] => True
 | p, .sp s :: r => (∀ c ∈ s, blank c = true) ∧ wf (if s.isEmpty then p else none) r
 | p, .tk t :: r => TokT t ∧ (∀ t0 ∈ p, ∀ c ∈ t.head?, Adj t0 c) ∧ wf (some t) r
def endOf : Option (List UInt8) → List Pc → Option (List UInt8)
 | p, [] => p
 | p, .sp s :: r => endOf (if s.isEmpty then p else none) r
 | _, .tk t :: r => endOf (some t) r
theorem wf_append : ∀ (a b : List Pc) (p : Option (List UInt8)), wf p (a ++ b) ↔ wf p a ∧ wf (endOf p a) b
 | [], b, p => by simp [wf, endOf]
 | .sp s :: r, b, p => by simp only [List.cons_append, wf, endOf, wf_append r b, and_assoc]
 | .tk t :: r, b, p => by simp only [List.cons_append, wf, endOf, wf_append r b, and_assoc]
theorem endOf_append : ∀ (a b : List Pc) (p : Option (List UInt8)), endOf p (a ++ b) = endOf (endOf p a) b
 | [], b, p => rfl
 | .sp s :: r, b, p => by simp only [List.cons_append, endOf, endOf_append r b]
 | .tk t :: r, b, p => by simp only [List.cons_append, endOf, endOf_append r b]
theorem tokT_name {m : List UInt8} (h : isName m = true) : TokT m ∧ (firstTok m).1 = 1 := by
 simp only [isName, Bool.and_eq_true, beq_iff_eq, Bool.not_eq_true', decide_eq_true_eq] at h; obtain ⟨⟨⟨⟨h1, h2⟩, h3⟩, h4⟩, h5⟩ := h; refine ⟨⟨?_, h4, Or.inl h3⟩, h3⟩
 rintro rfl; simp at h1
theorem name_letter {m : List UInt8} (h : isName m = true) : ∀ c ∈ m.head?, letter c = true := by
 intro c hc
 cases m with
 | nil => cases hc
 | cons x r =>
  have : x = c := by simpa using hc
  subst this; have hk := (tokT_name h).2
  cases hl : letter x
  · exfalso
    simp only [firstTok, hl, if_false, Bool.false_eq_true] at hk
    split at hk
    · simp at hk
    · split at hk
      · simp at hk
      · split at hk <;> simp at hk
  · rfl
end Bk
namespace Bk
open Go
section
variable {ts : List Tok} {n : Int}
theorem bin_nil : binOf [] = none := by decide
theorem bin_br : binOf [91] = none := by decide
theorem has_rem {σ : PS} {u : List UInt8} (hw : σ.at_ ≤ ts.length) (he : σ.err = 0) : hasP ts σ u = decide (((rem ts σ).head?).getD [] = u) := by unfold hasP; rw [peek_rem hw he]
theorem nobr_has {σ : PS} (hw : σ.at_ ≤ ts.length) (he : σ.err = 0) (h : NoBr (rem ts σ)) : hasP ts σ [91] = false := by
 rw [has_rem hw he]
 cases hr : rem ts σ with
 | nil => simp
 | cons t b => have := h t (by rw [hr]; rfl); exact decide_eq_false this
theorem stop_bin {σ : PS} {lv : Int} (hw : σ.at_ ≤ ts.length) (he : σ.err = 0) (h : StopL lv (rem ts σ)) : ∀ op, binOf (peekP ts σ).text = some op → level op < lv := by
 intro op ho; rw [peek_rem hw he] at ho
 cases hr : rem ts σ with
 | nil => rw [hr] at ho; have ho' : binOf [] = some op := ho; rw [bin_nil] at ho'; cases ho'
 | cons t b => rw [hr] at ho; exact h t (by rw [hr]; rfl) op (by simpa using ho)
theorem rem_le {σ : PS} {a b : Txt} (h : rem ts σ = a ++ b) (ha : a ≠ []) : σ.at_ + a.length ≤ ts.length := by
 have := rem_len (ts := ts) σ; rw [h] at this
 cases a with
 | nil => exact absurd rfl ha
 | cons t r => simp only [List.length_append, List.length_cons] at this ⊢; omega
theorem rem_wf {σ : PS} {a b : Txt} (hw : σ.at_ ≤ ts.length) (h : rem ts σ = a ++ b) : (adv σ a.length).at_ ≤ ts.length := by
 cases a with
 | nil => exact hw
 | cons t r => exact rem_le h (by simp)
theorem G.pl_head {a : Txt} {x : Nd} (h : G .pl a x) : ∃ m r, a = m :: r ∧ isName m = true := by
 cases h with
 | var hm => exact ⟨_, _, rfl, hm⟩
 | item hm _ => exact ⟨_, _, rfl, hm⟩
def Reads (ts : List Tok) (n : Int) : Nt → Txt → Nd → Prop
 | .ex lv, a, x => ∀ (σ : PS) (k : Nat) (rest : Txt), σ.at_ ≤ ts.length → σ.err = 0 → rem ts σ = a ++ rest → StopL lv rest → NoBr rest → 4 * a.length + 4 ≤ k → exprP ts n k lv σ = (x, adv σ a.length)
 | .cl lv x0, a, x => ∀ (σ : PS) (k : Nat) (rest : Txt), σ.at_ ≤ ts.length → σ.err = 0 → rem ts σ = a ++ rest → StopL lv rest → NoBr rest → 4 * a.length + 1 ≤ k → climbP ts n k lv x0 σ = (x, adv σ a.length)
 | .un, a, x => ∀ (σ : PS) (k : Nat) (rest : Txt), σ.at_ ≤ ts.length → σ.err = 0 → rem ts σ = a ++ rest → NoBr rest → 4 * a.length + 3 ≤ k → unaryP ts n k σ = (x, adv σ a.length)
 | .pl, a, x => ∀ (σ : PS) (k : Nat) (rest : Txt), σ.at_ ≤ ts.length → σ.err = 0 → rem ts σ = a ++ rest → NoBr rest → 4 * a.length + 1 ≤ k → placeP ts n k σ = (x, adv σ a.length)
theorem G.cl_rest {lv : Int} {x y : Nd} {b rest : Txt} (h : G (.cl lv x) b y) (hs : StopL lv rest) (hn : NoBr rest) (op : Int) (hl : lv ≤ level op) (hb : StopL (level op + 1) b) : StopL (level op + 1) (b ++ rest) ∧ NoBr (b ++ rest) := by
 cases b with
 | nil => exact ⟨fun t ht o ho => by have := hs t ht o ho; omega, hn⟩
 | cons t r =>
  refine ⟨fun u hu => hb u (by simpa using hu), fun u hu => ?_⟩; obtain ⟨o, ho, -⟩ := h.head t r rfl
  have : u = t := by simpa using hu.symm
  subst this; rintro rfl
  rw [bin_br] at ho; cases ho
theorem G.cl_nobr {lv : Int} {x y : Nd} {b rest : Txt} (h : G (.cl lv x) b y) (hn : NoBr rest) : NoBr (b ++ rest) := by
 cases b with
 | nil => exact hn
 | cons t r =>
  intro u hu; obtain ⟨o, ho, -⟩ := h.head t r rfl
  have : u = t := by simpa using hu.symm
  subst this; rintro rfl
  rw [bin_br] at ho; cases ho
theorem stop_lit {lv : Int} {t : List UInt8} {r : Txt} (h : binOf t = none) : StopL lv (t :: r) := fun u hu op ho => by
 have : u = t := by simpa using hu.symm
 subst this
 rw [h] at ho; cases ho
theorem nobr_lit {t : List UInt8} {r : Txt} (h : t ≠ [91]) : NoBr (t :: r) := fun u hu => by
 have : u = t := by simpa using hu.symm
 subst this; exact h
theorem G.reads (hd : DigitKinds ts) {nt : Nt} {a : Txt} {x : Nd} (h : G nt a x) : Reads ts n nt a x := by
 induction h with
 | @ex lv a b x y h1 h2 i1 i2 =>
  intro σ k rest hw he hr hs hn hk; obtain ⟨k, rfl⟩ : ∃ j, k = j + 1 := ⟨k - 1, by omega⟩; simp only [List.length_append] at hk ⊢; rw [List.append_assoc] at hr; rw [exprP, i1 σ k _ hw he hr (h2.cl_nobr hn) (by omega)]; simp only; rw [i2 (adv σ a.length) k rest (rem_wf hw hr) he (rem_adv hr) hs hn (by omega), adv_adv]
 | @cl0 lv x =>
  intro σ k rest hw he hr hs hn hk; obtain ⟨k, rfl⟩ : ∃ j, k = j + 1 := ⟨k - 1, by omega⟩; rw [List.nil_append] at hr; have hb := stop_bin hw he (hr.symm ▸ hs); rw [climbP]
  split
  · rfl
  · rename_i op ho
    rw [if_pos (hb op ho)]; rfl
 | @cl1 lv op t a b x y z h1 h2 h3 h4 h5 i3 i5 =>
  intro σ k rest hw he hr hs hn hk; obtain ⟨k, rfl⟩ : ∃ j, k = j + 1 := ⟨k - 1, by omega⟩; simp only [List.length_cons, List.length_append] at hk ⊢
  have hr' : rem ts σ = t :: (a ++ (b ++ rest)) := by rw [hr]; simp
  obtain ⟨s1, s2⟩ := h5.cl_rest hs hn op h2 h4; have hl := rem_lt hr'; rw [climbP, peek_cons hr' he, h1]; simp only; rw [if_neg (by omega), next_adv, i3 (adv σ 1) k (b ++ rest) hl he (rem_cons hr') s1 s2 (by omega)]; simp only; have hr2 := rem_cons hr'; rw [i5 (adv (adv σ 1) a.length) k rest (rem_wf hl hr2) he (rem_adv hr2) hs hn (by omega), adv_adv, adv_adv]
  exact Prod.ext rfl (congrArg (adv σ) (by omega))
 | @neg a x h1 i1 =>
  intro σ k rest hw he hr hn hk; obtain ⟨k, rfl⟩ : ∃ j, k = j + 1 := ⟨k - 1, by omega⟩; simp only [List.length_cons] at hk ⊢; have hr' : rem ts σ = [45] :: (a ++ rest) := hr; rw [unaryP, has_cons hr' he, if_pos (by decide), next_adv, i1 (adv σ 1) k rest (rem_lt hr') he (rem_cons hr') hn (by omega), adv_adv, Nat.add_comm 1]
 | @not a x h1 i1 =>
  intro σ k rest hw he hr hn hk; obtain ⟨k, rfl⟩ : ∃ j, k = j + 1 := ⟨k - 1, by omega⟩; simp only [List.length_cons] at hk ⊢; have hr' : rem ts σ = [33] :: (a ++ rest) := hr; rw [unaryP, has_cons hr' he, if_neg (by decide), has_cons hr' he, if_pos (by decide), next_adv, i1 (adv σ 1) k rest (rem_lt hr') he (rem_cons hr') hn (by omega), adv_adv, Nat.add_comm 1]
 | @num t h1 h2 =>
  intro σ k rest hw he hr hn hk; obtain ⟨k, rfl⟩ : ∃ j, k = j + 2 := ⟨k - 2, by simp at hk; omega⟩; have hr' : rem ts σ = t :: rest := hr; have hne : t ≠ [45] ∧ t ≠ [33] := ⟨by rintro rfl; revert h1; decide, by rintro rfl; revert h1; decide⟩; rw [unaryP, has_cons hr' he, if_neg (by simpa using hne.1), has_cons hr' he, if_neg (by simpa using hne.2), primaryP, if_pos ((kind_dig hd hr' he).2 h1)]
  have hnum : numberP ts n 0 9223372036854775807 σ = ((digitsVal t : Int), adv σ 1) := by
   unfold numberP
   rw [if_pos ((kind_dig hd hr' he).2 h1), peek_cons hr' he, if_pos ⟨h2, by omega, h2⟩]; rfl
  rw [hnum]; rfl
 | @top m h1 =>
  intro σ k rest hw he hr hn hk; obtain ⟨k, rfl⟩ : ∃ j, k = j + 2 := ⟨k - 2, by simp at hk; omega⟩; have hr1 : rem ts σ = [116, 111, 112] :: ([40] :: m :: [41] :: rest) := hr; have hr2 := rem_cons hr1; have hr3 := rem_cons hr2; have hr4 := rem_cons hr3; rw [unaryP, has_cons hr1 he, if_neg (by decide), has_cons hr1 he, if_neg (by decide), primaryP, if_neg (fun e => by have := (kind_dig hd hr1 he).1 e; revert this; decide), has_cons hr1 he, if_pos (by decide), next_adv, expect_cons hr2 he, name_cons hr3 he h1]; simp only
  rw [expect_cons hr4 he]; rfl
 | @size m h1 =>
  intro σ k rest hw he hr hn hk; obtain ⟨k, rfl⟩ : ∃ j, k = j + 2 := ⟨k - 2, by simp at hk; omega⟩; have hr1 : rem ts σ = [115, 105, 122, 101] :: ([40] :: m :: [41] :: rest) := hr; have hr2 := rem_cons hr1; have hr3 := rem_cons hr2; have hr4 := rem_cons hr3; rw [unaryP, has_cons hr1 he, if_neg (by decide), has_cons hr1 he, if_neg (by decide), primaryP, if_neg (fun e => by have := (kind_dig hd hr1 he).1 e; revert this; decide), has_cons hr1 he, if_neg (by decide), has_cons hr1 he, if_pos (by decide), next_adv, expect_cons hr2 he, name_cons hr3 he h1]; simp only
  rw [expect_cons hr4 he]; rfl
 | @par a x h1 i1 =>
  intro σ k rest hw he hr hn hk; simp only [List.length_cons, List.length_append, List.length_nil] at hk ⊢; obtain ⟨k, rfl⟩ : ∃ j, k = j + 2 := ⟨k - 2, by omega⟩
  have hr1 : rem ts σ = [40] :: (a ++ ([41] :: rest)) := by rw [hr]; simp
  have hr2 := rem_cons hr1; have hr3 := rem_adv hr2
  rw [unaryP, has_cons hr1 he, if_neg (by decide), has_cons hr1 he, if_neg (by decide), primaryP, if_neg (fun e => by have := (kind_dig hd hr1 he).1 e; revert this; decide), has_cons hr1 he, if_neg (by decide), has_cons hr1 he, if_neg (by decide), has_cons hr1 he, if_pos (by decide), next_adv,
   i1 (adv σ 1) k _ (rem_lt hr1) he hr2 (stop_lit (by decide)) (nobr_lit (by decide)) (by omega)]
  simp only; rw [expect_cons hr3 he, adv_adv, adv_adv]
  exact Prod.ext rfl (congrArg (adv σ) (by omega))
 | @place a x h1 i1 =>
  intro σ k rest hw he hr hn hk; obtain ⟨k, rfl⟩ : ∃ j, k = j + 2 := ⟨k - 2, by omega⟩; obtain ⟨m, r, rfl, hm⟩ := h1.pl_head; have hr1 : rem ts σ = m :: (r ++ rest) := hr; obtain ⟨n1, n2, n3, n4, n5, n6⟩ := name_not hm; rw [unaryP, has_cons hr1 he, if_neg (by simpa using n1), has_cons hr1 he, if_neg (by simpa using n2), primaryP, if_neg (fun e => by have := (kind_dig hd hr1 he).1 e; rw [n6] at this; cases this), has_cons hr1 he, if_neg (by simpa using n4), has_cons hr1 he, if_neg (by simpa using n5), has_cons hr1 he, if_neg (by simpa using n3)]
  exact i1 σ k rest hw he hr hn (by omega)
 | @var m h1 =>
  intro σ k rest hw he hr hn hk; obtain ⟨k, rfl⟩ : ∃ j, k = j + 1 := ⟨k - 1, by omega⟩; have hr1 : rem ts σ = m :: rest := hr; rw [placeP, name_cons hr1 he h1]; simp only
  rw [nobr_has (σ := adv σ 1) (rem_lt hr1) he ((rem_cons hr1).symm ▸ hn), if_neg (by decide)]; rfl
 | @item m a x h1 h2 i2 =>
  intro σ k rest hw he hr hn hk; simp only [List.length_cons, List.length_append, List.length_nil] at hk ⊢; obtain ⟨k, rfl⟩ : ∃ j, k = j + 1 := ⟨k - 1, by omega⟩
  have hr1 : rem ts σ = m :: ([91] :: (a ++ ([93] :: rest))) := by rw [hr]; simp
  have hr2 := rem_cons hr1; have hr3 := rem_cons hr2; have hr4 := rem_adv hr3; rw [placeP, name_cons hr1 he h1]; simp only; rw [has_cons hr2 he, if_pos (by decide), next_adv, i2 (adv (adv σ 1) 1) k _ (rem_lt hr2) he hr3 (stop_lit (by decide)) (nobr_lit (by decide)) (by omega)]; simp only; rw [expect_cons hr4 he, adv_adv, adv_adv, adv_adv]
  exact Prod.ext rfl (congrArg (adv σ) (by omega))
end
end Bk
namespace Bk
open Go
section
variable {ts : List Tok} {n : Int}
theorem stop_of {σ : PS} {lv : Int} (hw : σ.at_ ≤ ts.length) (he : σ.err = 0) (h : ∀ op, binOf (peekP ts σ).text = some op → level op < lv) : StopL lv (rem ts σ) := by
 intro t ht op ho
 cases hr : rem ts σ with
 | nil => rw [hr] at ht; cases ht
 | cons u b =>
  rw [hr] at ht
  have : t = u := by simpa using ht.symm
  subst this
  exact h op (by rw [peek_cons hr he]; exact ho)
def Seg (ts : List Tok) (σ σ' : PS) (a : Txt) : Prop := rem ts σ = a ++ rem ts σ'
theorem Seg.refl (σ : PS) : Seg ts σ σ [] := rfl
theorem Seg.trans {σ σ1 σ2 : PS} {a b : Txt} (h : Seg ts σ σ1 a) (k : Seg ts σ1 σ2 b) : Seg ts σ σ2 (a ++ b) := by unfold Seg at *; rw [h, k, List.append_assoc]
theorem seg_next {σ : PS} (h : In ts σ) : Seg ts σ (nextP σ) [(peekP ts σ).text] := rem_step h.2 h.1
theorem seg_has {σ : PS} {t : List UInt8} (hw : σ.at_ ≤ ts.length) (h : hasP ts σ t = true) (ht : t ≠ []) : Seg ts σ (nextP σ) [t] := by
 have := seg_next (has_in hw h ht); have e : (peekP ts σ).text = t := of_decide_eq_true h
 rwa [e] at this
theorem seg_expect {σ : PS} {t : List UInt8} (hw : σ.at_ ≤ ts.length) (ht : t ≠ []) (he : (expectP ts n σ t).err = 0) : Seg ts σ (expectP ts n σ t) [t] := by
 unfold expectP at *
 split at he
 · rename_i hh; rw [if_pos hh]; exact seg_has hw hh ht
 · exact absurd he unexp_err
theorem seg_name {σ : PS} (hw : σ.at_ ≤ ts.length) (he : (nameP ts n σ).2.err = 0) : Seg ts σ (nameP ts n σ).2 [(nameP ts n σ).1] ∧ isName (nameP ts n σ).1 = true := by
 unfold nameP at *
 split at he
 · rename_i hh; rw [if_pos hh]; exact ⟨seg_next (peek_in hw (Or.inl (isName_ne hh))), hh⟩
 · exact absurd he unexp_err
theorem seg_number (hd : DigitKinds ts) {least most : Int} {σ : PS} (hw : σ.at_ ≤ ts.length) (he : (numberP ts n least most σ).2.err = 0) :
 ∃ t, Seg ts σ (numberP ts n least most σ).2 [t] ∧ startsDigit t = true ∧ (numberP ts n least most σ).1 = (digitsVal t : Int) ∧ (digitsVal t : Int) ≤ 9223372036854775807 ∧ least ≤ (digitsVal t : Int) ∧ (digitsVal t : Int) ≤ most := by
 unfold numberP at *
 split at he
 · rename_i hk
   rw [if_pos hk]; have hin := peek_in hw (Or.inr (by rw [hk]; decide))
   split at he
   · rename_i hb
     rw [if_pos hb]
     exact ⟨_, seg_next hin, (hd _ (peek_mem hin.2 hin.1)).1 hk, rfl, hb.1, hb.2.1, hb.2.2⟩
   · exact absurd he (fail_err (by decide))
 · exact absurd he unexp_err
theorem expr_sound (hd : DigitKinds ts) (k : Nat) :
 (∀ lv σ, σ.at_ ≤ ts.length → 4 * mS ts σ + 4 ≤ k → (exprP ts n k lv σ).2.err = 0 → ∃ a, Seg ts σ (exprP ts n k lv σ).2 a ∧ G (.ex lv) a (exprP ts n k lv σ).1 ∧ StopL lv (rem ts (exprP ts n k lv σ).2)) ∧
 (∀ lv x σ, σ.at_ ≤ ts.length → 4 * mS ts σ + 1 ≤ k → (climbP ts n k lv x σ).2.err = 0 → ∃ a, Seg ts σ (climbP ts n k lv x σ).2 a ∧ G (.cl lv x) a (climbP ts n k lv x σ).1 ∧ StopL lv (rem ts (climbP ts n k lv x σ).2)) ∧
 (∀ σ, σ.at_ ≤ ts.length → 4 * mS ts σ + 3 ≤ k → (unaryP ts n k σ).2.err = 0 → ∃ a, Seg ts σ (unaryP ts n k σ).2 a ∧ G .un a (unaryP ts n k σ).1) ∧
 (∀ σ, σ.at_ ≤ ts.length → 4 * mS ts σ + 2 ≤ k → (primaryP ts n k σ).2.err = 0 → ∃ a, Seg ts σ (primaryP ts n k σ).2 a ∧ G .un a (primaryP ts n k σ).1) ∧
 (∀ σ, σ.at_ ≤ ts.length → 4 * mS ts σ + 1 ≤ k → (placeP ts n k σ).2.err = 0 → ∃ a, Seg ts σ (placeP ts n k σ).2 a ∧ G .pl a (placeP ts n k σ).1) := by
 induction k with
 | zero => refine ⟨fun _ _ _ h => ?_, fun _ _ _ _ h => ?_, fun _ _ h => ?_, fun _ _ h => ?_, fun _ _ h => ?_⟩ <;> omega
 | succ k ih =>
  obtain ⟨iE, iC, iU, iP, iL⟩ := ih; obtain ⟨vE, vC, vU, vP, vL⟩ := expr_inv (ts := ts) (n := n) k; refine ⟨fun lv σ h hk he => ?_, fun lv x σ h hk he => ?_, fun σ h hk he => ?_, fun σ h hk he => ?_, fun σ h hk he => ?_⟩
  · rw [exprP] at he ⊢
    have hu := vU σ h; have hc := vC lv (unaryP ts n k σ).1 (unaryP ts n k σ).2 hu.1.wf; have hm := mS_lt hu.1 (hu.2 (by omega)); have hue := hc.ok he; obtain ⟨a, sa, ga⟩ := iU σ h (by omega) hue; obtain ⟨b, sb, gb, st⟩ := iC lv _ _ hu.1.wf (by omega) he
    exact ⟨a ++ b, sa.trans sb, G.ex ga gb, st⟩
  · cases ho : binOf (peekP ts σ).text with
    | none =>
     have e : climbP ts n (k + 1) lv x σ = (x, σ) := by rw [climbP]; simp only [ho]
     rw [e] at he ⊢
     exact ⟨[], Seg.refl _, G.cl0, stop_of h he (fun op e => by rw [ho] at e; cases e)⟩
    | some op =>
     obtain ⟨hne, hop⟩ := binOf_ne ho; have hn := peek_in h (Or.inl hne); have hm := mS_next hn; have hp := mS_pos hn
     by_cases hl : level op < lv
     · have e : climbP ts n (k + 1) lv x σ = (x, σ) := by rw [climbP]; simp only [ho]; rw [if_pos hl]
       rw [e] at he ⊢
       exact ⟨[], Seg.refl _, G.cl0, stop_of h hn.1 (fun o e => by rw [ho] at e; cases e; exact hl)⟩
     · have e : climbP ts n (k + 1) lv x σ = climbP ts n k lv (.mk op 0 [] [x, (exprP ts n k (level op + 1) (nextP σ)).1]) (exprP ts n k (level op + 1) (nextP σ)).2 := by rw [climbP]; simp only [ho]; rw [if_neg hl]
       rw [e] at he ⊢; have h1 := next_le hn; have h2 := vE (level op + 1) (nextP σ) h1.wf; have h3 := vC lv (.mk op 0 [] [x, (exprP ts n k (level op + 1) (nextP σ)).1]) _ h2.1.wf; have hm2 := mS_le h2.1; obtain ⟨a, sa, ga, sta⟩ := iE (level op + 1) (nextP σ) h1.wf (by omega) (h3.ok he); obtain ⟨b, sb, gb, st⟩ := iC lv _ _ h2.1.wf (by omega) he; refine ⟨(peekP ts σ).text :: (a ++ b), (seg_next hn).trans (sa.trans sb), G.cl1 ho (by omega) ga ?_ gb, st⟩; intro t ht; refine sta t ?_; have sb' : rem ts (exprP ts n k (level op + 1) (nextP σ)).2 = b ++ _ := sb; rw [sb']
       cases b with
       | nil => cases ht
       | cons u r => simpa using ht
  · rw [unaryP] at he ⊢
    split at he
    · rename_i hh
      rw [if_pos hh]; have hn := has_in h hh (by decide); have hm := mS_next hn; obtain ⟨a, sa, ga⟩ := iU (nextP σ) (next_le hn).wf (by omega) he
      exact ⟨_, (seg_has h hh (by decide)).trans sa, G.neg ga⟩
    · rename_i hh
      rw [if_neg hh]
      split at he
      · rename_i hh
        rw [if_pos hh]; have hn := has_in h hh (by decide); have hm := mS_next hn; obtain ⟨a, sa, ga⟩ := iU (nextP σ) (next_le hn).wf (by omega) he
        exact ⟨_, (seg_has h hh (by decide)).trans sa, G.not ga⟩
      · rename_i hh
        rw [if_neg hh]
        exact iP σ h (by omega) he
  · rw [primaryP] at he ⊢
    split at he
    · rename_i hh
      rw [if_pos hh]; obtain ⟨t, st, h1, h2, h3, -⟩ := seg_number hd h he; refine ⟨[t], st, ?_⟩; simp only [h2]
      exact G.num h1 h3
    · rename_i hh
      rw [if_neg hh]
      split at he
      · rename_i hh
        rw [if_pos hh]; have hn := has_in h hh (by decide); have h1 := next_le hn; have h2 := expect_le (n := n) (t := [40]) h1.wf (by decide); have h3 := name_le (n := n) h2.wf; have h4 := expect_le (n := n) (t := [41]) h3.wf (by decide); have e3 := h4.ok he; obtain ⟨s3, hm⟩ := seg_name h2.wf e3
        exact ⟨_, (((seg_has h hh (by decide)).trans (seg_expect h1.wf (by decide) (h3.ok e3))).trans s3).trans (seg_expect h3.wf (by decide) he), G.top hm⟩
      · rename_i hh
        rw [if_neg hh]
        split at he
        · rename_i hh
          rw [if_pos hh]; have hn := has_in h hh (by decide); have h1 := next_le hn; have h2 := expect_le (n := n) (t := [40]) h1.wf (by decide); have h3 := name_le (n := n) h2.wf; have h4 := expect_le (n := n) (t := [41]) h3.wf (by decide); have e3 := h4.ok he; obtain ⟨s3, hm⟩ := seg_name h2.wf e3
          exact ⟨_, (((seg_has h hh (by decide)).trans (seg_expect h1.wf (by decide) (h3.ok e3))).trans s3).trans (seg_expect h3.wf (by decide) he), G.size hm⟩
        · rename_i hh
          rw [if_neg hh]
          split at he
          · rename_i hh
            rw [if_pos hh]; have hn := has_in h hh (by decide); have hm := mS_next hn; have h1 := next_le hn; have h2 := (vE 1 (nextP σ) h1.wf).1; have h3 := expect_le (n := n) (t := [41]) h2.wf (by decide); obtain ⟨a, sa, ga, -⟩ := iE 1 (nextP σ) h1.wf (by omega) (h3.ok he)
            exact ⟨_, (seg_has h hh (by decide)).trans (sa.trans (seg_expect h2.wf (by decide) he)), G.par ga⟩
          · rename_i hh
            rw [if_neg hh]; obtain ⟨a, sa, ga⟩ := iL σ h (by omega) he
            exact ⟨a, sa, G.place ga⟩
  · rw [placeP] at he ⊢
    have h0 := name_le (n := n) h
    split at he
    · rename_i hh
      rw [if_pos hh]; have hn := has_in h0.wf hh (by decide); have hm := mS_next hn; have hm0 := mS_le h0; have h1 := next_le hn; have h2 := (vE 1 _ h1.wf).1; have h3 := expect_le (n := n) (t := [93]) h2.wf (by decide); obtain ⟨s0, hnm⟩ := seg_name h hn.1; obtain ⟨a, sa, ga, -⟩ := iE 1 _ h1.wf (by omega) (h3.ok he)
      exact ⟨_, s0.trans ((seg_has h0.wf hh (by decide)).trans (sa.trans (seg_expect h2.wf (by decide) he))), G.item hnm ga⟩
    · rename_i hh
      rw [if_neg hh]; obtain ⟨s0, hnm⟩ := seg_name h he
      exact ⟨_, s0, G.var hnm⟩
end
theorem G.valid {nt : Nt} {a : Txt} {x : Nd} (h : G nt a x) : match nt with
 | .cl _ y => y.isExpr = true → x.isExpr = true
 | .pl => x.isPlace = true
 | _ => x.isExpr = true := by
 induction h with
 | ex _ _ i1 i2 => exact i2 i1
 | cl0 => exact fun h => h
 | @cl1 lv op t a b x y z h1 h2 h3 h4 h5 i3 i5 =>
  intro hx; refine i5 ?_; obtain ⟨-, h8, h23, -⟩ := binOf_ne h1
  unfold Nd.isExpr
  rw [if_neg (by omega), if_neg (by omega), if_neg (by omega), if_neg (by omega), if_pos (by omega)]; simp only at i3 hx
  simp [plain, hx, i3]
 | neg _ i => unfold Nd.isExpr; simp only at i; simp [plain, i]
 | not _ i => unfold Nd.isExpr; simp only at i; simp [plain, i]
 | num => unfold Nd.isExpr; simp
 | top h => unfold Nd.isExpr; simp [named, h]
 | size h => unfold Nd.isExpr; simp [named, h]
 | par _ i => exact i
 | place _ i => simp only [Nd.isPlace, Bool.and_eq_true] at i; exact i.2
 | var h => simp [Nd.isPlace, Nd.isExpr, Nd.kind, named, h]
 | item h _ i => simp only at i; simp [Nd.isPlace, Nd.isExpr, Nd.kind, named, h, i]
end Bk
namespace Bk
open Go
section
variable {ts : List Tok} {n : Int}
theorem limit_ok {x : Nd} {off : Int} {σ : PS} (h : (limitP x off σ).err = 0) : σ.err = 0 ∧ x.depth ≤ 80 ∧ x.size ≤ 2000 := by
 unfold limitP at h
 split at h
 · exact absurd h (by assumption)
 · rename_i h0
   have h0' : σ.err = 0 := by simpa using h0
   split at h
   · exact absurd h (fail_err (by decide))
   · split at h
     · exact absurd h (fail_err (by decide))
     · exact ⟨h0', by omega, by omega⟩
theorem finish_ok {σ : PS} (h : (finishP ts n σ).err = 0) : σ.err = 0 ∧ ¬ σ.at_ < ts.length := by
 unfold finishP at h
 split at h
 · exact absurd h unexp_err
 · exact ⟨h, by assumption⟩
end
end Bk
namespace Bk
open Go
def st00 : PS := ⟨0, 0, 0⟩
def endE (ts : List Tok) (n : Int) (r : Nd × PS) : Nd × Int × Int := if (limitP r.1 0 (finishP ts n r.2)).err ≠ 0 then (zeroNd, (limitP r.1 0 (finishP ts n r.2)).off, (limitP r.1 0 (finishP ts n r.2)).err) else (r.1, 0, 0)
theorem parseE_at {s : List UInt8} {ts : List Tok} (hs : ¬ 65536 < s.length) (h : solidFrom s 0 = (ts, none)) {K : Nat} (hK : 4 * ts.length + 4 ≤ K) : parseExpr s = endE ts s.length (exprP ts s.length K 1 st00) ∧ DigitKinds ts := by
 have hst := startOk hs (by rw [h]); rw [h] at hst; simp only at hst; have hd := digitKinds_start s; have hl := start_len s; rw [hst] at hd hl; simp only at hd hl; refine ⟨?_, hd⟩
 have hm : mS ts st00 = ts.length := by simp [mS, st00]
 have e : exprP ts s.length (fuelP s) 1 st00 = exprP ts s.length K 1 st00 := by
  by_cases c : K ≤ fuelP s
  · exact expr_same c 1 st00 (Nat.zero_le _) (by rw [hm]; omega)
  · exact (expr_same (by omega : fuelP s ≤ K) 1 st00 (Nat.zero_le _) (by rw [hm]; unfold fuelP; omega)).symm
 rw [← e]
 unfold parseExpr endE
 rw [hst]
 rfl
theorem parseE_lex {s : List UInt8} (hs : ¬ 65536 < s.length) (h : (parseExpr s).2.2 = 0) : ∃ ts, solidFrom s 0 = (ts, none) := by
 cases hsf : (solidFrom s 0).2 with
 | none => exact ⟨_, Prod.ext rfl hsf⟩
 | some q =>
  exfalso
  have hst := startBad hs hsf
  unfold parseExpr at h
  rw [hst] at h; simp only at h; have l1 := expr_le (ts := []) (n := s.length) (k := fuelP s) (lv := 1) (σ := ⟨0, q, 3⟩) (Nat.zero_le _); have e1 := l1.err (fun e => by cases e); rw [e1] at h
  have : limitP (exprP [] s.length (fuelP s) 1 ⟨0, q, 3⟩).1 0 (finishP [] s.length ⟨0, q, 3⟩) = ⟨0, q, 3⟩ := by
   unfold finishP limitP
   simp
  rw [this] at h
  simp at h
theorem parseE_phrase {s : List UInt8} {ts : List Tok} (hs : ¬ 65536 < s.length) (h : solidFrom s 0 = (ts, none)) (he : (parseExpr s).2.2 = 0) : G (.ex 1) (txt ts) (parseExpr s).1 ∧ (parseExpr s).1.depth ≤ 80 ∧ (parseExpr s).1.size ≤ 2000 := by
 obtain ⟨e, hd⟩ := parseE_at hs h (Nat.le_refl _); rw [e] at he ⊢
 have hm : mS ts st00 = ts.length := by simp [mS, st00]
 have hsnd := (expr_sound (n := s.length) hd (4 * ts.length + 4)).1 1 st00 (Nat.zero_le _) (by rw [hm]; exact Nat.le_refl _)
 generalize exprP ts s.length (4 * ts.length + 4) 1 st00 = r at *
 unfold endE at he ⊢
 split at he
 · rename_i c; exact absurd he c
 · rename_i c
   rw [if_neg c]; obtain ⟨l1, l2, l3⟩ := limit_ok (by simpa using c); obtain ⟨f1, f2⟩ := finish_ok l1; obtain ⟨a, sa, ga, -⟩ := hsnd f1; refine ⟨?_, l2, l3⟩
   have h1 : rem ts r.2 = [] := by
    have := rem_len (ts := ts) r.2
    exact List.eq_nil_of_length_eq_zero (by omega)
   have h2 : rem ts st00 = a ++ rem ts r.2 := sa; rw [h1, List.append_nil] at h2; have h3 : rem ts st00 = txt ts := rfl; rw [h3] at h2
   rw [h2]; exact ga
def parT (i j : Nat) (s : List UInt8) : List UInt8 := List.replicate i 40 ++ s ++ 10 :: List.replicate j 41
end Bk
namespace Bk
open Go
theorem dec_val (u : Nat) : digitsVal (Lib.decDigits u) = u ∧ (∀ c ∈ Lib.decDigits u, digit c = true) ∧ Lib.decDigits u ≠ [] := by
 induction u using Nat.strongRecOn with
 | _ u ih =>
  have hd : ∀ k, k < 10 → (UInt8.ofNat (48 + k)).toNat = 48 + k := fun k hk => by rw [UInt8.toNat_ofNat']; omega
  have hdig : ∀ k, k < 10 → digit (UInt8.ofNat (48 + k)) = true := fun k hk => by
   simp only [digit, hd k hk, Bool.and_eq_true, decide_eq_true_eq]; omega
  rw [Lib.decDigits]
  split
  · rename_i h
    refine ⟨?_, ?_, by simp⟩
    · unfold digitsVal
      simp only [List.foldl_cons, List.foldl_nil, hd u h]; omega
    · intro c hc
      have : c = UInt8.ofNat (48 + u) := by simpa using hc
      subst this; exact hdig u h
  · rename_i h
    obtain ⟨h1, h2, h3⟩ := ih (u / 10) (by omega); refine ⟨?_, ?_, by simp⟩
    · unfold digitsVal at *
      rw [List.foldl_append, h1]; simp only [List.foldl_cons, List.foldl_nil, hd (u % 10) (by omega)]
      omega
    · intro c hc
      rcases List.mem_append.1 hc with hc | hc
      · exact h2 c hc
      · have : c = UInt8.ofNat (48 + u % 10) := by simpa using hc
        subst this; exact hdig _ (by omega)
theorem itoa_dec {n : Int} (h : 0 ≤ n) : Lib.itoa n = Lib.decDigits n.toNat := by unfold Lib.itoa; rw [if_neg (by omega)]
theorem span_all' {p : UInt8 → Bool} : ∀ (s : List UInt8), (∀ c ∈ s, p c = true) → span p s = s.length
 | [], _ => rfl
 | c :: r, h => by
  have := span_all' r (fun d hd => h d (by simp [hd]))
  unfold span at *
  rw [List.takeWhile_cons, if_pos (h c (by simp)), List.length_cons, List.length_cons, this]
theorem tokT_num {ds : List UInt8} (hne : ds ≠ []) (h : ∀ c ∈ ds, digit c = true) : TokT ds ∧ (firstTok ds).1 = 2 := by
 have : firstTok ds = (2, ds.length) := by
  cases ds with
  | nil => exact absurd rfl hne
  | cons c r =>
   have hd := h c (by simp)
   have hl : letter c = false := by
    cases hl : letter c
    · rfl
    · rw [letter_digit c hl] at hd; cases hd
   have hs := span_all' (p := digit) (c :: r) h; simp only [firstTok, hl, hd, if_true, if_false, Bool.false_eq_true, hs]
 exact ⟨⟨hne, by rw [this], by rw [this]; exact Or.inr (Or.inl rfl)⟩, by rw [this]⟩
def pw (b : Bool) (L : List Pc) : List Pc := if b then .tk [40] :: (L ++ [.tk [41]]) else L
def Nd.pcs : Nd → List Pc
 | .mk k n s l =>
  if k = 1 then [.tk (Lib.itoa n)] else if k = 2 then [.tk s]
  else if k = 3 then match l with | [x] => .tk s :: .tk [91] :: (x.pcs ++ [.tk [93]]) | _ => []
  else if k = 4 then [.tk [116, 111, 112], .tk [40], .tk s, .tk [41]] else if k = 5 then [.tk [115, 105, 122, 101], .tk [40], .tk s, .tk [41]]
  else if k = 6 ∨ k = 7 then match l with | [x] => .tk (symbol k) :: pw (isBin x.kind) x.pcs | _ => []
  else match l with
   | [x, y] => pw (parenL x.kind k) x.pcs ++ (.sp [32] :: .tk (symbol k) :: .sp [32] :: pw (parenR y.kind k) y.pcs)
   | _ => []
theorem flat_pw (b : Bool) (L : List Pc) : flat (pw b L) = wrap (flat L) b := by
 unfold pw wrap
 cases b
 · rfl
 · simp only [if_true, flat, flat_append, List.append_nil]; simp
theorem toks_pw (b : Bool) (L : List Pc) : toks (pw b L) = if b then [40] :: (toks L ++ [[41]]) else toks L := by
 unfold pw
 cases b
 · rfl
 · simp only [if_true, toks, toks_append]
def OpenP (p : Option (List UInt8)) : Prop := ∀ t ∈ p, (firstTok t).1 = 3
def CloseT (t : List UInt8) : Prop := Adj t 41 ∧ Adj t 93 ∧ Adj t 59 ∧ Adj t 44
theorem closeT_name {m : List UInt8} (h : (firstTok m).1 = 1) : CloseT m := by
 refine ⟨?_, ?_, ?_, ?_⟩ <;> exact ⟨fun _ => (by decide), fun e => (by rw [h] at e; cases e), fun e => (by rw [h] at e; cases e)⟩
theorem closeT_num {m : List UInt8} (h : (firstTok m).1 = 2) : CloseT m := by
 refine ⟨?_, ?_, ?_, ?_⟩ <;> exact ⟨fun e => (by rw [h] at e; cases e), fun _ => (by decide), fun e => (by rw [h] at e; cases e)⟩
theorem closeT_sign {m : List UInt8} (h : (firstTok m).1 = 3) : CloseT m := by
 refine ⟨?_, ?_, ?_, ?_⟩ <;> exact ⟨fun e => (by rw [h] at e; cases e), fun e => (by rw [h] at e; cases e), fun _ => (by decide)⟩
theorem adj_open {t : List UInt8} {c : UInt8} (h : (firstTok t).1 = 3) (hc : c ≠ 61 ∧ c ≠ 62 ∧ c ≠ 38 ∧ c ≠ 124) : Adj t c := ⟨fun e => (by rw [h] at e; cases e), fun e => (by rw [h] at e; cases e), fun _ => hc⟩
theorem letter_open {c : UInt8} (h : letter c = true) : c ≠ 61 ∧ c ≠ 62 ∧ c ≠ 38 ∧ c ≠ 124 := by
 simp only [letter, Bool.and_eq_true, decide_eq_true_eq] at h
 refine ⟨?_, ?_, ?_, ?_⟩ <;> (rintro rfl; simp at h)
theorem digit_open {c : UInt8} (h : digit c = true) : c ≠ 61 ∧ c ≠ 62 ∧ c ≠ 38 ∧ c ≠ 124 := by
 simp only [digit, Bool.and_eq_true, decide_eq_true_eq] at h
 refine ⟨?_, ?_, ?_, ?_⟩ <;> (rintro rfl; simp at h)
theorem tokT_lit {t : List UInt8} (h : (!t.isEmpty && ((firstTok t).2 == t.length) && (((firstTok t).1 == 1) || ((firstTok t).1 == 3))) = true) : TokT t := by
 simp only [Bool.and_eq_true, Bool.or_eq_true, beq_iff_eq, Bool.not_eq_true'] at h; obtain ⟨⟨h1, h2⟩, h3⟩ := h; refine ⟨by rintro rfl; simp at h1, h2, ?_⟩
 rcases h3 with h3 | h3
 · exact Or.inl h3
 · exact Or.inr (Or.inr h3)
theorem symbol_tok {k : Int} (h0 : 6 ≤ k) (h1 : k ≤ 23) : TokT (symbol k) ∧ (firstTok (symbol k)).1 = 3 := by
 have : k = 6 ∨ k = 7 ∨ k = 8 ∨ k = 9 ∨ k = 10 ∨ k = 11 ∨ k = 12 ∨ k = 13 ∨ k = 14 ∨ k = 15 ∨ k = 16 ∨ k = 17 ∨ k = 18 ∨ k = 19 ∨ k = 20 ∨ k = 21 ∨ k = 22 ∨ k = 23 := by omega
 rcases this with rfl | rfl | rfl | rfl | rfl | rfl | rfl | rfl | rfl | rfl | rfl | rfl | rfl | rfl | rfl | rfl | rfl | rfl <;> exact ⟨tokT_lit (by decide), by decide⟩
structure Nice (L : List Pc) : Prop where
 wf : ∀ p, OpenP p → wf p L
 fin : ∀ p, ∃ t, endOf p L = some t ∧ CloseT t
theorem openP_sign {t : List UInt8} (h : (firstTok t).1 = 3) : OpenP (some t) := fun u hu => by
 have : t = u := by simpa using hu
 rw [← this]; exact h
theorem openP_none : OpenP none := fun u hu => by cases hu
theorem Nice.par {L : List Pc} (h : Nice L) : Nice (.tk [40] :: (L ++ [.tk [41]])) := by
 have ho : TokT [40] := tokT_lit (by decide); have hc : TokT [41] := tokT_lit (by decide); refine ⟨fun p hp => ⟨ho, fun t ht c hc' => ?_, ?_⟩, fun p => ?_⟩
 · have : c = 40 := by simpa using hc'.symm
   subst this
   exact adj_open (hp t ht) (by decide)
 · rw [wf_append]
   refine ⟨h.wf _ (openP_sign (by decide)), ?_⟩; obtain ⟨t, e, ct⟩ := h.fin (some [40]); rw [e]
   exact ⟨hc, fun u hu c hc' => by
    have : c = 41 := by simpa using hc'.symm
    have : t = u := by simpa using hu
    subst_vars; exact ct.1, trivial⟩
 · refine ⟨[41], ?_, closeT_sign (by decide)⟩
   simp only [endOf, endOf_append]
theorem Nice.pw {L : List Pc} (h : Nice L) (b : Bool) : Nice (pw b L) := by
 unfold Bk.pw
 cases b
 · exact h
 · exact h.par
theorem nice_tok {t : List UInt8} (ht : TokT t) (ho : ∀ c ∈ t.head?, c ≠ 61 ∧ c ≠ 62 ∧ c ≠ 38 ∧ c ≠ 124) (hc : CloseT t) : Nice [.tk t] :=
 ⟨fun p hp => ⟨ht, fun u hu c hc => adj_open (hp u hu) (ho c hc), trivial⟩, fun p => ⟨t, rfl, hc⟩⟩
theorem head_of {t : List UInt8} {q : UInt8 → Prop} (h : ∀ c ∈ t, q c) : ∀ c ∈ t.head?, q c := fun c hc => by
 cases t with
 | nil => cases hc
 | cons x r => have : x = c := by simpa using hc
               subst this; exact h x (by simp)
theorem pcs_nice (N : Nat) : ∀ t : Nd, t.size < N → t.isExpr = true → Nice t.pcs := by
 induction N with
 | zero => intro t h; omega
 | succ N ih =>
  intro t hs he; obtain ⟨k, n, s, l⟩ := t; simp only [Nd.size] at hs
  unfold Nd.isExpr at he
  unfold Nd.pcs
  by_cases c1 : k = 1
  · rw [if_pos c1] at he ⊢
    simp only [Bool.and_eq_true, decide_eq_true_eq] at he; obtain ⟨h1, h2, h3⟩ := dec_val n.toNat; rw [itoa_dec he.1.1]
    exact nice_tok (tokT_num h3 h2).1 (head_of (fun c hc => digit_open (h2 c hc))) (closeT_num (tokT_num h3 h2).2)
  rw [if_neg c1] at he ⊢
  by_cases c2 : k = 2
  · rw [if_pos (Or.inl c2)] at he
    rw [if_pos c2]; simp only [Bool.and_eq_true, named] at he; have hn := he.1.2
    exact nice_tok (tokT_name hn).1 (fun c hc => letter_open (name_letter hn c hc)) (closeT_name (tokT_name hn).2)
  by_cases c4 : k = 4 ∨ k = 5
  · rw [if_pos (Or.inr c4)] at he
    simp only [Bool.and_eq_true, named] at he; have hn := he.1.2
    have key : ∀ kw : List UInt8, TokT kw → (firstTok kw).1 = 1 → (∀ c ∈ kw.head?, letter c = true) → Nice [.tk kw, .tk [40], .tk s, .tk [41]] := by
     intro kw hkw hk1 hkl; refine ⟨fun p hp => ⟨hkw, fun u hu c hc => adj_open (hp u hu) (letter_open (hkl c hc)), tokT_lit (by decide), fun u hu c hc => ?_, (tokT_name hn).1, fun u hu c hc => ?_, tokT_lit (by decide), fun u hu c hc => ?_, trivial⟩, fun p => ⟨_, rfl, closeT_sign (by decide)⟩⟩
     · have : c = 40 := by simpa using hc.symm
       have : kw = u := by simpa using hu
       subst_vars
       exact ⟨fun _ => (by decide), fun e => (by rw [hk1] at e; cases e), fun e => (by rw [hk1] at e; cases e)⟩
     · have : [40] = u := by simpa using hu
       rw [← this]
       exact adj_open (by decide) (letter_open (name_letter hn c hc))
     · have : c = 41 := by simpa using hc.symm
       have : s = u := by simpa using hu
       subst_vars
       exact (closeT_name (tokT_name hn).2).1
    rw [if_neg c2, if_neg (by omega)]
    rcases c4 with c4 | c4
    · rw [if_pos c4]; exact key _ (tokT_lit (by decide)) (by decide) (by simp; decide)
    · rw [if_neg (by omega), if_pos c4]; exact key _ (tokT_lit (by decide)) (by decide) (by simp; decide)
  rw [if_neg (by omega)] at he; rw [if_neg c2]
  by_cases c3 : k = 3
  · rw [if_pos c3] at he ⊢
    simp only [Bool.and_eq_true, named] at he; obtain ⟨⟨-, hn⟩, hx⟩ := he
    split at hx
    · rename_i x
      simp only [rowSize] at hs; have hi := ih x (by omega) hx; refine ⟨fun p hp => ⟨(tokT_name hn).1, fun u hu c hc => adj_open (hp u hu) (letter_open (name_letter hn c hc)), tokT_lit (by decide), fun u hu c hc => ?_, ?_⟩, fun p => ⟨[93], ?_, closeT_sign (by decide)⟩⟩
      · have : c = 91 := by simpa using hc.symm
        have : s = u := by simpa using hu
        subst_vars
        exact ⟨fun _ => (by decide), fun e => (by rw [(tokT_name hn).2] at e; cases e), fun e => (by rw [(tokT_name hn).2] at e; cases e)⟩
      · rw [wf_append]
        refine ⟨hi.wf _ (openP_sign (by decide)), ?_⟩; obtain ⟨t, e, ct⟩ := hi.fin (some [91]); rw [e]
        exact ⟨tokT_lit (by decide), fun u hu c hc => by
         have : c = 93 := by simpa using hc.symm
         have : t = u := by simpa using hu
         subst_vars; exact ct.2.1, trivial⟩
      · simp only [endOf, endOf_append]
    · cases hx
  rw [if_neg c3] at he ⊢; rw [if_neg (by omega), if_neg (by omega)]
  by_cases c6 : k = 6 ∨ k = 7
  · rw [if_pos c6] at he ⊢
    simp only [Bool.and_eq_true] at he; obtain ⟨-, hx⟩ := he
    split at hx
    · rename_i x
      simp only [rowSize] at hs; have hi := (ih x (by omega) hx).pw (isBin x.kind); have hsy := symbol_tok (k := k) (by omega) (by omega); refine ⟨fun p hp => ⟨hsy.1, fun u hu c hc => adj_open (hp u hu) ?_, hi.wf _ (openP_sign hsy.2)⟩, fun p => hi.fin _⟩
      rcases c6 with rfl | rfl
      · have : c = 45 := by simpa [symbol, symbols] using hc.symm
        subst this; decide
      · have : c = 33 := by simpa [symbol, symbols] using hc.symm
        subst this; decide
    · cases hx
  rw [if_neg c6] at he ⊢
  by_cases c8 : 8 ≤ k ∧ k ≤ 23
  · rw [if_pos c8] at he
    simp only [Bool.and_eq_true] at he; obtain ⟨-, hx⟩ := he
    split at hx
    · rename_i x y
      simp only [rowSize] at hs; simp only [Bool.and_eq_true] at hx; have h1 := (ih x (by omega) hx.1).pw (parenL x.kind k); have h2 := (ih y (by omega) hx.2).pw (parenR y.kind k); have hsy := symbol_tok (k := k) (by omega) (by omega); refine ⟨fun p hp => ?_, fun p => ?_⟩
      · rw [wf_append]
        refine ⟨h1.wf p hp, by simp; decide, hsy.1, ?_, by simp; decide, ?_⟩
        · intro u hu; simp at hu
        · exact h2.wf _ (by intro u hu; simp at hu)
      · simp only [endOf_append, endOf]
        exact h2.fin _
    · cases hx
  · rw [if_neg c8] at he; cases he
theorem flat_pcs (N : Nat) : ∀ t : Nd, t.size < N → t.isExpr = true → flat t.pcs = t.text := by
 induction N with
 | zero => intro t h; omega
 | succ N ih =>
  intro t hs he; obtain ⟨k, n, s, l⟩ := t; simp only [Nd.size] at hs
  unfold Nd.isExpr at he
  unfold Nd.pcs Nd.text
  by_cases c1 : k = 1
  · rw [if_pos c1, if_pos c1]; simp [flat]
  rw [if_neg c1] at he ⊢; rw [if_neg c1]
  by_cases c2 : k = 2
  · rw [if_pos c2, if_pos c2]; simp [flat]
  rw [if_neg c2, if_neg c2]
  by_cases c3 : k = 3
  · rw [if_neg (by omega), if_pos c3] at he
    rw [if_pos c3, if_pos c3]; simp only [Bool.and_eq_true] at he; obtain ⟨-, hx⟩ := he
    split at hx
    · rename_i x
      simp only [rowSize] at hs; simp only [flat, flat_append, ih x (by omega) hx]
      simp
    · cases hx
  rw [if_neg c3, if_neg c3]
  by_cases c4 : k = 4
  · rw [if_pos c4, if_pos c4]; simp [flat]
  rw [if_neg c4, if_neg c4]
  by_cases c5 : k = 5
  · rw [if_pos c5, if_pos c5]; simp [flat]
  rw [if_neg c5, if_neg c5]; rw [if_neg (by omega), if_neg (by omega)] at he
  by_cases c6 : k = 6 ∨ k = 7
  · rw [if_pos c6] at he
    rw [if_pos c6, if_pos c6]; simp only [Bool.and_eq_true] at he; obtain ⟨-, hx⟩ := he
    split at hx
    · rename_i x
      simp only [rowSize] at hs; simp only [flat, flat_pw, ih x (by omega) hx]
    · cases hx
  rw [if_neg c6] at he; rw [if_neg c6, if_neg c6]
  by_cases c8 : 8 ≤ k ∧ k ≤ 23
  · rw [if_pos c8] at he
    simp only [Bool.and_eq_true] at he; obtain ⟨-, hx⟩ := he
    split at hx
    · rename_i x y
      simp only [rowSize] at hs; simp only [Bool.and_eq_true] at hx; simp only [flat_append, flat, flat_pw, ih x (by omega) hx.1, ih y (by omega) hx.2]
      simp
    · cases hx
  · rw [if_neg c8] at he; cases he
end Bk
namespace Bk
open Go
theorem G.cl_mono {l1 l2 : Int} {x y : Nd} {b : Txt} (h : G (.cl l1 x) b y) (hl : l2 ≤ l1) : G (.cl l2 x) b y := by
 generalize hn : Nt.cl l1 x = nt at h
 induction h generalizing x with
 | ex _ _ => cases hn
 | cl0 => cases hn; exact G.cl0
 | cl1 h1 h2 h3 h4 h5 _ i5 => cases hn; exact G.cl1 h1 (by omega) h3 h4 (i5 rfl)
 | neg => cases hn
 | not => cases hn
 | num => cases hn
 | top => cases hn
 | size => cases hn
 | par => cases hn
 | place => cases hn
 | var => cases hn
 | item => cases hn
theorem G.ex_mono {l1 l2 : Int} {y : Nd} {b : Txt} (h : G (.ex l1) b y) (hl : l2 ≤ l1) : G (.ex l2) b y := by
 cases h with
 | ex h1 h2 => exact G.ex h1 (h2.cl_mono hl)
theorem G.un_ex {a : Txt} {x : Nd} (h : G .un a x) (lv : Int) : G (.ex lv) a x := by
 have := G.ex h (G.cl0 (lv := lv))
 rwa [List.append_nil] at this
structure Said (t : Nd) : Prop where
 bin : isBin t.kind = true → G (.ex (level t.kind)) (toks t.pcs) t
 un : isBin t.kind = false → G .un (toks t.pcs) t
 pl : t.isPlace = true → G .pl (toks t.pcs) t
theorem Said.ex {t : Nd} (h : Said t) {lv : Int} (hl : isBin t.kind = true → lv ≤ level t.kind) : G (.ex lv) (toks t.pcs) t := by
 cases hb : isBin t.kind
 · exact (h.un hb).un_ex lv
 · exact (h.bin hb).ex_mono (hl hb)
theorem bin_level {k : Int} (h : isBin k = true) : 1 ≤ level k := by
 simp only [isBin, Bool.and_eq_true, decide_eq_true_eq] at h
 exact (level_bd h.1 h.2).1
theorem Said.par {t : Nd} (h : Said t) : G .un (toks (pw true t.pcs)) t := by
 rw [toks_pw]
 exact G.par (h.ex (fun hb => bin_level hb))
end Bk
namespace Bk
open Go Go.RowKit Go.Proofs
attribute [local irreducible] Go.Calls
structure Tabs5 (w : World) : Prop where
 t : Tabs w
 g : Tryz.prog.globals.size ≤ w.heap.size
theorem Tabs5.ext {w w' : World} (h : Tabs5 w) (x : Ext w w') : Tabs5 w' := ⟨h.t.ext x h.g, Nat.le_trans h.g x.size⟩
mutual
theorem small_depth : ∀ (t : Nd) (d m : Int), 0 ≤ d → (t.small d m).1 = true → t.depth ≤ d
 | .mk k n s l, d, m, hd, h => by
  unfold Nd.small at h
  split at h
  · cases h
  · have := rowSmall_depth l (d - 1) (m - 1) (by omega) h
    simp only [Nd.depth]; omega
theorem rowSmall_depth : ∀ (l : List Nd) (d m : Int), 0 ≤ d → (rowSmall l d m).1 = true → rowDepth l ≤ d
 | [], d, m, hd, _ => by simp only [rowDepth]; exact hd
 | t :: r, d, m, hd, h => by
  unfold rowSmall at h
  split at h
  · rename_i h1
    have a := small_depth t d m hd h1; have b := rowSmall_depth r d _ hd h
    simp only [rowDepth]; omega
  · cases h
end
theorem great_y {t : Nd} (hwf : t.wf) (h : (t.small 24 200).1 = false) (S : Nat → Prop) (a : Option Addr) (c : Nat) (w : World) (hs : t.sits S w a) : Calls Tryz.prog 9 #[t.val a c] w fun e w' => e = .returned (.bool true) ∧ Ext w w' := by
 have := great_c t hwf S a c w hs
 rw [h] at this; exact this
theorem great_n {t : Nd} (hwf : t.wf) (h : (t.small 24 200).1 = true) (S : Nat → Prop) (a : Option Addr) (c : Nat) (w : World) (hs : t.sits S w a) : Calls Tryz.prog 9 #[t.val a c] w fun e w' => e = .returned (.bool false) ∧ Ext w w' := by
 have := great_c t hwf S a c w hs
 rw [h] at this; exact this
theorem isExpr_v {t : Nd} (hwf : t.wf) {b : Bool} (h : t.isExpr = b) (S : Nat → Prop) (a : Option Addr) (c : Nat) (w : World) (hs : t.sits S w a) : Calls Tryz.prog 10 #[t.val a c] w fun e w' => e = .returned (.bool b) ∧ Ext w w' := by
 have := IsExpr_t S t hwf a c w hs
 rw [h] at this; exact this
theorem pExpr_v {t : Nd} (hwf : t.wf) (h : t.isExpr = true) (hz : t.size ≤ 200) (S : Nat → Prop) (a : Option Addr) (c : Nat) (w : World) (ht : Tabs5 w) (hs : t.sits S w a) : Calls Tryz.prog 11 #[t.val a c] w fun e w' => e = .returned (.tuple #[str t.text, .int .i64 0]) ∧ Ext w w' := by
 have := Expr_c t hwf (by omega) S a c w ht.t ht.g hs
 rw [h] at this; exact this
theorem small_facts {t : Nd} (hwf : t.wf) (hg : (t.small 24 200).1 = true) (he : t.isExpr = true) : t.size ≤ 200 ∧ t.depth ≤ 24 ∧ t.text.length ≤ 6000 := by
 have h1 := small_size t 24 200 (by omega) hg; have h2 := small_le t 24 200 (by omega) hg; have h3 := small_depth t 24 200 (by omega) hg; have h4 := text_len (t.size + 1) t (by omega) hwf he
 exact ⟨by omega, h3, by omega⟩
end Bk
namespace Bk
open Go
def wt : Txt → Nat
 | [] => 0
 | t :: r => t.length + wt r
theorem wt_append : ∀ a b : Txt, wt (a ++ b) = wt a + wt b
 | [], b => by simp [wt]
 | t :: r, b => by simp only [List.cons_append, wt, wt_append r b]; omega
theorem wt_pw (b : Bool) (L : List Pc) : wt (toks (pw b L)) = wt (toks L) + (if b then 2 else 0) := by
 rw [toks_pw]
 cases b
 · simp
 · simp only [if_true, wt, wt_append, List.length_cons, List.length_nil]; omega
theorem decLen (m : Nat) : ∀ u, u < 10 ^ m → 1 ≤ m → (Lib.decDigits u).length ≤ m := by
 induction m with
 | zero => intro u _ h; omega
 | succ m ih =>
  intro u hu _; rw [Lib.decDigits]
  split
  · simp
  · rename_i h
    have hp : 10 ^ (m + 1) = 10 ^ m * 10 := Nat.pow_succ 10 m
    have hm : 1 ≤ m := by
     rcases m with _ | m
     · exfalso; simp at hu; omega
     · omega
    have := ih (u / 10) (by rw [hp] at hu; omega) hm
    simp only [List.length_append, List.length_cons, List.length_nil]; omega
theorem foldl_lt : ∀ (t : List UInt8) (a : Nat), (∀ c ∈ t, digit c = true) → t.foldl (fun a c => a * 10 + (c.toNat - 48)) a < (a + 1) * 10 ^ t.length
 | [], a, _ => by simp
 | c :: r, a, h => by
  have hc := h c (by simp); simp only [digit, Bool.and_eq_true, decide_eq_true_eq] at hc; have ih := foldl_lt r (a * 10 + (c.toNat - 48)) (fun d hd => h d (by simp [hd])); rw [List.foldl_cons]; refine Nat.lt_of_lt_of_le ih ?_; rw [List.length_cons, Nat.pow_succ, Nat.mul_comm (10 ^ r.length) 10, ← Nat.mul_assoc]
  exact Nat.mul_le_mul_right _ (by omega)
theorem num_len {t : List UInt8} (hne : t ≠ []) (h : ∀ c ∈ t, digit c = true) : (Lib.decDigits (digitsVal t)).length ≤ t.length := by
 have h1 := foldl_lt t 0 h; refine decLen t.length _ (by unfold digitsVal; simpa using h1) ?_
 cases t with
 | nil => exact absurd rfl hne
 | cons c r => simp
theorem G.pl_bin {a : Txt} {x : Nd} (h : G .pl a x) : isBin x.kind = false := by
 cases h with
 | var _ => rfl
 | item _ _ => rfl
def Heavy : Nt → Txt → Nd → Prop
 | .un, a, x => wt (toks x.pcs) + (if isBin x.kind then 2 else 0) ≤ wt a
 | .pl, a, x => wt (toks x.pcs) ≤ wt a
 | .ex lv, a, x => wt (toks x.pcs) + (if isBin x.kind && decide (level x.kind < lv) then 2 else 0) ≤ wt a
 | .cl lv x0, a, x => ∀ N, wt (toks x0.pcs) ≤ N → (∀ t r op, a = t :: r → binOf t = some op → wt (toks (pw (parenL x0.kind op) x0.pcs)) ≤ N) → wt (toks x.pcs) ≤ N + wt a ∧ ((a = [] ∧ x = x0) ∨ (isBin x.kind = true ∧ lv ≤ level x.kind))
theorem pcs_bin {k : Int} {x y : Nd} (h0 : 8 ≤ k) (h1 : k ≤ 23) : (Nd.mk k 0 [] [x, y]).pcs = pw (parenL x.kind k) x.pcs ++ (.sp [32] :: .tk (symbol k) :: .sp [32] :: pw (parenR y.kind k) y.pcs) := by
 conv => lhs; unfold Nd.pcs
 rw [if_neg (by omega), if_neg (by omega), if_neg (by omega), if_neg (by omega), if_neg (by omega), if_neg (by omega)]
theorem isBin_of {k : Int} (h0 : 8 ≤ k) (h1 : k ≤ 23) : isBin k = true := by simp only [isBin, Bool.and_eq_true, decide_eq_true_eq]; exact ⟨h0, h1⟩
theorem G.heavy {nt : Nt} {a : Txt} {x : Nd} (h : G nt a x) : (∀ t ∈ a, startsDigit t = true → ∀ c ∈ t, digit c = true) → Heavy nt a x := by
 induction h with
 | @ex lv a b x y h1 h2 i1 i2 =>
  intro hd; have j1 := i1 (fun t ht => hd t (by simp [ht])); have j2 := i2 (fun t ht => hd t (by simp [ht])) (wt a); simp only [Heavy] at j1 ⊢
  obtain ⟨k1, k2⟩ := j2 (by split at j1 <;> omega) (fun t r op _ _ => by
   rw [wt_pw]
   cases hb : isBin x.kind
   · simp only [parenL, hb, Bool.false_and]; rw [hb] at j1; simpa using j1
   · rw [hb] at j1; simp only [if_true] at j1
     split <;> omega)
  rw [wt_append]
  rcases k2 with ⟨rfl, rfl⟩ | ⟨k2, k3⟩
  · simp only [wt, Nat.add_zero]
    cases hb : isBin y.kind
    · simp; rw [hb] at j1; simpa using j1
    · rw [hb] at j1; simp only [if_true] at j1
      split <;> omega
  · rw [k2]
    rw [if_neg (by simp only [Bool.true_and, decide_eq_true_eq]; omega)]
    exact k1
 | @cl0 lv x =>
  intro hd N hN _
  exact ⟨by simp only [wt]; omega, Or.inl ⟨rfl, rfl⟩⟩
 | @cl1 lv op t a b x y z h1 h2 h3 h4 h5 i3 i5 =>
  intro hd N hN hN2; have j3 := i3 (fun u hu => hd u (by simp [hu])); have j5 := i5 (fun u hu => hd u (by simp [hu])) (N + t.length + wt a); obtain ⟨-, h8, h23, hsy⟩ := binOf_ne h1; have hx := hN2 t (a ++ b) op rfl h1; simp only [Heavy] at j3
  have hy : wt (toks (pw (parenR y.kind op) y.pcs)) ≤ wt a := by
   rw [wt_pw]
   cases hb : isBin y.kind
   · rw [hb] at j3; simp only [parenR, hb, Bool.false_and] ; simpa using j3
   · rw [hb] at j3
     simp only [parenR, hb, Bool.true_and, decide_eq_true_eq] at j3 ⊢
     by_cases hl : level y.kind ≤ level op
     · rw [if_pos (by omega)] at j3; rw [if_pos hl]; exact j3
     · rw [if_neg hl]; split at j3 <;> omega
  have hw : wt (toks (Nd.mk op 0 [] [x, y]).pcs) ≤ N + t.length + wt a := by
   rw [pcs_bin h8 h23]; simp only [toks_append, toks, wt_append, wt, hsy]
   omega
  obtain ⟨k1, k2⟩ := j5 hw (fun u r op2 hb2 ho2 => by
   have hst := h4 u (by rw [hb2]; rfl) op2 ho2
   have : parenL (Nd.mk op 0 [] [x, y]).kind op2 = false := by
    show parenL op op2 = false
    simp only [parenL, Bool.and_eq_false_iff, decide_eq_false_iff_not]
    right; omega
   rw [this]
   exact hw)
  refine ⟨by simp only [wt, wt_append]; omega, Or.inr ?_⟩
  rcases k2 with ⟨-, rfl⟩ | k2
  · exact ⟨isBin_of h8 h23, h2⟩
  · exact k2
 | @neg a x h1 i1 =>
  intro hd; have j1 := i1 (fun t ht => hd t (by simp [ht])); simp only [Heavy] at j1 ⊢
  have e : (Nd.mk 6 0 [] [x]).pcs = .tk (symbol 6) :: pw (isBin x.kind) x.pcs := by
   conv => lhs; unfold Nd.pcs
   rw [if_neg (by decide), if_neg (by decide), if_neg (by decide), if_neg (by decide), if_neg (by decide), if_pos (by decide)]
  rw [e, show isBin (Nd.mk 6 0 [] [x]).kind = false from rfl]; simp only [toks, wt, wt_pw]
  have : (symbol 6).length = 1 := by decide
  simp only [this, List.length_cons, List.length_nil, Bool.false_eq_true, if_false]
  omega
 | @not a x h1 i1 =>
  intro hd; have j1 := i1 (fun t ht => hd t (by simp [ht])); simp only [Heavy] at j1 ⊢
  have e : (Nd.mk 7 0 [] [x]).pcs = .tk (symbol 7) :: pw (isBin x.kind) x.pcs := by
   conv => lhs; unfold Nd.pcs
   rw [if_neg (by decide), if_neg (by decide), if_neg (by decide), if_neg (by decide), if_neg (by decide), if_pos (by decide)]
  rw [e, show isBin (Nd.mk 7 0 [] [x]).kind = false from rfl]; simp only [toks, wt, wt_pw]
  have : (symbol 7).length = 1 := by decide
  simp only [this, List.length_cons, List.length_nil, Bool.false_eq_true, if_false]
  omega
 | @num t h1 h2 =>
  intro hd; have hdig := hd t (by simp) h1
  have hne : t ≠ [] := by rintro rfl; simp [startsDigit] at h1
  simp only [Heavy]
  have e : (Nd.mk 1 (digitsVal t) [] []).pcs = [.tk (Lib.decDigits (digitsVal t))] := by
   unfold Nd.pcs
   rw [if_pos rfl, itoa_dec (by omega)]
   simp
  rw [e, show isBin (Nd.mk 1 (digitsVal t) [] []).kind = false from rfl]; simp only [toks, wt, Bool.false_eq_true, if_false]; have := num_len hne hdig
  omega
 | @top m h1 =>
  intro hd; simp only [Heavy]
  have e : (Nd.mk 4 0 m []).pcs = [.tk [116, 111, 112], .tk [40], .tk m, .tk [41]] := by unfold Nd.pcs; rw [if_neg (by decide), if_neg (by decide), if_neg (by decide), if_pos rfl]
  rw [e, show isBin (Nd.mk 4 0 m []).kind = false from rfl]
  simp [toks]
 | @size m h1 =>
  intro hd; simp only [Heavy]
  have e : (Nd.mk 5 0 m []).pcs = [.tk [115, 105, 122, 101], .tk [40], .tk m, .tk [41]] := by unfold Nd.pcs; rw [if_neg (by decide), if_neg (by decide), if_neg (by decide), if_neg (by decide), if_pos rfl]
  rw [e, show isBin (Nd.mk 5 0 m []).kind = false from rfl]
  simp [toks]
 | @par a x h1 i1 =>
  intro hd; have j1 := i1 (fun t ht => hd t (by simp [ht])); simp only [Heavy] at j1 ⊢; simp only [wt, wt_append, List.length_cons, List.length_nil]
  split <;> split at j1 <;> omega
 | @place a x h1 i1 =>
  intro hd; have j1 := i1 hd; simp only [Heavy] at j1 ⊢
  rw [h1.pl_bin]; simpa using j1
 | @var m h1 =>
  intro hd; simp only [Heavy]
  have e : (Nd.mk 2 0 m []).pcs = [.tk m] := by unfold Nd.pcs; rw [if_neg (by decide), if_pos rfl]
  rw [e]
  simp [toks]
 | @item m a x h1 h2 i2 =>
  intro hd; have j2 := i2 (fun t ht => hd t (by simp [ht])); simp only [Heavy] at j2 ⊢
  have e : (Nd.mk 3 0 m [x]).pcs = .tk m :: .tk [91] :: (x.pcs ++ [.tk [93]]) := by
   conv => lhs; unfold Nd.pcs
   rw [if_neg (by decide), if_neg (by decide), if_pos rfl]
  rw [e]; simp only [toks, toks_append, wt, wt_append, List.length_cons, List.length_nil]
  split at j2 <;> omega
end Bk
namespace Bk
open Go
def cnt (s : List UInt8) : Nat := (s.filter (fun c => !blank c)).length
theorem cnt_append (a b : List UInt8) : cnt (a ++ b) = cnt a + cnt b := by simp [cnt]
theorem cnt_solid {s : List UInt8} (h : ∀ c ∈ s, blank c = false) : cnt s = s.length := by
 unfold cnt
 rw [List.filter_eq_self.2 (fun c hc => by simp [h c hc])]
theorem cnt_blank {s : List UInt8} (h : ∀ c ∈ s, blank c = true) : cnt s = 0 := by
 unfold cnt
 rw [List.filter_eq_nil_iff.2 (fun c hc => by simp [h c hc])]; rfl
theorem wordish_nb {c : UInt8} (h : wordish c = true) : blank c = false := by
 cases hb : blank c
 · rfl
 · have := blank_parts hb
   simp [wordish, this.1, this.2.1] at h
theorem digit_nb {c : UInt8} (h : digit c = true) : blank c = false := wordish_nb (by simp [wordish, h])
theorem sign_nb (u : List UInt8) : ∀ c ∈ u.take (signLen u), blank c = false := by
 unfold signLen
 split
 · rename_i h
   have e : u.take 3 = [60, 61, 62] := (prefix_take.1 h).symm
   rw [e]; decide
 · split
   · rename_i h
     have h' : u.take 2 ∈ pairs := by simpa using h
     have key : ∀ p ∈ pairs, ∀ c ∈ p, blank c = false := by decide
     exact key _ h'
   · split
     · rename_i h
       cases u with
       | nil => simp at h
       | cons x r =>
        have hx : singles.contains x = true := by simpa using h
        have hx' : x ∈ singles := by simpa using hx
        have key : ∀ c ∈ singles, blank c = false := by decide
        intro c hc
        have : c = x := by simpa using hc
        rw [this]; exact key x hx'
     · simp
theorem tok_solid {u : List UInt8} (h : (firstTok u).1 ≠ 4 ∧ (firstTok u).1 ≠ 5) : ∀ c ∈ u.take (firstTok u).2, blank c = false := by
 cases u with
 | nil => simp
 | cons x r =>
  by_cases h1 : letter x = true
  · simp only [firstTok, h1, if_true, span]
    rw [take_takeWhile]
    exact fun c hc => wordish_nb (mem_takeWhile _ _ c hc)
  · have h1' : letter x = false := by simpa using h1
    by_cases h2 : digit x = true
    · simp only [firstTok, h1', h2, if_true, if_false, Bool.false_eq_true, span]
      rw [take_takeWhile]
      exact fun c hc => digit_nb (mem_takeWhile _ _ c hc)
    · have h2' : digit x = false := by simpa using h2
      by_cases h3 : blank x = true
      · exfalso; rw [firstTok_blank h3] at h; exact h.1 rfl
      · have h3' : blank x = false := by simpa using h3
        by_cases h4 : x = 35
        · exfalso; subst h4; rw [firstTok_hash] at h; exact h.2 rfl
        · simp only [firstTok, h1', h2', h3', h4, if_false, Bool.false_eq_true]
          exact sign_nb (x :: r)
theorem wt_cnt (s : List UInt8) : ∀ (m p : Nat) (l : List Tok), s.length - p ≤ m → p ≤ s.length → solidFrom s p = (l, none) → wt (txt l) ≤ cnt (s.drop p) := by
 intro m
 induction m with
 | zero =>
  intro p l hm hp h; rw [solidFrom_end (by omega)] at h
  cases h; simp [txt, wt]
 | succ m ih =>
  intro p l hm hp h
  by_cases hlt : p < s.length
  · obtain ⟨h0, hs⟩ := solidFrom_step hlt h
    have hle := firstTok_le (s.drop p); simp only [List.length_drop] at hle
    have hsplit : s.drop p = (s.drop p).take (firstTok (s.drop p)).2 ++ s.drop (p + (firstTok (s.drop p)).2) := by
     rw [← List.drop_drop, List.take_append_drop]
    have hc := congrArg cnt hsplit; rw [cnt_append] at hc
    rcases hs with ⟨h4, h'⟩ | ⟨h4, l', rfl, h'⟩
    · have := ih _ l (by omega) (by omega) h'
      omega
    · have := ih _ l' (by omega) (by omega) h'
      have ht : (tokAt s p).text.length = (firstTok (s.drop p)).2 := by simp only [tokAt, List.length_take, List.length_drop]; omega
      have hn := cnt_solid (tok_solid h4)
      have hn2 : cnt ((s.drop p).take (firstTok (s.drop p)).2) = (firstTok (s.drop p)).2 := by rw [hn]; simp only [List.length_take, List.length_drop]; omega
      simp only [txt, List.map_cons, wt] at this ⊢; rw [ht]
      omega
  · rw [solidFrom_end (by omega)] at h
    cases h; simp [txt, wt]
theorem tokT_solid {t : List UInt8} (h : TokT t) : cnt t = t.length := by
 refine cnt_solid ?_; have := tok_solid (u := t) (by rcases h.kind with e | e | e <;> rw [e] <;> decide); rw [h.len, List.take_length] at this
 exact this
theorem cnt_flat : ∀ (L : List Pc) (p : Option (List UInt8)), wf p L → cnt (flat L) = wt (toks L)
 | [], p, _ => rfl
 | .sp s :: r, p, h => by
  simp only [flat, toks, cnt_append, cnt_blank h.1, cnt_flat r _ h.2]; omega
 | .tk t :: r, p, h => by
  simp only [flat, toks, wt, cnt_append, tokT_solid h.1, cnt_flat r _ h.2.2]
theorem fewest {t : Nd} {s : List UInt8} (he : t.isExpr = true) (hs : s.length ≤ 65536) (hc : cnt s + 2 ≤ cnt t.text) : ¬ ((parseExpr s).2.2 = 0 ∧ (parseExpr s).1 = t) := by
 rintro ⟨h1, h2⟩; obtain ⟨ts, hts⟩ := parseE_lex (by omega) h1; obtain ⟨g, -, -⟩ := parseE_phrase (by omega) hts h1; rw [h2] at g; have hst := startOk (s := s) (by omega) (by rw [hts]); rw [hts] at hst
 have hd : ∀ u ∈ txt ts, startsDigit u = true → ∀ c ∈ u, digit c = true := by
  intro u hu hsd; simp only [txt, List.mem_map] at hu; obtain ⟨tok, htk, rfl⟩ := hu; have hok := solid_ok s tok (by rw [hst]; exact htk)
  exact (hok.num (hok.dig.2 hsd)).2
 have hv := g.heavy hd; simp only [Heavy] at hv; have hw := wt_cnt s s.length 0 ts (by omega) (by omega) hts; rw [List.drop_zero] at hw; have hn := pcs_nice (t.size + 1) t (by omega) he; have hf := flat_pcs (t.size + 1) t (by omega) he; have hcf := cnt_flat t.pcs none (hn.wf none openP_none); rw [hf] at hcf
 split at hv <;> omega
def without (s : List UInt8) (i j : Nat) : List UInt8 := (s.take i ++ (s.take j).drop (i + 1)) ++ s.drop (j + 1)
theorem without_cnt {s : List UInt8} {i j : Nat} (hij : i < j) (hj : j < s.length) (hi : s[i]? = some 40) (hj2 : s[j]? = some 41) : cnt (without s i j) + 2 = cnt s := by
 have e1 : s = s.take j ++ s.drop j := (List.take_append_drop j s).symm
 have e2 : s.drop j = 41 :: s.drop (j + 1) := by
  rw [List.drop_eq_getElem_cons hj]; rw [List.getElem?_eq_getElem hj] at hj2
  congr 1; exact Option.some.inj hj2
 have e3 : s.take j = s.take i ++ (s.take j).drop i := by
  have := List.take_append_drop i (s.take j); rw [List.take_take, Nat.min_eq_left (by omega)] at this
  exact this.symm
 have hil : i < (s.take j).length := by simp only [List.length_take]; omega
 have e4 : (s.take j).drop i = 40 :: (s.take j).drop (i + 1) := by
  rw [List.drop_eq_getElem_cons hil]
  congr 1
  have : (s.take j)[i]? = some 40 := by rw [List.getElem?_take, if_pos hij]; exact hi
  rw [List.getElem?_eq_getElem hil] at this
  exact Option.some.inj this
 have c1 := congrArg cnt e1; have c2 := congrArg cnt e2; have c3 := congrArg cnt e3; have c4 := congrArg cnt e4; rw [cnt_append] at c1 c3; rw [show (41 :: s.drop (j + 1) : List UInt8) = [41] ++ s.drop (j + 1) from rfl, cnt_append] at c2; rw [show (40 :: (s.take j).drop (i + 1) : List UInt8) = [40] ++ (s.take j).drop (i + 1) from rfl, cnt_append] at c4
 have c5 : cnt [41] = 1 := by decide
 have c6 : cnt [40] = 1 := by decide
 unfold without
 rw [cnt_append, cnt_append]
 omega
def dep : List UInt8 → Int
 | [] => 0
 | c :: r => (if c = 40 then 1 else if c = 41 then -1 else 0) + dep r
theorem dep_append : ∀ a b : List UInt8, dep (a ++ b) = dep a + dep b
 | [], b => by simp [dep]
 | c :: r, b => by simp only [List.cons_append, dep, dep_append r b]; omega
structure Bal (s : List UInt8) : Prop where
 tot : dep s = 0
 pre : ∀ k, 0 ≤ dep (s.take k)
theorem Bal.nil : Bal [] := ⟨rfl, fun k => by simp [dep]⟩
theorem Bal.append {a b : List UInt8} (h : Bal a) (k : Bal b) : Bal (a ++ b) := by
 refine ⟨by rw [dep_append, h.tot, k.tot]; rfl, fun n => ?_⟩; rw [List.take_append, dep_append]; have := h.pre n; have := k.pre (n - a.length)
 omega
theorem Bal.par {a : List UInt8} (h : Bal a) : Bal ([40] ++ a ++ [41]) := by
 refine ⟨by rw [dep_append, dep_append, h.tot]; decide, fun n => ?_⟩
 have h1 : dep [40] = 1 := by decide
 rw [List.append_assoc, List.take_append, dep_append, List.take_append, dep_append]
 rcases n with _ | n
 · simp [dep]
 · have e : ([40] : List UInt8).take (n + 1) = [40] := by simp [List.take_succ_cons]
   rw [e, h1]; have := h.pre (n + 1 - [40].length)
   have h41 : -1 ≤ dep (([41] : List UInt8).take (n + 1 - [40].length - a.length)) := by
    rcases (n + 1 - [40].length - a.length) with _ | k
    · decide
    · have : ([41] : List UInt8).take (k + 1) = [41] := by simp [List.take_succ_cons]
      rw [this]; decide
   omega
theorem dep_none : ∀ s : List UInt8, (∀ c ∈ s, c ≠ 40 ∧ c ≠ 41) → dep s = 0
 | [], _ => rfl
 | c :: r, h => by
  have hc := h c (by simp)
  rw [dep, if_neg hc.1, if_neg hc.2, dep_none r (fun d hd => h d (by simp [hd]))]; rfl
theorem Bal.none {s : List UInt8} (h : ∀ c ∈ s, c ≠ 40 ∧ c ≠ 41) : Bal s := ⟨dep_none s h, fun k => by rw [dep_none _ (fun c hc => h c (List.mem_of_mem_take hc))]; exact Int.le_refl _⟩
theorem name_chars {m : List UInt8} (h : isName m = true) : ∀ c ∈ m, wordish c = true := by
 obtain ⟨ht, hk⟩ := tokT_name h
 cases m with
 | nil => exact absurd rfl ht.ne
 | cons x r =>
  have hl := name_letter h x rfl; have hlen := ht.len; simp only [firstTok, hl, if_true, span] at hlen; have e := take_takeWhile wordish (x :: r); rw [hlen, List.take_length] at e; intro c hc; rw [e] at hc
  exact mem_takeWhile _ _ c hc
theorem wordish_np {c : UInt8} (h : wordish c = true) : c ≠ 40 ∧ c ≠ 41 := by
 constructor <;> (rintro rfl; revert h; decide)
theorem bal_name {m : List UInt8} (h : isName m = true) : Bal m := Bal.none (fun c hc => wordish_np (name_chars h c hc))
theorem Bal.wrap {a : List UInt8} (h : Bal a) (b : Bool) : Bal (wrap a b) := by
 unfold Bk.wrap
 cases b
 · exact h
 · exact h.par
theorem bal_symbol {k : Int} (h0 : 6 ≤ k) (h1 : k ≤ 23) : Bal (symbol k) := by
 have : k = 6 ∨ k = 7 ∨ k = 8 ∨ k = 9 ∨ k = 10 ∨ k = 11 ∨ k = 12 ∨ k = 13 ∨ k = 14 ∨ k = 15 ∨ k = 16 ∨ k = 17 ∨ k = 18 ∨ k = 19 ∨ k = 20 ∨ k = 21 ∨ k = 22 ∨ k = 23 := by omega
 rcases this with rfl | rfl | rfl | rfl | rfl | rfl | rfl | rfl | rfl | rfl | rfl | rfl | rfl | rfl | rfl | rfl | rfl | rfl <;> exact Bal.none (by decide)
theorem text_bal (N : Nat) : ∀ t : Nd, t.size < N → t.isExpr = true → Bal t.text := by
 induction N with
 | zero => intro t h; omega
 | succ N ih =>
  intro t hs he; obtain ⟨k, n, s, l⟩ := t; simp only [Nd.size] at hs
  unfold Nd.isExpr at he
  unfold Nd.text
  by_cases c1 : k = 1
  · rw [if_pos c1] at he ⊢
    simp only [Bool.and_eq_true, decide_eq_true_eq] at he; obtain ⟨h1, h2, h3⟩ := dec_val n.toNat; rw [itoa_dec he.1.1]
    exact Bal.none (fun c hc => wordish_np (by simp [wordish, h2 c hc]))
  rw [if_neg c1] at he ⊢
  by_cases c2 : k = 2
  · rw [if_pos (Or.inl c2)] at he
    rw [if_pos c2]; simp only [Bool.and_eq_true, named] at he
    exact bal_name he.1.2
  rw [if_neg c2]
  by_cases c4 : k = 4 ∨ k = 5
  · rw [if_pos (Or.inr c4)] at he
    simp only [Bool.and_eq_true, named] at he; have hn := bal_name he.1.2; rw [if_neg (by omega)]
    rcases c4 with c4 | c4
    · rw [if_pos c4]
      have : [116, 111, 112, 40] ++ s ++ [41] = [116, 111, 112] ++ ([40] ++ s ++ [41]) := by simp
      rw [this]
      exact (Bal.none (by decide)).append hn.par
    · rw [if_neg (by omega), if_pos c4]
      have : [115, 105, 122, 101, 40] ++ s ++ [41] = [115, 105, 122, 101] ++ ([40] ++ s ++ [41]) := by simp
      rw [this]
      exact (Bal.none (by decide)).append hn.par
  rw [if_neg (by omega)] at he
  by_cases c3 : k = 3
  · rw [if_pos c3] at he ⊢
    simp only [Bool.and_eq_true, named] at he; obtain ⟨⟨-, hn⟩, hx⟩ := he
    split at hx
    · rename_i x
      simp only [rowSize] at hs
      exact (((bal_name hn).append (Bal.none (by decide))).append (ih x (by omega) hx)).append (Bal.none (by decide))
    · cases hx
  rw [if_neg c3] at he ⊢; rw [if_neg (by omega), if_neg (by omega)]
  by_cases c6 : k = 6 ∨ k = 7
  · rw [if_pos c6] at he ⊢
    simp only [Bool.and_eq_true] at he; obtain ⟨-, hx⟩ := he
    split at hx
    · rename_i x
      simp only [rowSize] at hs
      exact (bal_symbol (by omega) (by omega)).append ((ih x (by omega) hx).wrap _)
    · cases hx
  rw [if_neg c6] at he ⊢
  by_cases c8 : 8 ≤ k ∧ k ≤ 23
  · rw [if_pos c8] at he
    simp only [Bool.and_eq_true] at he; obtain ⟨-, hx⟩ := he
    split at hx
    · rename_i x y
      simp only [rowSize] at hs; simp only [Bool.and_eq_true] at hx
      exact (((((ih x (by omega) hx.1).wrap _).append (Bal.none (by decide))).append (bal_symbol (by omega) (by omega))).append (Bal.none (by decide))).append ((ih y (by omega) hx.2).wrap _)
    · cases hx
  · rw [if_neg c8] at he; cases he
end Bk
namespace Bk
theorem rem_known {a b c : Int} (h : a % b = c) (h0 : 0 ≤ a) : a.tmod b = c := by rw [Int.tmod_eq_emod_of_nonneg h0]; exact h
end Bk
namespace Bk
open Go Go.RowKit Go.Proofs
attribute [local irreducible] Go.Calls
def natShape : Shape Nat where
 sz := 1
 rep := fun _ _ v cs => cs = [.int .i64 (v : Int)]
 len := fun h => by rw [h]; rfl
 one := fun h => by rw [h]; rfl
 mono := fun h _ _ => h
 lt := fun h => h
theorem isExprE_v {t : Nd} (hz : t.size ≤ 200) (u : Nd) (S S' : Nat → Prop) (a a' : Option Addr) (c c' : Nat) (w : World) (hs : t.sits S w a) (hs' : u.sits S' w a') : Calls Tryz.prog 13 #[t.val a c, u.val a' c'] w fun e w' => e = .returned (.bool (t.eqb u)) ∧ Ext w w' :=
 Equal_b (t.size + 1) t u S S' a a' c c' w (by omega) (by omega) hs hs'
mutual
theorem rowSits_ltB {S : Nat → Prop} {w : World} : ∀ (l : List Nd) (a : Option Addr), rowSits S w l a → rowSits (fun b => S b ∧ b < w.heap.size) w l a
 | [], _, _ => by simp [rowSits]
 | t :: r, a, h => by
  simp only [rowSits] at h ⊢; obtain ⟨b, o, a', c, rfl, hb, h0, h1, h2, h3, hs, hr⟩ := h
  exact ⟨b, o, a', c, rfl, ⟨hb, cell_lt h0⟩, h0, h1, h2, h3, sits_ltB t a' hs, rowSits_ltB r _ hr⟩
theorem sits_ltB {S : Nat → Prop} {w : World} : ∀ (t : Nd) (a : Option Addr), t.sits S w a → t.sits (fun b => S b ∧ b < w.heap.size) w a
 | .mk _ _ _ l, a, h => by
  simp only [Nd.sits] at h ⊢
  exact rowSits_ltB l a h
end
def ParseL (w : World) (r : Nd × Int × Int) : Ending → World → Prop := fun e w' => ∃ a k, e = .returned (.tuple #[r.1.val a k, .int .i64 r.2.1, .int .i64 r.2.2]) ∧ r.1.sits (fun b => w.heap.size ≤ b ∧ b < w'.heap.size) w' a ∧ Ext w w'
theorem ParseL.ret {w : World} {r : Nd × Int × Int} {e : Ending} {w' : World} (h : ParseL w r e w') : ∃ v, e = .returned v := by
 obtain ⟨_, _, h, -⟩ := h
 exact ⟨_, h⟩
theorem parseL_of (s : List UInt8) (w : World) (hl : s.length ≤ 1000000) (hS : Syms w) (hE : Errs w) : Calls Tryz.prog 12 #[str s] w (ParseL w (parseExpr s)) := by
 refine (Expr_p s w hl hS hE).mono ?_; rintro e w' ⟨a, k, he, hs, x⟩
 exact ⟨a, k, he, sits_ltB _ _ hs, x⟩
theorem dep_snoc (T : List UInt8) (i j : Nat) (hij : i ≤ j) {c : UInt8} (hc : T[j]? = some c) : dep ((T.take (j + 1)).drop i) = dep ((T.take j).drop i) + (if c = 40 then 1 else if c = 41 then -1 else 0) := by
 have hj : j < T.length := by
  rcases Nat.lt_or_ge j T.length with h | h
  · exact h
  · rw [List.getElem?_eq_none h] at hc; cases hc
 rw [List.take_add_one, hc]; rw [List.drop_append_of_le_length (by simp only [List.length_take]; omega), dep_append]
 simp [dep]
theorem dep_end {T : List UInt8} (hb : Bal T) (i : Nat) : dep ((T.take T.length).drop i) ≤ 0 := by
 rw [List.take_length]; have h := congrArg dep (List.take_append_drop i T); rw [dep_append, hb.tot] at h; have := hb.pre i
 omega
theorem without_len (T : List UInt8) (i j : Nat) : (without T i j).length ≤ 2 * T.length := by
 unfold without
 simp only [List.length_append, List.length_take, List.length_drop]; omega
set_option maxRecDepth 100000 in
set_option maxHeartbeats 40000000 in
theorem PrinterFewest_c (t : Nd) (a : Option Addr) (c : Nat) (which : Int) (w : World) (hwf : t.wf) (S : Nat → Prop) (hs : t.sits S w a) (hk0 : 0 ≤ which) (hk1 : which ≤ 255) (ht : Tabs5 w) (hS : Syms w) (hE : Errs w) :
 Calls Tryz.prog 4 #[t.val a c, .int .u8 which] w fun e w' => e = .returned (.bool true) ∧ Ext w w' := by
 have X := Ext.refl w
 cases hg : (t.small 24 200).1
 · have HG := Lib.hid (great_y hwf hg)
   clear hg hwf; refine calls_in Tryz.func4 Tryz.ntmps4 rfl rfl ?_
   focus
    refine cS ?_; (refine lw_box' [_, _, _, _] rfl rfl rfl ?_; intro b1 w2 n3); have h4 := n3.blk; have x5 := n3.ext; have p6 := n3.pos; have z7 := n3.size; clear n3; replace hs := Nd.sits.ext hs x5; replace ht := ht.ext x5; replace hS := hS.ext x5; replace hE := hE.ext x5; replace X := X.ext x5; clear x5; refine cA rfl rfl (cT (cw_seq (cS ?_))); refine cC (by kernel_rfl) rfl (awake5_c _ (Tabs5.t (by assumption)) (Tabs5.g (by assumption))) rfl ?_; rintro _ w9 ⟨⟨⟩, x8⟩; have z10 := x8.size; replace h4 := h4.ext x8; replace hs := Nd.sits.ext hs x8; replace ht := ht.ext x8; replace hS := hS.ext x8; replace hE := hE.ext x8; replace X := X.ext x8; clear x8; refine lw_pure (pur_not rfl) rfl (cT (cw_cond_f rfl (cw_skip (qw_then (cw_seq (cS (lw_loads_b' [_, _, _, _] tabOk rfl rfl rfl h4 rfl rfl rfl ?_))))))); refine cC (by kernel_rfl) rfl (HG.out _ _ _ _ (by assumption)) rfl ?_; rintro _ w12 ⟨⟨⟩, x11⟩; have z13 := x11.size; replace h4 := h4.ext x11; replace hs := Nd.sits.ext hs x11; replace ht := ht.ext x11; replace hS := hS.ext x11; replace hE := hE.ext x11; replace X := X.ext x11; clear x11; refine cM rfl rfl (lw_off rfl rfl rfl (rfl) rfl (lw_off rfl rfl rfl (rfl) rfl (lw_off rfl rfl rfl (rfl) rfl (lw_pure (pur_pick_t rfl rfl rfl) rfl (cT (cw_cond_t rfl (cS (cA rfl rfl (cT (cw_ret (qw_then_ret ?_))))))))))); refine qw_ret1 rfl rfl ?_; rotate_left 1
   exact ⟨rfl, X⟩
 cases he : t.isExpr
 · have HG := Lib.hid (great_n hwf hg)
   have HI := Lib.hid (isExpr_v hwf he); clear hg hwf he; refine calls_in Tryz.func4 Tryz.ntmps4 rfl rfl ?_
   focus
    refine cS ?_; (refine lw_box' [_, _, _, _] rfl rfl rfl ?_; intro ba1 wa2 na3); have ha4 := na3.blk; have xa5 := na3.ext; have pa6 := na3.pos; have za7 := na3.size; clear na3; replace hs := Nd.sits.ext hs xa5; replace ht := ht.ext xa5; replace hS := hS.ext xa5; replace hE := hE.ext xa5; replace X := X.ext xa5; clear xa5; refine cA rfl rfl (cT (cw_seq (cS ?_))); refine cC (by kernel_rfl) rfl (awake5_c _ (Tabs5.t (by assumption)) (Tabs5.g (by assumption))) rfl ?_; rintro _ wa9 ⟨⟨⟩, xa8⟩; have za10 := xa8.size; replace ha4 := ha4.ext xa8; replace hs := Nd.sits.ext hs xa8; replace ht := ht.ext xa8; replace hS := hS.ext xa8; replace hE := hE.ext xa8; replace X := X.ext xa8; clear xa8; refine lw_pure (pur_not rfl) rfl (cT (cw_cond_f rfl (cw_skip (qw_then (cw_seq (cS (lw_loads_b' [_, _, _, _] tabOk rfl rfl rfl ha4 rfl rfl rfl ?_))))))); refine cC (by kernel_rfl) rfl (HG.out _ _ _ _ (by assumption)) rfl ?_; rintro _ wa12 ⟨⟨⟩, xa11⟩; have za13 := xa11.size; replace ha4 := ha4.ext xa11; replace hs := Nd.sits.ext hs xa11; replace ht := ht.ext xa11; replace hS := hS.ext xa11; replace hE := hE.ext xa11; replace X := X.ext xa11; clear xa11; refine cM rfl rfl (lw_on rfl rfl rfl (rfl) (lw_loads_b' [_, _, _, _] tabOk rfl rfl rfl ha4 rfl rfl rfl (lw_on rfl rfl rfl (rfl) ?_))); refine cC (by kernel_rfl) rfl (HI.out _ _ _ _ (by assumption)) rfl ?_; rintro _ wa15 ⟨⟨⟩, xa14⟩; have za16 := xa14.size; replace ha4 := ha4.ext xa14; replace hs := Nd.sits.ext hs xa14; replace ht := ht.ext xa14; replace hS := hS.ext xa14
    replace hE := hE.ext xa14; replace X := X.ext xa14; clear xa14; refine lw_on rfl rfl rfl (rfl) (lw_pure (pur_not rfl) rfl (lw_pure (pur_pick_f rfl rfl rfl) rfl (cT (cw_cond_t rfl (cS (cA rfl rfl (cT (cw_ret (qw_then_ret (qw_ret1 rfl rfl ?_)))))))))); rotate_left 1
   exact ⟨rfl, X⟩
 · obtain ⟨hz, hd, hl⟩ := small_facts hwf hg he
   have HG := Lib.hid (great_n hwf hg); have HI := Lib.hid (isExpr_v hwf he); have HP := Lib.hid (pExpr_v hwf he hz); have HQ := Lib.hid (isExprE_v hz); have hbal := text_bal (t.size + 1) t (by omega) he
   have hfew : ∀ i j, i < j → j < t.text.length → t.text[i]? = some 40 → t.text[j]? = some 41 → (parseExpr (without t.text i j)).2.2 = 0 → t.eqb (parseExpr (without t.text i j)).1 = false := fun i j h1 h2 h3 h4 h5 => by
    cases hq : t.eqb (parseExpr (without t.text i j)).1
    · rfl
    · exfalso
      have := without_len t.text i j
      exact fewest he (by omega) (by have := without_cnt h1 h2 h3 h4; omega) ⟨h5, ((eqb_iff _ _).1 hq).symm⟩
   clear hg hwf he hd
   generalize t.text = T at *
   have HF := Lib.hid hfew; clear hfew
   have HB := Lib.hid hbal; clear hbal
   refine calls_in Tryz.func4 Tryz.ntmps4 rfl rfl ?_
   focus
    refine cS ?_; (refine lw_box' [_, _, _, _] rfl rfl rfl ?_; intro bb1 wb2 nb3); have hb4 := nb3.blk; have xb5 := nb3.ext; have pb6 := nb3.pos; have zb7 := nb3.size; clear nb3; replace hs := Nd.sits.ext hs xb5; replace ht := ht.ext xb5; replace hS := hS.ext xb5; replace hE := hE.ext xb5; replace X := X.ext xb5; clear xb5; refine cA rfl rfl (cT (cw_seq (cS ?_))); refine cC (by kernel_rfl) rfl (awake5_c _ (Tabs5.t (by assumption)) (Tabs5.g (by assumption))) rfl ?_; rintro _ wb9 ⟨⟨⟩, xb8⟩; have zb10 := xb8.size; replace hb4 := hb4.ext xb8; replace hs := Nd.sits.ext hs xb8; replace ht := ht.ext xb8; replace hS := hS.ext xb8; replace hE := hE.ext xb8; replace X := X.ext xb8; clear xb8; refine lw_pure (pur_not rfl) rfl (cT (cw_cond_f rfl (cw_skip (qw_then (cw_seq (cS (lw_loads_b' [_, _, _, _] tabOk rfl rfl rfl hb4 rfl rfl rfl ?_))))))); refine cC (by kernel_rfl) rfl (HG.out _ _ _ _ (by assumption)) rfl ?_; rintro _ wb12 ⟨⟨⟩, xb11⟩; have zb13 := xb11.size; replace hb4 := hb4.ext xb11; replace hs := Nd.sits.ext hs xb11; replace ht := ht.ext xb11; replace hS := hS.ext xb11; replace hE := hE.ext xb11; replace X := X.ext xb11; clear xb11; refine cM rfl rfl (lw_on rfl rfl rfl (rfl) (lw_loads_b' [_, _, _, _] tabOk rfl rfl rfl hb4 rfl rfl rfl (lw_on rfl rfl rfl (rfl) ?_))); refine cC (by kernel_rfl) rfl (HI.out _ _ _ _ (by assumption)) rfl ?_; rintro _ wb15 ⟨⟨⟩, xb14⟩; have zb16 := xb14.size; replace hb4 := hb4.ext xb14; replace hs := Nd.sits.ext hs xb14; replace ht := ht.ext xb14; replace hS := hS.ext xb14
    replace hE := hE.ext xb14; replace X := X.ext xb14; clear xb14; refine lw_on rfl rfl rfl (rfl) (lw_pure (pur_not rfl) rfl (lw_pure (pur_pick_f rfl rfl rfl) rfl (cT (cw_cond_f rfl (cw_skip (qw_then (cS (lw_loads_b' [_, _, _, _] tabOk rfl rfl rfl hb4 rfl rfl rfl ?_)))))))); refine cC (by kernel_rfl) rfl (HP.out _ _ _ _ (by assumption) (by assumption)) rfl ?_; rintro _ wb18 ⟨⟨⟩, xb17⟩; have zb19 := xb17.size; replace hb4 := hb4.ext xb17; replace hs := Nd.sits.ext hs xb17; replace ht := ht.ext xb17; replace hS := hS.ext xb17; replace hE := hE.ext xb17; replace X := X.ext xb17; clear xb17; refine cM rfl rfl (lw_pure (pur_extract rfl rfl) rfl (lw_pure (pur_extract rfl rfl) rfl (cA rfl rfl (cA rfl rfl (cT (cw_seq (cS (cM rfl rfl (lw_pure (pur_neq rfl rfl) rfl (cT ?_)))))))))); refine cw_no rfl (by decide) ?_; refine cw_skip (qw_then (cS (cA rfl rfl (cT (cw_seq (cS (cM rfl rfl (lw_pure (pur_len_s tabOk rfl rfl) rfl (cM rfl rfl (cT (cw_block ?_))))))))))); rotate_left 1
   clear HG HI HP ht; replace hs := sits_ltA _ _ hs; have hge := hE.lt; have hgs := hS.lt; have hbb : bb1 < wb18.heap.size := cell_lt (Row.at0 hb4.row rfl); refine cw_loop (ι := Nat × List Nat × Option Addr × Nat) (fun x => [(1, .int .u8 which), (2, .pointer (some ⟨bb1, 0, none⟩)), (5, str T), (7, .slice x.2.2.1 x.2.1.length x.2.2.2), (32, .int .i64 T.length), (33, .int .i64 x.1)])
    (fun x w' => OwnL natShape w' wb18.heap.size 3 (.slice x.2.2.1 x.2.1.length x.2.2.2) x.2.1 ∧ x.1 ≤ T.length ∧ x.2.1.length ≤ x.1 ∧ (∀ y ∈ x.2.1, T[y]? = some 40) ∧ Blk w' bb1 [.int .u8 t.kind, .int .i64 t.num, str t.name, .slice a t.kids.length c] ∧ t.sits (· < wb18.heap.size) w' a ∧ Syms w' ∧ Errs w' ∧ Ext w w' ∧ wb18.heap.size ≤ w'.heap.size)
    (fun x => T.length - x.1) (0, [], none, 0) (by (refine sub_cons rfl ?_; refine sub_cons rfl ?_; refine sub_cons rfl ?_; refine sub_cons rfl ?_; refine sub_cons rfl ?_; refine sub_cons rfl ?_; exact sub_nil)) ⟨OwnL.nil, Nat.zero_le _, Nat.le_refl _, by simp, hb4, hs, hS, hE, X, Nat.le_refl _⟩ ?_
   clear hb4 hs hS hE X; rintro ⟨j, xs, xa, xc⟩ w1 ⟨hown, hj, hxl, hxs, hb, hs, hS, hE, X, hz2⟩; simp only at hown hj hxl hxs; have hg1 := hS.lt; have hg2 := hE.lt; refine CW.sub (m := [(1, .int .u8 which), (2, .pointer (some ⟨bb1, 0, none⟩)), (5, str T), (7, .slice xa xs.length xc), (32, .int .i64 T.length), (33, .int .i64 j)]) ?_ (by (refine sub_cons rfl ?_; refine sub_cons rfl ?_; refine sub_cons rfl ?_; refine sub_cons rfl ?_; refine sub_cons rfl ?_; refine sub_cons rfl ?_; exact sub_nil))
   by_cases hlt : j < T.length
   · obtain ⟨ch, hch⟩ : ∃ ch, T[j]? = some ch := ⟨_, List.getElem?_eq_getElem hlt⟩
     by_cases h40 : (ch.toNat : Int) = 40
     · have hch40 : T[j]? = some 40 := by
        have : ch = 40 := UInt8.toNat_inj.1 (by have : (40 : UInt8).toNat = 40 := rfl; omega); rw [hch, this]
       have hxs2 : ∀ y ∈ xs ++ [j], T[y]? = some 40 := fun y hy => by
        rcases List.mem_append.1 hy with hy | hy
        · exact hxs y hy
        · have : y = j := by simpa using hy
          rw [this]; exact hch40
       by_cases hj0 : j = 0
       · focus
          refine cS (lw_pure (pur_lss rfl rfl) rfl (cT (cw_seq ?_))); refine cw_yes rfl (by omega) ?_; refine cw_skip (qw_then (cw_seq (cw_block (cS (cM rfl rfl (cA rfl rfl (cN (cM rfl rfl (cM rfl rfl ?_))))))))); refine lw_pure (pur_sindex tabOk rfl rfl rfl (by omega) (by assumption)) rfl ?_; refine lw_pure (pur_eql rfl rfl) rfl (cM rfl rfl ?_); refine lw_on rfl rfl rfl (gd_tt (by decide)) ?_; refine cM rfl rfl ?_; refine lw_on rfl rfl rfl (gd_tt (by decide)) ?_; refine lw_pure (pur_eql rfl rfl) rfl ?_; refine lw_on rfl rfl rfl (gd_tt (by decide)) ?_; refine cM rfl rfl ?_; refine lw_off rfl rfl rfl (gd_ft (by omega)) rfl ?_; refine lw_off rfl rfl rfl (gd_ft (by omega)) rfl ?_; refine lw_off rfl rfl rfl (gd_ft (by omega)) rfl ?_; refine lw_off rfl rfl rfl (gd_ft (by omega)) rfl ?_; refine lw_off rfl rfl rfl (gd_ft (by omega)) rfl ?_; refine lw_off rfl rfl rfl (gd_ft (by omega)) rfl ?_; refine lw_off_u rfl rfl rfl rfl (lw_off_u rfl rfl rfl rfl (lw_off_u rfl rfl rfl rfl (lw_off_u rfl rfl rfl rfl (lw_off_u rfl rfl rfl rfl ?_)))); refine lw_off rfl rfl rfl (gd_ft (by omega)) rfl ?_; refine lw_on rfl rfl rfl (gd_tt (by decide)) ?_; refine lw_pure (pur_pick_yes rfl rfl (by omega)) rfl ?_; refine lw_pure (pur_pick_yes rfl rfl (by decide)) rfl ?_; refine cT (cw_cond_t rfl (cw_region (cM rfl rfl (cM rfl rfl ?_)))); (refine lw_does (does_slice' [_] tabOk zOk rfl rfl rfl rfl rfl rfl rfl rfl rfl) rfl ?_ (fun _ h => h); rintro _ wc2 ⟨bc1, rfl, nc3, tc4⟩); clear tc4; have hc5 := nc3.blk; have xc6 := nc3.ext
          have pc7 := nc3.pos; have zc8 := nc3.size; clear nc3; replace hown := hown.ext xc6; replace hb := hb.ext xc6; replace hs := Nd.sits.ext hs xc6; replace hS := hS.ext xc6; replace hE := hE.ext xc6; replace X := X.ext xc6; clear xc6; refine lw_appendL (sh := natShape) (z := j) tabOk zOk rfl rfl rfl rfl (by kernel_rfl) rfl rfl rfl hown (Blk.row (by assumption)) rfl (by omega) (by omega) rfl ?_; rintro gc9 cap'c10 wc11 hc12 fc13; have zc14 := fc13.size; clear hc5 hown; replace hb := hb.fr fc13 (by omega); replace hs := Nd.sits.fr hs fc13 (fun k hk e => by omega); replace hS := hS.fr fc13 (by omega); replace hE := hE.fr fc13 (by omega); replace X := X.fr fc13 (by omega); clear fc13; refine cA rfl rfl (lw_nil (qw_block_norm (qw_then (cw_region ?_)))); refine lw_pure (pur_add rfl rfl (IntWalk.i64_in _ (by omega))) rfl ?_; refine cM rfl rfl (lw_nil ?_); rotate_left 1
         refine qw_round (j + 1, xs ++ [j], some ⟨_, 0, none⟩, _) (by (refine sub_cons rfl ?_; refine sub_cons rfl ?_; refine sub_cons rfl ?_; refine sub_cons rfl ?_; refine sub_cons rfl ?_; refine sub_cons rfl ?_; exact sub_nil)) ⟨by assumption, by simp only; omega, by simp only [List.length_append, List.length_cons, List.length_nil]; omega, hxs2, hb, hs, hS, hE, X, by omega⟩ (by simp only; omega)
       · obtain ⟨c2, hc2⟩ : ∃ c2, T[((j : Int) - 1).toNat]? = some c2 := ⟨_, List.getElem?_eq_getElem (by omega)⟩
         focus
          refine cS (lw_pure (pur_lss rfl rfl) rfl (cT (cw_seq ?_))); refine cw_yes rfl (by omega) ?_; refine cw_skip (qw_then (cw_seq (cw_block (cS (cM rfl rfl (cA rfl rfl (cN (cM rfl rfl (cM rfl rfl ?_))))))))); refine lw_pure (pur_sindex tabOk rfl rfl rfl (by omega) (by assumption)) rfl ?_; refine lw_pure (pur_eql rfl rfl) rfl (cM rfl rfl ?_); refine lw_on rfl rfl rfl (gd_tt (by decide)) ?_; refine cM rfl rfl ?_; refine lw_on rfl rfl rfl (gd_tt (by decide)) ?_; refine lw_pure (pur_eql rfl rfl) rfl ?_; refine lw_on rfl rfl rfl (gd_tt (by decide)) ?_; refine cM rfl rfl ?_; refine lw_on rfl rfl rfl (gd_ff (by omega)) ?_; refine cM rfl rfl ?_; refine lw_on rfl rfl rfl (gd_ff (by omega)) ?_; refine cM rfl rfl ?_; refine lw_on rfl rfl rfl (gd_ff (by omega)) ?_; refine lw_pure (pur_sub rfl rfl (IntWalk.i64_in _ (by omega))) rfl ?_; refine lw_on rfl rfl rfl (gd_ff (by omega)) ?_; refine lw_pure (pur_sindex tabOk rfl rfl rfl (by omega) (by assumption)) rfl ?_; refine lw_on rfl rfl rfl (gd_ff (by omega)) ?_; refine lw_pure (pur_neq rfl rfl) rfl ?_; refine lw_on rfl rfl rfl (gd_ff (by omega)) ?_; refine cM rfl rfl ?_; refine lw_dec rfl rfl rfl (fun cd1 => ?_) (fun cd1 => ?_); refine lw_on rfl rfl rfl (gd_tt (by assumption)) ?_; refine cM rfl rfl ?_; refine lw_on rfl rfl rfl (gd_tt (by assumption)) ?_; refine cM rfl rfl ?_; refine lw_on rfl rfl rfl (gd_tt (by assumption)) ?_; refine lw_pure (pur_sub rfl rfl (IntWalk.i64_in _ (by omega))) rfl ?_; refine lw_on rfl rfl rfl (gd_tt (by assumption)) ?_
          refine lw_pure (pur_sindex tabOk rfl rfl rfl (by omega) (by assumption)) rfl ?_; refine lw_on rfl rfl rfl (gd_tt (by assumption)) ?_; refine lw_pure (pur_neq rfl rfl) rfl ?_; refine lw_on rfl rfl rfl (gd_ff (by omega)) ?_; refine lw_pure (pur_pick_yes rfl rfl (by assumption)) rfl ?_; refine lw_on rfl rfl rfl (gd_tt (by decide)) ?_; refine lw_pure (pur_pick_no rfl rfl (by omega)) rfl ?_; refine lw_pure (pur_pick_yes rfl rfl (by decide)) rfl ?_; refine cT ?_; refine cw_decn rfl (fun cd2 => ?_) (fun cd2 => ?_); refine cw_region (cM rfl rfl (cM rfl rfl ?_)); (refine lw_does (does_slice' [_] tabOk zOk rfl rfl rfl rfl rfl rfl rfl rfl rfl) rfl ?_ (fun _ h => h); rintro _ wd4 ⟨bd3, rfl, nd5, td6⟩); clear td6; have hd7 := nd5.blk; have xd8 := nd5.ext; have pd9 := nd5.pos; have zd10 := nd5.size; clear nd5; replace hown := hown.ext xd8; replace hb := hb.ext xd8; replace hs := Nd.sits.ext hs xd8; replace hS := hS.ext xd8; replace hE := hE.ext xd8; replace X := X.ext xd8; clear xd8; refine lw_appendL (sh := natShape) (z := j) tabOk zOk rfl rfl rfl rfl (by kernel_rfl) rfl rfl rfl hown (Blk.row (by assumption)) rfl (by omega) (by omega) rfl ?_; rintro gd11 cap'd12 wd13 hd14 fd15; have zd16 := fd15.size; clear hd7 hown; replace hb := hb.fr fd15 (by omega); replace hs := Nd.sits.fr hs fd15 (fun k hk e => by omega); replace hS := hS.fr fd15 (by omega); replace hE := hE.fr fd15 (by omega); replace X := X.fr fd15 (by omega); clear fd15; refine cA rfl rfl (lw_nil (qw_block_norm (qw_then (cw_region ?_))))
          refine lw_pure (pur_add rfl rfl (IntWalk.i64_in _ (by omega))) rfl ?_; refine cM rfl rfl (lw_nil ?_); rotate_left 1; refine cw_skip (qw_block_norm (qw_then (cw_region ?_))); refine lw_pure (pur_add rfl rfl (IntWalk.i64_in _ (by omega))) rfl ?_; refine cM rfl rfl (lw_nil ?_); rotate_left 1; refine lw_off rfl rfl rfl (gd_tf (by assumption)) rfl ?_; refine lw_off rfl rfl rfl (gd_tf (by assumption)) rfl ?_; refine lw_off rfl rfl rfl (gd_tf (by assumption)) rfl ?_; refine lw_off rfl rfl rfl (gd_tf (by assumption)) rfl ?_; refine lw_off rfl rfl rfl (gd_tf (by assumption)) rfl ?_; refine lw_on rfl rfl rfl (gd_ff (by omega)) ?_; refine lw_pure (pur_pick_no rfl rfl (by assumption)) rfl ?_; refine lw_on rfl rfl rfl (gd_tt (by decide)) ?_; refine lw_pure (pur_pick_no rfl rfl (by omega)) rfl ?_; refine lw_pure (pur_pick_yes rfl rfl (by decide)) rfl ?_; refine cT (cw_cond_f rfl (cw_skip (qw_block_norm (qw_then (cw_region ?_))))); refine lw_pure (pur_add rfl rfl (IntWalk.i64_in _ (by omega))) rfl ?_; refine cM rfl rfl (lw_nil ?_); rotate_left 1
         · refine qw_round (j + 1, xs ++ [j], some ⟨_, 0, none⟩, _) (by (refine sub_cons rfl ?_; refine sub_cons rfl ?_; refine sub_cons rfl ?_; refine sub_cons rfl ?_; refine sub_cons rfl ?_; refine sub_cons rfl ?_; exact sub_nil)) ⟨by assumption, by simp only; omega, by simp only [List.length_append, List.length_cons, List.length_nil]; omega, hxs2, hb, hs, hS, hE, X, by omega⟩ (by simp only; omega)
         · refine qw_round (j + 1, xs, xa, xc) (by (refine sub_cons rfl ?_; refine sub_cons rfl ?_; refine sub_cons rfl ?_; refine sub_cons rfl ?_; refine sub_cons rfl ?_; refine sub_cons rfl ?_; exact sub_nil)) ⟨by assumption, by simp only; omega, by simp only; omega, hxs, hb, hs, hS, hE, X, by omega⟩ (by simp only; omega)
         · refine qw_round (j + 1, xs, xa, xc) (by (refine sub_cons rfl ?_; refine sub_cons rfl ?_; refine sub_cons rfl ?_; refine sub_cons rfl ?_; refine sub_cons rfl ?_; refine sub_cons rfl ?_; exact sub_nil)) ⟨by assumption, by simp only; omega, by simp only; omega, hxs, hb, hs, hS, hE, X, by omega⟩ (by simp only; omega)
     · focus
        refine cS (lw_pure (pur_lss rfl rfl) rfl (cT (cw_seq ?_))); refine cw_yes rfl (by omega) ?_; refine cw_skip (qw_then (cw_seq (cw_block (cS (cM rfl rfl (cA rfl rfl (cN (cM rfl rfl (cM rfl rfl ?_))))))))); refine lw_pure (pur_sindex tabOk rfl rfl rfl (by omega) (by assumption)) rfl ?_; refine lw_pure (pur_eql rfl rfl) rfl (cM rfl rfl ?_); refine lw_off rfl rfl rfl (gd_tf (by assumption)) rfl ?_; refine lw_off rfl rfl rfl (gd_tf (by assumption)) rfl ?_; refine lw_off rfl rfl rfl (gd_tf (by assumption)) rfl ?_; refine lw_off_u rfl rfl rfl rfl (lw_off_u rfl rfl rfl rfl (lw_off_u rfl rfl rfl rfl (lw_off_u rfl rfl rfl rfl (lw_off_u rfl rfl rfl rfl (lw_off_u rfl rfl rfl rfl (lw_off_u rfl rfl rfl rfl (lw_off_u rfl rfl rfl rfl (lw_off_u rfl rfl rfl rfl (lw_off_u rfl rfl rfl rfl (lw_off_u rfl rfl rfl rfl (lw_off_u rfl rfl rfl rfl ?_))))))))))); refine lw_off rfl rfl rfl (gd_tf (by assumption)) rfl ?_; refine lw_pure (pur_pick_no rfl rfl (by assumption)) rfl ?_; refine cT (cw_cond_f rfl (cw_skip (qw_block_norm (qw_then (cw_region ?_))))); refine lw_pure (pur_add rfl rfl (IntWalk.i64_in _ (by omega))) rfl ?_; refine cM rfl rfl (lw_nil ?_); rotate_left 1
       refine qw_round (j + 1, xs, xa, xc) (by (refine sub_cons rfl ?_; refine sub_cons rfl ?_; refine sub_cons rfl ?_; refine sub_cons rfl ?_; refine sub_cons rfl ?_; refine sub_cons rfl ?_; exact sub_nil)) ⟨by assumption, by simp only; omega, by simp only; omega, hxs, hb, hs, hS, hE, X, by omega⟩ (by simp only; omega)
   · obtain rfl : j = T.length := by omega
     by_cases hx0 : xs.length = 0
     · focus
        refine cS (lw_pure (pur_lss rfl rfl) rfl (cT (cw_seq ?_))); refine cw_no rfl (by omega) ?_; refine cw_exit (qw_then_exit (qw_then_exit (qw_block_exit (qw_then (cw_seq (cS (cM rfl rfl (lw_pure (pur_len_slice tabOk rfl rfl) rfl (lw_pure (pur_eql rfl rfl) rfl (cT ?_)))))))))); refine cw_yes rfl (by omega) ?_; refine cS (cA rfl rfl (cT (cw_ret (qw_then_ret (qw_ret1 rfl rfl ?_))))); rotate_left 1
       exact ⟨rfl, X⟩
     · obtain ⟨gg, cap', hv, hgB, hrows⟩ := hown.rows (by intro e; rw [e] at hx0; simp at hx0)
       simp only [Value.slice.injEq] at hv; obtain ⟨rfl, -, rfl⟩ := hv; obtain ⟨m, hm⟩ : ∃ m : Nat, which % (xs.length : Int) = (m : Int) := ⟨(which % (xs.length : Int)).toNat, by have := Int.emod_nonneg which (show (xs.length : Int) ≠ 0 by omega); omega⟩
       have hm1 : m < xs.length := by have := Int.emod_lt_of_pos which (show (0 : Int) < (xs.length : Int) by omega); omega
       obtain ⟨cs, hr0, hcs⟩ := hrows m xs[m] (List.getElem?_eq_getElem hm1); have hi0 := hxs xs[m] (List.getElem_mem hm1)
       have hr : Row w1 ⟨gg, 0 + m * 1, none⟩ [.int .i64 (xs[m] : Int)] := by
        rw [Nat.zero_add]; have e : cs = [.int .i64 (xs[m] : Int)] := hcs
        rw [e] at hr0; exact hr0
       clear hrows hr0 hcs hown hxs
       generalize xs[m] = i0 at *
       have hi1 : i0 < T.length := by
        rcases Nat.lt_or_ge i0 T.length with h | h
        · exact h
        · rw [List.getElem?_eq_none h] at hi0; cases hi0
       focus
        refine cS (lw_pure (pur_lss rfl rfl) rfl (cT (cw_seq ?_))); refine cw_no rfl (by omega) ?_; refine cw_exit (qw_then_exit (qw_then_exit (qw_block_exit (qw_then (cw_seq (cS (cM rfl rfl (lw_pure (pur_len_slice tabOk rfl rfl) rfl (lw_pure (pur_eql rfl rfl) rfl (cT ?_)))))))))); refine cw_no rfl (by omega) ?_; refine cw_skip (qw_then (cS (cM rfl rfl (cM rfl rfl ?_)))); refine lw_pure (pur_conv tabOk rfl rfl rfl (IntWalk.i64_in _ (by omega))) rfl ?_; refine cM rfl rfl (lw_pure (pur_len_slice tabOk rfl rfl) rfl ?_); refine lw_pure (pur_rem rfl rfl (by omega) (rem_known (by assumption) (by omega))) rfl ?_; refine lw_pure (pur_indexAddr tabOk rfl rfl rfl rfl (by omega) (by omega)) rfl ?_; refine lw_load_r0 tabOk rfl rfl rfl hr rfl rfl (cA rfl rfl (cN (cM rfl rfl (cA rfl rfl (cA rfl rfl (cT (cw_seq (cw_block ?_)))))))); rotate_left 1
       refine cw_loop (ι := Nat × Int) (fun x => [(2, .pointer (some ⟨bb1, 0, none⟩)), (5, str T), (9, .int .i64 (i0 : Int)), (10, .int .i64 x.2), (11, .int .i64 x.1)])
        (fun x w' => i0 ≤ x.1 ∧ x.1 ≤ T.length ∧ x.2 = dep ((T.take x.1).drop i0) ∧ (i0 < x.1 → 1 ≤ x.2) ∧ x.2 ≤ x.1 ∧ 0 ≤ x.2 ∧ w1 = w') (fun x => T.length - x.1) (i0, 0) (by (refine sub_cons rfl ?_; refine sub_cons rfl ?_; refine sub_cons rfl ?_; refine sub_cons rfl ?_; refine sub_cons rfl ?_; exact sub_nil)) ⟨Nat.le_refl _, by simp only; omega, by simp only; rw [List.drop_eq_nil_of_le (by simp only [List.length_take]; omega)]; rfl, fun h => absurd h (Nat.lt_irrefl _), by simp only; omega, Int.le_refl _, rfl⟩ ?_
       rintro ⟨j, d⟩ _ ⟨hij, hjl, hdd, hd1, hdj, hd0, rfl⟩; simp only at hij hjl hdd hd1 hdj hd0; refine CW.sub (m := [(2, .pointer (some ⟨bb1, 0, none⟩)), (5, str T), (9, .int .i64 (i0 : Int)), (10, .int .i64 d), (11, .int .i64 j)]) ?_ (by (refine sub_cons rfl ?_; refine sub_cons rfl ?_; refine sub_cons rfl ?_; refine sub_cons rfl ?_; refine sub_cons rfl ?_; exact sub_nil))
       by_cases hlt2 : j < T.length
       · obtain ⟨ch, hch⟩ : ∃ ch, T[j]? = some ch := ⟨_, List.getElem?_eq_getElem hlt2⟩
         have hsn := dep_snoc T i0 j hij hch; rw [← hdd] at hsn
         by_cases h40 : (ch.toNat : Int) = 40
         · have e40 : ch = 40 := UInt8.toNat_inj.1 (by have : (40 : UInt8).toNat = 40 := rfl; omega)
           rw [if_pos e40] at hsn; clear hdd
           focus
            refine cw_seq (cS (cM rfl rfl (cM rfl rfl (lw_pure (pur_len_s tabOk rfl rfl) rfl (lw_pure (pur_lss rfl rfl) rfl (cT ?_)))))); refine cw_yes rfl (by omega) ?_; refine cw_skip (qw_then (cw_seq (cw_block (cS (cM rfl rfl (cM rfl rfl ?_)))))); refine lw_pure (pur_sindex tabOk rfl rfl rfl (by omega) (by assumption)) rfl ?_; refine lw_pure (pur_eql rfl rfl) rfl (cT ?_); refine cw_yes rfl (by assumption) ?_; refine cw_region (cM rfl rfl ?_); refine lw_pure (pur_add rfl rfl (IntWalk.i64_in _ (by omega))) rfl ?_; refine cA rfl rfl (lw_nil (qw_block_norm (qw_then (cw_region (cM rfl rfl ?_))))); refine lw_pure (pur_add rfl rfl (IntWalk.i64_in _ (by omega))) rfl ?_; refine cA rfl rfl (lw_nil ?_); rotate_left 1
           refine qw_round (j + 1, d + 1) (by (refine sub_cons rfl ?_; refine sub_cons rfl ?_; refine sub_cons rfl ?_; refine sub_cons rfl ?_; refine sub_cons rfl ?_; exact sub_nil)) ⟨by simp only; omega, by simp only; omega, hsn.symm, fun _ => by simp only; omega, by simp only; omega, by simp only; omega, rfl⟩ (by simp only; omega)
         · have n40 : ¬ ch = 40 := fun e => h40 (by rw [e]; rfl)
           rw [if_neg n40] at hsn
           have hne : i0 < j := by
            rcases Nat.lt_or_ge i0 j with h | h
            · exact h
            · have : i0 = j := by omega
              subst this; rw [hi0] at hch
              exact absurd (Option.some.inj hch).symm n40
           have hd2 := hd1 hne
           by_cases h41 : (ch.toNat : Int) = 41
           · have e41 : ch = 41 := UInt8.toNat_inj.1 (by have : (41 : UInt8).toNat = 41 := rfl; omega)
             rw [if_pos e41] at hsn; rw [e41] at hch
             have hch2 : T[j]? = some ch := by rw [hch, e41]
             by_cases hdz : d - 1 = 0
             · have hfw := HF.out i0 j hne hlt2 hi0 hch
               have hwl := without_len T i0 j
               have hE1 : ∀ w, Syms w → Errs w → Calls Tryz.prog 12 #[str (without T i0 j)] w (ParseL w (parseExpr (without T i0 j))) := fun w => parseL_of _ w (by omega)
               have hT1 : (T.take ((i0 : Int)).toNat).length ≤ 6000 := by simp only [List.length_take]; omega
               have hT2 : ((T.take ((j : Int)).toNat).drop ((i0 : Int) + 1).toNat).length ≤ 6000 := by simp only [List.length_take, List.length_drop]; omega
               have hT3 : (T.drop ((j : Int) + 1).toNat).length ≤ 6000 := by simp only [List.length_drop]; omega
               generalize parseExpr (without T i0 j) = r at *
               unfold without at hE1
               have H1 := Lib.hid hE1; clear hE1 hwl hsn hdd hd1 HF HB hch
               by_cases her : r.2.2 = 0
               · have hq := hfw her
                 focus
                  refine cw_seq (cS (cM rfl rfl (cM rfl rfl (lw_pure (pur_len_s tabOk rfl rfl) rfl (lw_pure (pur_lss rfl rfl) rfl (cT ?_)))))); refine cw_yes rfl (by omega) ?_; refine cw_skip (qw_then (cw_seq (cw_block (cS (cM rfl rfl (cM rfl rfl ?_)))))); refine lw_pure (pur_sindex tabOk rfl rfl rfl (by omega) (by assumption)) rfl ?_; refine lw_pure (pur_eql rfl rfl) rfl (cT ?_); refine cw_no rfl (by assumption) ?_; refine cS (cM rfl rfl (cM rfl rfl ?_)); refine lw_pure (pur_sindex tabOk rfl rfl rfl (by omega) (by assumption)) rfl ?_; refine lw_pure (pur_eql rfl rfl) rfl (cT ?_); refine cw_yes rfl (by assumption) ?_; refine cS (cM rfl rfl ?_); refine lw_pure (pur_sub rfl rfl (IntWalk.i64_in _ (by omega))) rfl ?_; refine cA rfl rfl (cN (cM rfl rfl (lw_pure (pur_eql rfl rfl) rfl (cT ?_)))); refine cw_yes rfl (by assumption) ?_; refine cw_exit (qw_block_pass rfl (qw_then_exit (qw_then_exit (qw_block_exit (qw_then (cw_seq (cS (cM rfl rfl (cM rfl rfl (lw_pure (pur_len_s tabOk rfl rfl) rfl (lw_pure (pur_eql rfl rfl) rfl ?_))))))))))); refine cT ?_; refine cw_no rfl (by omega) ?_; refine cw_skip (qw_then (cw_seq ?_)); (refine cw_tdraw (fun wz => Ext w1 wz) 22 (.pure 0 (.pure 1 (.pure 2 (.pure 3 (.pure 4 (.pure 5 (.pure 6 (.pure 7 (.pure 8 (.pure 9 (.pure 10 (.pure 11 (.pure 12 (.pure 13 (.fork 14 (.pure 15 (.pure 16 (.pure 17 (.pure 18 (.fork 19 (.fork 20 (.pure 21 .tail) .none) .none))))) (.fork 19 (.fork 14 (.pure 15 (.pure 16 (.pure 17 (.pure 18 (.fork 20 (.pure 21 .tail) .none))))) .none) .none)))))))))))))))) mixed (by kernel_rfl) (panicOk_then panicOk_body) ?_; intro wi1 xi2 _)
                  have qsi3 : (fun wz => Ext w1 wz) wi1 := xi2; simp only at qsi3; have d_hb := hb; have d_hs := hs; have d_hS := hS; have d_hE := hE; have d_hr := hr; have zi4 := xi2.size; replace hb := hb.ext xi2; replace hs := Nd.sits.ext hs xi2; replace hS := hS.ext xi2; replace hE := hE.ext xi2; replace X := X.ext xi2; replace hr := hr.ext xi2; clear xi2; refine ⟨qsi3, ?_⟩; refine tw_pure rfl (pur_move rfl) rfl (tw_pure rfl (pur_move rfl) rfl ?_); refine tw_pure rfl (pur_supto tabOk rfl rfl rfl (by omega) (by omega)) rfl ?_; refine tw_pure rfl (pur_move rfl) rfl (tw_pure rfl (pur_move rfl) rfl ?_); refine tw_pure rfl (pur_add rfl rfl (IntWalk.i64_in _ (by omega))) rfl ?_; refine tw_pure rfl (pur_move rfl) rfl ?_; refine tw_pure rfl (pur_spart tabOk rfl rfl rfl rfl (by omega) (by omega) (by omega)) rfl ?_; refine tw_pure rfl (pur_sadd rfl rfl (by omega)) rfl ?_; refine tw_pure rfl (pur_move rfl) rfl (tw_pure rfl (pur_move rfl) rfl ?_); refine tw_pure rfl (pur_add rfl rfl (IntWalk.i64_in _ (by omega))) rfl ?_; refine tw_pure rfl (pur_sfrom tabOk rfl rfl rfl (by omega) (by omega)) rfl ?_; refine tw_pure rfl (pur_sadd rfl rfl (by simp only [List.length_append, List.length_cons, List.length_nil]; omega)) rfl ?_; refine tw_does rfl (does_call (by kernel_rfl) rfl (H1.out _ (by assumption) (by assumption)) (fun _ _ h => h.ret)) rfl ?_ (fun _ h => h) ?kri5; rintro _ wi10 ⟨ai6, ⟨ki7, ⟨⟨⟩, ⟨hi8, xi9⟩⟩⟩⟩; have zi11 := xi9.size; replace qsi3 := qsi3.ext xi9; replace hb := hb.ext xi9; replace hs := Nd.sits.ext hs xi9
                  replace hS := hS.ext xi9; replace hE := hE.ext xi9; replace X := X.ext xi9; replace hr := hr.ext xi9; clear xi9; refine ⟨qsi3, ?_⟩; refine tw_pure rfl (pur_move rfl) rfl (tw_pure rfl (pur_extract rfl rfl) rfl (tw_pure rfl (pur_extract rfl rfl) rfl (tw_pure rfl (pur_extract rfl rfl) rfl ?_))); (refine tw_does rfl (does_alloc zOk rfl) rfl ?_ (fun _ h => h) tw_none; rintro _ wi14 ⟨bi13, rfl, ni15⟩); have hi16 := ni15.blk; dsimp only at hi16; have xi17 := ni15.ext; have pi18 := ni15.pos; have zi19 := ni15.size; clear ni15; replace hi8 := Nd.sits.ext hi8 xi17; replace qsi3 := qsi3.ext xi17; replace hb := hb.ext xi17; replace hs := Nd.sits.ext hs xi17; replace hS := hS.ext xi17; replace hE := hE.ext xi17; replace X := X.ext xi17; replace hr := hr.ext xi17; clear xi17; refine ⟨qsi3, ?_⟩; (refine tw_store [_, _, _, _] [_, _, _, _] rfl tabOk rfl rfl rfl rfl rfl rfl hi16 rfl rfl ?_ tw_none; intro wi21 ni22); have hi25 := ni22.blk; have fi23 := ni22.fr; have zi24 := ni22.size; clear ni22 hi16; replace hi8 := Nd.sits.fr hi8 fi23 (fun k hk e => by omega); replace qsi3 := qsi3.fr fi23 (by omega); replace hb := hb.fr fi23 (by omega); replace hs := Nd.sits.fr hs fi23 (fun k hk e => by omega); replace hS := hS.fr fi23 (by omega); replace hE := hE.fr fi23 (by omega); replace X := X.fr fi23 (by omega); clear hr fi23; refine ⟨qsi3, ?_⟩; refine tw_pure rfl (pur_assign rfl) rfl ?_; clear d_hb d_hs d_hS d_hE d_hr qsi3; refine tw_tail rfl (cA rfl rfl (cN (cM rfl rfl (lw_pure (pur_neq rfl rfl) rfl (cM rfl rfl ?_)))))
                  refine lw_on rfl rfl rfl (gd_ff (by omega)) ?_; refine lw_loads_b' [_, _, _, _] tabOk rfl rfl rfl hb rfl rfl rfl ?_; refine lw_on rfl rfl rfl (gd_ff (by omega)) ?_; refine lw_loads_b' [_, _, _, _] tabOk rfl rfl rfl hi25 rfl rfl rfl ?_; refine lw_on rfl rfl rfl (gd_ff (by omega)) ?_; refine cC (by kernel_rfl) rfl (HQ.out _ _ _ _ _ _ _ _ (by assumption) (by assumption)) rfl ?_; rintro _ wi27 ⟨⟨⟩, xi26⟩; have zi28 := xi26.size; replace hi25 := hi25.ext xi26; replace hi8 := Nd.sits.ext hi8 xi26; replace hb := hb.ext xi26; replace hs := Nd.sits.ext hs xi26; replace hS := hS.ext xi26; replace hE := hE.ext xi26; replace X := X.ext xi26; clear xi26; refine lw_on rfl rfl rfl (gd_ff (by omega)) ?_; refine lw_pure (pur_not rfl) rfl ?_; refine lw_pure (pur_pick_no rfl rfl (by omega)) rfl ?_; refine cA rfl rfl (cT (cw_ret (qw_ret1 rfl rfl ?_))); rotate_left 1; (refine tw_does rfl (does_alloc zOk rfl) rfl ?_ (fun _ h => h) tw_none; rintro _ wi31 ⟨bi30, rfl, ni32⟩); have hi33 := ni32.blk; dsimp only at hi33; have xi34 := ni32.ext; have pi35 := ni32.pos; have zi36 := ni32.size; clear ni32; replace qsi3 := qsi3.ext xi34; replace hb := hb.ext xi34; replace hs := Nd.sits.ext hs xi34; replace hS := hS.ext xi34; replace hE := hE.ext xi34; replace X := X.ext xi34; replace hr := hr.ext xi34; clear xi34; refine ⟨qsi3, ?_⟩; refine tw_does rfl (does_call (by kernel_rfl) rfl (H1.out _ (by assumption) (by assumption)) (fun _ _ h => h.ret)) rfl ?_ (fun _ h => h) tw_none; rintro _ wi42 ⟨ai38, ⟨ki39, ⟨⟨⟩, ⟨hi40, xi41⟩⟩⟩⟩
                  have zi43 := xi41.size; replace hi33 := hi33.ext xi41; replace qsi3 := qsi3.ext xi41; replace hb := hb.ext xi41; replace hs := Nd.sits.ext hs xi41; replace hS := hS.ext xi41; replace hE := hE.ext xi41; replace X := X.ext xi41; replace hr := hr.ext xi41; clear xi41; refine ⟨qsi3, ?_⟩; refine tw_pure rfl (pur_move rfl) rfl (tw_pure rfl (pur_extract rfl rfl) rfl (tw_pure rfl (pur_extract rfl rfl) rfl (tw_pure rfl (pur_extract rfl rfl) rfl ?_))); (refine tw_store [_, _, _, _] [_, _, _, _] rfl tabOk rfl rfl rfl rfl rfl rfl hi33 rfl rfl ?_ tw_none; intro wi45 ni46); have hi49 := ni46.blk; have fi47 := ni46.fr; have zi48 := ni46.size; clear ni46 hi33; replace hi40 := Nd.sits.fr hi40 fi47 (fun k hk e => by omega); replace qsi3 := qsi3.fr fi47 (by omega); replace hb := hb.fr fi47 (by omega); replace hs := Nd.sits.fr hs fi47 (fun k hk e => by omega); replace hS := hS.fr fi47 (by omega); replace hE := hE.fr fi47 (by omega); replace X := X.fr fi47 (by omega); clear hr fi47; refine ⟨qsi3, ?_⟩; refine tw_pure rfl (pur_assign rfl) rfl ?_; clear d_hb d_hs d_hS d_hE d_hr qsi3; refine tw_tail rfl (cA rfl rfl (cN (cM rfl rfl (lw_pure (pur_neq rfl rfl) rfl (cM rfl rfl ?_))))); refine lw_on rfl rfl rfl (gd_ff (by omega)) ?_; refine lw_loads_b' [_, _, _, _] tabOk rfl rfl rfl hb rfl rfl rfl ?_; refine lw_on rfl rfl rfl (gd_ff (by omega)) ?_; refine lw_loads_b' [_, _, _, _] tabOk rfl rfl rfl hi49 rfl rfl rfl ?_; refine lw_on rfl rfl rfl (gd_ff (by omega)) ?_; refine cC (by kernel_rfl) rfl (HQ.out _ _ _ _ _ _ _ _ (by assumption) (by assumption)) rfl ?_
                  rintro _ wi51 ⟨⟨⟩, xi50⟩; have zi52 := xi50.size; replace hi49 := hi49.ext xi50; replace hi40 := Nd.sits.ext hi40 xi50; replace hb := hb.ext xi50; replace hs := Nd.sits.ext hs xi50; replace hS := hS.ext xi50; replace hE := hE.ext xi50; replace X := X.ext xi50; clear xi50; refine lw_on rfl rfl rfl (gd_ff (by omega)) ?_; refine lw_pure (pur_not rfl) rfl ?_; refine lw_pure (pur_pick_no rfl rfl (by omega)) rfl ?_; refine cA rfl rfl (cT (cw_ret (qw_ret1 rfl rfl ?_))); rotate_left 1
                 · exact ⟨by rw [hq]; rfl, X⟩
                 · exact ⟨by rw [hq]; rfl, X⟩
               · focus
                  refine cw_seq (cS (cM rfl rfl (cM rfl rfl (lw_pure (pur_len_s tabOk rfl rfl) rfl (lw_pure (pur_lss rfl rfl) rfl (cT ?_)))))); refine cw_yes rfl (by omega) ?_; refine cw_skip (qw_then (cw_seq (cw_block (cS (cM rfl rfl (cM rfl rfl ?_)))))); refine lw_pure (pur_sindex tabOk rfl rfl rfl (by omega) (by assumption)) rfl ?_; refine lw_pure (pur_eql rfl rfl) rfl (cT ?_); refine cw_no rfl (by assumption) ?_; refine cS (cM rfl rfl (cM rfl rfl ?_)); refine lw_pure (pur_sindex tabOk rfl rfl rfl (by omega) (by assumption)) rfl ?_; refine lw_pure (pur_eql rfl rfl) rfl (cT ?_); refine cw_yes rfl (by assumption) ?_; refine cS (cM rfl rfl ?_); refine lw_pure (pur_sub rfl rfl (IntWalk.i64_in _ (by omega))) rfl ?_; refine cA rfl rfl (cN (cM rfl rfl (lw_pure (pur_eql rfl rfl) rfl (cT ?_)))); refine cw_yes rfl (by assumption) ?_; refine cw_exit (qw_block_pass rfl (qw_then_exit (qw_then_exit (qw_block_exit (qw_then (cw_seq (cS (cM rfl rfl (cM rfl rfl (lw_pure (pur_len_s tabOk rfl rfl) rfl (lw_pure (pur_eql rfl rfl) rfl ?_))))))))))); refine cT ?_; refine cw_no rfl (by omega) ?_; refine cw_skip (qw_then (cw_seq ?_)); (refine cw_tdraw (fun wz => Ext w1 wz) 22 (.pure 0 (.pure 1 (.pure 2 (.pure 3 (.pure 4 (.pure 5 (.pure 6 (.pure 7 (.pure 8 (.pure 9 (.pure 10 (.pure 11 (.pure 12 (.pure 13 (.fork 14 (.pure 15 (.pure 16 (.pure 17 (.pure 18 (.fork 19 (.fork 20 (.pure 21 .tail) .none) .none))))) (.fork 19 (.fork 14 (.pure 15 (.pure 16 (.pure 17 (.pure 18 (.fork 20 (.pure 21 .tail) .none))))) .none) .none)))))))))))))))) mixed (by kernel_rfl) (panicOk_then panicOk_body) ?_; intro wj1 xj2 _)
                  have qsj3 : (fun wz => Ext w1 wz) wj1 := xj2; simp only at qsj3; have d_hb := hb; have d_hs := hs; have d_hS := hS; have d_hE := hE; have d_hr := hr; have zj4 := xj2.size; replace hb := hb.ext xj2; replace hs := Nd.sits.ext hs xj2; replace hS := hS.ext xj2; replace hE := hE.ext xj2; replace X := X.ext xj2; replace hr := hr.ext xj2; clear xj2; refine ⟨qsj3, ?_⟩; refine tw_pure rfl (pur_move rfl) rfl (tw_pure rfl (pur_move rfl) rfl ?_); refine tw_pure rfl (pur_supto tabOk rfl rfl rfl (by omega) (by omega)) rfl ?_; refine tw_pure rfl (pur_move rfl) rfl (tw_pure rfl (pur_move rfl) rfl ?_); refine tw_pure rfl (pur_add rfl rfl (IntWalk.i64_in _ (by omega))) rfl ?_; refine tw_pure rfl (pur_move rfl) rfl ?_; refine tw_pure rfl (pur_spart tabOk rfl rfl rfl rfl (by omega) (by omega) (by omega)) rfl ?_; refine tw_pure rfl (pur_sadd rfl rfl (by omega)) rfl ?_; refine tw_pure rfl (pur_move rfl) rfl (tw_pure rfl (pur_move rfl) rfl ?_); refine tw_pure rfl (pur_add rfl rfl (IntWalk.i64_in _ (by omega))) rfl ?_; refine tw_pure rfl (pur_sfrom tabOk rfl rfl rfl (by omega) (by omega)) rfl ?_; refine tw_pure rfl (pur_sadd rfl rfl (by simp only [List.length_append, List.length_cons, List.length_nil]; omega)) rfl ?_; refine tw_does rfl (does_call (by kernel_rfl) rfl (H1.out _ (by assumption) (by assumption)) (fun _ _ h => h.ret)) rfl ?_ (fun _ h => h) ?krj5; rintro _ wj10 ⟨aj6, ⟨kj7, ⟨⟨⟩, ⟨hj8, xj9⟩⟩⟩⟩; have zj11 := xj9.size; replace qsj3 := qsj3.ext xj9; replace hb := hb.ext xj9; replace hs := Nd.sits.ext hs xj9
                  replace hS := hS.ext xj9; replace hE := hE.ext xj9; replace X := X.ext xj9; replace hr := hr.ext xj9; clear xj9; refine ⟨qsj3, ?_⟩; refine tw_pure rfl (pur_move rfl) rfl (tw_pure rfl (pur_extract rfl rfl) rfl (tw_pure rfl (pur_extract rfl rfl) rfl (tw_pure rfl (pur_extract rfl rfl) rfl ?_))); (refine tw_does rfl (does_alloc zOk rfl) rfl ?_ (fun _ h => h) tw_none; rintro _ wj14 ⟨bj13, rfl, nj15⟩); have hj16 := nj15.blk; dsimp only at hj16; have xj17 := nj15.ext; have pj18 := nj15.pos; have zj19 := nj15.size; clear nj15; replace hj8 := Nd.sits.ext hj8 xj17; replace qsj3 := qsj3.ext xj17; replace hb := hb.ext xj17; replace hs := Nd.sits.ext hs xj17; replace hS := hS.ext xj17; replace hE := hE.ext xj17; replace X := X.ext xj17; replace hr := hr.ext xj17; clear xj17; refine ⟨qsj3, ?_⟩; (refine tw_store [_, _, _, _] [_, _, _, _] rfl tabOk rfl rfl rfl rfl rfl rfl hj16 rfl rfl ?_ tw_none; intro wj21 nj22); have hj25 := nj22.blk; have fj23 := nj22.fr; have zj24 := nj22.size; clear nj22 hj16; replace hj8 := Nd.sits.fr hj8 fj23 (fun k hk e => by omega); replace qsj3 := qsj3.fr fj23 (by omega); replace hb := hb.fr fj23 (by omega); replace hs := Nd.sits.fr hs fj23 (fun k hk e => by omega); replace hS := hS.fr fj23 (by omega); replace hE := hE.fr fj23 (by omega); replace X := X.fr fj23 (by omega); clear hr fj23; refine ⟨qsj3, ?_⟩; refine tw_pure rfl (pur_assign rfl) rfl ?_; clear d_hb d_hs d_hS d_hE d_hr qsj3; refine tw_tail rfl (cA rfl rfl (cN (cM rfl rfl (lw_pure (pur_neq rfl rfl) rfl (cM rfl rfl ?_)))))
                  refine lw_off rfl rfl rfl (gd_ft (by assumption)) rfl ?_; refine lw_off rfl rfl rfl (gd_ft (by assumption)) rfl ?_; refine lw_off rfl rfl rfl (gd_ft (by assumption)) rfl ?_; refine lw_off rfl rfl rfl (gd_ft (by assumption)) rfl ?_; refine lw_pure (pur_pick_yes rfl rfl (by assumption)) rfl ?_; refine cA rfl rfl (cT (cw_ret (qw_ret1 rfl rfl ?_))); rotate_left 1; (refine tw_does rfl (does_alloc zOk rfl) rfl ?_ (fun _ h => h) tw_none; rintro _ wj28 ⟨bj27, rfl, nj29⟩); have hj30 := nj29.blk; dsimp only at hj30; have xj31 := nj29.ext; have pj32 := nj29.pos; have zj33 := nj29.size; clear nj29; replace qsj3 := qsj3.ext xj31; replace hb := hb.ext xj31; replace hs := Nd.sits.ext hs xj31; replace hS := hS.ext xj31; replace hE := hE.ext xj31; replace X := X.ext xj31; replace hr := hr.ext xj31; clear xj31; refine ⟨qsj3, ?_⟩; refine tw_does rfl (does_call (by kernel_rfl) rfl (H1.out _ (by assumption) (by assumption)) (fun _ _ h => h.ret)) rfl ?_ (fun _ h => h) tw_none; rintro _ wj39 ⟨aj35, ⟨kj36, ⟨⟨⟩, ⟨hj37, xj38⟩⟩⟩⟩; have zj40 := xj38.size; replace hj30 := hj30.ext xj38; replace qsj3 := qsj3.ext xj38; replace hb := hb.ext xj38; replace hs := Nd.sits.ext hs xj38; replace hS := hS.ext xj38; replace hE := hE.ext xj38; replace X := X.ext xj38; replace hr := hr.ext xj38; clear xj38; refine ⟨qsj3, ?_⟩; refine tw_pure rfl (pur_move rfl) rfl (tw_pure rfl (pur_extract rfl rfl) rfl (tw_pure rfl (pur_extract rfl rfl) rfl (tw_pure rfl (pur_extract rfl rfl) rfl ?_))); (refine tw_store [_, _, _, _] [_, _, _, _] rfl tabOk rfl rfl rfl rfl rfl rfl hj30 rfl rfl ?_ tw_none; intro wj42 nj43)
                  have hj46 := nj43.blk; have fj44 := nj43.fr; have zj45 := nj43.size; clear nj43 hj30; replace hj37 := Nd.sits.fr hj37 fj44 (fun k hk e => by omega); replace qsj3 := qsj3.fr fj44 (by omega); replace hb := hb.fr fj44 (by omega); replace hs := Nd.sits.fr hs fj44 (fun k hk e => by omega); replace hS := hS.fr fj44 (by omega); replace hE := hE.fr fj44 (by omega); replace X := X.fr fj44 (by omega); clear hr fj44; refine ⟨qsj3, ?_⟩; refine tw_pure rfl (pur_assign rfl) rfl ?_; clear d_hb d_hs d_hS d_hE d_hr qsj3; refine tw_tail rfl (cA rfl rfl (cN (cM rfl rfl (lw_pure (pur_neq rfl rfl) rfl (cM rfl rfl ?_))))); refine lw_off rfl rfl rfl (gd_ft (by assumption)) rfl ?_; refine lw_off rfl rfl rfl (gd_ft (by assumption)) rfl ?_; refine lw_off rfl rfl rfl (gd_ft (by assumption)) rfl ?_; refine lw_off rfl rfl rfl (gd_ft (by assumption)) rfl ?_; refine lw_pure (pur_pick_yes rfl rfl (by assumption)) rfl ?_; refine cA rfl rfl (cT (cw_ret (qw_ret1 rfl rfl ?_))); rotate_left 1
                 · exact ⟨rfl, X⟩
                 · exact ⟨rfl, X⟩
             · clear hdd hch
               focus
                refine cw_seq (cS (cM rfl rfl (cM rfl rfl (lw_pure (pur_len_s tabOk rfl rfl) rfl (lw_pure (pur_lss rfl rfl) rfl (cT ?_)))))); refine cw_yes rfl (by omega) ?_; refine cw_skip (qw_then (cw_seq (cw_block (cS (cM rfl rfl (cM rfl rfl ?_)))))); refine lw_pure (pur_sindex tabOk rfl rfl rfl (by omega) (by assumption)) rfl ?_; refine lw_pure (pur_eql rfl rfl) rfl (cT ?_); refine cw_no rfl (by assumption) ?_; refine cS (cM rfl rfl (cM rfl rfl ?_)); refine lw_pure (pur_sindex tabOk rfl rfl rfl (by omega) (by assumption)) rfl ?_; refine lw_pure (pur_eql rfl rfl) rfl (cT ?_); refine cw_yes rfl (by assumption) ?_; refine cS (cM rfl rfl ?_); refine lw_pure (pur_sub rfl rfl (IntWalk.i64_in _ (by omega))) rfl ?_; refine cA rfl rfl (cN (cM rfl rfl (lw_pure (pur_eql rfl rfl) rfl (cT ?_)))); refine cw_no rfl (by assumption) ?_; refine cw_skip (qw_block_norm (qw_then (cw_region (cM rfl rfl ?_)))); refine lw_pure (pur_add rfl rfl (IntWalk.i64_in _ (by omega))) rfl ?_; refine cA rfl rfl (lw_nil ?_); rotate_left 1
               refine qw_round (j + 1, d - 1) (by (refine sub_cons rfl ?_; refine sub_cons rfl ?_; refine sub_cons rfl ?_; refine sub_cons rfl ?_; refine sub_cons rfl ?_; exact sub_nil)) ⟨by simp only; omega, by simp only; omega, by simp only; omega, fun _ => by simp only; omega, by simp only; omega, by simp only; omega, rfl⟩ (by simp only; omega)
           · have n41 : ¬ ch = 41 := fun e => h41 (by rw [e]; rfl)
             rw [if_neg n41] at hsn; clear hdd
             focus
              refine cw_seq (cS (cM rfl rfl (cM rfl rfl (lw_pure (pur_len_s tabOk rfl rfl) rfl (lw_pure (pur_lss rfl rfl) rfl (cT ?_)))))); refine cw_yes rfl (by omega) ?_; refine cw_skip (qw_then (cw_seq (cw_block (cS (cM rfl rfl (cM rfl rfl ?_)))))); refine lw_pure (pur_sindex tabOk rfl rfl rfl (by omega) (by assumption)) rfl ?_; refine lw_pure (pur_eql rfl rfl) rfl (cT ?_); refine cw_no rfl (by assumption) ?_; refine cS (cM rfl rfl (cM rfl rfl ?_)); refine lw_pure (pur_sindex tabOk rfl rfl rfl (by omega) (by assumption)) rfl ?_; refine lw_pure (pur_eql rfl rfl) rfl (cT ?_); refine cw_no rfl (by assumption) ?_; refine cw_skip (qw_block_norm (qw_then (cw_region (cM rfl rfl ?_)))); refine lw_pure (pur_add rfl rfl (IntWalk.i64_in _ (by omega))) rfl ?_; refine cA rfl rfl (lw_nil ?_); rotate_left 1
             refine qw_round (j + 1, d) (by (refine sub_cons rfl ?_; refine sub_cons rfl ?_; refine sub_cons rfl ?_; refine sub_cons rfl ?_; refine sub_cons rfl ?_; exact sub_nil)) ⟨by simp only; omega, by simp only; omega, by simp only; omega, fun _ => by simp only; omega, by simp only; omega, by simp only; omega, rfl⟩ (by simp only; omega)
       · exfalso
         obtain rfl : j = T.length := by omega
         have h1 := dep_end HB.out i0; have h2 := hd1 hi1
         omega
end Bk
namespace Bk
open Go Go.RowKit
def Cells (S : Nat → Prop) (w : World) : List Nd → List Value → Prop
 | [], cs => cs = []
 | t :: r, cs => ∃ a c ds, cs = t.cells a c ++ ds ∧ t.sits S w a ∧ Cells S w r ds
theorem Cells.len {S : Nat → Prop} {w : World} : ∀ {l : List Nd} {cs : List Value}, Cells S w l cs → cs.length = l.length * 4
 | [], _, h => by rw [show _ = [] from h]; rfl
 | t :: r, _, ⟨a, c, ds, e, _, h⟩ => by
  have := h.len; rw [e, List.length_append, this, List.length_cons]
  simp only [List.length_cons, List.length_nil]; omega
theorem Cells.one {S : Nat → Prop} {w : World} : ∀ {l : List Nd} {cs : List Value}, Cells S w l cs → cs.all Value.one = true
 | [], _, h => by rw [show _ = [] from h]; rfl
 | t :: r, _, ⟨a, c, ds, e, _, h⟩ => by rw [e, List.all_append, h.one]; rfl
theorem Cells.app {S : Nat → Prop} {w : World} : ∀ {l q : List Nd} {cs ds : List Value}, Cells S w l cs → Cells S w q ds → Cells S w (l ++ q) (cs ++ ds)
 | [], _, _, _, h, k => by rw [show _ = [] from h]; exact k
 | t :: r, q, _, ds, ⟨a, c, es, e, hs, h⟩, k => ⟨a, c, es ++ ds, by rw [e, List.append_assoc], hs, h.app k⟩
theorem Cells.fr {S T : Nat → Prop} {w w' : World} (x : Fr T w w') (hd : ∀ b, S b → ¬ T b) : ∀ {l : List Nd} {cs : List Value}, Cells S w l cs → Cells S w' l cs
 | [], _, h => h
 | t :: r, _, ⟨a, c, ds, e, hs, h⟩ => ⟨a, c, ds, e, hs.fr x hd, Cells.fr x hd h⟩
theorem cells_sits {S S' : Nat → Prop} {w : World} (hS : ∀ b, S b → S' b) : ∀ (l : List Nd) (g o : Nat) (cs : List Value), S' g → Row w ⟨g, o, none⟩ cs → Cells S w l cs → rowSits S' w l (some ⟨g, o, none⟩)
 | [], _, _, _, _, _, _ => by simp [rowSits]
 | t :: r, g, o, _, hg, hr, ⟨a, c, ds, e, hs, h⟩ => by
  subst e; simp only [rowSits]
  have hd : Row w ⟨g, o + 4, none⟩ ds := by
   have := hr.sub 4 ds.length
   simpa using this
  exact ⟨g, o, a, c, rfl, hg, hr.at0 rfl, hr.at (i := 1) rfl, hr.at (i := 2) rfl, hr.at (i := 3) rfl, Nd.sits.wide hs hS, cells_sits hS r g (o + 4) ds hg hd h⟩
def OwnG (e B : Nat) (w : World) (g cap : Nat) (l : List Nd) : Prop := B ≤ g ∧ ∃ cs, Own w g e 4 (.slice (some ⟨g, 0, none⟩) l.length cap) l.length cs ∧ Cells (· < B) w l cs
theorem OwnG.lt {e B : Nat} {w : World} {g cap : Nat} {l : List Nd} (h : OwnG e B w g cap l) : g < w.heap.size := by
 obtain ⟨-, cs, h1, -⟩ := h
 exact (h1.blk (k := g) rfl).2
theorem OwnG.fr {e B : Nat} {T : Nat → Prop} {w w' : World} {g cap : Nat} {l : List Nd} (h : OwnG e B w g cap l) (x : Fr T w w') (hs : ∀ k, T k → B ≤ k ∧ k ≠ g) : OwnG e B w' g cap l := by
 obtain ⟨h0, cs, h1, h2⟩ := h; refine ⟨h0, cs, h1.fr x (fun k hk hT => ?_), h2.fr x (fun b hb hT => ?_)⟩
 · simp only [Value.ownBlock, Option.some.injEq] at hk
   exact (hs k hT).2 hk.symm
 · have := (hs b hT).1; omega
theorem OwnG.ext {e B : Nat} {w w' : World} {g cap : Nat} {l : List Nd} (h : OwnG e B w g cap l) (x : Ext w w') : OwnG e B w' g cap l := by
 obtain ⟨h0, cs, h1, h2⟩ := h
 exact ⟨h0, cs, h1.ext x, h2.fr (T := fun _ => False) (.of_ext x) (fun _ _ h => h)⟩
theorem OwnG.sits {e B : Nat} {w : World} {g cap : Nat} {l : List Nd} (h : OwnG e B w g cap l) : rowSits (fun b => b < B ∨ b = g) w l (some ⟨g, 0, none⟩) := by
 obtain ⟨h0, cs, h1, h2⟩ := h
 rcases h1.row with ⟨hv, -⟩ | ⟨g', cap', hv, -, -, hr⟩
 · simp at hv
 · simp only [Value.slice.injEq, Option.some.injEq, Addr.mk.injEq, and_true] at hv
   obtain ⟨rfl, -⟩ := hv
   exact cells_sits (fun b hb => Or.inl hb) l g 0 cs (Or.inr rfl) hr h2
def OnSome (K : Value → World → Prop) : Option Value → World → Prop
 | some v, w => K v w
 | none, _ => False
section
variable {P : Program} {n : Nat} {l : Sl} {w : World} {tab : Tab} {zt : ZTab} {ty : TypeId}
end
end Bk
namespace Bk
open Go
inductive NtS where
 | st : NtS
 | bl : NtS
 | ls : NtS
def varN (m : List UInt8) : Nd := .mk 2 0 m []
def argT (l : Txt) : Txt := l.flatMap fun m => [[44], m]
def stackKw : List (List UInt8 × Int) := [([112, 117, 115, 104], 44), ([112, 111, 112], 45)]
def tapeKw : List (List UInt8 × Int) := [([114, 101, 97, 100], 46), ([117, 110, 114, 101, 97, 100], 47), ([119, 114, 105, 116, 101], 48), ([117, 110, 119, 114, 105, 116, 101], 49)]
def callKw : List (List UInt8 × Int) := [([99, 97, 108, 108], 50), ([117, 110, 99, 97, 108, 108], 51)]
def branchKw : List (List UInt8 × Int × List UInt8 × List UInt8) := [([105, 102], 52, [101, 108, 115, 101], [102, 105]), ([102, 114, 111, 109], 53, [108, 111, 111, 112], [117, 110, 116, 105, 108])]
inductive GS : NtS → Txt → List Nd → Prop where
 | stack {kw m : List UInt8} {kd : Int} {a : Txt} {x : Nd} : (kw, kd) ∈ stackKw → G .pl a x → isName m = true → GS .st (kw :: (a ++ [[44], m])) [.mk kd 0 m [x]]
 | tape {kw : List UInt8} {kd : Int} {a : Txt} {x : Nd} : (kw, kd) ∈ tapeKw → G .pl a x → GS .st (kw :: a) [.mk kd 0 [] [x]]
 | call0 {kw m : List UInt8} {kd : Int} : (kw, kd) ∈ callKw → isName m = true → GS .st [kw, m, [40], [41]] [.mk kd 0 m []]
 | call1 {kw m u : List UInt8} {kd : Int} {l : Txt} : (kw, kd) ∈ callKw → isName m = true → isName u = true → (∀ v ∈ l, isName v = true) → l.length ≤ 7 → GS .st (kw :: m :: [40] :: u :: (argT l ++ [[41]])) [.mk kd 0 m ((u :: l).map varN)]
 | branch {kw mid last : List UInt8} {kd : Int} {a b c d : Txt} {x y z u : Nd} : (kw, kd, mid, last) ∈ branchKw → G (.ex 1) a x → GS .bl b [y] → GS .bl c [z] → G (.ex 1) d u → GS .st (kw :: (a ++ (b ++ (mid :: (c ++ (last :: d)))))) [.mk kd 0 [] [x, y, z, u]]
 | lstack {m : List UInt8} {b : Txt} {x : Nd} : isName m = true → GS .bl b [x] → GS .st ([108, 111, 99, 97, 108] :: [115, 116, 97, 99, 107] :: m :: b) [.mk 55 0 m [x]]
 | local_ {m : List UInt8} {a b d : Txt} {x y z : Nd} : isName m = true → G (.ex 1) a x → GS .bl b [y] → G (.ex 1) d z → GS .st ([108, 111, 99, 97, 108] :: m :: [61] :: (a ++ (b ++ ([100, 101, 108, 111, 99, 97, 108] :: d)))) [.mk 54 0 m [x, y, z]]
 | upd {t : List UInt8} {a b : Txt} {x y : Nd} : G .pl a x → updKind t ≠ 0 → G (.ex 1) b y → GS .st (a ++ t :: b) [.mk (updKind t) 0 [] [x, y]]
 | swap {a b : Txt} {x y : Nd} : G .pl a x → G .pl b y → GS .st (a ++ [60, 61, 62] :: b) [.mk 43 0 [] [x, y]]
 | bl {a : Txt} {l : List Nd} : GS .ls a l → GS .bl ([123] :: (a ++ [[125]])) [.mk 57 0 [] l]
 | ls0 : GS .ls [] []
 | ls1 {a b : Txt} {x : Nd} {l : List Nd} : GS .st a [x] → GS .ls b l → GS .ls (a ++ [59] :: b) (x :: l)
theorem name_kw {m : List UInt8} (h : isName m = true) {t : List UInt8} (ht : keyword t = true) : m ≠ t := by
 rintro rfl; simp only [isName, Bool.and_eq_true, Bool.not_eq_true'] at h; rw [ht] at h
 cases h.2
theorem name_sign {m : List UInt8} (h : isName m = true) {t : List UInt8} (ht : isName t = false) : m ≠ t := by
 rintro rfl; rw [h] at ht; cases ht
section
variable {ts : List Tok} {n : Int}
theorem args_read (k : Nat) : ∀ (l acc0 : Txt) (acc : List Nd) (σ : PS) (rest : Txt), σ.at_ ≤ ts.length → σ.err = 0 → rem ts σ = argT l ++ rest → (∀ t ∈ rest.head?, t ≠ [44]) → (∀ v ∈ l, isName v = true) → acc.length + l.length ≤ 8 → l.length + 1 ≤ k →
 argsP ts n k acc σ = (acc ++ l.map varN, adv σ (2 * l.length)) := by
 induction k with
 | zero => intro l _ acc σ rest _ _ _ _ _ _ h; omega
 | succ k ih =>
  intro l acc0 acc σ rest hw he hr hc hl h8 hk; rw [argsP]
  cases l with
  | nil =>
   have hh : hasP ts σ [44] = false := by
    rw [has_rem hw he, hr]
    cases rest with
    | nil => rfl
    | cons t r => exact decide_eq_false (hc t rfl)
   rw [if_neg (by rw [hh]; decide)]
   simp [adv]
  | cons m l =>
   have hr1 : rem ts σ = [44] :: (m :: (argT l ++ rest)) := by rw [hr]; simp [argT]
   have hr2 := rem_cons hr1; have hm := hl m (by simp); rw [if_pos (by rw [has_cons hr1 he]; decide), if_neg (by simp only [List.length_cons] at h8; omega)]
   unfold argP
   rw [next_adv, name_cons hr2 he hm]; simp only; simp only [List.length_cons] at h8 hk; have hl2 := rem_lt hr2; rw [ih l [] _ (adv (adv σ 1) 1) rest hl2 he (rem_cons hr2) hc (fun v hv => hl v (by simp [hv])) (by simp only [List.length_append, List.length_cons, List.length_nil]; omega) (by omega), adv_adv, adv_adv]; refine Prod.ext ?_ (congrArg (adv σ) (by simp only [List.length_cons]; omega))
   simp [varN]
theorem GS.st_head {a : Txt} {l : List Nd} (h : GS .st a l) : ∃ t r, a = t :: r ∧ t ≠ [125] ∧ t ≠ [] := by
 cases h with
 | stack h => refine ⟨_, _, rfl, ?_⟩; simp only [stackKw, List.mem_cons, Prod.mk.injEq, List.not_mem_nil, or_false] at h; rcases h with ⟨rfl, -⟩ | ⟨rfl, -⟩ <;> decide
 | tape h => refine ⟨_, _, rfl, ?_⟩; simp only [tapeKw, List.mem_cons, Prod.mk.injEq, List.not_mem_nil, or_false] at h; rcases h with ⟨rfl, -⟩ | ⟨rfl, -⟩ | ⟨rfl, -⟩ | ⟨rfl, -⟩ <;> decide
 | call0 h => refine ⟨_, _, rfl, ?_⟩; simp only [callKw, List.mem_cons, Prod.mk.injEq, List.not_mem_nil, or_false] at h; rcases h with ⟨rfl, -⟩ | ⟨rfl, -⟩ <;> decide
 | call1 h => refine ⟨_, _, rfl, ?_⟩; simp only [callKw, List.mem_cons, Prod.mk.injEq, List.not_mem_nil, or_false] at h; rcases h with ⟨rfl, -⟩ | ⟨rfl, -⟩ <;> decide
 | branch h => refine ⟨_, _, rfl, ?_⟩; simp only [branchKw, List.mem_cons, Prod.mk.injEq, List.not_mem_nil, or_false] at h; rcases h with ⟨rfl, -⟩ | ⟨rfl, -⟩ <;> decide
 | lstack => exact ⟨_, _, rfl, by decide⟩
 | local_ => exact ⟨_, _, rfl, by decide⟩
 | upd h => obtain ⟨m, r, rfl, hm⟩ := h.pl_head; exact ⟨m, _, rfl, name_sign hm (by decide), isName_ne hm⟩
 | swap h => obtain ⟨m, r, rfl, hm⟩ := h.pl_head; exact ⟨m, _, rfl, name_sign hm (by decide), isName_ne hm⟩
theorem GS.bl_head {a : Txt} {l : List Nd} (h : GS .bl a l) : ∃ r, a = [123] :: r := by
 cases h with
 | bl _ => exact ⟨_, rfl⟩
def ReadsS (ts : List Tok) (n : Int) : NtS → Txt → List Nd → Prop
 | .st, a, l => ∀ (σ : PS) (k : Nat) (rest : Txt), σ.at_ ≤ ts.length → σ.err = 0 → rem ts σ = a ++ ([59] :: rest) → 4 * a.length + 6 ≤ k → ([(stmtP ts n k σ).1], (stmtP ts n k σ).2) = (l, adv σ a.length)
 | .bl, a, l => ∀ (σ : PS) (k : Nat) (rest : Txt), σ.at_ ≤ ts.length → σ.err = 0 → rem ts σ = a ++ rest → 4 * a.length + 4 ≤ k → ([(blockP ts n k σ).1], (blockP ts n k σ).2) = (l, adv σ a.length)
 | .ls, a, l => (∀ (σ : PS) (k : Nat) (acc : List Nd) (rest : Txt), σ.at_ ≤ ts.length → σ.err = 0 → rem ts σ = a ++ ([125] :: rest) → 4 * a.length + 7 ≤ k → stmtsP ts n k acc σ = (acc ++ l, adv σ (a.length + 1))) ∧
  (∀ (σ : PS) (k : Nat) (acc : List Nd), σ.at_ ≤ ts.length → σ.err = 0 → rem ts σ = a → 4 * a.length + 7 ≤ k → linesP ts n k acc σ = (acc ++ l, adv σ a.length))
theorem pair_one {x : Nd} {σ σ' : PS} {p : Nd × PS} (h : p = (x, σ')) : ([p.1], p.2) = ([x], σ') := by rw [h]
theorem one_pair {x : Nd} {σ' : PS} {p : Nd × PS} (h : ([p.1], p.2) = ([x], σ')) : p = (x, σ') := by
 simp only [Prod.mk.injEq, List.cons.injEq, and_true] at h
 exact Prod.ext h.1 h.2
theorem G.reads_ex (hd : DigitKinds ts) {lv : Int} {a : Txt} {x : Nd} (h : G (.ex lv) a x) {σ : PS} {k : Nat} {rest : Txt} (hw : σ.at_ ≤ ts.length) (he : σ.err = 0) (hr : rem ts σ = a ++ rest) (hs : StopL lv rest) (hb : NoBr rest) (hk : 4 * a.length + 4 ≤ k) : exprP ts n k lv σ = (x, adv σ a.length) := h.reads hd σ k rest hw he hr hs hb hk
theorem G.reads_pl (hd : DigitKinds ts) {a : Txt} {x : Nd} (h : G .pl a x) {σ : PS} {k : Nat} {rest : Txt} (hw : σ.at_ ≤ ts.length) (he : σ.err = 0) (hr : rem ts σ = a ++ rest) (hb : NoBr rest) (hk : 4 * a.length + 1 ≤ k) : placeP ts n k σ = (x, adv σ a.length) := h.reads hd σ k rest hw he hr hb hk
theorem upd_not {t : List UInt8} (h : updKind t ≠ 0) : t ≠ [91] ∧ t ≠ [60, 61, 62] ∧ binOf t = none := by
 unfold updKind at h
 by_cases h1 : t = [43, 61]
 · subst h1; decide
 by_cases h2 : t = [45, 61]
 · subst h2; decide
 by_cases h3 : t = [94, 61]
 · subst h3; decide
 by_cases h4 : t = [58, 61]
 · subst h4; decide
 simp [h1, h2, h3, h4] at h
theorem upd_peek {σ : PS} {m : List UInt8} {b : Txt} (hr : rem ts σ = m :: b) (he : σ.err = 0) (hm : isName m = true) (k : Nat) : stmtP ts n (k + 1) σ = updateP ts n k σ := by
 rw [stmtP, peek_cons hr he, if_neg (name_kw hm (by decide)), if_neg (name_kw hm (by decide)), if_neg (name_kw hm (by decide)), if_neg (name_kw hm (by decide)), if_neg (name_kw hm (by decide)), if_neg (name_kw hm (by decide)), if_neg (name_kw hm (by decide)), if_neg (name_kw hm (by decide)), if_neg (name_kw hm (by decide)), if_neg (name_kw hm (by decide)), if_neg (name_kw hm (by decide))]
end
end Bk
namespace Bk
open Go
section
variable {ts : List Tok} {n : Int}
theorem rem_lt1 {σ : PS} {t : List UInt8} {b : Txt} (h : rem ts σ = t :: b) : (adv σ 1).at_ ≤ ts.length := rem_lt h
theorem argT_len (l : Txt) : (argT l).length = 2 * l.length := by
 induction l with
 | nil => rfl
 | cons x r ih =>
  have e : argT (x :: r) = [44] :: x :: argT r := rfl; rw [e]
  simp only [List.length_cons, ih]; omega
theorem stmt_stack {σ : PS} {kw : List UInt8} {kd : Int} (h : (kw, kd) ∈ stackKw) (hp : (peekP ts σ).text = kw) (k : Nat) : stmtP ts n (k + 1) σ = stackP ts n k kd σ := by
 simp only [stackKw, List.mem_cons, Prod.mk.injEq, List.not_mem_nil, or_false] at h
 rcases h with ⟨rfl, rfl⟩ | ⟨rfl, rfl⟩
 · rw [stmtP, hp, if_pos rfl]
 · rw [stmtP, hp, if_neg (by decide), if_pos rfl]
theorem stmt_tape {σ : PS} {kw : List UInt8} {kd : Int} (h : (kw, kd) ∈ tapeKw) (hp : (peekP ts σ).text = kw) (k : Nat) : stmtP ts n (k + 1) σ = tapeP ts n k kd σ := by
 simp only [tapeKw, List.mem_cons, Prod.mk.injEq, List.not_mem_nil, or_false] at h
 rcases h with ⟨rfl, rfl⟩ | ⟨rfl, rfl⟩ | ⟨rfl, rfl⟩ | ⟨rfl, rfl⟩
 · rw [stmtP, hp, if_neg (by decide), if_neg (by decide), if_pos rfl]
 · rw [stmtP, hp, if_neg (by decide), if_neg (by decide), if_neg (by decide), if_pos rfl]
 · rw [stmtP, hp, if_neg (by decide), if_neg (by decide), if_neg (by decide), if_neg (by decide), if_pos rfl]
 · rw [stmtP, hp, if_neg (by decide), if_neg (by decide), if_neg (by decide), if_neg (by decide), if_neg (by decide), if_pos rfl]
theorem stmt_call {σ : PS} {kw : List UInt8} {kd : Int} (h : (kw, kd) ∈ callKw) (hp : (peekP ts σ).text = kw) (k : Nat) : stmtP ts n (k + 1) σ = callP ts n k kd σ := by
 simp only [callKw, List.mem_cons, Prod.mk.injEq, List.not_mem_nil, or_false] at h
 rcases h with ⟨rfl, rfl⟩ | ⟨rfl, rfl⟩
 · rw [stmtP, hp, if_neg (by decide), if_neg (by decide), if_neg (by decide), if_neg (by decide), if_neg (by decide), if_neg (by decide), if_pos rfl]
 · rw [stmtP, hp, if_neg (by decide), if_neg (by decide), if_neg (by decide), if_neg (by decide), if_neg (by decide), if_neg (by decide), if_neg (by decide), if_pos rfl]
theorem stmt_branch {σ : PS} {kw mid last : List UInt8} {kd : Int} (h : (kw, kd, mid, last) ∈ branchKw) (hp : (peekP ts σ).text = kw) (k : Nat) : stmtP ts n (k + 1) σ = branchesP ts n k kd mid last σ := by
 simp only [branchKw, List.mem_cons, Prod.mk.injEq, List.not_mem_nil, or_false] at h
 rcases h with ⟨rfl, rfl, rfl, rfl⟩ | ⟨rfl, rfl, rfl, rfl⟩
 · rw [stmtP, hp, if_neg (by decide), if_neg (by decide), if_neg (by decide), if_neg (by decide), if_neg (by decide), if_neg (by decide), if_neg (by decide), if_neg (by decide), if_pos rfl]
 · rw [stmtP, hp, if_neg (by decide), if_neg (by decide), if_neg (by decide), if_neg (by decide), if_neg (by decide), if_neg (by decide), if_neg (by decide), if_neg (by decide), if_neg (by decide), if_pos rfl]
theorem stmt_local {σ : PS} (hp : (peekP ts σ).text = [108, 111, 99, 97, 108]) (k : Nat) : stmtP ts n (k + 1) σ = localP ts n k σ := by
 rw [stmtP, hp, if_neg (by decide), if_neg (by decide), if_neg (by decide), if_neg (by decide), if_neg (by decide), if_neg (by decide), if_neg (by decide), if_neg (by decide), if_neg (by decide), if_neg (by decide), if_pos rfl]
theorem GS.reads (hd : DigitKinds ts) {nt : NtS} {a : Txt} {l : List Nd} (h : GS nt a l) : ReadsS ts n nt a l := by
 induction h with
 | @stack kw m kd a x h1 h2 h3 =>
  intro σ k rest hw he hr hk; simp only [List.length_cons, List.length_append, List.length_nil] at hk ⊢; obtain ⟨k, rfl⟩ : ∃ j, k = j + 1 := ⟨k - 1, by omega⟩
  have hr1 : rem ts σ = kw :: (a ++ ([44] :: m :: ([59] :: rest))) := by rw [hr]; simp
  have hr2 := rem_cons hr1; have hr3 := rem_adv hr2; have hr4 := rem_cons hr3; refine pair_one (σ := σ) ?_; rw [stmt_stack h1 (peek_cons hr1 he)]
  unfold stackP
  simp only; rw [next_adv, h2.reads_pl hd (rem_lt1 hr1) he hr2 (nobr_lit (by decide)) (by omega)]; simp only; rw [expect_cons hr3 he, name_cons hr4 he h3]; simp only [adv_adv]
  exact Prod.ext rfl (congrArg (adv σ) (by omega))
 | @tape kw kd a x h1 h2 =>
  intro σ k rest hw he hr hk; simp only [List.length_cons] at hk ⊢; obtain ⟨k, rfl⟩ : ∃ j, k = j + 1 := ⟨k - 1, by omega⟩; have hr1 : rem ts σ = kw :: (a ++ ([59] :: rest)) := hr; have hr2 := rem_cons hr1; refine pair_one (σ := σ) ?_; rw [stmt_tape h1 (peek_cons hr1 he)]
  unfold tapeP
  rw [next_adv, h2.reads_pl hd (rem_lt1 hr1) he hr2 (nobr_lit (by decide)) (by omega)]; simp only [adv_adv]
  exact Prod.ext rfl (congrArg (adv σ) (by omega))
 | @call0 kw m kd h1 h2 =>
  intro σ k rest hw he hr hk; simp only [List.length_cons, List.length_nil] at hk ⊢; obtain ⟨k, rfl⟩ : ∃ j, k = j + 1 := ⟨k - 1, by omega⟩; have hr1 : rem ts σ = kw :: (m :: ([40] :: ([41] :: ([59] :: rest)))) := hr; have hr2 := rem_cons hr1; have hr3 := rem_cons hr2; have hr4 := rem_cons hr3; refine pair_one (σ := σ) ?_; rw [stmt_call h1 (peek_cons hr1 he)]
  unfold callP
  simp only; rw [next_adv, name_cons hr2 he h2]; simp only; rw [expect_cons hr3 he, has_cons hr4 he, if_pos (by decide)]; simp only [next_adv, adv_adv]
 | @call1 kw m u kd l h1 h2 h3 h4 h5 =>
  intro σ k rest hw he hr hk; have hla := argT_len l; simp only [List.length_cons, List.length_append, List.length_nil] at hk ⊢; obtain ⟨k, rfl⟩ : ∃ j, k = j + 1 := ⟨k - 1, by omega⟩
  have hr1 : rem ts σ = kw :: (m :: ([40] :: (u :: (argT l ++ ([41] :: ([59] :: rest)))))) := by rw [hr]; simp
  have hr2 := rem_cons hr1; have hr3 := rem_cons hr2; have hr4 := rem_cons hr3; have hr5 := rem_cons hr4; have hr6 := rem_adv hr5; refine pair_one (σ := σ) ?_; rw [stmt_call h1 (peek_cons hr1 he)]
  unfold callP argP
  simp only; rw [next_adv, name_cons hr2 he h2]; simp only; rw [expect_cons hr3 he, has_cons hr4 he, if_neg (by simpa using name_sign h3 (by decide)), name_cons hr4 he h3]; simp only; rw [args_read k l [] _ _ _ (rem_lt1 hr4) he hr5 (by simp) h4 (by simp only [List.length_cons, List.length_nil]; omega) (by omega)]; simp only; rw [hla] at hr6; rw [expect_cons hr6 he]; simp only [adv_adv]
  exact Prod.ext (by simp [varN]) (congrArg (adv σ) (by omega))
 | @branch kw mid last kd a b c d x y z u h1 h2 h3 h4 h5 i3 i4 =>
  intro σ k rest hw he hr hk; simp only [List.length_cons, List.length_append] at hk ⊢; obtain ⟨k, rfl⟩ : ∃ j, k = j + 2 := ⟨k - 2, by omega⟩
  have hr1 : rem ts σ = kw :: (a ++ (b ++ (mid :: (c ++ (last :: (d ++ ([59] :: rest))))))) := by rw [hr]; simp
  have hr2 := rem_cons hr1; have hr3 := rem_adv hr2; have hr4 := rem_adv hr3; have hr5 := rem_cons hr4; have hr6 := rem_adv hr5; have hr7 := rem_cons hr6; obtain ⟨b', hb'⟩ := h3.bl_head; have w2 := rem_lt1 hr1; have w3 := rem_wf w2 hr2; have w5 := rem_lt1 hr4; have w7 := rem_lt1 hr6; refine pair_one (σ := σ) ?_; rw [stmt_branch h1 (peek_cons hr1 he), branchesP]; (try simp only); rw [next_adv, h2.reads_ex hd w2 he hr2 (by rw [hb']; exact stop_lit (by decide)) (by rw [hb']; exact nobr_lit (by decide)) (by omega)]; simp only; rw [one_pair (i3 (adv (adv σ 1) a.length) k _ w3 he hr3 (by omega))]; simp only; rw [expect_cons hr4 he, one_pair (i4 _ k _ w5 he hr5 (by omega))]; simp only; rw [expect_cons hr6 he, h5.reads_ex hd w7 he hr7 (stop_lit (by decide)) (nobr_lit (by decide)) (by omega)]; simp only [adv_adv]
  exact Prod.ext rfl (congrArg (adv σ) (by omega))
 | @lstack m b x h1 h2 i2 =>
  intro σ k rest hw he hr hk; simp only [List.length_cons] at hk ⊢; obtain ⟨k, rfl⟩ : ∃ j, k = j + 2 := ⟨k - 2, by omega⟩; have hr1 : rem ts σ = [108, 111, 99, 97, 108] :: ([115, 116, 97, 99, 107] :: (m :: (b ++ ([59] :: rest)))) := hr; have hr2 := rem_cons hr1; have hr3 := rem_cons hr2; have hr4 := rem_cons hr3; refine pair_one (σ := σ) ?_; rw [stmt_local (peek_cons hr1 he), localP]; simp only; rw [next_adv, if_pos (by rw [has_cons hr2 he]; decide), next_adv, name_cons hr3 he h1]; simp only; rw [one_pair (i2 (adv (adv (adv σ 1) 1) 1) k _ (rem_lt1 hr3) he hr4 (by omega))]; simp only [adv_adv]
  exact Prod.ext rfl (congrArg (adv σ) (by omega))
 | @local_ m a b d x y z h1 h2 h3 h4 i3 =>
  intro σ k rest hw he hr hk; simp only [List.length_cons, List.length_append] at hk ⊢; obtain ⟨k, rfl⟩ : ∃ j, k = j + 2 := ⟨k - 2, by omega⟩
  have hr1 : rem ts σ = [108, 111, 99, 97, 108] :: (m :: ([61] :: (a ++ (b ++ ([100, 101, 108, 111, 99, 97, 108] :: (d ++ ([59] :: rest))))))) := by rw [hr]; simp
  have hr2 := rem_cons hr1; have hr3 := rem_cons hr2; have hr4 := rem_cons hr3; have hr5 := rem_adv hr4; have hr6 := rem_adv hr5; have hr7 := rem_cons hr6; obtain ⟨b', hb'⟩ := h3.bl_head; have w4 := rem_lt1 hr3; have w5 := rem_wf w4 hr4; have w7 := rem_lt1 hr6; refine pair_one (σ := σ) ?_; rw [stmt_local (peek_cons hr1 he), localP]; simp only; rw [next_adv, if_neg (by rw [has_cons hr2 he]; simpa using name_kw h1 (by decide)), name_cons hr2 he h1]; simp only; rw [expect_cons hr3 he, h2.reads_ex hd w4 he hr4 (by rw [hb']; exact stop_lit (by decide)) (by rw [hb']; exact nobr_lit (by decide)) (by omega)]; simp only; rw [one_pair (i3 _ k _ w5 he hr5 (by omega))]; simp only; rw [expect_cons hr6 he, h4.reads_ex hd w7 he hr7 (stop_lit (by decide)) (nobr_lit (by decide)) (by omega)]; simp only [adv_adv]
  exact Prod.ext rfl (congrArg (adv σ) (by omega))
 | @upd t a b x y h1 h2 h3 =>
  intro σ k rest hw he hr hk; simp only [List.length_cons, List.length_append] at hk ⊢; obtain ⟨k, rfl⟩ : ∃ j, k = j + 1 := ⟨k - 1, by omega⟩; obtain ⟨n1, n2, n3⟩ := upd_not h2
  have hr1 : rem ts σ = a ++ (t :: (b ++ ([59] :: rest))) := by rw [hr]; simp
  have hr2 := rem_adv hr1; have hr3 := rem_cons hr2; obtain ⟨m, r, rfl, hm⟩ := h1.pl_head; refine pair_one (σ := σ) ?_; rw [upd_peek hr1 he hm]
  unfold updateP
  simp only; rw [h1.reads_pl hd hw he hr1 (nobr_lit n1) (by omega)]; simp only; rw [if_neg (by rw [has_cons hr2 he]; simpa using n2), peek_cons hr2 he, if_neg h2, next_adv, h3.reads_ex hd (rem_lt1 hr2) he hr3 (stop_lit (by decide)) (nobr_lit (by decide)) (by omega)]; simp only [adv_adv]
  exact Prod.ext rfl (congrArg (adv σ) (by omega))
 | @swap a b x y h1 h2 =>
  intro σ k rest hw he hr hk; simp only [List.length_cons, List.length_append] at hk ⊢; obtain ⟨k, rfl⟩ : ∃ j, k = j + 1 := ⟨k - 1, by omega⟩
  have hr1 : rem ts σ = a ++ ([60, 61, 62] :: (b ++ ([59] :: rest))) := by rw [hr]; simp
  have hr2 := rem_adv hr1; have hr3 := rem_cons hr2; obtain ⟨m, r, rfl, hm⟩ := h1.pl_head; refine pair_one (σ := σ) ?_; rw [upd_peek hr1 he hm]
  unfold updateP
  simp only; rw [h1.reads_pl hd hw he hr1 (nobr_lit (by decide)) (by omega)]; simp only; rw [if_pos (by rw [has_cons hr2 he]; decide), next_adv, h2.reads_pl hd (rem_lt1 hr2) he hr3 (nobr_lit (by decide)) (by omega)]; simp only [adv_adv]
  exact Prod.ext rfl (congrArg (adv σ) (by omega))
 | @bl a l h1 i1 =>
  intro σ k rest hw he hr hk; simp only [List.length_cons, List.length_append, List.length_nil] at hk ⊢; obtain ⟨k, rfl⟩ : ∃ j, k = j + 1 := ⟨k - 1, by omega⟩
  have hr1 : rem ts σ = [123] :: (a ++ ([125] :: rest)) := by rw [hr]; simp
  have hr2 := rem_cons hr1; refine pair_one (σ := σ) ?_; rw [blockP]; (try simp only); rw [expect_cons hr1 he, i1.1 (adv σ 1) k [] rest (rem_lt1 hr1) he hr2 (by omega)]; simp only [List.nil_append, adv_adv]
  exact Prod.ext rfl (congrArg (adv σ) (by omega))
 | ls0 =>
  refine ⟨fun σ k acc rest hw he hr hk => ?_, fun σ k acc hw he hr hk => ?_⟩
  · obtain ⟨k, rfl⟩ : ∃ j, k = j + 1 := ⟨k - 1, by omega⟩
    have hr1 : rem ts σ = [125] :: rest := hr; rw [stmtsP, if_neg (fun h => h he), has_cons hr1 he, if_pos (by decide)]
    simp [next_adv]
  · obtain ⟨k, rfl⟩ : ∃ j, k = j + 1 := ⟨k - 1, by omega⟩
    have := rem_len (ts := ts) σ; rw [hr] at this; rw [linesP, if_neg (fun h => by simp at this; omega)]
    simp [adv]
 | @ls1 a b x l h1 h2 i1 i2 =>
  obtain ⟨t, r, rfl, ht, -⟩ := h1.st_head; refine ⟨fun σ k acc rest hw he hr hk => ?_, fun σ k acc hw he hr hk => ?_⟩
  · simp only [List.length_append, List.length_cons] at hk ⊢
    obtain ⟨k, rfl⟩ : ∃ j, k = j + 1 := ⟨k - 1, by omega⟩
    have hr1 : rem ts σ = (t :: r) ++ ([59] :: (b ++ ([125] :: rest))) := by rw [hr]; simp
    have hr2 := rem_adv hr1; have hr3 := rem_cons hr2; rw [stmtsP, if_neg (fun h => h he), has_cons hr1 he, if_neg (by simpa using ht), one_pair (i1 σ k _ hw he hr1 (by simp only [List.length_cons]; omega))]; simp only; rw [expect_cons hr2 he, i2.1 _ k _ rest (rem_lt1 hr2) he hr3 (by omega)]; simp only [adv_adv, List.length_cons]
    exact Prod.ext (by simp) (congrArg (adv σ) (by omega))
  · simp only [List.length_append, List.length_cons] at hk ⊢
    obtain ⟨k, rfl⟩ : ∃ j, k = j + 1 := ⟨k - 1, by omega⟩; have hr1 : rem ts σ = (t :: r) ++ ([59] :: b) := hr; have hr2 := rem_adv hr1; have hr3 := rem_cons hr2; rw [linesP, if_pos ⟨he, rem_lt hr1⟩, one_pair (i1 σ k _ hw he hr1 (by simp only [List.length_cons]; omega))]; simp only; rw [expect_cons hr2 he, i2.2 _ k _ (rem_lt1 hr2) he hr3 (by omega)]; simp only [adv_adv, List.length_cons]
    exact Prod.ext (by simp) (congrArg (adv σ) (by omega))
end
end Bk
namespace Bk
open Go
def bpcs (L : List Pc) (d : Nat) : List Pc := .sp [32] :: .tk [123] :: .sp [10] :: (L ++ [.sp (tabT d), .tk [125]])
def argPcs : List (List UInt8) → List Pc
 | [] => []
 | m :: r => .tk [44] :: .sp [32] :: .tk m :: argPcs r
def callPcs : List Nd → List Pc
 | [] => []
 | x :: r => .tk x.name :: argPcs (r.map Nd.name)
def kwT (k : Int) : List UInt8 :=
 if k = 44 then [112, 117, 115, 104] else if k = 45 then [112, 111, 112] else if k = 46 then [114, 101, 97, 100] else if k = 47 then [117, 110, 114, 101, 97, 100] else if k = 48 then [119, 114, 105, 116, 101] else if k = 49 then [117, 110, 119, 114, 105, 116, 101]
 else if k = 50 then [99, 97, 108, 108] else if k = 51 then [117, 110, 99, 97, 108, 108] else if k = 52 then [105, 102] else if k = 53 then [102, 114, 111, 109] else [108, 111, 99, 97, 108]
def midT (k : Int) : List UInt8 := if k = 52 then [101, 108, 115, 101] else [108, 111, 111, 112]
def lastT (k : Int) : List UInt8 := if k = 52 then [102, 105] else [117, 110, 116, 105, 108]
mutual
def Nd.spcs : Nd → Nat → List Pc
 | .mk k _ s l, d =>
  if k = 40 ∨ k = 41 ∨ k = 42 ∨ k = 56 ∨ k = 43 then match l with | [x, y] => x.pcs ++ (.sp [32] :: .tk (updSign k) :: .sp [32] :: y.pcs) | _ => []
  else if k = 44 ∨ k = 45 then match l with | [x] => .tk (kwT k) :: .sp [32] :: (x.pcs ++ [.tk [44], .sp [32], .tk s]) | _ => []
  else if 46 ≤ k ∧ k ≤ 49 then match l with | [x] => .tk (kwT k) :: .sp [32] :: x.pcs | _ => []
  else if k = 50 ∨ k = 51 then .tk (kwT k) :: .sp [32] :: .tk s :: .tk [40] :: (callPcs l ++ [.tk [41]])
  else if k = 52 ∨ k = 53 then match l with | [x, y, z, u] => .tk (kwT k) :: .sp [32] :: (x.pcs ++ (bpcs (y.lpcs (d + 1)) d ++ (.sp [32] :: .tk (midT k) :: (bpcs (z.lpcs (d + 1)) d ++ (.sp [32] :: .tk (lastT k) :: .sp [32] :: u.pcs))))) | _ => []
  else if k = 54 then match l with | [x, y, z] => .tk [108, 111, 99, 97, 108] :: .sp [32] :: .tk s :: .sp [32] :: .tk [61] :: .sp [32] :: (x.pcs ++ (bpcs (y.lpcs (d + 1)) d ++ (.sp [32] :: .tk [100, 101, 108, 111, 99, 97, 108] :: .sp [32] :: z.pcs))) | _ => []
  else if k = 55 then match l with | [x] => .tk [108, 111, 99, 97, 108] :: .sp [32] :: .tk [115, 116, 97, 99, 107] :: .sp [32] :: .tk s :: bpcs (x.lpcs (d + 1)) d | _ => []
  else []
def Nd.lpcs : Nd → Nat → List Pc
 | .mk _ _ _ l, d => rowPcs l d
def rowPcs : List Nd → Nat → List Pc
 | [], _ => []
 | t :: r, d => .sp (tabT d) :: (t.spcs d ++ (.tk [59] :: .sp [10] :: rowPcs r d))
end
structure NiceL (L : List Pc) : Prop where
 wf : wf none L
 fin : endOf none L = none
theorem toks_b (L : List Pc) (d : Nat) : toks (bpcs L d) = [123] :: (toks L ++ [[125]]) := by
 unfold bpcs
 simp only [toks, toks_append]
structure NiceS (L : List Pc) : Prop where
 wf : wf none L
 fin : ∃ t, endOf none L = some t ∧ CloseT t
end Bk
namespace Bk
open Go
theorem place_expr {x : Nd} (h : x.isPlace = true) : x.isExpr = true := by
 simp only [Nd.isPlace, Bool.and_eq_true] at h; exact h.2
structure SaidS (t : Nd) (d : Nat) : Prop where
 flat : flat (t.spcs d) = t.stmtT d
 nice : NiceS (t.spcs d)
 gs : GS .st (toks (t.spcs d)) [t]
structure SaidL (t : Nd) (d : Nat) : Prop where
 flat : flat (t.lpcs d) = t.linesT d
 nice : NiceL (t.lpcs d)
 gs : GS .ls (toks (t.lpcs d)) t.kids
theorem SaidL.bl {y : Nd} {d : Nat} (h : SaidL y d) (hb : y.isBlock = true) (e : Nat) : GS .bl (toks (bpcs (y.lpcs d) e)) [y] := by
 rw [toks_b]; have := GS.bl h.gs; obtain ⟨k, n, s, l⟩ := y
 unfold Nd.isBlock at hb
 simp only [Bool.and_eq_true, plain, beq_iff_eq, List.isEmpty_iff] at hb; obtain ⟨⟨rfl, rfl, rfl⟩, -⟩ := hb
 exact this
end Bk
namespace Bk
open Go
section
variable {ts : List Tok} {n : Int} {I : PS → Prop}
structure Clo (ts : List Tok) (n : Int) (I : PS → Prop) : Prop where
 next : ∀ σ, In ts σ → I σ → I (nextP σ)
 unexp : ∀ σ, σ.at_ ≤ ts.length → I σ → I (unexpP ts n σ)
 full : ∀ σ, In ts σ → I σ → I (failP σ (peekP ts σ).pos 5)
 range : ∀ σ, In ts σ → I σ → I (failP (nextP σ) (peekP ts σ).pos 2)
theorem Clo.expect (C : Clo ts n I) {σ : PS} {t : List UInt8} (h : σ.at_ ≤ ts.length) (ht : t ≠ []) (i : I σ) : I (expectP ts n σ t) := by
 unfold expectP
 split
 · rename_i hh; exact C.next _ (has_in h hh ht) i
 · exact C.unexp _ h i
theorem Clo.name (C : Clo ts n I) {σ : PS} (h : σ.at_ ≤ ts.length) (i : I σ) : I (nameP ts n σ).2 := by
 unfold nameP
 split
 · rename_i hh; exact C.next _ (peek_in h (Or.inl (isName_ne hh))) i
 · exact C.unexp _ h i
theorem Clo.number (C : Clo ts n I) {a b : Int} {σ : PS} (h : σ.at_ ≤ ts.length) (i : I σ) : I (numberP ts n a b σ).2 := by
 unfold numberP
 split
 · rename_i hh
   have hn := peek_in h (Or.inr (by rw [hh]; decide))
   split
   · exact C.next _ hn i
   · exact C.range _ hn i
 · exact C.unexp _ h i
theorem Clo.exprs (C : Clo ts n I) (k : Nat) : (∀ lv σ, σ.at_ ≤ ts.length → I σ → I (exprP ts n k lv σ).2) ∧ (∀ lv x σ, σ.at_ ≤ ts.length → I σ → I (climbP ts n k lv x σ).2) ∧
 (∀ σ, σ.at_ ≤ ts.length → I σ → I (unaryP ts n k σ).2) ∧ (∀ σ, σ.at_ ≤ ts.length → I σ → I (primaryP ts n k σ).2) ∧ (∀ σ, σ.at_ ≤ ts.length → I σ → I (placeP ts n k σ).2) := by
 induction k with
 | zero =>
  refine ⟨fun lv σ h i => ?_, fun lv x σ h i => ?_, fun σ h i => ?_, fun σ h i => ?_, fun σ h i => ?_⟩
  · rw [exprP]; exact i
  · rw [climbP]; exact i
  · rw [unaryP]; exact i
  · rw [primaryP]; exact i
  · rw [placeP]; exact i
 | succ k ih =>
  obtain ⟨iE, iC, iU, iP, iL⟩ := ih; obtain ⟨vE, vC, vU, vP, vL⟩ := expr_inv (ts := ts) (n := n) k; refine ⟨fun lv σ h i => ?_, fun lv x σ h i => ?_, fun σ h i => ?_, fun σ h i => ?_, fun σ h i => ?_⟩
  · rw [exprP]
    exact iC _ _ _ (vU σ h).1.wf (iU _ h i)
  · rw [climbP]
    split
    · exact i
    · rename_i op hop
      obtain ⟨hne, -⟩ := binOf_ne hop; have hn := peek_in h (Or.inl hne)
      split
      · exact i
      · have h1 := next_le hn
        have h2 := vE (level op + 1) (nextP σ) h1.wf
        exact iC _ _ _ h2.1.wf (iE _ _ h1.wf (C.next _ hn i))
  · rw [unaryP]
    split
    · rename_i hh
      have hn := has_in h hh (by decide)
      exact iU _ (next_le hn).wf (C.next _ hn i)
    · split
      · rename_i hh
        have hn := has_in h hh (by decide)
        exact iU _ (next_le hn).wf (C.next _ hn i)
      · exact iP _ h i
  · rw [primaryP]
    split
    · exact C.number h i
    · split
      · rename_i hh
        have hn := has_in h hh (by decide); have h1 := next_le hn; have h2 := expect_le (n := n) (t := [40]) h1.wf (by decide); have h3 := name_le (n := n) h2.wf
        exact C.expect h3.wf (by decide) (C.name h2.wf (C.expect h1.wf (by decide) (C.next _ hn i)))
      · split
        · rename_i hh
          have hn := has_in h hh (by decide); have h1 := next_le hn; have h2 := expect_le (n := n) (t := [40]) h1.wf (by decide); have h3 := name_le (n := n) h2.wf
          exact C.expect h3.wf (by decide) (C.name h2.wf (C.expect h1.wf (by decide) (C.next _ hn i)))
        · split
          · rename_i hh
            have hn := has_in h hh (by decide); have h1 := next_le hn
            exact C.expect (vE 1 _ h1.wf).1.wf (by decide) (iE _ _ h1.wf (C.next _ hn i))
          · exact iL _ h i
  · rw [placeP]
    have h0 := name_le (n := n) h
    split
    · rename_i hh
      have hn := has_in h0.wf hh (by decide); have h1 := next_le hn
      exact C.expect (vE 1 _ h1.wf).1.wf (by decide) (iE _ _ h1.wf (C.next _ hn (C.name h i)))
    · exact C.name h i
theorem Clo.expr (C : Clo ts n I) {k : Nat} {lv : Int} {σ : PS} (h : σ.at_ ≤ ts.length) (i : I σ) : I (exprP ts n k lv σ).2 := (C.exprs k).1 lv σ h i
theorem Clo.place (C : Clo ts n I) {k : Nat} {σ : PS} (h : σ.at_ ≤ ts.length) (i : I σ) : I (placeP ts n k σ).2 := (C.exprs k).2.2.2.2 σ h i
theorem place_le' {k : Nat} {σ : PS} (h : σ.at_ ≤ ts.length) : Le ts σ (placeP ts n k σ).2 := ((expr_inv (ts := ts) (n := n) k).2.2.2.2 σ h).1
theorem Clo.args (C : Clo ts n I) (k : Nat) : ∀ acc σ, σ.at_ ≤ ts.length → I σ → I (argsP ts n k acc σ).2 := by
 induction k with
 | zero => intro acc σ h i; rw [argsP]; exact i
 | succ k ih =>
  intro acc σ h i; rw [argsP]
  split
  · rename_i hh
    have hn := has_in h hh (by decide); have h1 := next_le hn; have i1 := C.next _ hn i
    split
    · rename_i h8
      have l2 := fail_le (ts := ts) h1.wf (peekP ts (nextP σ)).pos 5
      exact ih _ _ (name_le (n := n) l2.wf).wf (C.name l2.wf (C.full _ (peek_in h1.wf (Or.inl (isName_ne h8.2))) i1))
    · exact ih _ _ (name_le (n := n) h1.wf).wf (C.name h1.wf i1)
  · exact i
theorem args_le' (k : Nat) : ∀ acc σ, σ.at_ ≤ ts.length → Le ts σ (argsP ts n k acc σ).2 := by
 induction k with
 | zero => intro acc σ h; rw [argsP]; exact Le.refl h
 | succ k ih =>
  intro acc σ h; rw [argsP]
  split
  · rename_i hh
    have h1 := next_le (has_in h hh (by decide))
    split
    · have l2 := h1.trans (fail_le (ts := ts) h1.wf (peekP ts (nextP σ)).pos 5)
      have l3 := l2.trans (name_le (n := n) l2.wf)
      exact l3.trans (ih _ _ l3.wf)
    · have l3 := h1.trans (name_le (n := n) h1.wf)
      exact l3.trans (ih _ _ l3.wf)
  · exact Le.refl h
theorem Clo.call (C : Clo ts n I) {k : Nat} {kind : Int} {σ : PS} (h : In ts σ) (i : I σ) : I (callP ts n k kind σ).2 := by
 unfold callP
 have h1 := next_le h; have h2 := name_le (n := n) h1.wf; have h3 := expect_le (n := n) (t := [40]) h2.wf (by decide); have i3 := C.expect (t := [40]) h2.wf (by decide) (C.name h1.wf (C.next _ h i)); simp only
 split
 · rename_i hh; exact C.next _ (has_in h3.wf hh (by decide)) i3
 · have h4 := name_le (n := n) h3.wf
   exact C.expect (args_le' k _ _ h4.wf).wf (by decide) (C.args k _ _ h4.wf (C.name h3.wf i3))
theorem Clo.update (C : Clo ts n I) {k : Nat} {σ : PS} (h : σ.at_ ≤ ts.length) (i : I σ) : I (updateP ts n k σ).2 := by
 unfold updateP
 have h1 := place_le' (n := n) (k := k) h; have i1 := C.place (k := k) h i; simp only
 split
 · rename_i hh
   have hn := has_in h1.wf hh (by decide)
   exact C.place (next_le hn).wf (C.next _ hn i1)
 · split
   · exact C.unexp _ h1.wf i1
   · rename_i hh
     have hn := peek_in h1.wf (Or.inl (upd_ne hh))
     exact C.expr (next_le hn).wf (C.next _ hn i1)
theorem Clo.stack (C : Clo ts n I) {k : Nat} {kind : Int} {σ : PS} (h : In ts σ) (i : I σ) : I (stackP ts n k kind σ).2 := by
 unfold stackP
 have h1 := next_le h; have h2 := place_le' (n := n) (k := k) h1.wf; have h3 := expect_le (n := n) (t := [44]) h2.wf (by decide)
 exact C.name h3.wf (C.expect h2.wf (by decide) (C.place h1.wf (C.next _ h i)))
theorem Clo.tape (C : Clo ts n I) {k : Nat} {kind : Int} {σ : PS} (h : In ts σ) (i : I σ) : I (tapeP ts n k kind σ).2 := by
 unfold tapeP
 exact C.place (next_le h).wf (C.next _ h i)
theorem Clo.stmts (C : Clo ts n I) (k : Nat) : (∀ σ, σ.at_ ≤ ts.length → I σ → I (stmtP ts n k σ).2) ∧ (∀ kind mid last σ, In ts σ → mid ≠ [] → last ≠ [] → I σ → I (branchesP ts n k kind mid last σ).2) ∧ (∀ σ, In ts σ → I σ → I (localP ts n k σ).2) ∧
 (∀ σ, σ.at_ ≤ ts.length → I σ → I (blockP ts n k σ).2) ∧ (∀ acc σ, σ.at_ ≤ ts.length → I σ → I (stmtsP ts n k acc σ).2) := by
 induction k with
 | zero =>
  refine ⟨fun σ h i => ?_, fun kind mid last σ h _ _ i => ?_, fun σ h i => ?_, fun σ h i => ?_, fun acc σ h i => ?_⟩
  · rw [stmtP]; exact i
  · rw [branchesP]; exact i
  · rw [localP]; exact i
  · rw [blockP]; exact i
  · rw [stmtsP]; exact i
 | succ k ih =>
  obtain ⟨iS, iB, iL, iK, iT⟩ := ih; obtain ⟨vS, vB, vL, vK, vT⟩ := stmt_inv (ts := ts) (n := n) k; refine ⟨fun σ h i => ?_, fun kind mid last σ hn hmid hlast i => ?_, fun σ hn i => ?_, fun σ h i => ?_, fun acc σ h i => ?_⟩
  · rw [stmtP]
    have hin : ∀ t : List UInt8, t ≠ [] → (peekP ts σ).text = t → In ts σ := fun t ht e => peek_in h (Or.inl (by rw [e]; exact ht))
    by_cases c : (peekP ts σ).text = [112, 117, 115, 104]
    · rw [if_pos c]; exact C.stack (hin _ (by decide) c) i
    rw [if_neg c]; clear c
    by_cases c : (peekP ts σ).text = [112, 111, 112]
    · rw [if_pos c]; exact C.stack (hin _ (by decide) c) i
    rw [if_neg c]; clear c
    by_cases c : (peekP ts σ).text = [114, 101, 97, 100]
    · rw [if_pos c]; exact C.tape (hin _ (by decide) c) i
    rw [if_neg c]; clear c
    by_cases c : (peekP ts σ).text = [117, 110, 114, 101, 97, 100]
    · rw [if_pos c]; exact C.tape (hin _ (by decide) c) i
    rw [if_neg c]; clear c
    by_cases c : (peekP ts σ).text = [119, 114, 105, 116, 101]
    · rw [if_pos c]; exact C.tape (hin _ (by decide) c) i
    rw [if_neg c]; clear c
    by_cases c : (peekP ts σ).text = [117, 110, 119, 114, 105, 116, 101]
    · rw [if_pos c]; exact C.tape (hin _ (by decide) c) i
    rw [if_neg c]; clear c
    by_cases c : (peekP ts σ).text = [99, 97, 108, 108]
    · rw [if_pos c]; exact C.call (hin _ (by decide) c) i
    rw [if_neg c]; clear c
    by_cases c : (peekP ts σ).text = [117, 110, 99, 97, 108, 108]
    · rw [if_pos c]; exact C.call (hin _ (by decide) c) i
    rw [if_neg c]; clear c
    by_cases c : (peekP ts σ).text = [105, 102]
    · rw [if_pos c]; exact iB _ _ _ _ (hin _ (by decide) c) (by decide) (by decide) i
    rw [if_neg c]; clear c
    by_cases c : (peekP ts σ).text = [102, 114, 111, 109]
    · rw [if_pos c]; exact iB _ _ _ _ (hin _ (by decide) c) (by decide) (by decide) i
    rw [if_neg c]; clear c
    by_cases c : (peekP ts σ).text = [108, 111, 99, 97, 108]
    · rw [if_pos c]; exact iL _ (hin _ (by decide) c) i
    rw [if_neg c]; clear c
    exact C.update h i
  · rw [branchesP]
    have h1 := next_le hn; have h2 := expr_le (n := n) (k := k) (lv := 1) h1.wf; have h3 := vK _ h2.wf; have h4 := expect_le (n := n) (t := mid) h3.wf hmid; have h5 := vK _ h4.wf; have h6 := expect_le (n := n) (t := last) h5.wf hlast
    exact C.expr h6.wf (C.expect h5.wf hlast (iK _ h4.wf (C.expect h3.wf hmid (iK _ h2.wf (C.expr h1.wf (C.next _ hn i))))))
  · rw [localP]
    have h1 := next_le hn; have i1 := C.next _ hn i
    split
    · rename_i hh
      have hn2 := has_in h1.wf hh (by decide); have h2 := next_le hn2
      exact iK _ (name_le (n := n) h2.wf).wf (C.name h2.wf (C.next _ hn2 i1))
    · have h2 := name_le (n := n) h1.wf
      have h3 := expect_le (n := n) (t := [61]) h2.wf (by decide); have h4 := expr_le (n := n) (k := k) (lv := 1) h3.wf; have h5 := vK _ h4.wf; have h6 := expect_le (n := n) (t := [100, 101, 108, 111, 99, 97, 108]) h5.wf (by decide)
      exact C.expr h6.wf (C.expect h5.wf (by decide) (iK _ h4.wf (C.expr h3.wf (C.expect h2.wf (by decide) (C.name h1.wf i1)))))
  · rw [blockP]
    exact iT _ _ (expect_le (n := n) (t := [123]) h (by decide)).wf (C.expect h (by decide) i)
  · rw [stmtsP]
    split
    · exact i
    · split
      · rename_i hh; exact C.next _ (has_in h hh (by decide)) i
      · have h1 := vS _ h
        exact iT _ _ (expect_le (n := n) (t := [59]) h1.wf (by decide)).wf (C.expect h1.wf (by decide) (iS _ h i))
theorem Clo.decl (C : Clo ts n I) {σ : PS} (h : σ.at_ ≤ ts.length) (i : I σ) : I (declP ts n σ).2 := by
 unfold declP
 split
 · rename_i hh
   have hn := has_in h hh (by decide)
   exact C.name (next_le hn).wf (C.next _ hn i)
 · split
   · rename_i hh
     have hn := has_in h hh (by decide)
     exact C.name (next_le hn).wf (C.next _ hn i)
   · split
     · rename_i hh
       have hn := has_in h hh (by decide); have h1 := next_le hn; have h2 := name_le (n := n) h1.wf; have h3 := expect_le (n := n) (t := [91]) h2.wf (by decide); have h4 := number_le (n := n) (a := 1) (b := 16) h3.wf
       exact C.expect h4.wf (by decide) (C.number h3.wf (C.expect h2.wf (by decide) (C.name h1.wf (C.next _ hn i))))
     · exact C.unexp _ h i
theorem atDecl_in {σ : PS} (h : σ.at_ ≤ ts.length) (hd : atDeclP ts σ = true) : In ts σ := by
 simp only [atDeclP, Bool.or_eq_true] at hd
 rcases hd with (c | c) | c <;> exact has_in h c (by decide)
theorem Clo.params (C : Clo ts n I) (k : Nat) : ∀ acc σ, σ.at_ ≤ ts.length → I σ → I (paramsP ts n k acc σ).2 := by
 induction k with
 | zero => intro acc σ h i; rw [paramsP]; exact i
 | succ k ih =>
  intro acc σ h i; rw [paramsP]
  split
  · rename_i hh
    have hn := has_in h hh (by decide); have h1 := next_le hn; have i1 := C.next _ hn i; simp only
    split
    · rename_i h8
      have l2 := fail_le (ts := ts) h1.wf (peekP ts (nextP σ)).pos 5
      exact ih _ _ (decl_le (n := n) l2.wf).wf (C.decl l2.wf (C.full _ (atDecl_in h1.wf h8.2) i1))
    · exact ih _ _ (decl_le (n := n) h1.wf).wf (C.decl h1.wf i1)
  · exact i
structure CloL (ts : List Tok) (n : Int) (I : PS → Prop) : Prop extends Clo ts n I where
 lim : ∀ σ x τ, σ.at_ ≤ ts.length → I σ → I τ → I (limitP x (peekP ts σ).pos τ)
theorem CloL.body (C : CloL ts n I) {k : Nat} {σ : PS} (h : σ.at_ ≤ ts.length) (i : I σ) : I (bodyP ts n k σ).2 := by
 unfold bodyP
 exact C.lim _ _ _ h i ((C.toClo.stmts k).2.2.2.1 _ h i)
theorem CloL.proc (C : CloL ts n I) {k : Nat} {σ : PS} (h : σ.at_ ≤ ts.length) (i : I σ) : I (procP ts n k σ).2 := by
 rw [procP_at]; have h1 := expect_le (n := n) (t := [112, 114, 111, 99]) h (by decide); have h2 := name_le (n := n) h1.wf; have h3 := expect_le (n := n) (t := [40]) h2.wf (by decide); have i3 := C.expect (t := [40]) h2.wf (by decide) (C.name h1.wf (C.expect (t := [112, 114, 111, 99]) h (by decide) i)); have h4 := procQ_le (n := n) (k := k) h3.wf; refine C.body h4.wf ?_
 unfold procQ
 split
 · rename_i hh; exact C.next _ (has_in h3.wf hh (by decide)) i3
 · have h5 := decl_le (n := n) h3.wf
   exact C.expect (params_le (n := n) k _ _ h5.wf).wf (by decide) (C.params k _ _ h5.wf (C.decl h3.wf i3))
theorem CloL.vars (C : CloL ts n I) (k : Nat) : ∀ acc σ, σ.at_ ≤ ts.length → I σ → I (varsP ts n k acc σ).2 := by
 induction k with
 | zero => intro acc σ h i; rw [varsP]; exact i
 | succ k ih =>
  intro acc σ h i; rw [varsP]
  split
  · rename_i hh
    simp only
    split
    · have l2 := fail_le (ts := ts) h (peekP ts σ).pos 5
      exact ih _ _ (decl_le (n := n) l2.wf).wf (C.decl l2.wf (C.full _ (atDecl_in h hh) i))
    · exact ih _ _ (decl_le (n := n) h).wf (C.decl h i)
  · exact i
theorem CloL.procs (C : CloL ts n I) (k : Nat) : ∀ acc σ, σ.at_ ≤ ts.length → I σ → I (procsP ts n k acc σ).2 := by
 induction k with
 | zero => intro acc σ h i; rw [procsP]; exact i
 | succ k ih =>
  intro acc σ h i; rw [procsP]
  split
  · rename_i hh
    simp only
    split
    · have l2 := fail_le (ts := ts) h (peekP ts σ).pos 5
      exact ih _ _ (procP_le (n := n) (k := k) l2.wf).wf (C.proc l2.wf (C.full _ (has_in h hh (by decide)) i))
    · exact ih _ _ (procP_le (n := n) (k := k) h).wf (C.proc h i)
  · exact i
theorem CloL.program (C : CloL ts n I) {k : Nat} {σ : PS} (h : σ.at_ ≤ ts.length) (i : I σ) : I (programP ts n k σ).2 := by
 unfold programP
 have h1 := vars_le (n := n) k [] σ h; have h2 := procs_le (n := n) k [] _ h1.wf
 exact C.body (expect_le (n := n) (t := [109, 97, 105, 110]) h2.wf (by decide)).wf (C.expect h2.wf (by decide) (C.procs k _ _ h1.wf (C.vars k _ _ h i)))
end
end Bk
namespace Bk
open Go
section
variable {ts : List Tok} {n : Int}
end
theorem var_valid (l : Txt) (h : ∀ v ∈ l, isName v = true) : (l.map varN).all Nd.isVar = true := by
 rw [List.all_eq_true]; intro x hx; obtain ⟨v, hv, rfl⟩ := List.mem_map.1 hx
 simp [varN, Nd.isVar, Nd.isExpr, Nd.kind, named, h v hv]
theorem GS.valid {nt : NtS} {a : Txt} {l : List Nd} (h : GS nt a l) : match nt with
 | .st => ∀ x, l = [x] → x.isStmt = true
 | .bl => ∀ x, l = [x] → x.isBlock = true
 | .ls => rowStmt l = true := by
 induction h with
 | stack h1 h2 h3 =>
  rintro x ⟨⟩; have := h2.valid; simp only [stackKw, List.mem_cons, Prod.mk.injEq, List.not_mem_nil, or_false] at h1
  rcases h1 with ⟨-, rfl⟩ | ⟨-, rfl⟩ <;> (unfold Nd.isStmt; simp only at this; simp [named, h3, this])
 | tape h1 h2 =>
  rintro x ⟨⟩; have := h2.valid; simp only [tapeKw, List.mem_cons, Prod.mk.injEq, List.not_mem_nil, or_false] at h1
  rcases h1 with ⟨-, rfl⟩ | ⟨-, rfl⟩ | ⟨-, rfl⟩ | ⟨-, rfl⟩ <;> (unfold Nd.isStmt; simp only at this; simp [plain, this])
 | call0 h1 h2 =>
  rintro x ⟨⟩; simp only [callKw, List.mem_cons, Prod.mk.injEq, List.not_mem_nil, or_false] at h1
  rcases h1 with ⟨-, rfl⟩ | ⟨-, rfl⟩ <;> (unfold Nd.isStmt; simp [named, h2])
 | @call1 kw m u kd l h1 h2 h3 h4 h5 =>
  rintro x ⟨⟩; have hv := var_valid (u :: l) (fun v hv => by rcases List.mem_cons.1 hv with rfl | hv; exact h3; exact h4 v hv)
  have hl : ((u :: l).map varN).length ≤ 8 := by simp only [List.length_map, List.length_cons]; omega
  simp only [callKw, List.mem_cons, Prod.mk.injEq, List.not_mem_nil, or_false] at h1
  generalize (u :: l).map varN = q at *
  rcases h1 with ⟨-, rfl⟩ | ⟨-, rfl⟩ <;> (unfold Nd.isStmt; simp [named, h2, hl, hv])
 | branch h1 h2 h3 h4 h5 i3 i4 =>
  rintro x ⟨⟩; have v2 := h2.valid; have v5 := h5.valid; have v3 := i3 _ rfl; have v4 := i4 _ rfl; simp only [branchKw, List.mem_cons, Prod.mk.injEq, List.not_mem_nil, or_false] at h1; simp only at v2 v5
  rcases h1 with ⟨-, rfl, -⟩ | ⟨-, rfl, -⟩ <;> (unfold Nd.isStmt; simp [plain, v2, v3, v4, v5])
 | lstack h1 h2 i2 =>
  rintro x ⟨⟩; have v2 := i2 _ rfl
  unfold Nd.isStmt; simp [named, h1, v2]
 | local_ h1 h2 h3 h4 i3 =>
  rintro x ⟨⟩; have v2 := h2.valid; have v3 := i3 _ rfl; have v4 := h4.valid; simp only at v2 v4
  unfold Nd.isStmt; simp [named, h1, v2, v3, v4]
 | @upd t a b x y h1 h2 h3 =>
  rintro z ⟨⟩; have v1 := h1.valid; have v3 := h3.valid; simp only at v1 v3
  have hk : updKind t = 40 ∨ updKind t = 41 ∨ updKind t = 42 ∨ updKind t = 56 := by
   unfold updKind at h2 ⊢
   by_cases c1 : t = [43, 61]
   · simp [c1]
   by_cases c2 : t = [45, 61]
   · simp [c2]
   by_cases c3 : t = [94, 61]
   · simp [c3]
   by_cases c4 : t = [58, 61]
   · simp [c4]
   simp [c1, c2, c3, c4] at h2
  unfold Nd.isStmt
  rw [if_pos hk]; simp [plain, v1, v3]
 | swap h1 h2 =>
  rintro x ⟨⟩; have v1 := h1.valid; have v2 := h2.valid; simp only at v1 v2
  unfold Nd.isStmt; simp [plain, v1, v2]
 | bl h1 i1 =>
  rintro x ⟨⟩; simp only at i1
  unfold Nd.isBlock; simp [plain, i1]
 | ls0 => simp [rowStmt]
 | ls1 h1 h2 i1 i2 =>
  have := i1 _ rfl; simp only at i2; simp only [rowStmt, this, i2, Bool.and_self]
end Bk
namespace Bk
open Go
theorem wrap_lenV (s : List UInt8) (b : Bool) : (wrap s b).length = s.length + (if b then 2 else 0) := by
 unfold wrap
 cases b
 · rfl
 · simp
theorem text_wt (N : Nat) : ∀ t : Nd, t.size < N → t.isExpr = true → t.text.length ≤ 3 * wt (toks t.pcs) := by
 induction N with
 | zero => intro t h; omega
 | succ N ih =>
  intro t hs he; obtain ⟨k, n, s, l⟩ := t; simp only [Nd.size] at hs
  unfold Nd.isExpr at he
  unfold Nd.pcs Nd.text
  by_cases c1 : k = 1
  · rw [if_pos c1, if_pos c1]; simp only [toks, wt]; omega
  rw [if_neg c1] at he ⊢; rw [if_neg c1]
  by_cases c2 : k = 2
  · rw [if_pos c2, if_pos c2]; simp only [toks, wt]; omega
  rw [if_neg c2, if_neg c2]
  by_cases c3 : k = 3
  · rw [if_neg (by omega), if_pos c3] at he
    rw [if_pos c3, if_pos c3]; simp only [Bool.and_eq_true] at he; obtain ⟨-, hx⟩ := he
    split at hx
    · rename_i x
      simp only [rowSize] at hs; have := ih x (by omega) hx; simp only [toks, toks_append, wt, wt_append, List.length_append, List.length_cons, List.length_nil]
      omega
    · cases hx
  rw [if_neg c3, if_neg c3]
  by_cases c4 : k = 4
  · rw [if_pos c4, if_pos c4]; simp only [toks, wt, List.length_append, List.length_cons, List.length_nil]; omega
  rw [if_neg c4, if_neg c4]
  by_cases c5 : k = 5
  · rw [if_pos c5, if_pos c5]; simp only [toks, wt, List.length_append, List.length_cons, List.length_nil]; omega
  rw [if_neg c5, if_neg c5]; rw [if_neg (by omega), if_neg (by omega)] at he
  by_cases c6 : k = 6 ∨ k = 7
  · rw [if_pos c6] at he
    rw [if_pos c6, if_pos c6]; simp only [Bool.and_eq_true] at he; obtain ⟨-, hx⟩ := he
    split at hx
    · rename_i x
      simp only [rowSize] at hs; have := ih x (by omega) hx; simp only [toks, wt, wt_pw, List.length_append, wrap_lenV]
      split <;> omega
    · cases hx
  rw [if_neg c6] at he; rw [if_neg c6, if_neg c6]
  by_cases c8 : 8 ≤ k ∧ k ≤ 23
  · rw [if_pos c8] at he
    simp only [Bool.and_eq_true] at he; obtain ⟨-, hx⟩ := he
    split at hx
    · rename_i x y
      simp only [rowSize] at hs; simp only [Bool.and_eq_true] at hx; have h1 := ih x (by omega) hx.1; have h2 := ih y (by omega) hx.2
      have h3 : (symbol k).length ≠ 0 := fun e => (symbol_tok (k := k) (by omega) (by omega)).1.ne (List.eq_nil_of_length_eq_zero e)
      simp only [toks, toks_append, wt, wt_append, wt_pw, List.length_append, wrap_lenV, List.length_cons, List.length_nil]
      split <;> split <;> omega
    · cases hx
  · rw [if_neg c8] at he; cases he
def DigT (a : Txt) : Prop := ∀ t ∈ a, startsDigit t = true → ∀ c ∈ t, digit c = true
theorem DigT.app {a b : Txt} (h : DigT (a ++ b)) : DigT a ∧ DigT b := ⟨fun t ht => h t (List.mem_append_left _ ht), fun t ht => h t (List.mem_append_right _ ht)⟩
theorem DigT.tl {t : List UInt8} {b : Txt} (h : DigT (t :: b)) : DigT b := fun u hu => h u (List.mem_cons_of_mem _ hu)
theorem ex_len {a : Txt} {x : Nd} (h : G (.ex 1) a x) (hd : DigT a) (hw : x.wf) : x.isExpr = true ∧ x.text.length ≤ 3 * wt a ∧ x.text.length ≤ 30 * x.size := by
 have he : x.isExpr = true := h.valid; have h1 := text_wt (x.size + 1) x (by omega) he; have h2 := h.heavy hd; simp only [Heavy] at h2
 exact ⟨he, by split at h2 <;> omega, text_len (x.size + 1) x (by omega) hw he⟩
theorem pl_len {a : Txt} {x : Nd} (h : G .pl a x) (hd : DigT a) (hw : x.wf) : x.isExpr = true ∧ x.text.length ≤ 3 * wt a ∧ x.text.length ≤ 30 * x.size := by
 have hp := h.valid; simp only at hp; have he := place_expr hp; have h1 := text_wt (x.size + 1) x (by omega) he; have h2 := h.heavy hd; simp only [Heavy] at h2
 exact ⟨he, by omega, text_len (x.size + 1) x (by omega) hw he⟩
end Bk
namespace Bk
open Go
def VD.ok (v : VD) : Bool := isName v.name && if v.kind = 1 ∨ v.kind = 3 then v.len == 0 else if v.kind = 2 then decide (1 ≤ v.len) && decide (v.len ≤ 16) else false
def allOk (l : List VD) : Bool := l.all VD.ok
mutual
def Nd.lim : Nd → Int → Int → Bool × Int
 | .mk _ _ _ l, d, m => if d = 0 ∨ m = 0 then (false, m) else rowLim l (d - 1) (m - 1)
def rowLim : List Nd → Int → Int → Bool × Int
 | [], _, m => (true, m)
 | t :: r, d, m => if (t.lim d m).1 then rowLim r d (t.lim d m).2 else (false, (t.lim d m).2)
end
def bodyOk (t : Nd) : Bool := (t.lim 80 2000).1 && t.isBlock
def PD.ok (p : PD) : Bool := isName p.name && decide (p.params.length ≤ 8) && allOk p.params && bodyOk p.body
def PG.ok (g : PG) : Bool := decide (g.vars.length ≤ 32) && decide (g.procs.length ≤ 64) && allOk g.vars && g.procs.all PD.ok && bodyOk g.main
end Bk
namespace Bk
open Go
mutual
theorem lim_ok : ∀ (t : Nd) (d m : Int), t.depth ≤ d → (t.size : Int) ≤ m → t.lim d m = (true, m - t.size)
 | .mk _ _ _ l, d, m, hd, hm => by
  simp only [Nd.depth] at hd; simp only [Nd.size] at hm; have h0 : 0 ≤ rowDepth l := rowDepth_nn l
  unfold Nd.lim
  rw [if_neg (by omega), rowLim_ok l (d - 1) (m - 1) (by omega) (by omega)]; simp only [Nd.size]
  congr 1
  omega
theorem rowLim_ok : ∀ (l : List Nd) (d m : Int), rowDepth l ≤ d → (rowSize l : Int) ≤ m → rowLim l d m = (true, m - rowSize l)
 | [], d, m, _, _ => by simp [rowLim, rowSize]
 | t :: r, d, m, hd, hm => by
  simp only [rowDepth] at hd; simp only [rowSize] at hm; have h1 := lim_ok t d m (by omega) (by omega)
  unfold rowLim
  rw [h1]; simp only [if_true]; rw [rowLim_ok r d _ (by omega) (by omega)]; simp only [rowSize]
  congr 1
  omega
theorem rowDepth_nn : ∀ l : List Nd, 0 ≤ rowDepth l
 | [] => by simp [rowDepth]
 | t :: r => by have := rowDepth_nn r; simp only [rowDepth]; omega
end
section
variable {ts : List Tok} {n : Int}
def OffIn (n : Int) (σ : PS) : Prop := σ.err ≠ 0 → 0 ≤ σ.off ∧ σ.off ≤ n
end
end Bk
namespace Bk
open Go
def LenS : NtS → Txt → List Nd → Prop
 | .st, a, l => ∀ d : Nat, rowDepth l + 2 * (d : Int) ≤ 82 → (rowLines l d).length ≤ 32 * wt a + 32 ∧ (rowLines l d).length ≤ 200 * rowSize l
 | .bl, a, l => ∀ (d : Nat) (y : Nd), l = [y] → y.depth + 2 * (d : Int) ≤ 81 → (y.linesT (d + 1)).length + d + 4 ≤ 32 * wt a ∧ (y.linesT (d + 1)).length + 200 ≤ 200 * y.size
 | .ls, a, l => ∀ d : Nat, rowDepth l + 2 * (d : Int) ≤ 82 → (rowLines l d).length ≤ 32 * wt a ∧ (rowLines l d).length ≤ 200 * rowSize l
theorem varN_text (m : List UInt8) : (varN m).text = m := by simp [varN, Nd.text]
theorem args_short : ∀ (l : Txt), (∀ v ∈ l, isName v = true) → (argsT false (l.map varN)).length ≤ 2 * wt (argT l) ∧ (argsT false (l.map varN)).length ≤ 18 * l.length
 | [], _ => by simp [argsT]
 | m :: r, h => by
  obtain ⟨h1, h2⟩ := args_short r (fun v hv => h v (by simp [hv])); have h3 := isName_len (h m (by simp))
  have e : argT (m :: r) = [44] :: m :: argT r := by simp [argT]
  rw [e]; simp only [List.map_cons, argsT, varN_text, Bool.false_eq_true, if_false, List.length_append, List.length_cons, List.length_nil, wt]
  omega
theorem rowSize_map (l : Txt) : rowSize (l.map varN) = l.length := by
 induction l with
 | nil => rfl
 | cons m r ih => simp only [List.map_cons, rowSize, ih, List.length_cons, varN, Nd.size]; omega
theorem kwordL_len (k : Int) : (kword k).length ≤ 12 := by
 unfold kword
 by_cases h1 : k = 44
 · rw [if_pos h1]; decide
 rw [if_neg h1]
 by_cases h45 : k = 45
 · rw [if_pos h45]; decide
 rw [if_neg h45]
 by_cases h46 : k = 46
 · rw [if_pos h46]; decide
 rw [if_neg h46]
 by_cases h47 : k = 47
 · rw [if_pos h47]; decide
 rw [if_neg h47]
 by_cases h48 : k = 48
 · rw [if_pos h48]; decide
 rw [if_neg h48]
 by_cases h49 : k = 49
 · rw [if_pos h49]; decide
 rw [if_neg h49]
 by_cases h50 : k = 50
 · rw [if_pos h50]; decide
 rw [if_neg h50]
 by_cases h51 : k = 51
 · rw [if_pos h51]; decide
 rw [if_neg h51]
 by_cases h52 : k = 52
 · rw [if_pos h52]; decide
 rw [if_neg h52]
 by_cases h53 : k = 53
 · rw [if_pos h53]; decide
 rw [if_neg h53]
 by_cases h54 : k = 54
 · rw [if_pos h54]; decide
 rw [if_neg h54]
 by_cases h55 : k = 55
 · rw [if_pos h55]; decide
 rw [if_neg h55]
 decide
set_option maxHeartbeats 4000000 in
theorem GS.len {nt : NtS} {a : Txt} {l : List Nd} (h : GS nt a l) : DigT a → rowWf l → LenS nt a l := by
 induction h with
 | @stack kw m kd a x hk hp hm =>
  intro hd hw d hdd; obtain ⟨-, h1, h2⟩ := pl_len hp hd.tl.app.1 hw.1.2.2.2.2.2.2.1; have hn := isName_len hm; have hkw := kwordL_len kd; simp only [stackKw, List.mem_cons, Prod.mk.injEq, List.not_mem_nil, or_false] at hk; simp only [rowDepth, Nd.depth] at hdd
  rcases hk with ⟨rfl, rfl⟩ | ⟨rfl, rfl⟩ <;>
  · simp only [rowLines, rowSize, Nd.size, wt, wt_append]
    rw [Nd.stmtT.eq_def]; simp only [tabT]
    simp [-List.length_append]
    simp only [List.length_append, List.length_cons, List.length_nil, List.length_replicate]
    omega
 | @tape kw kd a x hk hp =>
  intro hd hw d hdd; obtain ⟨-, h1, h2⟩ := pl_len hp hd.tl hw.1.2.2.2.2.2.2.1; have hkw := kwordL_len kd; simp only [tapeKw, List.mem_cons, Prod.mk.injEq, List.not_mem_nil, or_false] at hk; simp only [rowDepth, Nd.depth] at hdd
  rcases hk with ⟨rfl, rfl⟩ | ⟨rfl, rfl⟩ | ⟨rfl, rfl⟩ | ⟨rfl, rfl⟩ <;>
  · simp only [rowLines, rowSize, Nd.size, wt]
    rw [Nd.stmtT.eq_def]; simp only [tabT]
    simp [-List.length_append]
    simp only [List.length_append, List.length_cons, List.length_nil, List.length_replicate]
    omega
 | @call0 kw m kd hk hm =>
  intro hd hw d hdd; have hn := isName_len hm; have hkw := kwordL_len kd; simp only [callKw, List.mem_cons, Prod.mk.injEq, List.not_mem_nil, or_false] at hk; simp only [rowDepth, Nd.depth] at hdd
  rcases hk with ⟨rfl, rfl⟩ | ⟨rfl, rfl⟩ <;>
  · simp only [rowLines, rowSize, Nd.size, wt]
    rw [Nd.stmtT.eq_def]; simp only [tabT]
    simp [-List.length_append, argsT]
    simp only [List.length_append, List.length_cons, List.length_nil, List.length_replicate]
    omega
 | @call1 kw m u kd l hk hm hu hl h7 =>
  intro hd hw d hdd; have hn := isName_len hm; have hun := isName_len hu; obtain ⟨a1, a2⟩ := args_short l hl; have hz := rowSize_map l
  have ht : argsT true ((u :: l).map varN) = u ++ argsT false (l.map varN) := by simp [argsT, varN_text]
  have hdn : 0 ≤ rowDepth ((u :: l).map varN) := rowDepth_nn _; have hkw := kwordL_len kd; simp only [callKw, List.mem_cons, Prod.mk.injEq, List.not_mem_nil, or_false] at hk; simp only [rowDepth, Nd.depth] at hdd
  have hzz : rowSize ((u :: l).map varN) = l.length + 1 := by rw [rowSize_map]; rfl
  rcases hk with ⟨rfl, rfl⟩ | ⟨rfl, rfl⟩ <;>
  · simp only [rowLines, rowSize, Nd.size, wt, wt_append, hzz]
    rw [Nd.stmtT.eq_def]; simp only [tabT, ht]
    simp [-List.length_append, -List.map_cons]
    simp only [ht, List.length_append, List.length_cons, List.length_nil, List.length_replicate]
    omega
 | @branch kw mid last kd a b c e x y z u hk hx hy hz hu iy iz =>
  intro hd hw d hdd; have hd1 := hd.tl.app; have hd2 := hd1.2.app; have hd3 := hd2.2.tl.app; have hwl := hw.1.2.2.2.2.2.2; obtain ⟨-, h1, h2⟩ := ex_len hx hd1.1 hwl.1; obtain ⟨-, h3, h4⟩ := ex_len hu hd3.2.tl hwl.2.2.2.1; have i1 := iy hd2.1 ⟨hwl.2.1, trivial⟩; have i2 := iz hd3.1 ⟨hwl.2.2.1, trivial⟩; simp only [rowDepth, Nd.depth] at hdd; obtain ⟨j1, j2⟩ := i1 d y rfl (by omega); obtain ⟨j3, j4⟩ := i2 d z rfl (by omega); have hkw := kwordL_len kd; simp only [branchKw, List.mem_cons, Prod.mk.injEq, List.not_mem_nil, or_false] at hk
  rcases hk with ⟨rfl, rfl, rfl, rfl⟩ | ⟨rfl, rfl, rfl, rfl⟩ <;>
  · simp only [rowLines, rowSize, Nd.size, wt, wt_append]
    rw [Nd.stmtT.eq_def]; simp only [tabT]
    simp [-List.length_append]
    simp only [List.length_append, List.length_cons, List.length_nil, List.length_replicate]
    omega
 | @lstack m b x hm hx ix =>
  intro hd hw d hdd; have hn := isName_len hm; have hwl := hw.1.2.2.2.2.2.2; have i1 := ix hd.tl.tl.tl ⟨hwl.1, trivial⟩; simp only [rowDepth, Nd.depth] at hdd; obtain ⟨j1, j2⟩ := i1 d x rfl (by omega); have hkw := kwordL_len 55; simp only [rowLines, rowSize, Nd.size, wt]; rw [Nd.stmtT.eq_def]; simp only [tabT]
  simp [-List.length_append]
  simp only [List.length_append, List.length_cons, List.length_nil, List.length_replicate]
  omega
 | @local_ m a b e x y z hm hx hy hz iy =>
  intro hd hw d hdd; have hn := isName_len hm; have hd1 := hd.tl.tl.tl.app; have hd2 := hd1.2.app; have hwl := hw.1.2.2.2.2.2.2; obtain ⟨-, h1, h2⟩ := ex_len hx hd1.1 hwl.1; obtain ⟨-, h3, h4⟩ := ex_len hz hd2.2.tl hwl.2.2.1; have i1 := iy hd2.1 ⟨hwl.2.1, trivial⟩; simp only [rowDepth, Nd.depth] at hdd; obtain ⟨j1, j2⟩ := i1 d y rfl (by omega); have hkw := kwordL_len 54; simp only [rowLines, rowSize, Nd.size, wt, wt_append]; rw [Nd.stmtT.eq_def]; simp only [tabT]
  simp [-List.length_append]
  simp only [List.length_append, List.length_cons, List.length_nil, List.length_replicate]
  omega
 | @upd t a b x y hx ht hy =>
  intro hd hw d hdd; have hd1 := hd.app; have hwl := hw.1.2.2.2.2.2.2; obtain ⟨-, h1, h2⟩ := pl_len hx hd1.1 hwl.1; obtain ⟨-, h3, h4⟩ := ex_len hy hd1.2.tl hwl.2.1; simp only [rowDepth, Nd.depth] at hdd
  have hk : (t = [43, 61] ∧ updKind t = 40) ∨ (t = [45, 61] ∧ updKind t = 41) ∨ (t = [94, 61] ∧ updKind t = 42) ∨ (t = [58, 61] ∧ updKind t = 56) := by
   unfold updKind at ht ⊢
   by_cases h1 : t = [43, 61]
   · exact Or.inl ⟨h1, by rw [if_pos h1]⟩
   by_cases h2 : t = [45, 61]
   · exact Or.inr (Or.inl ⟨h2, by rw [if_neg h1, if_pos h2]⟩)
   by_cases h3 : t = [94, 61]
   · exact Or.inr (Or.inr (Or.inl ⟨h3, by rw [if_neg h1, if_neg h2, if_pos h3]⟩))
   by_cases h4 : t = [58, 61]
   · exact Or.inr (Or.inr (Or.inr ⟨h4, by rw [if_neg h1, if_neg h2, if_neg h3, if_pos h4]⟩))
   simp [h1, h2, h3, h4] at ht
  rcases hk with ⟨rfl, hk⟩ | ⟨rfl, hk⟩ | ⟨rfl, hk⟩ | ⟨rfl, hk⟩ <;>
  · rw [hk]
    simp only [rowLines, rowSize, Nd.size, wt, wt_append]; rw [Nd.stmtT.eq_def]; simp only [tabT]
    simp [-List.length_append, updSign, symbol, symbols]
    simp only [List.length_append, List.length_cons, List.length_nil, List.length_replicate]
    omega
 | @swap a b x y hx hy =>
  intro hd hw d hdd; have hd1 := hd.app; have hwl := hw.1.2.2.2.2.2.2; obtain ⟨-, h1, h2⟩ := pl_len hx hd1.1 hwl.1; obtain ⟨-, h3, h4⟩ := pl_len hy hd1.2.tl hwl.2.1; simp only [rowDepth, Nd.depth] at hdd; simp only [rowLines, rowSize, Nd.size, wt, wt_append]; rw [Nd.stmtT.eq_def]; simp only [tabT]
  simp [-List.length_append, updSign]
  simp only [List.length_append, List.length_cons, List.length_nil, List.length_replicate]
  omega
 | @bl a l h ih =>
  intro hd hw d y hy hdd
  obtain rfl : Nd.mk 57 0 [] l = y := by simpa using hy
  have i1 := ih hd.tl.app.1 hw.1.2.2.2.2.2.2; simp only [Nd.depth] at hdd; obtain ⟨j1, j2⟩ := i1 (d + 1) (by omega); have hnn := rowDepth_nn l; simp only [Nd.linesT, Nd.size, wt, wt_append, List.length_cons, List.length_nil]
  omega
 | ls0 =>
  intro hd hw d hdd
  simp [rowLines]
 | @ls1 a b x l hx hl ix il =>
  intro hd hw d hdd; have hd1 := hd.app; simp only [rowDepth] at hdd; have i1 := ix hd1.1 ⟨hw.1, trivial⟩; have i2 := il hd1.2.tl hw.2; obtain ⟨j1, j2⟩ := i1 d (by simp only [rowDepth]; have := rowDepth_nn l; omega); obtain ⟨j3, j4⟩ := i2 d (by omega); simp only [rowLines, List.length_append, rowSize, List.length_nil, wt, wt_append, List.length_cons] at j1 j2 j3 j4 ⊢
  omega
end Bk
