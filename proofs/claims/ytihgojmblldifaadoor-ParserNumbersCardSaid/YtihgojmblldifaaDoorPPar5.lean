/- Texts that the proofs of ParserParens, ParserLevels, ParserNumbers need. No condition. (Part 5 of 5.) -/
import Derived.Test.YtihgojmblldifaaDoorPPar4
set_option linter.unusedSimpArgs false
set_option linter.unusedVariables false
namespace Bk
open Go
theorem startOk {s : List UInt8} (h : ¬ 65536 < s.length) (h1 : (solidFrom s 0).2 = none) : startP s = ((solidFrom s 0).1, ⟨0, 0, 0⟩) := by
 unfold solidFrom lexFrom at *
 unfold startP lexT
 rw [if_neg h]
 generalize lexGo (s.length + 1) s 0 [] = r at *
 obtain ⟨l, e⟩ := r
 cases e with
 | none => rfl
 | some q => simp [solidR] at h1
theorem startBad {s : List UInt8} {q : Nat} (h : ¬ 65536 < s.length) (h1 : (solidFrom s 0).2 = some q) : startP s = ([], ⟨0, q, 3⟩) := by
 unfold solidFrom lexFrom at *
 unfold startP lexT
 rw [if_neg h]
 generalize lexGo (s.length + 1) s 0 [] = r at *
 obtain ⟨l, e⟩ := r
 cases e with
 | none => simp [solidR] at h1
 | some q => simp only [solidR, Option.some.injEq] at h1; subst h1; rfl
structure CutAt (s : List UInt8) (p : Nat) (l : List Tok) (i : Nat) (q : Nat) : Prop where
 pos : (l.getD i Tok.zero).pos = (q : Int)
 le : p ≤ q
 ne : (l.getD i Tok.zero).text ≠ []
 text : (l.getD i Tok.zero).text = (s.drop q).take (l.getD i Tok.zero).text.length
 first : firstTok (s.drop q) = ((l.getD i Tok.zero).kind.toNat, (l.getD i Tok.zero).text.length)
 kind : (l.getD i Tok.zero).kind = (((firstTok (s.drop q)).1 : Nat) : Int)
 solid : (firstTok (s.drop q)).1 ≠ 4 ∧ (firstTok (s.drop q)).1 ≠ 5
 len : q + (l.getD i Tok.zero).text.length ≤ s.length
 before : solidFrom (s.take q) p = (l.take i, none)
 behind : solidFrom (s.take (q + (l.getD i Tok.zero).text.length)) p = (l.take (i + 1), none)
end Bk
namespace Bk
open Go
abbrev Txt := List (List UInt8)
inductive Nt where
 | ex (lv : Int) : Nt
 | cl (lv : Int) (x : Nd) : Nt
 | un : Nt
 | pl : Nt
def StopL (lv : Int) (b : Txt) : Prop := ∀ t ∈ b.head?, ∀ op, binOf t = some op → level op < lv
def NoBr (b : Txt) : Prop := ∀ t ∈ b.head?, t ≠ [91]
inductive G : Nt → Txt → Nd → Prop where
 | ex {lv : Int} {a b : Txt} {x y : Nd} : G .un a x → G (.cl lv x) b y → G (.ex lv) (a ++ b) y
 | cl0 {lv : Int} {x : Nd} : G (.cl lv x) [] x
 | cl1 {lv op : Int} {t : List UInt8} {a b : Txt} {x y z : Nd} : binOf t = some op → lv ≤ level op → G (.ex (level op + 1)) a y → StopL (level op + 1) b → G (.cl lv (.mk op 0 [] [x, y])) b z → G (.cl lv x) (t :: (a ++ b)) z
 | neg {a : Txt} {x : Nd} : G .un a x → G .un ([45] :: a) (.mk 6 0 [] [x])
 | not {a : Txt} {x : Nd} : G .un a x → G .un ([33] :: a) (.mk 7 0 [] [x])
 | num {t : List UInt8} : startsDigit t = true → (digitsVal t : Int) ≤ 9223372036854775807 → G .un [t] (.mk 1 (digitsVal t) [] [])
 | top {m : List UInt8} : isName m = true → G .un [[116, 111, 112], [40], m, [41]] (.mk 4 0 m [])
 | size {m : List UInt8} : isName m = true → G .un [[115, 105, 122, 101], [40], m, [41]] (.mk 5 0 m [])
 | par {a : Txt} {x : Nd} : G (.ex 1) a x → G .un ([40] :: (a ++ [[41]])) x
 | place {a : Txt} {x : Nd} : G .pl a x → G .un a x
 | var {m : List UInt8} : isName m = true → G .pl [m] (.mk 2 0 m [])
 | item {m : List UInt8} {a : Txt} {x : Nd} : isName m = true → G (.ex 1) a x → G .pl (m :: [91] :: (a ++ [[93]])) (.mk 3 0 m [x])
section
variable {ts : List Tok} {n : Int}
def txt (ts : List Tok) : Txt := ts.map Tok.text
def adv (σ : PS) (k : Nat) : PS := ⟨σ.at_ + k, σ.off, σ.err⟩
theorem adv_adv (σ : PS) (a b : Nat) : adv (adv σ a) b = adv σ (a + b) := by simp [adv, Nat.add_assoc]
theorem next_adv (σ : PS) : nextP σ = adv σ 1 := rfl
def rem (ts : List Tok) (σ : PS) : Txt := (txt ts).drop σ.at_
theorem rem_len (σ : PS) : (rem ts σ).length = ts.length - σ.at_ := by simp [rem, txt]
theorem rem_adv {σ : PS} {a b : Txt} (h : rem ts σ = a ++ b) : rem ts (adv σ a.length) = b := by
 unfold rem adv at *
 simp only; rw [← List.drop_drop, h]
 simp
theorem rem_cons {σ : PS} {t : List UInt8} {b : Txt} (h : rem ts σ = t :: b) : rem ts (adv σ 1) = b := rem_adv (a := [t]) h
theorem rem_lt {σ : PS} {t : List UInt8} {b : Txt} (h : rem ts σ = t :: b) : σ.at_ < ts.length := by
 have := rem_len (ts := ts) σ; rw [h] at this
 simp at this
 omega
theorem peek_cons {σ : PS} {t : List UInt8} {b : Txt} (h : rem ts σ = t :: b) (he : σ.err = 0) : (peekP ts σ).text = t := by
 have hl := rem_lt h
 unfold peekP
 rw [if_neg (by rintro (h | h); exact h he; omega)]
 unfold rem txt at h
 rw [List.drop_eq_getElem_cons (by simpa using hl)] at h; simp only [List.getElem_map, List.cons.injEq] at h; rw [List.getD_eq_getElem?_getD, List.getElem?_eq_getElem hl]
 exact h.1
theorem peek_nil {σ : PS} (hw : σ.at_ ≤ ts.length) (h : rem ts σ = []) : (peekP ts σ).text = [] := by
 have := rem_len (ts := ts) σ; rw [h] at this
 rw [peek_end (by simp at this; omega)]; rfl
theorem peek_rem {σ : PS} (hw : σ.at_ ≤ ts.length) (he : σ.err = 0) : (peekP ts σ).text = ((rem ts σ).head?).getD [] := by
 cases h : rem ts σ with
 | nil => rw [peek_nil hw h]; rfl
 | cons t b => rw [peek_cons h he]; rfl
theorem has_cons {σ : PS} {t u : List UInt8} {b : Txt} (h : rem ts σ = t :: b) (he : σ.err = 0) : hasP ts σ u = decide (t = u) := by unfold hasP; rw [peek_cons h he]
theorem peek_mem {σ : PS} (hl : σ.at_ < ts.length) (he : σ.err = 0) : peekP ts σ ∈ ts := by
 unfold peekP
 rw [if_neg (by rintro (h | h); exact h he; omega), List.getD_eq_getElem?_getD, List.getElem?_eq_getElem hl]
 exact List.getElem_mem hl
theorem kind_dig (hd : DigitKinds ts) {σ : PS} {t : List UInt8} {b : Txt} (h : rem ts σ = t :: b) (he : σ.err = 0) : (peekP ts σ).kind = 2 ↔ startsDigit t = true := by
 rw [← peek_cons h he]
 exact hd _ (peek_mem (rem_lt h) he)
theorem expect_cons {σ : PS} {t : List UInt8} {b : Txt} (h : rem ts σ = t :: b) (he : σ.err = 0) : expectP ts n σ t = adv σ 1 := by unfold expectP; rw [has_cons h he]; simp [next_adv]
theorem name_cons {σ : PS} {t : List UInt8} {b : Txt} (h : rem ts σ = t :: b) (he : σ.err = 0) (ht : isName t = true) : nameP ts n σ = (t, adv σ 1) := by unfold nameP; rw [peek_cons h he, if_pos ht]; rfl
theorem rem_step {σ : PS} (hl : σ.at_ < ts.length) (he : σ.err = 0) : rem ts σ = (peekP ts σ).text :: rem ts (adv σ 1) := by
 cases h : rem ts σ with
 | nil => have := rem_len (ts := ts) σ; rw [h] at this; simp at this; omega
 | cons t b => rw [peek_cons h he, rem_cons h]
end
theorem name_not {m : List UInt8} (h : isName m = true) : m ≠ [45] ∧ m ≠ [33] ∧ m ≠ [40] ∧ m ≠ [116, 111, 112] ∧ m ≠ [115, 105, 122, 101] ∧ startsDigit m = false := by
 refine ⟨?_, ?_, ?_, ?_, ?_, ?_⟩
 · rintro rfl; revert h; decide
 · rintro rfl; revert h; decide
 · rintro rfl; revert h; decide
 · rintro rfl; revert h; decide
 · rintro rfl; revert h; decide
 · cases m with
   | nil => rfl
   | cons c r =>
    have hk : (firstTok (c :: r)).1 = 1 := by
     simp only [isName, Bool.and_eq_true, beq_iff_eq] at h
     exact h.1.1.2
    cases hd : startsDigit (c :: r)
    · rfl
    · exfalso
      have hdg : digit c = true := by simpa [startsDigit] using hd
      have hl : letter c = false := by
       cases hl : letter c
       · rfl
       · simp only [letter, digit, Bool.and_eq_true, decide_eq_true_eq] at hl hdg; omega
      simp [firstTok, hl, hdg] at hk
theorem G.head {nt : Nt} {a : Txt} {x : Nd} (h : G nt a x) : match nt with
 | .cl lv _ => ∀ t r, a = t :: r → ∃ op, binOf t = some op ∧ lv ≤ level op
 | _ => a ≠ [] := by
 induction h with
 | ex _ _ i1 _ => simp only at *; intro h; exact i1 (List.append_eq_nil_iff.1 h).1
 | cl0 => intro t r h; cases h
 | cl1 h1 h2 => intro t r h; simp only [List.cons.injEq] at h; obtain ⟨rfl, -⟩ := h; exact ⟨_, h1, h2⟩
 | neg => simp
 | not => simp
 | num => simp
 | top => simp
 | size => simp
 | par => simp
 | place _ i => exact i
 | var => simp
 | item => simp
end Bk
namespace Bk
open Go
section
variable {ts : List Tok} {n : Int}
theorem bin_nil : binOf [] = none := by decide
theorem bin_br : binOf [91] = none := by decide
theorem has_rem {σ : PS} {u : List UInt8} (hw : σ.at_ ≤ ts.length) (he : σ.err = 0) : hasP ts σ u = decide (((rem ts σ).head?).getD [] = u) := by unfold hasP; rw [peek_rem hw he]
theorem nobr_has {σ : PS} (hw : σ.at_ ≤ ts.length) (he : σ.err = 0) (h : NoBr (rem ts σ)) : hasP ts σ [91] = false := by
 rw [has_rem hw he]
 cases hr : rem ts σ with
 | nil => simp
 | cons t b => have := h t (by rw [hr]; rfl); exact decide_eq_false this
theorem stop_bin {σ : PS} {lv : Int} (hw : σ.at_ ≤ ts.length) (he : σ.err = 0) (h : StopL lv (rem ts σ)) : ∀ op, binOf (peekP ts σ).text = some op → level op < lv := by
 intro op ho; rw [peek_rem hw he] at ho
 cases hr : rem ts σ with
 | nil => rw [hr] at ho; have ho' : binOf [] = some op := ho; rw [bin_nil] at ho'; cases ho'
 | cons t b => rw [hr] at ho; exact h t (by rw [hr]; rfl) op (by simpa using ho)
theorem rem_le {σ : PS} {a b : Txt} (h : rem ts σ = a ++ b) (ha : a ≠ []) : σ.at_ + a.length ≤ ts.length := by
 have := rem_len (ts := ts) σ; rw [h] at this
 cases a with
 | nil => exact absurd rfl ha
 | cons t r => simp only [List.length_append, List.length_cons] at this ⊢; omega
theorem rem_wf {σ : PS} {a b : Txt} (hw : σ.at_ ≤ ts.length) (h : rem ts σ = a ++ b) : (adv σ a.length).at_ ≤ ts.length := by
 cases a with
 | nil => exact hw
 | cons t r => exact rem_le h (by simp)
theorem G.pl_head {a : Txt} {x : Nd} (h : G .pl a x) : ∃ m r, a = m :: r ∧ isName m = true := by
 cases h with
 | var hm => exact ⟨_, _, rfl, hm⟩
 | item hm _ => exact ⟨_, _, rfl, hm⟩
def Reads (ts : List Tok) (n : Int) : Nt → Txt → Nd → Prop
 | .ex lv, a, x => ∀ (σ : PS) (k : Nat) (rest : Txt), σ.at_ ≤ ts.length → σ.err = 0 → rem ts σ = a ++ rest → StopL lv rest → NoBr rest → 4 * a.length + 4 ≤ k → exprP ts n k lv σ = (x, adv σ a.length)
 | .cl lv x0, a, x => ∀ (σ : PS) (k : Nat) (rest : Txt), σ.at_ ≤ ts.length → σ.err = 0 → rem ts σ = a ++ rest → StopL lv rest → NoBr rest → 4 * a.length + 1 ≤ k → climbP ts n k lv x0 σ = (x, adv σ a.length)
 | .un, a, x => ∀ (σ : PS) (k : Nat) (rest : Txt), σ.at_ ≤ ts.length → σ.err = 0 → rem ts σ = a ++ rest → NoBr rest → 4 * a.length + 3 ≤ k → unaryP ts n k σ = (x, adv σ a.length)
 | .pl, a, x => ∀ (σ : PS) (k : Nat) (rest : Txt), σ.at_ ≤ ts.length → σ.err = 0 → rem ts σ = a ++ rest → NoBr rest → 4 * a.length + 1 ≤ k → placeP ts n k σ = (x, adv σ a.length)
theorem G.cl_rest {lv : Int} {x y : Nd} {b rest : Txt} (h : G (.cl lv x) b y) (hs : StopL lv rest) (hn : NoBr rest) (op : Int) (hl : lv ≤ level op) (hb : StopL (level op + 1) b) : StopL (level op + 1) (b ++ rest) ∧ NoBr (b ++ rest) := by
 cases b with
 | nil => exact ⟨fun t ht o ho => by have := hs t ht o ho; omega, hn⟩
 | cons t r =>
  refine ⟨fun u hu => hb u (by simpa using hu), fun u hu => ?_⟩; obtain ⟨o, ho, -⟩ := h.head t r rfl
  have : u = t := by simpa using hu.symm
  subst this; rintro rfl
  rw [bin_br] at ho; cases ho
theorem G.cl_nobr {lv : Int} {x y : Nd} {b rest : Txt} (h : G (.cl lv x) b y) (hn : NoBr rest) : NoBr (b ++ rest) := by
 cases b with
 | nil => exact hn
 | cons t r =>
  intro u hu; obtain ⟨o, ho, -⟩ := h.head t r rfl
  have : u = t := by simpa using hu.symm
  subst this; rintro rfl
  rw [bin_br] at ho; cases ho
theorem stop_lit {lv : Int} {t : List UInt8} {r : Txt} (h : binOf t = none) : StopL lv (t :: r) := fun u hu op ho => by
 have : u = t := by simpa using hu.symm
 subst this
 rw [h] at ho; cases ho
theorem nobr_lit {t : List UInt8} {r : Txt} (h : t ≠ [91]) : NoBr (t :: r) := fun u hu => by
 have : u = t := by simpa using hu.symm
 subst this; exact h
theorem G.reads (hd : DigitKinds ts) {nt : Nt} {a : Txt} {x : Nd} (h : G nt a x) : Reads ts n nt a x := by
 induction h with
 | @ex lv a b x y h1 h2 i1 i2 =>
  intro σ k rest hw he hr hs hn hk; obtain ⟨k, rfl⟩ : ∃ j, k = j + 1 := ⟨k - 1, by omega⟩; simp only [List.length_append] at hk ⊢; rw [List.append_assoc] at hr; rw [exprP, i1 σ k _ hw he hr (h2.cl_nobr hn) (by omega)]; simp only; rw [i2 (adv σ a.length) k rest (rem_wf hw hr) he (rem_adv hr) hs hn (by omega), adv_adv]
 | @cl0 lv x =>
  intro σ k rest hw he hr hs hn hk; obtain ⟨k, rfl⟩ : ∃ j, k = j + 1 := ⟨k - 1, by omega⟩; rw [List.nil_append] at hr; have hb := stop_bin hw he (hr.symm ▸ hs); rw [climbP]
  split
  · rfl
  · rename_i op ho
    rw [if_pos (hb op ho)]; rfl
 | @cl1 lv op t a b x y z h1 h2 h3 h4 h5 i3 i5 =>
  intro σ k rest hw he hr hs hn hk; obtain ⟨k, rfl⟩ : ∃ j, k = j + 1 := ⟨k - 1, by omega⟩; simp only [List.length_cons, List.length_append] at hk ⊢
  have hr' : rem ts σ = t :: (a ++ (b ++ rest)) := by rw [hr]; simp
  obtain ⟨s1, s2⟩ := h5.cl_rest hs hn op h2 h4; have hl := rem_lt hr'; rw [climbP, peek_cons hr' he, h1]; simp only; rw [if_neg (by omega), next_adv, i3 (adv σ 1) k (b ++ rest) hl he (rem_cons hr') s1 s2 (by omega)]; simp only; have hr2 := rem_cons hr'; rw [i5 (adv (adv σ 1) a.length) k rest (rem_wf hl hr2) he (rem_adv hr2) hs hn (by omega), adv_adv, adv_adv]
  exact Prod.ext rfl (congrArg (adv σ) (by omega))
 | @neg a x h1 i1 =>
  intro σ k rest hw he hr hn hk; obtain ⟨k, rfl⟩ : ∃ j, k = j + 1 := ⟨k - 1, by omega⟩; simp only [List.length_cons] at hk ⊢; have hr' : rem ts σ = [45] :: (a ++ rest) := hr; rw [unaryP, has_cons hr' he, if_pos (by decide), next_adv, i1 (adv σ 1) k rest (rem_lt hr') he (rem_cons hr') hn (by omega), adv_adv, Nat.add_comm 1]
 | @not a x h1 i1 =>
  intro σ k rest hw he hr hn hk; obtain ⟨k, rfl⟩ : ∃ j, k = j + 1 := ⟨k - 1, by omega⟩; simp only [List.length_cons] at hk ⊢; have hr' : rem ts σ = [33] :: (a ++ rest) := hr; rw [unaryP, has_cons hr' he, if_neg (by decide), has_cons hr' he, if_pos (by decide), next_adv, i1 (adv σ 1) k rest (rem_lt hr') he (rem_cons hr') hn (by omega), adv_adv, Nat.add_comm 1]
 | @num t h1 h2 =>
  intro σ k rest hw he hr hn hk; obtain ⟨k, rfl⟩ : ∃ j, k = j + 2 := ⟨k - 2, by simp at hk; omega⟩; have hr' : rem ts σ = t :: rest := hr; have hne : t ≠ [45] ∧ t ≠ [33] := ⟨by rintro rfl; revert h1; decide, by rintro rfl; revert h1; decide⟩; rw [unaryP, has_cons hr' he, if_neg (by simpa using hne.1), has_cons hr' he, if_neg (by simpa using hne.2), primaryP, if_pos ((kind_dig hd hr' he).2 h1)]
  have hnum : numberP ts n 0 9223372036854775807 σ = ((digitsVal t : Int), adv σ 1) := by
   unfold numberP
   rw [if_pos ((kind_dig hd hr' he).2 h1), peek_cons hr' he, if_pos ⟨h2, by omega, h2⟩]; rfl
  rw [hnum]; rfl
 | @top m h1 =>
  intro σ k rest hw he hr hn hk; obtain ⟨k, rfl⟩ : ∃ j, k = j + 2 := ⟨k - 2, by simp at hk; omega⟩; have hr1 : rem ts σ = [116, 111, 112] :: ([40] :: m :: [41] :: rest) := hr; have hr2 := rem_cons hr1; have hr3 := rem_cons hr2; have hr4 := rem_cons hr3; rw [unaryP, has_cons hr1 he, if_neg (by decide), has_cons hr1 he, if_neg (by decide), primaryP, if_neg (fun e => by have := (kind_dig hd hr1 he).1 e; revert this; decide), has_cons hr1 he, if_pos (by decide), next_adv, expect_cons hr2 he, name_cons hr3 he h1]; simp only
  rw [expect_cons hr4 he]; rfl
 | @size m h1 =>
  intro σ k rest hw he hr hn hk; obtain ⟨k, rfl⟩ : ∃ j, k = j + 2 := ⟨k - 2, by simp at hk; omega⟩; have hr1 : rem ts σ = [115, 105, 122, 101] :: ([40] :: m :: [41] :: rest) := hr; have hr2 := rem_cons hr1; have hr3 := rem_cons hr2; have hr4 := rem_cons hr3; rw [unaryP, has_cons hr1 he, if_neg (by decide), has_cons hr1 he, if_neg (by decide), primaryP, if_neg (fun e => by have := (kind_dig hd hr1 he).1 e; revert this; decide), has_cons hr1 he, if_neg (by decide), has_cons hr1 he, if_pos (by decide), next_adv, expect_cons hr2 he, name_cons hr3 he h1]; simp only
  rw [expect_cons hr4 he]; rfl
 | @par a x h1 i1 =>
  intro σ k rest hw he hr hn hk; simp only [List.length_cons, List.length_append, List.length_nil] at hk ⊢; obtain ⟨k, rfl⟩ : ∃ j, k = j + 2 := ⟨k - 2, by omega⟩
  have hr1 : rem ts σ = [40] :: (a ++ ([41] :: rest)) := by rw [hr]; simp
  have hr2 := rem_cons hr1; have hr3 := rem_adv hr2
  rw [unaryP, has_cons hr1 he, if_neg (by decide), has_cons hr1 he, if_neg (by decide), primaryP, if_neg (fun e => by have := (kind_dig hd hr1 he).1 e; revert this; decide), has_cons hr1 he, if_neg (by decide), has_cons hr1 he, if_neg (by decide), has_cons hr1 he, if_pos (by decide), next_adv,
   i1 (adv σ 1) k _ (rem_lt hr1) he hr2 (stop_lit (by decide)) (nobr_lit (by decide)) (by omega)]
  simp only; rw [expect_cons hr3 he, adv_adv, adv_adv]
  exact Prod.ext rfl (congrArg (adv σ) (by omega))
 | @place a x h1 i1 =>
  intro σ k rest hw he hr hn hk; obtain ⟨k, rfl⟩ : ∃ j, k = j + 2 := ⟨k - 2, by omega⟩; obtain ⟨m, r, rfl, hm⟩ := h1.pl_head; have hr1 : rem ts σ = m :: (r ++ rest) := hr; obtain ⟨n1, n2, n3, n4, n5, n6⟩ := name_not hm; rw [unaryP, has_cons hr1 he, if_neg (by simpa using n1), has_cons hr1 he, if_neg (by simpa using n2), primaryP, if_neg (fun e => by have := (kind_dig hd hr1 he).1 e; rw [n6] at this; cases this), has_cons hr1 he, if_neg (by simpa using n4), has_cons hr1 he, if_neg (by simpa using n5), has_cons hr1 he, if_neg (by simpa using n3)]
  exact i1 σ k rest hw he hr hn (by omega)
 | @var m h1 =>
  intro σ k rest hw he hr hn hk; obtain ⟨k, rfl⟩ : ∃ j, k = j + 1 := ⟨k - 1, by omega⟩; have hr1 : rem ts σ = m :: rest := hr; rw [placeP, name_cons hr1 he h1]; simp only
  rw [nobr_has (σ := adv σ 1) (rem_lt hr1) he ((rem_cons hr1).symm ▸ hn), if_neg (by decide)]; rfl
 | @item m a x h1 h2 i2 =>
  intro σ k rest hw he hr hn hk; simp only [List.length_cons, List.length_append, List.length_nil] at hk ⊢; obtain ⟨k, rfl⟩ : ∃ j, k = j + 1 := ⟨k - 1, by omega⟩
  have hr1 : rem ts σ = m :: ([91] :: (a ++ ([93] :: rest))) := by rw [hr]; simp
  have hr2 := rem_cons hr1; have hr3 := rem_cons hr2; have hr4 := rem_adv hr3; rw [placeP, name_cons hr1 he h1]; simp only; rw [has_cons hr2 he, if_pos (by decide), next_adv, i2 (adv (adv σ 1) 1) k _ (rem_lt hr2) he hr3 (stop_lit (by decide)) (nobr_lit (by decide)) (by omega)]; simp only; rw [expect_cons hr4 he, adv_adv, adv_adv, adv_adv]
  exact Prod.ext rfl (congrArg (adv σ) (by omega))
end
end Bk
namespace Bk
open Go
section
variable {ts : List Tok} {n : Int}
theorem stop_of {σ : PS} {lv : Int} (hw : σ.at_ ≤ ts.length) (he : σ.err = 0) (h : ∀ op, binOf (peekP ts σ).text = some op → level op < lv) : StopL lv (rem ts σ) := by
 intro t ht op ho
 cases hr : rem ts σ with
 | nil => rw [hr] at ht; cases ht
 | cons u b =>
  rw [hr] at ht
  have : t = u := by simpa using ht.symm
  subst this
  exact h op (by rw [peek_cons hr he]; exact ho)
def Seg (ts : List Tok) (σ σ' : PS) (a : Txt) : Prop := rem ts σ = a ++ rem ts σ'
theorem Seg.refl (σ : PS) : Seg ts σ σ [] := rfl
theorem Seg.trans {σ σ1 σ2 : PS} {a b : Txt} (h : Seg ts σ σ1 a) (k : Seg ts σ1 σ2 b) : Seg ts σ σ2 (a ++ b) := by unfold Seg at *; rw [h, k, List.append_assoc]
theorem seg_next {σ : PS} (h : In ts σ) : Seg ts σ (nextP σ) [(peekP ts σ).text] := rem_step h.2 h.1
theorem seg_has {σ : PS} {t : List UInt8} (hw : σ.at_ ≤ ts.length) (h : hasP ts σ t = true) (ht : t ≠ []) : Seg ts σ (nextP σ) [t] := by
 have := seg_next (has_in hw h ht); have e : (peekP ts σ).text = t := of_decide_eq_true h
 rwa [e] at this
theorem seg_expect {σ : PS} {t : List UInt8} (hw : σ.at_ ≤ ts.length) (ht : t ≠ []) (he : (expectP ts n σ t).err = 0) : Seg ts σ (expectP ts n σ t) [t] := by
 unfold expectP at *
 split at he
 · rename_i hh; rw [if_pos hh]; exact seg_has hw hh ht
 · exact absurd he unexp_err
theorem seg_name {σ : PS} (hw : σ.at_ ≤ ts.length) (he : (nameP ts n σ).2.err = 0) : Seg ts σ (nameP ts n σ).2 [(nameP ts n σ).1] ∧ isName (nameP ts n σ).1 = true := by
 unfold nameP at *
 split at he
 · rename_i hh; rw [if_pos hh]; exact ⟨seg_next (peek_in hw (Or.inl (isName_ne hh))), hh⟩
 · exact absurd he unexp_err
theorem seg_number (hd : DigitKinds ts) {least most : Int} {σ : PS} (hw : σ.at_ ≤ ts.length) (he : (numberP ts n least most σ).2.err = 0) :
 ∃ t, Seg ts σ (numberP ts n least most σ).2 [t] ∧ startsDigit t = true ∧ (numberP ts n least most σ).1 = (digitsVal t : Int) ∧ (digitsVal t : Int) ≤ 9223372036854775807 ∧ least ≤ (digitsVal t : Int) ∧ (digitsVal t : Int) ≤ most := by
 unfold numberP at *
 split at he
 · rename_i hk
   rw [if_pos hk]; have hin := peek_in hw (Or.inr (by rw [hk]; decide))
   split at he
   · rename_i hb
     rw [if_pos hb]
     exact ⟨_, seg_next hin, (hd _ (peek_mem hin.2 hin.1)).1 hk, rfl, hb.1, hb.2.1, hb.2.2⟩
   · exact absurd he (fail_err (by decide))
 · exact absurd he unexp_err
theorem expr_sound (hd : DigitKinds ts) (k : Nat) :
 (∀ lv σ, σ.at_ ≤ ts.length → 4 * mS ts σ + 4 ≤ k → (exprP ts n k lv σ).2.err = 0 → ∃ a, Seg ts σ (exprP ts n k lv σ).2 a ∧ G (.ex lv) a (exprP ts n k lv σ).1 ∧ StopL lv (rem ts (exprP ts n k lv σ).2)) ∧
 (∀ lv x σ, σ.at_ ≤ ts.length → 4 * mS ts σ + 1 ≤ k → (climbP ts n k lv x σ).2.err = 0 → ∃ a, Seg ts σ (climbP ts n k lv x σ).2 a ∧ G (.cl lv x) a (climbP ts n k lv x σ).1 ∧ StopL lv (rem ts (climbP ts n k lv x σ).2)) ∧
 (∀ σ, σ.at_ ≤ ts.length → 4 * mS ts σ + 3 ≤ k → (unaryP ts n k σ).2.err = 0 → ∃ a, Seg ts σ (unaryP ts n k σ).2 a ∧ G .un a (unaryP ts n k σ).1) ∧
 (∀ σ, σ.at_ ≤ ts.length → 4 * mS ts σ + 2 ≤ k → (primaryP ts n k σ).2.err = 0 → ∃ a, Seg ts σ (primaryP ts n k σ).2 a ∧ G .un a (primaryP ts n k σ).1) ∧
 (∀ σ, σ.at_ ≤ ts.length → 4 * mS ts σ + 1 ≤ k → (placeP ts n k σ).2.err = 0 → ∃ a, Seg ts σ (placeP ts n k σ).2 a ∧ G .pl a (placeP ts n k σ).1) := by
 induction k with
 | zero => refine ⟨fun _ _ _ h => ?_, fun _ _ _ _ h => ?_, fun _ _ h => ?_, fun _ _ h => ?_, fun _ _ h => ?_⟩ <;> omega
 | succ k ih =>
  obtain ⟨iE, iC, iU, iP, iL⟩ := ih; obtain ⟨vE, vC, vU, vP, vL⟩ := expr_inv (ts := ts) (n := n) k; refine ⟨fun lv σ h hk he => ?_, fun lv x σ h hk he => ?_, fun σ h hk he => ?_, fun σ h hk he => ?_, fun σ h hk he => ?_⟩
  · rw [exprP] at he ⊢
    have hu := vU σ h; have hc := vC lv (unaryP ts n k σ).1 (unaryP ts n k σ).2 hu.1.wf; have hm := mS_lt hu.1 (hu.2 (by omega)); have hue := hc.ok he; obtain ⟨a, sa, ga⟩ := iU σ h (by omega) hue; obtain ⟨b, sb, gb, st⟩ := iC lv _ _ hu.1.wf (by omega) he
    exact ⟨a ++ b, sa.trans sb, G.ex ga gb, st⟩
  · cases ho : binOf (peekP ts σ).text with
    | none =>
     have e : climbP ts n (k + 1) lv x σ = (x, σ) := by rw [climbP]; simp only [ho]
     rw [e] at he ⊢
     exact ⟨[], Seg.refl _, G.cl0, stop_of h he (fun op e => by rw [ho] at e; cases e)⟩
    | some op =>
     obtain ⟨hne, hop⟩ := binOf_ne ho; have hn := peek_in h (Or.inl hne); have hm := mS_next hn; have hp := mS_pos hn
     by_cases hl : level op < lv
     · have e : climbP ts n (k + 1) lv x σ = (x, σ) := by rw [climbP]; simp only [ho]; rw [if_pos hl]
       rw [e] at he ⊢
       exact ⟨[], Seg.refl _, G.cl0, stop_of h hn.1 (fun o e => by rw [ho] at e; cases e; exact hl)⟩
     · have e : climbP ts n (k + 1) lv x σ = climbP ts n k lv (.mk op 0 [] [x, (exprP ts n k (level op + 1) (nextP σ)).1]) (exprP ts n k (level op + 1) (nextP σ)).2 := by rw [climbP]; simp only [ho]; rw [if_neg hl]
       rw [e] at he ⊢; have h1 := next_le hn; have h2 := vE (level op + 1) (nextP σ) h1.wf; have h3 := vC lv (.mk op 0 [] [x, (exprP ts n k (level op + 1) (nextP σ)).1]) _ h2.1.wf; have hm2 := mS_le h2.1; obtain ⟨a, sa, ga, sta⟩ := iE (level op + 1) (nextP σ) h1.wf (by omega) (h3.ok he); obtain ⟨b, sb, gb, st⟩ := iC lv _ _ h2.1.wf (by omega) he; refine ⟨(peekP ts σ).text :: (a ++ b), (seg_next hn).trans (sa.trans sb), G.cl1 ho (by omega) ga ?_ gb, st⟩; intro t ht; refine sta t ?_; have sb' : rem ts (exprP ts n k (level op + 1) (nextP σ)).2 = b ++ _ := sb; rw [sb']
       cases b with
       | nil => cases ht
       | cons u r => simpa using ht
  · rw [unaryP] at he ⊢
    split at he
    · rename_i hh
      rw [if_pos hh]; have hn := has_in h hh (by decide); have hm := mS_next hn; obtain ⟨a, sa, ga⟩ := iU (nextP σ) (next_le hn).wf (by omega) he
      exact ⟨_, (seg_has h hh (by decide)).trans sa, G.neg ga⟩
    · rename_i hh
      rw [if_neg hh]
      split at he
      · rename_i hh
        rw [if_pos hh]; have hn := has_in h hh (by decide); have hm := mS_next hn; obtain ⟨a, sa, ga⟩ := iU (nextP σ) (next_le hn).wf (by omega) he
        exact ⟨_, (seg_has h hh (by decide)).trans sa, G.not ga⟩
      · rename_i hh
        rw [if_neg hh]
        exact iP σ h (by omega) he
  · rw [primaryP] at he ⊢
    split at he
    · rename_i hh
      rw [if_pos hh]; obtain ⟨t, st, h1, h2, h3, -⟩ := seg_number hd h he; refine ⟨[t], st, ?_⟩; simp only [h2]
      exact G.num h1 h3
    · rename_i hh
      rw [if_neg hh]
      split at he
      · rename_i hh
        rw [if_pos hh]; have hn := has_in h hh (by decide); have h1 := next_le hn; have h2 := expect_le (n := n) (t := [40]) h1.wf (by decide); have h3 := name_le (n := n) h2.wf; have h4 := expect_le (n := n) (t := [41]) h3.wf (by decide); have e3 := h4.ok he; obtain ⟨s3, hm⟩ := seg_name h2.wf e3
        exact ⟨_, (((seg_has h hh (by decide)).trans (seg_expect h1.wf (by decide) (h3.ok e3))).trans s3).trans (seg_expect h3.wf (by decide) he), G.top hm⟩
      · rename_i hh
        rw [if_neg hh]
        split at he
        · rename_i hh
          rw [if_pos hh]; have hn := has_in h hh (by decide); have h1 := next_le hn; have h2 := expect_le (n := n) (t := [40]) h1.wf (by decide); have h3 := name_le (n := n) h2.wf; have h4 := expect_le (n := n) (t := [41]) h3.wf (by decide); have e3 := h4.ok he; obtain ⟨s3, hm⟩ := seg_name h2.wf e3
          exact ⟨_, (((seg_has h hh (by decide)).trans (seg_expect h1.wf (by decide) (h3.ok e3))).trans s3).trans (seg_expect h3.wf (by decide) he), G.size hm⟩
        · rename_i hh
          rw [if_neg hh]
          split at he
          · rename_i hh
            rw [if_pos hh]; have hn := has_in h hh (by decide); have hm := mS_next hn; have h1 := next_le hn; have h2 := (vE 1 (nextP σ) h1.wf).1; have h3 := expect_le (n := n) (t := [41]) h2.wf (by decide); obtain ⟨a, sa, ga, -⟩ := iE 1 (nextP σ) h1.wf (by omega) (h3.ok he)
            exact ⟨_, (seg_has h hh (by decide)).trans (sa.trans (seg_expect h2.wf (by decide) he)), G.par ga⟩
          · rename_i hh
            rw [if_neg hh]; obtain ⟨a, sa, ga⟩ := iL σ h (by omega) he
            exact ⟨a, sa, G.place ga⟩
  · rw [placeP] at he ⊢
    have h0 := name_le (n := n) h
    split at he
    · rename_i hh
      rw [if_pos hh]; have hn := has_in h0.wf hh (by decide); have hm := mS_next hn; have hm0 := mS_le h0; have h1 := next_le hn; have h2 := (vE 1 _ h1.wf).1; have h3 := expect_le (n := n) (t := [93]) h2.wf (by decide); obtain ⟨s0, hnm⟩ := seg_name h hn.1; obtain ⟨a, sa, ga, -⟩ := iE 1 _ h1.wf (by omega) (h3.ok he)
      exact ⟨_, s0.trans ((seg_has h0.wf hh (by decide)).trans (sa.trans (seg_expect h2.wf (by decide) he))), G.item hnm ga⟩
    · rename_i hh
      rw [if_neg hh]; obtain ⟨s0, hnm⟩ := seg_name h he
      exact ⟨_, s0, G.var hnm⟩
end
theorem G.valid {nt : Nt} {a : Txt} {x : Nd} (h : G nt a x) : match nt with
 | .cl _ y => y.isExpr = true → x.isExpr = true
 | .pl => x.isPlace = true
 | _ => x.isExpr = true := by
 induction h with
 | ex _ _ i1 i2 => exact i2 i1
 | cl0 => exact fun h => h
 | @cl1 lv op t a b x y z h1 h2 h3 h4 h5 i3 i5 =>
  intro hx; refine i5 ?_; obtain ⟨-, h8, h23, -⟩ := binOf_ne h1
  unfold Nd.isExpr
  rw [if_neg (by omega), if_neg (by omega), if_neg (by omega), if_neg (by omega), if_pos (by omega)]; simp only at i3 hx
  simp [plain, hx, i3]
 | neg _ i => unfold Nd.isExpr; simp only at i; simp [plain, i]
 | not _ i => unfold Nd.isExpr; simp only at i; simp [plain, i]
 | num => unfold Nd.isExpr; simp
 | top h => unfold Nd.isExpr; simp [named, h]
 | size h => unfold Nd.isExpr; simp [named, h]
 | par _ i => exact i
 | place _ i => simp only [Nd.isPlace, Bool.and_eq_true] at i; exact i.2
 | var h => simp [Nd.isPlace, Nd.isExpr, Nd.kind, named, h]
 | item h _ i => simp only at i; simp [Nd.isPlace, Nd.isExpr, Nd.kind, named, h, i]
end Bk
namespace Bk
open Go
section
variable {ts : List Tok} {n : Int}
theorem limit_ok {x : Nd} {off : Int} {σ : PS} (h : (limitP x off σ).err = 0) : σ.err = 0 ∧ x.depth ≤ 80 ∧ x.size ≤ 2000 := by
 unfold limitP at h
 split at h
 · exact absurd h (by assumption)
 · rename_i h0
   have h0' : σ.err = 0 := by simpa using h0
   split at h
   · exact absurd h (fail_err (by decide))
   · split at h
     · exact absurd h (fail_err (by decide))
     · exact ⟨h0', by omega, by omega⟩
theorem finish_ok {σ : PS} (h : (finishP ts n σ).err = 0) : σ.err = 0 ∧ ¬ σ.at_ < ts.length := by
 unfold finishP at h
 split at h
 · exact absurd h unexp_err
 · exact ⟨h, by assumption⟩
end
end Bk
namespace Bk
open Go
def st00 : PS := ⟨0, 0, 0⟩
def endE (ts : List Tok) (n : Int) (r : Nd × PS) : Nd × Int × Int := if (limitP r.1 0 (finishP ts n r.2)).err ≠ 0 then (zeroNd, (limitP r.1 0 (finishP ts n r.2)).off, (limitP r.1 0 (finishP ts n r.2)).err) else (r.1, 0, 0)
theorem parseE_at {s : List UInt8} {ts : List Tok} (hs : ¬ 65536 < s.length) (h : solidFrom s 0 = (ts, none)) {K : Nat} (hK : 4 * ts.length + 4 ≤ K) : parseExpr s = endE ts s.length (exprP ts s.length K 1 st00) ∧ DigitKinds ts := by
 have hst := startOk hs (by rw [h]); rw [h] at hst; simp only at hst; have hd := digitKinds_start s; have hl := start_len s; rw [hst] at hd hl; simp only at hd hl; refine ⟨?_, hd⟩
 have hm : mS ts st00 = ts.length := by simp [mS, st00]
 have e : exprP ts s.length (fuelP s) 1 st00 = exprP ts s.length K 1 st00 := by
  by_cases c : K ≤ fuelP s
  · exact expr_same c 1 st00 (Nat.zero_le _) (by rw [hm]; omega)
  · exact (expr_same (by omega : fuelP s ≤ K) 1 st00 (Nat.zero_le _) (by rw [hm]; unfold fuelP; omega)).symm
 rw [← e]
 unfold parseExpr endE
 rw [hst]
 rfl
theorem parseE_lex {s : List UInt8} (hs : ¬ 65536 < s.length) (h : (parseExpr s).2.2 = 0) : ∃ ts, solidFrom s 0 = (ts, none) := by
 cases hsf : (solidFrom s 0).2 with
 | none => exact ⟨_, Prod.ext rfl hsf⟩
 | some q =>
  exfalso
  have hst := startBad hs hsf
  unfold parseExpr at h
  rw [hst] at h; simp only at h; have l1 := expr_le (ts := []) (n := s.length) (k := fuelP s) (lv := 1) (σ := ⟨0, q, 3⟩) (Nat.zero_le _); have e1 := l1.err (fun e => by cases e); rw [e1] at h
  have : limitP (exprP [] s.length (fuelP s) 1 ⟨0, q, 3⟩).1 0 (finishP [] s.length ⟨0, q, 3⟩) = ⟨0, q, 3⟩ := by
   unfold finishP limitP
   simp
  rw [this] at h
  simp at h
theorem parseE_phrase {s : List UInt8} {ts : List Tok} (hs : ¬ 65536 < s.length) (h : solidFrom s 0 = (ts, none)) (he : (parseExpr s).2.2 = 0) : G (.ex 1) (txt ts) (parseExpr s).1 ∧ (parseExpr s).1.depth ≤ 80 ∧ (parseExpr s).1.size ≤ 2000 := by
 obtain ⟨e, hd⟩ := parseE_at hs h (Nat.le_refl _); rw [e] at he ⊢
 have hm : mS ts st00 = ts.length := by simp [mS, st00]
 have hsnd := (expr_sound (n := s.length) hd (4 * ts.length + 4)).1 1 st00 (Nat.zero_le _) (by rw [hm]; exact Nat.le_refl _)
 generalize exprP ts s.length (4 * ts.length + 4) 1 st00 = r at *
 unfold endE at he ⊢
 split at he
 · rename_i c; exact absurd he c
 · rename_i c
   rw [if_neg c]; obtain ⟨l1, l2, l3⟩ := limit_ok (by simpa using c); obtain ⟨f1, f2⟩ := finish_ok l1; obtain ⟨a, sa, ga, -⟩ := hsnd f1; refine ⟨?_, l2, l3⟩
   have h1 : rem ts r.2 = [] := by
    have := rem_len (ts := ts) r.2
    exact List.eq_nil_of_length_eq_zero (by omega)
   have h2 : rem ts st00 = a ++ rem ts r.2 := sa; rw [h1, List.append_nil] at h2; have h3 : rem ts st00 = txt ts := rfl; rw [h3] at h2
   rw [h2]; exact ga
theorem rem_st {ts : List Tok} : rem ts st00 = txt ts := rfl
theorem txt_len (ts : List Tok) : (txt ts).length = ts.length := by simp [txt]
theorem parseE_of {s : List UInt8} {ts : List Tok} {x : Nd} (hs : ¬ 65536 < s.length) (h : solidFrom s 0 = (ts, none)) (g : G (.ex 1) (txt ts) x) (h1 : x.depth ≤ 80) (h2 : x.size ≤ 2000) : parseExpr s = (x, 0, 0) := by
 obtain ⟨e, hd⟩ := parseE_at hs h (K := 4 * ts.length + 4) (Nat.le_refl _); rw [e]; have hr := g.reads (n := s.length) hd st00 (4 * ts.length + 4) [] (Nat.zero_le _) rfl (by rw [rem_st, List.append_nil]) (fun t ht => by cases ht) (fun t ht => by cases ht) (by rw [txt_len]; exact Nat.le_refl _); rw [hr, txt_len]
 unfold endE
 have hf : finishP ts s.length (adv st00 ts.length) = adv st00 ts.length := by unfold finishP; rw [if_neg (by simp [adv, st00])]
 have hl : limitP x 0 (adv st00 ts.length) = adv st00 ts.length := by
  unfold limitP
  rw [if_neg (by simp [adv, st00]), if_neg (by omega), if_neg (by omega)]
 simp only [hf, hl]; rw [if_neg (by simp [adv, st00])]
theorem sign_one {c : UInt8} (h1 : c = 40 ∨ c = 41) (v : List UInt8) : firstTok (c :: v) = (3, 1) := by
 have hp : pairs.contains ((c :: v).take 2) = false := by
  cases v with
  | nil => rcases h1 with rfl | rfl <;> decide
  | cons d r =>
   cases hh : pairs.contains [c, d]
   · exact hh
   · exfalso
     simp only [pairs, List.contains_cons, List.contains_nil, Bool.or_false, Bool.or_eq_true, beq_iff_eq, List.cons.injEq, and_true] at hh
     rcases h1 with rfl | rfl <;> rcases hh with ⟨h, _⟩ | ⟨h, _⟩ | ⟨h, _⟩ | ⟨h, _⟩ | ⟨h, _⟩ | ⟨h, _⟩ | ⟨h, _⟩ | ⟨h, _⟩ | ⟨h, _⟩ | ⟨h, _⟩ <;> exact absurd h (by decide)
 have h3 : List.isPrefixOf [60, 61, 62] (c :: v) = false := by
  rcases h1 with rfl | rfl <;> simp [List.isPrefixOf]
 have hs : singles.contains c = true := by rcases h1 with rfl | rfl <;> decide
 have hl : letter c = false ∧ digit c = false ∧ blank c = false ∧ c ≠ 35 := by rcases h1 with rfl | rfl <;> decide
 simp only [firstTok, hl.1, hl.2.1, hl.2.2.1, hl.2.2.2, if_false, Bool.false_eq_true, signLen, h3, hp, List.head?_cons, Option.map_some, Option.getD_some, hs, if_true]
theorem par_step {c : UInt8} (h1 : c = 40 ∨ c = 41) (v : List UInt8) : solidFrom (c :: v) 0 = pre [⟨3, [c], 0⟩] (shR 1 (solidFrom v 0)) := by
 have hf := sign_one h1 v; have hd : (c :: v).drop 0 = c :: v := rfl; rw [solidFrom_tok (s := c :: v) (p := 0) (by simp) (by rw [hd, hf]; decide) (by rw [hd, hf]; simp) (by rw [hd, hf]; simp), hd, hf]
 have e : tokAt (c :: v) 0 = ⟨3, [c], 0⟩ := by unfold tokAt; rw [hd, hf]; rfl
 rw [e]
 congr 1
 have := solidFrom_cons c v 0
 simpa using this
theorem opens (s : List UInt8) (ts : List Tok) (h : solidFrom s 0 = (ts, none)) : ∀ i : Nat, ∃ us, solidFrom (List.replicate i 40 ++ s) 0 = (us, none) ∧ txt us = List.replicate i [40] ++ txt ts
 | 0 => ⟨ts, h, rfl⟩
 | i + 1 => by
  obtain ⟨us, h1, h2⟩ := opens s ts h i; refine ⟨⟨3, [40], 0⟩ :: us.map (Tok.sh 1), ?_, ?_⟩
  · rw [List.replicate_succ, List.cons_append, par_step (Or.inl rfl), h1]; rfl
  · rw [List.replicate_succ, List.cons_append, ← h2]
    simp [txt, Tok.sh]
theorem closes : ∀ j : Nat, ∃ us, solidFrom (List.replicate j 41) 0 = (us, none) ∧ txt us = List.replicate j [41] ∧ ∀ k, j = k + 1 → (us.getD k Tok.zero).pos = (k : Int)
 | 0 => ⟨[], solidFrom_end (Nat.zero_le _), rfl, fun k h => by omega⟩
 | j + 1 => by
  obtain ⟨us, h1, h2, h3⟩ := closes j; refine ⟨⟨3, [41], 0⟩ :: us.map (Tok.sh 1), ?_, ?_, fun k hk => ?_⟩
  · rw [List.replicate_succ, par_step (Or.inr rfl), h1]; rfl
  · rw [List.replicate_succ, ← h2]
    simp [txt, Tok.sh]
  · obtain rfl : k = j := by omega
    cases k with
    | zero => rfl
    | succ k =>
     have := h3 k rfl
     have hl : k < us.length := by
      have e := congrArg List.length h2
      simp [txt] at e; omega
     simp only [List.getD_eq_getElem?_getD, List.getElem?_cons_succ, List.getElem?_map, List.getElem?_eq_getElem hl, Option.map_some, Option.getD_some, Tok.sh] at this ⊢
     omega
def parT (i j : Nat) (s : List UInt8) : List UInt8 := List.replicate i 40 ++ s ++ 10 :: List.replicate j 41
theorem parT_len (i j : Nat) (s : List UInt8) : (parT i j s).length = i + s.length + 1 + j := by simp [parT]; omega
theorem par_toks (s : List UInt8) (ts : List Tok) (h : solidFrom s 0 = (ts, none)) (i j : Nat) : ∃ us, solidFrom (parT i j s) 0 = (us, none) ∧ txt us = List.replicate i [40] ++ txt ts ++ List.replicate j [41] ∧
 ∀ k, j = k + 1 → (us.getD (i + ts.length + k) Tok.zero).pos = ((i + s.length + 1 + k : Nat) : Int) := by
 obtain ⟨us, h1, h2⟩ := opens s ts h i; obtain ⟨vs, h3, h4, h5⟩ := closes j; have ht := solidFrom_then (c := 10) (Or.inl (by decide)) rfl (List.replicate i 40 ++ s) (List.replicate j 41) _ 0 (Nat.le_refl _) (by omega) (by rw [h1]); have hsh := solidFrom_shift (List.replicate i 40 ++ s) (10 :: List.replicate j 41) _ 0 (Nat.le_refl _)
 have hb : solidFrom (10 :: List.replicate j 41) 0 = shR 1 (solidFrom (List.replicate j 41) 0) := by
  rw [solidFrom_blank (s := 10 :: List.replicate j 41) (p := 0) (by simp) (show blank 10 = true by decide)]
  exact solidFrom_cons 10 _ 0
 rw [Nat.add_zero] at hsh; rw [hsh, hb, h3, h1] at ht
 have hul : us.length = i + ts.length := by
  have e := congrArg List.length h2
  simpa [txt] using e
 refine ⟨us ++ (vs.map (Tok.sh 1)).map (Tok.sh (List.replicate i 40 ++ s).length), ?_, ?_, fun k hk => ?_⟩
 · unfold parT
   rw [ht]; rfl
 · rw [← h2, ← h4]
   simp [txt, Tok.sh]
 · have hp := h5 k hk
   have hl : k < vs.length := by
    have e := congrArg List.length h4
    simp [txt] at e; omega
   simp only [List.getD_eq_getElem?_getD] at hp ⊢; rw [List.getElem?_append_right (by omega), hul, Nat.add_sub_cancel_left]; simp only [List.getElem?_map, List.getElem?_eq_getElem hl, Option.map_some, Option.getD_some, Tok.sh] at hp ⊢; simp only [List.length_append, List.length_replicate]
   omega
theorem G.pars {a : Txt} {x : Nd} (g : G (.ex 1) a x) : ∀ i : Nat, G (.ex 1) (List.replicate i [40] ++ a ++ List.replicate i [41]) x
 | 0 => by simpa using g
 | i + 1 => by
  have h := G.ex (G.par (G.pars g i)) (G.cl0 (lv := 1))
  have e : List.replicate (i + 1) [40] ++ a ++ List.replicate (i + 1) [41] = [40] :: (List.replicate i [40] ++ a ++ List.replicate i [41] ++ [[41]]) ++ [] := by
   rw [List.replicate_succ, List.append_nil, List.replicate_succ' (n := i) (a := [41])]
   simp
  rw [e]; exact h
theorem parse_open {s : List UInt8} {ts : List Tok} {a : Txt} {x : Nd} (hs : ¬ 65536 < s.length) (h : solidFrom s 0 = (ts, none)) (ht : txt ts = [40] :: a) (g : G (.ex 1) a x) : parseExpr s = (zeroNd, (s.length : Int), 4) := by
 obtain ⟨e, hd⟩ := parseE_at hs h (K := 4 * ts.length + 3 + 1) (Nat.le_refl _); rw [e]
 have hl : ts.length = a.length + 1 := by rw [← txt_len, ht]; rfl
 have hr : rem ts st00 = [40] :: a := ht; have hin := g.reads (n := s.length) hd (adv st00 1) (4 * ts.length + 1) [] (by simp [adv, st00]; omega) rfl (by rw [rem_cons hr, List.append_nil]) (fun t ht => by cases ht) (fun t ht => by cases ht) (by omega); have he : (st00 : PS).err = 0 := rfl
 have hend : (adv (adv st00 1) a.length).at_ = ts.length := by simp [adv, st00]; omega
 have hex : expectP ts s.length (adv (adv st00 1) a.length) [41] = ⟨ts.length, s.length, 4⟩ := by
  unfold expectP hasP
  rw [peek_end hend, if_neg (by decide)]
  unfold unexpP failP
  rw [if_neg (by omega), if_pos (by rfl), hend]
 have hun : unaryP ts s.length (4 * ts.length + 3) st00 = (x, ⟨ts.length, s.length, 4⟩) := by
  rw [unaryP, has_cons hr he, if_neg (by decide), has_cons hr he, if_neg (by decide), primaryP, if_neg (fun e => by have := (kind_dig hd hr he).1 e; revert this; decide), has_cons hr he, if_neg (by decide), has_cons hr he, if_neg (by decide), has_cons hr he, if_pos (by decide), next_adv, hin]; simp only; rw [hex]
 have hxp : exprP ts s.length (4 * ts.length + 3 + 1) 1 st00 = (x, ⟨ts.length, s.length, 4⟩) := by
  rw [exprP, hun]; rw [climbP, peek_err (fun e => by cases e)]
  rfl
 rw [hxp]
 unfold endE
 have hf : finishP ts s.length ⟨ts.length, s.length, 4⟩ = ⟨ts.length, s.length, 4⟩ := by unfold finishP; rw [if_neg (by simp)]
 have hlm : limitP x 0 ⟨ts.length, s.length, 4⟩ = ⟨ts.length, s.length, 4⟩ := by unfold limitP; rw [if_pos (fun e => by cases e)]
 simp only [hf, hlm]; rw [if_pos (fun e => by cases e)]
theorem parse_close {s : List UInt8} {ts : List Tok} {a : Txt} {x : Nd} {q : Int} (hs : ¬ 65536 < s.length) (h : solidFrom s 0 = (ts, none)) (ht : txt ts = a ++ [[41]]) (g : G (.ex 1) a x) (hq : (ts.getD a.length Tok.zero).pos = q) : parseExpr s = (zeroNd, q, 3) := by
 obtain ⟨e, hd⟩ := parseE_at hs h (K := 4 * ts.length + 4) (Nat.le_refl _); rw [e]
 have hl : ts.length = a.length + 1 := by rw [← txt_len, ht]; simp
 have hin := g.reads (n := s.length) hd st00 (4 * ts.length + 4) [[41]] (Nat.zero_le _) rfl (by rw [rem_st]; exact ht) (stop_lit (by decide)) (nobr_lit (by decide)) (by omega); rw [hin]
 unfold endE
 have hf : finishP ts s.length (adv st00 a.length) = ⟨a.length, q, 3⟩ := by
  unfold finishP unexpP failP
  have : (adv st00 a.length).at_ = a.length := by simp [adv, st00]
  have h0 : (adv st00 a.length).err = 0 := rfl; rw [this, if_pos (by omega), if_pos (by omega), if_pos h0, hq]
 have hlm : limitP x 0 ⟨a.length, q, 3⟩ = ⟨a.length, q, 3⟩ := by unfold limitP; rw [if_pos (by simp)]
 simp only [hf, hlm]; rw [if_pos (by simp)]
theorem parens_plain {s : List UInt8} (hs : s.length ≤ 600) (he : (parseExpr s).2.2 = 0) (m : Nat) (hm : m ≤ 19) :
 parseExpr (parT m m s) = ((parseExpr s).1, 0, 0) ∧ parseExpr (parT (m + 1) m s) = (zeroNd, ((parT (m + 1) m s).length : Int), 4) ∧ parseExpr (parT m (m + 1) s) = (zeroNd, ((parT m m s).length : Int), 3) ∧ (parseExpr s).1.size ≤ 2000 := by
 obtain ⟨ts, hts⟩ := parseE_lex (by omega) he; obtain ⟨g, h1, h2⟩ := parseE_phrase (by omega) hts he; have gm := g.pars m; refine ⟨?_, ?_, ?_, h2⟩
 · obtain ⟨us, hu, ht, -⟩ := par_toks s ts hts m m
   exact parseE_of (by rw [parT_len]; omega) hu (by rw [ht]; exact gm) h1 h2
 · obtain ⟨us, hu, ht, -⟩ := par_toks s ts hts (m + 1) m
   exact parse_open (by rw [parT_len]; omega) hu (by rw [ht, List.replicate_succ]; rfl) gm
 · obtain ⟨us, hu, ht, hp⟩ := par_toks s ts hts m (m + 1)
   refine parse_close (by rw [parT_len]; omega) hu (by rw [ht, List.replicate_succ']; simp) gm ?_
   have e : (List.replicate m [40] ++ txt ts ++ List.replicate m [41]).length = m + ts.length + m := by simp [txt]; omega
   rw [e, hp m rfl, parT_len]
end Bk
namespace Bk
open Go Go.RowKit Go.Proofs
attribute [local irreducible] Go.Calls
theorem row_small0 (l : List Nd) : l.length ≤ rowSize l := by
 induction l with
 | nil => simp [rowSize]
 | cons x r ih => have : 1 ≤ x.size := by cases x; simp only [Nd.size]; omega
                  simp only [rowSize, List.length_cons]; omega
theorem kids_small0 {t : Nd} (h : t.size ≤ 2000) : t.kids.length ≤ 1000000000 ∧ rowSize t.kids ≤ 1000000000 := by
 cases t with
 | mk k n s l =>
  have := row_small0 l; simp only [Nd.size, Nd.kids] at *
  omega
theorem parT_next (i : Nat) (s : List UInt8) : parT (i + 1) (i + 1) s = ([40] ++ parT i i s) ++ [41] := by
 unfold parT
 rw [List.replicate_succ, List.replicate_succ']
 simp
theorem parT_open (i : Nat) (s : List UInt8) : parT (i + 1) i s = [40] ++ parT i i s := by
 unfold parT
 rw [List.replicate_succ]
 simp
theorem parT_close (i : Nat) (s : List UInt8) : parT i (i + 1) s = parT i i s ++ [41] := by
 unfold parT
 rw [List.replicate_succ']
 simp
set_option maxRecDepth 100000 in
set_option maxHeartbeats 4000000 in
theorem ParserParens_c (s : List UInt8) (many : Int) (w : World) (hs : s.length ≤ 9223372036854775807) (hk0 : 0 ≤ many) (hk1 : many ≤ 255) (hS : Syms w) (hE : Errs w) : Calls Tryd.prog 6 #[str s, .int .u8 many] w fun e w' => e = .returned (.bool true) ∧ Ext w w' := by
 have X := Ext.refl w
 by_cases h : 600 < s.length
 · refine calls_in Tryd.func6 Tryd.ntmps6 rfl rfl ?_
   focus
    refine cS (cA rfl rfl (cT (cw_seq (cS ?_)))); refine cC (by kernel_rfl) rfl (awake4_c _ (by assumption) (by assumption)) rfl ?_; rintro _ w2 ⟨⟨⟩, x1⟩; have z3 := x1.size; replace hS := hS.ext x1; replace hE := hE.ext x1; replace X := X.ext x1; clear x1; refine lw_pure (pur_not rfl) rfl (cM rfl rfl (lw_on rfl rfl rfl (rfl) (cM rfl rfl (lw_on rfl rfl rfl (rfl) (lw_pure (pur_len_s tabOk rfl rfl) rfl (lw_on rfl rfl rfl (rfl) (lw_pure (pur_gtr rfl rfl) rfl (lw_pure (pur_pick_f rfl rfl rfl) rfl (cT ?_))))))))); refine cw_yes rfl (by omega) ?_; refine cS ?_; refine cC (by kernel_rfl) rfl (awake4_c _ (by assumption) (by assumption)) rfl ?_; rintro _ w5 ⟨⟨⟩, x4⟩; have z6 := x4.size; replace hS := hS.ext x4; replace hE := hE.ext x4; replace X := X.ext x4; clear x4; refine cA rfl rfl (cT (cw_ret (qw_then_ret (qw_ret1 rfl rfl ?_)))); rotate_left 1
   exact ⟨rfl, X⟩
 have hE1 : ∀ w, Syms w → Errs w → Calls Tryd.prog 15 #[str s] w (ParseR w (parseExpr s)) := fun w => Expr_p s w (by omega)
 by_cases he : (parseExpr s).2.2 = 0
 · obtain ⟨m, hm⟩ : ∃ m : Nat, many % 20 = (m : Int) := ⟨(many % 20).toNat, by omega⟩
   have hm1 : m ≤ 19 := by omega
   obtain ⟨p1, p2, p3, hz⟩ := parens_plain (by omega) he m hm1; have hk := kids_small0 hz
   have hP1 : ∀ w, Syms w → Errs w → Calls Tryd.prog 15 #[str (parT m m s)] w (ParseR w (parseExpr (parT m m s))) := fun w => Expr_p _ w (by rw [parT_len]; omega)
   have hP2 : ∀ w, Syms w → Errs w → Calls Tryd.prog 15 #[str (parT (m + 1) m s)] w (ParseR w (parseExpr (parT (m + 1) m s))) := fun w => Expr_p _ w (by rw [parT_len]; omega)
   have hP3 : ∀ w, Syms w → Errs w → Calls Tryd.prog 15 #[str (parT m (m + 1) s)] w (ParseR w (parseExpr (parT m (m + 1) s))) := fun w => Expr_p _ w (by rw [parT_len]; omega)
   rw [p1] at hP1; rw [p2, parT_open] at hP2; rw [p3, parT_close] at hP3; clear p1 p2 p3
   generalize parseExpr s = r at *
   obtain ⟨g, off, err⟩ := r; simp only at he hz hk hP1; subst he
   have H1 := Lib.hid hE1; clear hE1
   have H2 := Lib.hid hP1; clear hP1
   have H3 := Lib.hid hP2; clear hP2
   have H4 := Lib.hid hP3; clear hP3
   refine calls_in Tryd.func6 Tryd.ntmps6 rfl rfl ?_
   focus
    refine cS (cA rfl rfl (cT (cw_seq (cS ?_)))); refine cC (by kernel_rfl) rfl (awake4_c _ (by assumption) (by assumption)) rfl ?_; rintro _ wa2 ⟨⟨⟩, xa1⟩; have za3 := xa1.size; replace hS := hS.ext xa1; replace hE := hE.ext xa1; replace X := X.ext xa1; clear xa1; refine lw_pure (pur_not rfl) rfl (cM rfl rfl (lw_on rfl rfl rfl (rfl) (cM rfl rfl (lw_on rfl rfl rfl (rfl) (lw_pure (pur_len_s tabOk rfl rfl) rfl (lw_on rfl rfl rfl (rfl) (lw_pure (pur_gtr rfl rfl) rfl (lw_pure (pur_pick_f rfl rfl rfl) rfl (cT ?_))))))))); refine cw_no rfl (by omega) ?_; refine cw_skip (qw_then (cS (cM rfl rfl ?_))); refine cR (by kernel_rfl) rfl (H1.out _ (by assumption) (by assumption)) (fun _ _ h => h.ret) rfl ?_; rintro _ wa8 ⟨aa4, ⟨ka5, ⟨⟨⟩, ⟨ha6, xa7⟩⟩⟩⟩; have za9 := xa7.size; replace hS := hS.ext xa7; replace hE := hE.ext xa7; replace X := X.ext xa7; clear xa7; refine cM rfl rfl (lw_pure (pur_extract rfl rfl) rfl (lw_pure (pur_extract rfl rfl) rfl (lw_pure (pur_extract rfl rfl) rfl ?_))); (refine lw_alloc' [_, _, _, _] zOk rfl rfl ?_; intro ba10 wa11 na12); (refine lw_init' [_, _, _, _] tabOk rfl rfl rfl rfl rfl rfl na12 rfl ?_; clear na12; clear wa11; intro wa13 na12); have ha14 := na12.blk; dsimp only at ha14; have xa15 := na12.ext; have pa16 := na12.pos; have za17 := na12.size; clear na12; replace ha6 := Nd.sits.ext ha6 xa15; replace hS := hS.ext xa15; replace hE := hE.ext xa15; replace X := X.ext xa15; clear xa15; refine cA rfl rfl (cA rfl rfl (cT (cw_seq (cS (cM rfl rfl (lw_pure (pur_neq rfl rfl) rfl (cT (cw_no rfl (not_not_intro rfl) (cw_skip (qw_then (cS ?_)))))))))))
    refine cM rfl rfl ?_; refine lw_pure (pur_sadd rfl rfl (by simp only [List.length_cons, List.length_nil]; omega)) rfl ?_; refine cA rfl rfl (cT (cw_seq (cS (cM rfl rfl ?_)))); refine lw_pure (pur_conv tabOk rfl rfl rfl (IntWalk.i64_in _ (by omega))) rfl ?_; refine lw_pure (pur_rem rfl rfl (by omega) (rem_known (by assumption) (by omega))) rfl ?_; refine cM rfl rfl (cT (cw_block ?_)); rotate_left 1
   refine cw_loop (ι := Nat) (fun i => [(5, .pointer (some ⟨ba10, 0, none⟩)), (8, str (parT i i s)), (38, .int .i64 m), (39, .int .i64 i)])
    (fun i w' => i ≤ m ∧ wa13 = w') (fun i => m - i) 0 (by (refine sub_cons rfl ?_; refine sub_cons rfl ?_; refine sub_cons rfl ?_; refine sub_cons rfl ?_; exact sub_nil)) ⟨Nat.zero_le _, rfl⟩ ?_
   rintro i _ ⟨hi, rfl⟩; have hpl := parT_len i i s
   by_cases hlt : i < m
   · clear H1 H2 H3 H4
     focus
      refine cS (lw_pure (pur_lss rfl rfl) rfl (cT (cw_seq ?_))); refine cw_yes rfl (by omega) ?_; refine cw_skip (qw_then (cw_seq (cw_block (cw_region (cM rfl rfl ?_))))); refine lw_pure (pur_sadd rfl rfl (by simp only [List.length_cons, List.length_nil]; omega)) rfl ?_; refine lw_pure (pur_sadd rfl rfl (by simp only [List.length_append, List.length_cons, List.length_nil]; omega)) rfl ?_; refine cA rfl rfl (lw_nil (qw_block_norm (qw_then (cw_region ?_)))); refine lw_pure (pur_add rfl rfl (IntWalk.i64_in _ (by omega))) rfl ?_; refine cM rfl rfl (lw_nil ?_); rotate_left 1
     refine qw_round (i + 1) (by refine sub_cons rfl (sub_cons' rfl (by rw [parT_next]) ?_); (refine sub_cons rfl ?_; refine sub_cons rfl ?_; exact sub_nil)) ⟨by omega, rfl⟩ (by omega)
   · obtain rfl : i = m := by omega
     generalize parT i i s = T at *
     focus
      refine cS (lw_pure (pur_lss rfl rfl) rfl (cT (cw_seq ?_))); refine cw_no rfl (by omega) ?_; refine cw_exit (qw_then_exit (qw_then_exit (qw_block_exit (qw_then (cS (cM rfl rfl ?_)))))); refine cR (by kernel_rfl) rfl (H2.out _ (by assumption) (by assumption)) (fun _ _ h => h.ret) rfl ?_; rintro _ wc5 ⟨ac1, ⟨kc2, ⟨⟨⟩, ⟨hc3, xc4⟩⟩⟩⟩; have zc6 := xc4.size; replace ha14 := ha14.ext xc4; replace ha6 := Nd.sits.ext ha6 xc4; replace hS := hS.ext xc4; replace hE := hE.ext xc4; replace X := X.ext xc4; clear xc4; refine cM rfl rfl (lw_pure (pur_extract rfl rfl) rfl (lw_pure (pur_extract rfl rfl) rfl (lw_pure (pur_extract rfl rfl) rfl ?_))); (refine lw_alloc' [_, _, _, _] zOk rfl rfl ?_; intro bc7 wc8 nc9); (refine lw_init' [_, _, _, _] tabOk rfl rfl rfl rfl rfl rfl nc9 rfl ?_; clear nc9; clear wc8; intro wc10 nc9); have hc11 := nc9.blk; dsimp only at hc11; have xc12 := nc9.ext; have pc13 := nc9.pos; have zc14 := nc9.size; clear nc9; replace hc3 := Nd.sits.ext hc3 xc12; replace ha14 := ha14.ext xc12; replace ha6 := Nd.sits.ext ha6 xc12; replace hS := hS.ext xc12; replace hE := hE.ext xc12; replace X := X.ext xc12; clear xc12; refine cA rfl rfl (cA rfl rfl (cN (cM rfl rfl ?_))); refine lw_pure (pur_sadd rfl rfl (by simp only [List.length_cons, List.length_nil]; omega)) rfl ?_; refine cR (by kernel_rfl) rfl (H3.out _ (by assumption) (by assumption)) (fun _ _ h => h.ret) rfl ?_; rintro _ wc19 ⟨ac15, ⟨kc16, ⟨⟨⟩, ⟨hc17, xc18⟩⟩⟩⟩; have zc20 := xc18.size; replace hc11 := hc11.ext xc18; replace hc3 := Nd.sits.ext hc3 xc18
      replace ha14 := ha14.ext xc18; replace ha6 := Nd.sits.ext ha6 xc18; replace hS := hS.ext xc18; replace hE := hE.ext xc18; replace X := X.ext xc18; clear xc18; refine cM rfl rfl (lw_pure (pur_extract rfl rfl) rfl (lw_pure (pur_extract rfl rfl) rfl (lw_pure (pur_extract rfl rfl) rfl ?_))); (refine lw_alloc' [_, _, _, _] zOk rfl rfl ?_; intro bc21 wc22 nc23); (refine lw_init' [_, _, _, _] tabOk rfl rfl rfl rfl rfl rfl nc23 rfl ?_; clear nc23; clear wc22; intro wc24 nc23); have hc25 := nc23.blk; dsimp only at hc25; have xc26 := nc23.ext; have pc27 := nc23.pos; have zc28 := nc23.size; clear nc23; replace hc17 := Nd.sits.ext hc17 xc26; replace hc11 := hc11.ext xc26; replace hc3 := Nd.sits.ext hc3 xc26; replace ha14 := ha14.ext xc26; replace ha6 := Nd.sits.ext ha6 xc26; replace hS := hS.ext xc26; replace hE := hE.ext xc26; replace X := X.ext xc26; clear xc26; refine cA rfl rfl (cA rfl rfl (cN (cM rfl rfl ?_))); refine lw_pure (pur_sadd rfl rfl (by simp only [List.length_cons, List.length_nil]; omega)) rfl ?_; refine cR (by kernel_rfl) rfl (H4.out _ (by assumption) (by assumption)) (fun _ _ h => h.ret) rfl ?_; rintro _ wc33 ⟨ac29, ⟨kc30, ⟨⟨⟩, ⟨hc31, xc32⟩⟩⟩⟩; have zc34 := xc32.size; replace hc25 := hc25.ext xc32; replace hc17 := Nd.sits.ext hc17 xc32; replace hc11 := hc11.ext xc32; replace hc3 := Nd.sits.ext hc3 xc32; replace ha14 := ha14.ext xc32; replace ha6 := Nd.sits.ext ha6 xc32; replace hS := hS.ext xc32; replace hE := hE.ext xc32; replace X := X.ext xc32; clear xc32; refine cM rfl rfl (lw_pure (pur_extract rfl rfl) rfl (lw_pure (pur_extract rfl rfl) rfl (lw_pure (pur_extract rfl rfl) rfl ?_)))
      (refine lw_alloc' [_, _, _, _] zOk rfl rfl ?_; intro bc35 wc36 nc37); (refine lw_init' [_, _, _, _] tabOk rfl rfl rfl rfl rfl rfl nc37 rfl ?_; clear nc37; clear wc36; intro wc38 nc37); have hc39 := nc37.blk; dsimp only at hc39; have xc40 := nc37.ext; have pc41 := nc37.pos; have zc42 := nc37.size; clear nc37; replace hc31 := Nd.sits.ext hc31 xc40; replace hc25 := hc25.ext xc40; replace hc17 := Nd.sits.ext hc17 xc40; replace hc11 := hc11.ext xc40; replace hc3 := Nd.sits.ext hc3 xc40; replace ha14 := ha14.ext xc40; replace ha6 := Nd.sits.ext ha6 xc40; replace hS := hS.ext xc40; replace hE := hE.ext xc40; replace X := X.ext xc40; clear xc40; refine cA rfl rfl (cA rfl rfl (cN (cM rfl rfl (lw_pure (pur_eql rfl rfl) rfl (cM rfl rfl (lw_on rfl rfl rfl (gd_tt (rfl)) (lw_loads_b' [_, _, _, _] tabOk rfl rfl rfl ha14 rfl rfl rfl (lw_on rfl rfl rfl (gd_tt (rfl)) (lw_loads_b' [_, _, _, _] tabOk rfl rfl rfl hc11 rfl rfl rfl (lw_on rfl rfl rfl (gd_tt (rfl)) ?_)))))))))); refine cC (by kernel_rfl) rfl (Equal_t 2001 _ _ _ _ _ _ _ _ (by omega) hk.1 hk.2 (by assumption) (by assumption)) rfl ?_; rintro _ wc44 ⟨⟨⟩, xc43⟩; have zc45 := xc43.size; replace hc39 := hc39.ext xc43; replace hc31 := Nd.sits.ext hc31 xc43; replace hc25 := hc25.ext xc43; replace hc17 := Nd.sits.ext hc17 xc43; replace hc11 := hc11.ext xc43; replace hc3 := Nd.sits.ext hc3 xc43; replace ha14 := ha14.ext xc43; replace ha6 := Nd.sits.ext ha6 xc43; replace hS := hS.ext xc43; replace hE := hE.ext xc43; replace X := X.ext xc43
      clear xc43; refine lw_pure (pur_pick_yes rfl rfl (rfl)) rfl (cM rfl rfl (lw_on rfl rfl rfl (rfl) (cM rfl rfl (lw_on rfl rfl rfl (rfl) (lw_pure (pur_eql rfl rfl) rfl (lw_pure (pur_pick_t rfl rfl rfl) rfl (cM rfl rfl (lw_on rfl rfl rfl (gd_tt (rfl)) (cM rfl rfl (lw_on rfl rfl rfl (gd_tt (rfl)) (cM rfl rfl ?_))))))))))); refine lw_on rfl rfl rfl (gd_tt (rfl)) (lw_pure (pur_len_s tabOk rfl rfl) rfl (lw_on rfl rfl rfl (gd_tt (rfl)) ?_)); refine lw_pure (pur_add rfl rfl (IntWalk.i64_in _ (by omega))) rfl ?_; refine lw_on rfl rfl rfl (gd_tt (rfl)) (lw_pure (pur_eql rfl rfl) rfl (lw_pure (pur_pick_yes rfl rfl (rfl)) rfl (cM rfl rfl (lw_on rfl rfl rfl (gd_tt (rfl)) (cM rfl rfl (lw_on rfl rfl rfl (gd_tt (rfl)) (lw_pure (pur_eql rfl rfl) rfl (lw_pure (pur_pick_yes rfl rfl (rfl)) rfl (cM rfl rfl (lw_on rfl rfl rfl (gd_tt (rfl)) (cM rfl rfl ?_))))))))))); refine lw_on rfl rfl rfl (gd_tt (rfl)) (cM rfl rfl (lw_on rfl rfl rfl (gd_tt (rfl)) (lw_pure (pur_len_s tabOk rfl rfl) rfl (lw_on rfl rfl rfl (gd_tt (rfl)) (lw_pure (pur_eql rfl rfl) rfl (lw_pure (pur_pick_yes rfl rfl (rfl)) rfl (cA rfl rfl (cT (cw_ret (qw_ret1 rfl rfl ?_)))))))))); rotate_left 1
     exact ⟨by simp, X⟩
 · have H1 := Lib.hid hE1; clear hE1
   refine calls_in Tryd.func6 Tryd.ntmps6 rfl rfl ?_
   focus
    refine cS (cA rfl rfl (cT (cw_seq (cS ?_)))); refine cC (by kernel_rfl) rfl (awake4_c _ (by assumption) (by assumption)) rfl ?_; rintro _ wd2 ⟨⟨⟩, xd1⟩; have zd3 := xd1.size; replace hS := hS.ext xd1; replace hE := hE.ext xd1; replace X := X.ext xd1; clear xd1; refine lw_pure (pur_not rfl) rfl (cM rfl rfl (lw_on rfl rfl rfl (rfl) (cM rfl rfl (lw_on rfl rfl rfl (rfl) (lw_pure (pur_len_s tabOk rfl rfl) rfl (lw_on rfl rfl rfl (rfl) (lw_pure (pur_gtr rfl rfl) rfl (lw_pure (pur_pick_f rfl rfl rfl) rfl (cT ?_))))))))); refine cw_no rfl (by omega) ?_; refine cw_skip (qw_then (cS (cM rfl rfl ?_))); refine cR (by kernel_rfl) rfl (H1.out _ (by assumption) (by assumption)) (fun _ _ h => h.ret) rfl ?_; rintro _ wd8 ⟨ad4, ⟨kd5, ⟨⟨⟩, ⟨hd6, xd7⟩⟩⟩⟩; have zd9 := xd7.size; replace hS := hS.ext xd7; replace hE := hE.ext xd7; replace X := X.ext xd7; clear xd7; refine cM rfl rfl (lw_pure (pur_extract rfl rfl) rfl (lw_pure (pur_extract rfl rfl) rfl (lw_pure (pur_extract rfl rfl) rfl ?_))); (refine lw_alloc' [_, _, _, _] zOk rfl rfl ?_; intro bd10 wd11 nd12); (refine lw_init' [_, _, _, _] tabOk rfl rfl rfl rfl rfl rfl nd12 rfl ?_; clear nd12; clear wd11; intro wd13 nd12); have hd14 := nd12.blk; have xd15 := nd12.ext; have pd16 := nd12.pos; have zd17 := nd12.size; clear nd12; replace hd6 := Nd.sits.ext hd6 xd15; replace hS := hS.ext xd15; replace hE := hE.ext xd15; replace X := X.ext xd15; clear xd15; refine cA rfl rfl (cA rfl rfl (cT (cw_seq (cS (cM rfl rfl (lw_pure (pur_neq rfl rfl) rfl (cT ?_)))))))
    refine cw_yes rfl (by assumption) ?_; refine cS (cA rfl rfl (cT (cw_ret (qw_then_ret (qw_ret1 rfl rfl ?_))))); rotate_left 1
   exact ⟨rfl, X⟩
end Bk
namespace Bk
open Go Go.RowKit Go.Proofs Go.Lib
theorem cells_of_strs {H : Type} {enc : TypeId × Value → H} {P : Program} {w : World} {base : Nat} {sp : Nat → Bool} {held : Bool} {fuel : Nat} {t e : TypeId} {n : Nat} {cs : List Value} {zs : List (List UInt8)} {p : List MemPlace}
 (ht : P.underlying t = some (.array n e)) (he : P.underlying e = some .string) (hce : P.cellsOf e = 1) (hct : P.cellsOf t = n)
 (h : DataW.trod enc P w base sp held fuel t cs = some (.agg (zs.map fun z => .lit (.string z)), p)) : cs = zs.map str := by
 cases fuel with
 | zero => simp [DataW.trod] at h
 | succ fuel =>
  simp only [DataW.trod, ht, hce, hct, Nat.mul_one] at h
  split at h
  · rename_i hl
    obtain ⟨xs, hm, hx⟩ := Option.map_eq_some_iff.1 h
    have hxs : xs.map (·.1) = zs.map fun z => (DataW.lit (.string z) : DataW H) := by
     have := congrArg Prod.fst hx
     simpa using this
    have hxl : xs.length = n := by simpa using mapM_length hm
    have hzl : zs.length = n := by
     have := congrArg List.length hxs
     simp at this
     omega
    apply List.ext_getElem?
    intro i
    by_cases hi : i < n
    · obtain ⟨b, hb, hf⟩ := mapM_at hm i i (by simp [hi])
      obtain ⟨z, hc, rfl, _⟩ := DataW.trod_string he hf
      have h1 : cs[i]? = some (.string z) := by
       have := congrArg (·[0]?) hc
       simpa [List.getElem?_take, List.getElem?_drop] using this
      have h2 : (xs.map (·.1))[i]? = some (DataW.lit (.string z.data.toList) : DataW H) := by simp [hb]
      rw [hxs] at h2; simp only [List.getElem?_map, Option.map_eq_some_iff, DataW.lit.injEq, Lit.string.injEq] at h2; obtain ⟨z', hz', rfl⟩ := h2
      simp [h1, hz']
    · rw [List.getElem?_eq_none (by omega), List.getElem?_eq_none (by simp; omega)]
  · cases h
end Bk
namespace Bk
open Go Go.RowKit Go.Proofs Go.Lib
theorem gSym4 : Tryd.prog.globalNamed "backstep/arith.symbols" = some 0 := by kernel_rfl
theorem gSymT4 : (Tryd.prog.globals[0]?).map (·.type) = some 73 := by kernel_rfl
theorem uSymT4 : Tryd.prog.underlying 73 = some (.array 43 9) := by kernel_rfl
theorem cSymT4 : Tryd.prog.cellsOf 73 = 43 := by kernel_rfl
theorem uStr4 : Tryd.prog.underlying 9 = some .string := by kernel_rfl
theorem cStr4 : Tryd.prog.cellsOf 9 = 1 := by kernel_rfl
theorem gErr4 : Tryd.prog.globalNamed "strconv.ErrRange" = some 3 := by kernel_rfl
theorem gErrT4 : (Tryd.prog.globals[3]?).map (·.type) = some 93 := by kernel_rfl
theorem uErr4 : ∃ ms, Tryd.prog.underlying 93 = some (.interface ms) := ⟨_, Tryd.underlying93⟩
theorem symData4 : (YtihgojmblldifaaDoor.Rows.laid_backstep_arith_symbols : DataW Unit) = .agg (symbols.map fun z => .lit (.string z)) := rfl
abbrev laid4 : List (String × DataW Unit) := [("backstep/arith.symbols", YtihgojmblldifaaDoor.Rows.laid_backstep_arith_symbols), ("math/bits.deBruijn32tab", YtihgojmblldifaaDoor.Rows.laid_math_bits_deBruijn32tab), ("math/bits.deBruijn64tab", YtihgojmblldifaaDoor.Rows.laid_math_bits_deBruijn64tab), ("internal/strconv.uint64pow10", YtihgojmblldifaaDoor.Rows.laid_internal_strconv_uint64pow10), ("strconv.ErrRange", YtihgojmblldifaaDoor.Rows.laid_strconv_ErrRange), ("strconv.ErrSyntax", YtihgojmblldifaaDoor.Rows.laid_strconv_ErrSyntax)]
theorem syms_of_laid {W : World} (h : laidMetH Tryd.prog laid4 W) : Syms W ∧ Errs W := by
 have h' : laidMet Tryd.prog laid4 W := h; obtain ⟨ps, ⟨g1, t1, cs1, f1, p1, q1, hg1, ht1, hv1, hd1, ⟨g2, t2, cs2, f2, p2, q2, hg2, ht2, hv2, hd2, ⟨g3, t3, cs3, f3, p3, q3, hg3, ht3, hv3, hd3, ⟨g4, t4, cs4, f4, p4, q4, hg4, ht4, hv4, hd4, ⟨g5, t5, cs5, f5, p5, q5, hg5, ht5, hv5, hd5, -, -⟩, -⟩, -⟩, -⟩, -⟩, -⟩ := h'; obtain rfl := Option.some.inj (gSym4.symm.trans hg1); obtain rfl := Option.some.inj (gSymT4.symm.trans ht1); obtain rfl := Option.some.inj (gErr4.symm.trans hg5); obtain rfl := Option.some.inj (gErrT4.symm.trans ht5); rw [symData4] at hd1; have e1 := cells_of_strs uSymT4 uStr4 cStr4 cSymT4 hd1; refine ⟨⟨fun i hi => ?_⟩, ?_⟩
 · rw [World.var?_cell gSym4 hv1 i, ← Array.getElem?_toList, e1, List.getElem?_map]
   have : symbols[i]? = some (symbols.getD i []) := by
    rw [List.getD_eq_getElem?_getD, List.getElem?_eq_getElem (show i < symbols.length from hi)]; rfl
   rw [this]; rfl
 · obtain ⟨ms, hu⟩ := uErr4
   obtain ⟨f, u, v, hc, -, -⟩ := iface_of_trod hu hd5; refine ⟨⟨u, v, ?_⟩⟩; rw [World.var?_cell gErr4 hv5 0, ← Array.getElem?_toList, hc]
   rfl
end Bk
namespace Bk
open Go
def levT (p q : Int) : List UInt8 := ((([120, 32] ++ symbol p) ++ [32, 121, 32]) ++ symbol q) ++ [32, 122]
def levN (p q : Int) : Nd := if level q ≤ level p then .mk q 0 [] [.mk p 0 [] [.mk 2 0 [120] [], .mk 2 0 [121] []], .mk 2 0 [122] []] else .mk p 0 [] [.mk 2 0 [120] [], .mk q 0 [] [.mk 2 0 [121] [], .mk 2 0 [122] []]]
theorem lev_8 (q : Int) (h0 : 8 ≤ q) (h1 : q ≤ 23) : parseExpr (levT 8 q) = (levN 8 q, 0, 0) := by
 have : q = 8 ∨ q = 9 ∨ q = 10 ∨ q = 11 ∨ q = 12 ∨ q = 13 ∨ q = 14 ∨ q = 15 ∨ q = 16 ∨ q = 17 ∨ q = 18 ∨ q = 19 ∨ q = 20 ∨ q = 21 ∨ q = 22 ∨ q = 23 := by omega
 rcases this with rfl | rfl | rfl | rfl | rfl | rfl | rfl | rfl | rfl | rfl | rfl | rfl | rfl | rfl | rfl | rfl
 · exact (show parseExpr (levT 8 8) = (levN 8 8, 0, 0) by kernel_rfl)
 · exact (show parseExpr (levT 8 9) = (levN 8 9, 0, 0) by kernel_rfl)
 · exact (show parseExpr (levT 8 10) = (levN 8 10, 0, 0) by kernel_rfl)
 · exact (show parseExpr (levT 8 11) = (levN 8 11, 0, 0) by kernel_rfl)
 · exact (show parseExpr (levT 8 12) = (levN 8 12, 0, 0) by kernel_rfl)
 · exact (show parseExpr (levT 8 13) = (levN 8 13, 0, 0) by kernel_rfl)
 · exact (show parseExpr (levT 8 14) = (levN 8 14, 0, 0) by kernel_rfl)
 · exact (show parseExpr (levT 8 15) = (levN 8 15, 0, 0) by kernel_rfl)
 · exact (show parseExpr (levT 8 16) = (levN 8 16, 0, 0) by kernel_rfl)
 · exact (show parseExpr (levT 8 17) = (levN 8 17, 0, 0) by kernel_rfl)
 · exact (show parseExpr (levT 8 18) = (levN 8 18, 0, 0) by kernel_rfl)
 · exact (show parseExpr (levT 8 19) = (levN 8 19, 0, 0) by kernel_rfl)
 · exact (show parseExpr (levT 8 20) = (levN 8 20, 0, 0) by kernel_rfl)
 · exact (show parseExpr (levT 8 21) = (levN 8 21, 0, 0) by kernel_rfl)
 · exact (show parseExpr (levT 8 22) = (levN 8 22, 0, 0) by kernel_rfl)
 · exact (show parseExpr (levT 8 23) = (levN 8 23, 0, 0) by kernel_rfl)
theorem lev_9 (q : Int) (h0 : 8 ≤ q) (h1 : q ≤ 23) : parseExpr (levT 9 q) = (levN 9 q, 0, 0) := by
 have : q = 8 ∨ q = 9 ∨ q = 10 ∨ q = 11 ∨ q = 12 ∨ q = 13 ∨ q = 14 ∨ q = 15 ∨ q = 16 ∨ q = 17 ∨ q = 18 ∨ q = 19 ∨ q = 20 ∨ q = 21 ∨ q = 22 ∨ q = 23 := by omega
 rcases this with rfl | rfl | rfl | rfl | rfl | rfl | rfl | rfl | rfl | rfl | rfl | rfl | rfl | rfl | rfl | rfl
 · exact (show parseExpr (levT 9 8) = (levN 9 8, 0, 0) by kernel_rfl)
 · exact (show parseExpr (levT 9 9) = (levN 9 9, 0, 0) by kernel_rfl)
 · exact (show parseExpr (levT 9 10) = (levN 9 10, 0, 0) by kernel_rfl)
 · exact (show parseExpr (levT 9 11) = (levN 9 11, 0, 0) by kernel_rfl)
 · exact (show parseExpr (levT 9 12) = (levN 9 12, 0, 0) by kernel_rfl)
 · exact (show parseExpr (levT 9 13) = (levN 9 13, 0, 0) by kernel_rfl)
 · exact (show parseExpr (levT 9 14) = (levN 9 14, 0, 0) by kernel_rfl)
 · exact (show parseExpr (levT 9 15) = (levN 9 15, 0, 0) by kernel_rfl)
 · exact (show parseExpr (levT 9 16) = (levN 9 16, 0, 0) by kernel_rfl)
 · exact (show parseExpr (levT 9 17) = (levN 9 17, 0, 0) by kernel_rfl)
 · exact (show parseExpr (levT 9 18) = (levN 9 18, 0, 0) by kernel_rfl)
 · exact (show parseExpr (levT 9 19) = (levN 9 19, 0, 0) by kernel_rfl)
 · exact (show parseExpr (levT 9 20) = (levN 9 20, 0, 0) by kernel_rfl)
 · exact (show parseExpr (levT 9 21) = (levN 9 21, 0, 0) by kernel_rfl)
 · exact (show parseExpr (levT 9 22) = (levN 9 22, 0, 0) by kernel_rfl)
 · exact (show parseExpr (levT 9 23) = (levN 9 23, 0, 0) by kernel_rfl)
theorem lev_10 (q : Int) (h0 : 8 ≤ q) (h1 : q ≤ 23) : parseExpr (levT 10 q) = (levN 10 q, 0, 0) := by
 have : q = 8 ∨ q = 9 ∨ q = 10 ∨ q = 11 ∨ q = 12 ∨ q = 13 ∨ q = 14 ∨ q = 15 ∨ q = 16 ∨ q = 17 ∨ q = 18 ∨ q = 19 ∨ q = 20 ∨ q = 21 ∨ q = 22 ∨ q = 23 := by omega
 rcases this with rfl | rfl | rfl | rfl | rfl | rfl | rfl | rfl | rfl | rfl | rfl | rfl | rfl | rfl | rfl | rfl
 · exact (show parseExpr (levT 10 8) = (levN 10 8, 0, 0) by kernel_rfl)
 · exact (show parseExpr (levT 10 9) = (levN 10 9, 0, 0) by kernel_rfl)
 · exact (show parseExpr (levT 10 10) = (levN 10 10, 0, 0) by kernel_rfl)
 · exact (show parseExpr (levT 10 11) = (levN 10 11, 0, 0) by kernel_rfl)
 · exact (show parseExpr (levT 10 12) = (levN 10 12, 0, 0) by kernel_rfl)
 · exact (show parseExpr (levT 10 13) = (levN 10 13, 0, 0) by kernel_rfl)
 · exact (show parseExpr (levT 10 14) = (levN 10 14, 0, 0) by kernel_rfl)
 · exact (show parseExpr (levT 10 15) = (levN 10 15, 0, 0) by kernel_rfl)
 · exact (show parseExpr (levT 10 16) = (levN 10 16, 0, 0) by kernel_rfl)
 · exact (show parseExpr (levT 10 17) = (levN 10 17, 0, 0) by kernel_rfl)
 · exact (show parseExpr (levT 10 18) = (levN 10 18, 0, 0) by kernel_rfl)
 · exact (show parseExpr (levT 10 19) = (levN 10 19, 0, 0) by kernel_rfl)
 · exact (show parseExpr (levT 10 20) = (levN 10 20, 0, 0) by kernel_rfl)
 · exact (show parseExpr (levT 10 21) = (levN 10 21, 0, 0) by kernel_rfl)
 · exact (show parseExpr (levT 10 22) = (levN 10 22, 0, 0) by kernel_rfl)
 · exact (show parseExpr (levT 10 23) = (levN 10 23, 0, 0) by kernel_rfl)
theorem lev_11 (q : Int) (h0 : 8 ≤ q) (h1 : q ≤ 23) : parseExpr (levT 11 q) = (levN 11 q, 0, 0) := by
 have : q = 8 ∨ q = 9 ∨ q = 10 ∨ q = 11 ∨ q = 12 ∨ q = 13 ∨ q = 14 ∨ q = 15 ∨ q = 16 ∨ q = 17 ∨ q = 18 ∨ q = 19 ∨ q = 20 ∨ q = 21 ∨ q = 22 ∨ q = 23 := by omega
 rcases this with rfl | rfl | rfl | rfl | rfl | rfl | rfl | rfl | rfl | rfl | rfl | rfl | rfl | rfl | rfl | rfl
 · exact (show parseExpr (levT 11 8) = (levN 11 8, 0, 0) by kernel_rfl)
 · exact (show parseExpr (levT 11 9) = (levN 11 9, 0, 0) by kernel_rfl)
 · exact (show parseExpr (levT 11 10) = (levN 11 10, 0, 0) by kernel_rfl)
 · exact (show parseExpr (levT 11 11) = (levN 11 11, 0, 0) by kernel_rfl)
 · exact (show parseExpr (levT 11 12) = (levN 11 12, 0, 0) by kernel_rfl)
 · exact (show parseExpr (levT 11 13) = (levN 11 13, 0, 0) by kernel_rfl)
 · exact (show parseExpr (levT 11 14) = (levN 11 14, 0, 0) by kernel_rfl)
 · exact (show parseExpr (levT 11 15) = (levN 11 15, 0, 0) by kernel_rfl)
 · exact (show parseExpr (levT 11 16) = (levN 11 16, 0, 0) by kernel_rfl)
 · exact (show parseExpr (levT 11 17) = (levN 11 17, 0, 0) by kernel_rfl)
 · exact (show parseExpr (levT 11 18) = (levN 11 18, 0, 0) by kernel_rfl)
 · exact (show parseExpr (levT 11 19) = (levN 11 19, 0, 0) by kernel_rfl)
 · exact (show parseExpr (levT 11 20) = (levN 11 20, 0, 0) by kernel_rfl)
 · exact (show parseExpr (levT 11 21) = (levN 11 21, 0, 0) by kernel_rfl)
 · exact (show parseExpr (levT 11 22) = (levN 11 22, 0, 0) by kernel_rfl)
 · exact (show parseExpr (levT 11 23) = (levN 11 23, 0, 0) by kernel_rfl)
theorem lev_12 (q : Int) (h0 : 8 ≤ q) (h1 : q ≤ 23) : parseExpr (levT 12 q) = (levN 12 q, 0, 0) := by
 have : q = 8 ∨ q = 9 ∨ q = 10 ∨ q = 11 ∨ q = 12 ∨ q = 13 ∨ q = 14 ∨ q = 15 ∨ q = 16 ∨ q = 17 ∨ q = 18 ∨ q = 19 ∨ q = 20 ∨ q = 21 ∨ q = 22 ∨ q = 23 := by omega
 rcases this with rfl | rfl | rfl | rfl | rfl | rfl | rfl | rfl | rfl | rfl | rfl | rfl | rfl | rfl | rfl | rfl
 · exact (show parseExpr (levT 12 8) = (levN 12 8, 0, 0) by kernel_rfl)
 · exact (show parseExpr (levT 12 9) = (levN 12 9, 0, 0) by kernel_rfl)
 · exact (show parseExpr (levT 12 10) = (levN 12 10, 0, 0) by kernel_rfl)
 · exact (show parseExpr (levT 12 11) = (levN 12 11, 0, 0) by kernel_rfl)
 · exact (show parseExpr (levT 12 12) = (levN 12 12, 0, 0) by kernel_rfl)
 · exact (show parseExpr (levT 12 13) = (levN 12 13, 0, 0) by kernel_rfl)
 · exact (show parseExpr (levT 12 14) = (levN 12 14, 0, 0) by kernel_rfl)
 · exact (show parseExpr (levT 12 15) = (levN 12 15, 0, 0) by kernel_rfl)
 · exact (show parseExpr (levT 12 16) = (levN 12 16, 0, 0) by kernel_rfl)
 · exact (show parseExpr (levT 12 17) = (levN 12 17, 0, 0) by kernel_rfl)
 · exact (show parseExpr (levT 12 18) = (levN 12 18, 0, 0) by kernel_rfl)
 · exact (show parseExpr (levT 12 19) = (levN 12 19, 0, 0) by kernel_rfl)
 · exact (show parseExpr (levT 12 20) = (levN 12 20, 0, 0) by kernel_rfl)
 · exact (show parseExpr (levT 12 21) = (levN 12 21, 0, 0) by kernel_rfl)
 · exact (show parseExpr (levT 12 22) = (levN 12 22, 0, 0) by kernel_rfl)
 · exact (show parseExpr (levT 12 23) = (levN 12 23, 0, 0) by kernel_rfl)
theorem lev_13 (q : Int) (h0 : 8 ≤ q) (h1 : q ≤ 23) : parseExpr (levT 13 q) = (levN 13 q, 0, 0) := by
 have : q = 8 ∨ q = 9 ∨ q = 10 ∨ q = 11 ∨ q = 12 ∨ q = 13 ∨ q = 14 ∨ q = 15 ∨ q = 16 ∨ q = 17 ∨ q = 18 ∨ q = 19 ∨ q = 20 ∨ q = 21 ∨ q = 22 ∨ q = 23 := by omega
 rcases this with rfl | rfl | rfl | rfl | rfl | rfl | rfl | rfl | rfl | rfl | rfl | rfl | rfl | rfl | rfl | rfl
 · exact (show parseExpr (levT 13 8) = (levN 13 8, 0, 0) by kernel_rfl)
 · exact (show parseExpr (levT 13 9) = (levN 13 9, 0, 0) by kernel_rfl)
 · exact (show parseExpr (levT 13 10) = (levN 13 10, 0, 0) by kernel_rfl)
 · exact (show parseExpr (levT 13 11) = (levN 13 11, 0, 0) by kernel_rfl)
 · exact (show parseExpr (levT 13 12) = (levN 13 12, 0, 0) by kernel_rfl)
 · exact (show parseExpr (levT 13 13) = (levN 13 13, 0, 0) by kernel_rfl)
 · exact (show parseExpr (levT 13 14) = (levN 13 14, 0, 0) by kernel_rfl)
 · exact (show parseExpr (levT 13 15) = (levN 13 15, 0, 0) by kernel_rfl)
 · exact (show parseExpr (levT 13 16) = (levN 13 16, 0, 0) by kernel_rfl)
 · exact (show parseExpr (levT 13 17) = (levN 13 17, 0, 0) by kernel_rfl)
 · exact (show parseExpr (levT 13 18) = (levN 13 18, 0, 0) by kernel_rfl)
 · exact (show parseExpr (levT 13 19) = (levN 13 19, 0, 0) by kernel_rfl)
 · exact (show parseExpr (levT 13 20) = (levN 13 20, 0, 0) by kernel_rfl)
 · exact (show parseExpr (levT 13 21) = (levN 13 21, 0, 0) by kernel_rfl)
 · exact (show parseExpr (levT 13 22) = (levN 13 22, 0, 0) by kernel_rfl)
 · exact (show parseExpr (levT 13 23) = (levN 13 23, 0, 0) by kernel_rfl)
theorem lev_14 (q : Int) (h0 : 8 ≤ q) (h1 : q ≤ 23) : parseExpr (levT 14 q) = (levN 14 q, 0, 0) := by
 have : q = 8 ∨ q = 9 ∨ q = 10 ∨ q = 11 ∨ q = 12 ∨ q = 13 ∨ q = 14 ∨ q = 15 ∨ q = 16 ∨ q = 17 ∨ q = 18 ∨ q = 19 ∨ q = 20 ∨ q = 21 ∨ q = 22 ∨ q = 23 := by omega
 rcases this with rfl | rfl | rfl | rfl | rfl | rfl | rfl | rfl | rfl | rfl | rfl | rfl | rfl | rfl | rfl | rfl
 · exact (show parseExpr (levT 14 8) = (levN 14 8, 0, 0) by kernel_rfl)
 · exact (show parseExpr (levT 14 9) = (levN 14 9, 0, 0) by kernel_rfl)
 · exact (show parseExpr (levT 14 10) = (levN 14 10, 0, 0) by kernel_rfl)
 · exact (show parseExpr (levT 14 11) = (levN 14 11, 0, 0) by kernel_rfl)
 · exact (show parseExpr (levT 14 12) = (levN 14 12, 0, 0) by kernel_rfl)
 · exact (show parseExpr (levT 14 13) = (levN 14 13, 0, 0) by kernel_rfl)
 · exact (show parseExpr (levT 14 14) = (levN 14 14, 0, 0) by kernel_rfl)
 · exact (show parseExpr (levT 14 15) = (levN 14 15, 0, 0) by kernel_rfl)
 · exact (show parseExpr (levT 14 16) = (levN 14 16, 0, 0) by kernel_rfl)
 · exact (show parseExpr (levT 14 17) = (levN 14 17, 0, 0) by kernel_rfl)
 · exact (show parseExpr (levT 14 18) = (levN 14 18, 0, 0) by kernel_rfl)
 · exact (show parseExpr (levT 14 19) = (levN 14 19, 0, 0) by kernel_rfl)
 · exact (show parseExpr (levT 14 20) = (levN 14 20, 0, 0) by kernel_rfl)
 · exact (show parseExpr (levT 14 21) = (levN 14 21, 0, 0) by kernel_rfl)
 · exact (show parseExpr (levT 14 22) = (levN 14 22, 0, 0) by kernel_rfl)
 · exact (show parseExpr (levT 14 23) = (levN 14 23, 0, 0) by kernel_rfl)
theorem lev_15 (q : Int) (h0 : 8 ≤ q) (h1 : q ≤ 23) : parseExpr (levT 15 q) = (levN 15 q, 0, 0) := by
 have : q = 8 ∨ q = 9 ∨ q = 10 ∨ q = 11 ∨ q = 12 ∨ q = 13 ∨ q = 14 ∨ q = 15 ∨ q = 16 ∨ q = 17 ∨ q = 18 ∨ q = 19 ∨ q = 20 ∨ q = 21 ∨ q = 22 ∨ q = 23 := by omega
 rcases this with rfl | rfl | rfl | rfl | rfl | rfl | rfl | rfl | rfl | rfl | rfl | rfl | rfl | rfl | rfl | rfl
 · exact (show parseExpr (levT 15 8) = (levN 15 8, 0, 0) by kernel_rfl)
 · exact (show parseExpr (levT 15 9) = (levN 15 9, 0, 0) by kernel_rfl)
 · exact (show parseExpr (levT 15 10) = (levN 15 10, 0, 0) by kernel_rfl)
 · exact (show parseExpr (levT 15 11) = (levN 15 11, 0, 0) by kernel_rfl)
 · exact (show parseExpr (levT 15 12) = (levN 15 12, 0, 0) by kernel_rfl)
 · exact (show parseExpr (levT 15 13) = (levN 15 13, 0, 0) by kernel_rfl)
 · exact (show parseExpr (levT 15 14) = (levN 15 14, 0, 0) by kernel_rfl)
 · exact (show parseExpr (levT 15 15) = (levN 15 15, 0, 0) by kernel_rfl)
 · exact (show parseExpr (levT 15 16) = (levN 15 16, 0, 0) by kernel_rfl)
 · exact (show parseExpr (levT 15 17) = (levN 15 17, 0, 0) by kernel_rfl)
 · exact (show parseExpr (levT 15 18) = (levN 15 18, 0, 0) by kernel_rfl)
 · exact (show parseExpr (levT 15 19) = (levN 15 19, 0, 0) by kernel_rfl)
 · exact (show parseExpr (levT 15 20) = (levN 15 20, 0, 0) by kernel_rfl)
 · exact (show parseExpr (levT 15 21) = (levN 15 21, 0, 0) by kernel_rfl)
 · exact (show parseExpr (levT 15 22) = (levN 15 22, 0, 0) by kernel_rfl)
 · exact (show parseExpr (levT 15 23) = (levN 15 23, 0, 0) by kernel_rfl)
theorem lev_16 (q : Int) (h0 : 8 ≤ q) (h1 : q ≤ 23) : parseExpr (levT 16 q) = (levN 16 q, 0, 0) := by
 have : q = 8 ∨ q = 9 ∨ q = 10 ∨ q = 11 ∨ q = 12 ∨ q = 13 ∨ q = 14 ∨ q = 15 ∨ q = 16 ∨ q = 17 ∨ q = 18 ∨ q = 19 ∨ q = 20 ∨ q = 21 ∨ q = 22 ∨ q = 23 := by omega
 rcases this with rfl | rfl | rfl | rfl | rfl | rfl | rfl | rfl | rfl | rfl | rfl | rfl | rfl | rfl | rfl | rfl
 · exact (show parseExpr (levT 16 8) = (levN 16 8, 0, 0) by kernel_rfl)
 · exact (show parseExpr (levT 16 9) = (levN 16 9, 0, 0) by kernel_rfl)
 · exact (show parseExpr (levT 16 10) = (levN 16 10, 0, 0) by kernel_rfl)
 · exact (show parseExpr (levT 16 11) = (levN 16 11, 0, 0) by kernel_rfl)
 · exact (show parseExpr (levT 16 12) = (levN 16 12, 0, 0) by kernel_rfl)
 · exact (show parseExpr (levT 16 13) = (levN 16 13, 0, 0) by kernel_rfl)
 · exact (show parseExpr (levT 16 14) = (levN 16 14, 0, 0) by kernel_rfl)
 · exact (show parseExpr (levT 16 15) = (levN 16 15, 0, 0) by kernel_rfl)
 · exact (show parseExpr (levT 16 16) = (levN 16 16, 0, 0) by kernel_rfl)
 · exact (show parseExpr (levT 16 17) = (levN 16 17, 0, 0) by kernel_rfl)
 · exact (show parseExpr (levT 16 18) = (levN 16 18, 0, 0) by kernel_rfl)
 · exact (show parseExpr (levT 16 19) = (levN 16 19, 0, 0) by kernel_rfl)
 · exact (show parseExpr (levT 16 20) = (levN 16 20, 0, 0) by kernel_rfl)
 · exact (show parseExpr (levT 16 21) = (levN 16 21, 0, 0) by kernel_rfl)
 · exact (show parseExpr (levT 16 22) = (levN 16 22, 0, 0) by kernel_rfl)
 · exact (show parseExpr (levT 16 23) = (levN 16 23, 0, 0) by kernel_rfl)
theorem lev_17 (q : Int) (h0 : 8 ≤ q) (h1 : q ≤ 23) : parseExpr (levT 17 q) = (levN 17 q, 0, 0) := by
 have : q = 8 ∨ q = 9 ∨ q = 10 ∨ q = 11 ∨ q = 12 ∨ q = 13 ∨ q = 14 ∨ q = 15 ∨ q = 16 ∨ q = 17 ∨ q = 18 ∨ q = 19 ∨ q = 20 ∨ q = 21 ∨ q = 22 ∨ q = 23 := by omega
 rcases this with rfl | rfl | rfl | rfl | rfl | rfl | rfl | rfl | rfl | rfl | rfl | rfl | rfl | rfl | rfl | rfl
 · exact (show parseExpr (levT 17 8) = (levN 17 8, 0, 0) by kernel_rfl)
 · exact (show parseExpr (levT 17 9) = (levN 17 9, 0, 0) by kernel_rfl)
 · exact (show parseExpr (levT 17 10) = (levN 17 10, 0, 0) by kernel_rfl)
 · exact (show parseExpr (levT 17 11) = (levN 17 11, 0, 0) by kernel_rfl)
 · exact (show parseExpr (levT 17 12) = (levN 17 12, 0, 0) by kernel_rfl)
 · exact (show parseExpr (levT 17 13) = (levN 17 13, 0, 0) by kernel_rfl)
 · exact (show parseExpr (levT 17 14) = (levN 17 14, 0, 0) by kernel_rfl)
 · exact (show parseExpr (levT 17 15) = (levN 17 15, 0, 0) by kernel_rfl)
 · exact (show parseExpr (levT 17 16) = (levN 17 16, 0, 0) by kernel_rfl)
 · exact (show parseExpr (levT 17 17) = (levN 17 17, 0, 0) by kernel_rfl)
 · exact (show parseExpr (levT 17 18) = (levN 17 18, 0, 0) by kernel_rfl)
 · exact (show parseExpr (levT 17 19) = (levN 17 19, 0, 0) by kernel_rfl)
 · exact (show parseExpr (levT 17 20) = (levN 17 20, 0, 0) by kernel_rfl)
 · exact (show parseExpr (levT 17 21) = (levN 17 21, 0, 0) by kernel_rfl)
 · exact (show parseExpr (levT 17 22) = (levN 17 22, 0, 0) by kernel_rfl)
 · exact (show parseExpr (levT 17 23) = (levN 17 23, 0, 0) by kernel_rfl)
theorem lev_18 (q : Int) (h0 : 8 ≤ q) (h1 : q ≤ 23) : parseExpr (levT 18 q) = (levN 18 q, 0, 0) := by
 have : q = 8 ∨ q = 9 ∨ q = 10 ∨ q = 11 ∨ q = 12 ∨ q = 13 ∨ q = 14 ∨ q = 15 ∨ q = 16 ∨ q = 17 ∨ q = 18 ∨ q = 19 ∨ q = 20 ∨ q = 21 ∨ q = 22 ∨ q = 23 := by omega
 rcases this with rfl | rfl | rfl | rfl | rfl | rfl | rfl | rfl | rfl | rfl | rfl | rfl | rfl | rfl | rfl | rfl
 · exact (show parseExpr (levT 18 8) = (levN 18 8, 0, 0) by kernel_rfl)
 · exact (show parseExpr (levT 18 9) = (levN 18 9, 0, 0) by kernel_rfl)
 · exact (show parseExpr (levT 18 10) = (levN 18 10, 0, 0) by kernel_rfl)
 · exact (show parseExpr (levT 18 11) = (levN 18 11, 0, 0) by kernel_rfl)
 · exact (show parseExpr (levT 18 12) = (levN 18 12, 0, 0) by kernel_rfl)
 · exact (show parseExpr (levT 18 13) = (levN 18 13, 0, 0) by kernel_rfl)
 · exact (show parseExpr (levT 18 14) = (levN 18 14, 0, 0) by kernel_rfl)
 · exact (show parseExpr (levT 18 15) = (levN 18 15, 0, 0) by kernel_rfl)
 · exact (show parseExpr (levT 18 16) = (levN 18 16, 0, 0) by kernel_rfl)
 · exact (show parseExpr (levT 18 17) = (levN 18 17, 0, 0) by kernel_rfl)
 · exact (show parseExpr (levT 18 18) = (levN 18 18, 0, 0) by kernel_rfl)
 · exact (show parseExpr (levT 18 19) = (levN 18 19, 0, 0) by kernel_rfl)
 · exact (show parseExpr (levT 18 20) = (levN 18 20, 0, 0) by kernel_rfl)
 · exact (show parseExpr (levT 18 21) = (levN 18 21, 0, 0) by kernel_rfl)
 · exact (show parseExpr (levT 18 22) = (levN 18 22, 0, 0) by kernel_rfl)
 · exact (show parseExpr (levT 18 23) = (levN 18 23, 0, 0) by kernel_rfl)
theorem lev_19 (q : Int) (h0 : 8 ≤ q) (h1 : q ≤ 23) : parseExpr (levT 19 q) = (levN 19 q, 0, 0) := by
 have : q = 8 ∨ q = 9 ∨ q = 10 ∨ q = 11 ∨ q = 12 ∨ q = 13 ∨ q = 14 ∨ q = 15 ∨ q = 16 ∨ q = 17 ∨ q = 18 ∨ q = 19 ∨ q = 20 ∨ q = 21 ∨ q = 22 ∨ q = 23 := by omega
 rcases this with rfl | rfl | rfl | rfl | rfl | rfl | rfl | rfl | rfl | rfl | rfl | rfl | rfl | rfl | rfl | rfl
 · exact (show parseExpr (levT 19 8) = (levN 19 8, 0, 0) by kernel_rfl)
 · exact (show parseExpr (levT 19 9) = (levN 19 9, 0, 0) by kernel_rfl)
 · exact (show parseExpr (levT 19 10) = (levN 19 10, 0, 0) by kernel_rfl)
 · exact (show parseExpr (levT 19 11) = (levN 19 11, 0, 0) by kernel_rfl)
 · exact (show parseExpr (levT 19 12) = (levN 19 12, 0, 0) by kernel_rfl)
 · exact (show parseExpr (levT 19 13) = (levN 19 13, 0, 0) by kernel_rfl)
 · exact (show parseExpr (levT 19 14) = (levN 19 14, 0, 0) by kernel_rfl)
 · exact (show parseExpr (levT 19 15) = (levN 19 15, 0, 0) by kernel_rfl)
 · exact (show parseExpr (levT 19 16) = (levN 19 16, 0, 0) by kernel_rfl)
 · exact (show parseExpr (levT 19 17) = (levN 19 17, 0, 0) by kernel_rfl)
 · exact (show parseExpr (levT 19 18) = (levN 19 18, 0, 0) by kernel_rfl)
 · exact (show parseExpr (levT 19 19) = (levN 19 19, 0, 0) by kernel_rfl)
 · exact (show parseExpr (levT 19 20) = (levN 19 20, 0, 0) by kernel_rfl)
 · exact (show parseExpr (levT 19 21) = (levN 19 21, 0, 0) by kernel_rfl)
 · exact (show parseExpr (levT 19 22) = (levN 19 22, 0, 0) by kernel_rfl)
 · exact (show parseExpr (levT 19 23) = (levN 19 23, 0, 0) by kernel_rfl)
theorem lev_20 (q : Int) (h0 : 8 ≤ q) (h1 : q ≤ 23) : parseExpr (levT 20 q) = (levN 20 q, 0, 0) := by
 have : q = 8 ∨ q = 9 ∨ q = 10 ∨ q = 11 ∨ q = 12 ∨ q = 13 ∨ q = 14 ∨ q = 15 ∨ q = 16 ∨ q = 17 ∨ q = 18 ∨ q = 19 ∨ q = 20 ∨ q = 21 ∨ q = 22 ∨ q = 23 := by omega
 rcases this with rfl | rfl | rfl | rfl | rfl | rfl | rfl | rfl | rfl | rfl | rfl | rfl | rfl | rfl | rfl | rfl
 · exact (show parseExpr (levT 20 8) = (levN 20 8, 0, 0) by kernel_rfl)
 · exact (show parseExpr (levT 20 9) = (levN 20 9, 0, 0) by kernel_rfl)
 · exact (show parseExpr (levT 20 10) = (levN 20 10, 0, 0) by kernel_rfl)
 · exact (show parseExpr (levT 20 11) = (levN 20 11, 0, 0) by kernel_rfl)
 · exact (show parseExpr (levT 20 12) = (levN 20 12, 0, 0) by kernel_rfl)
 · exact (show parseExpr (levT 20 13) = (levN 20 13, 0, 0) by kernel_rfl)
 · exact (show parseExpr (levT 20 14) = (levN 20 14, 0, 0) by kernel_rfl)
 · exact (show parseExpr (levT 20 15) = (levN 20 15, 0, 0) by kernel_rfl)
 · exact (show parseExpr (levT 20 16) = (levN 20 16, 0, 0) by kernel_rfl)
 · exact (show parseExpr (levT 20 17) = (levN 20 17, 0, 0) by kernel_rfl)
 · exact (show parseExpr (levT 20 18) = (levN 20 18, 0, 0) by kernel_rfl)
 · exact (show parseExpr (levT 20 19) = (levN 20 19, 0, 0) by kernel_rfl)
 · exact (show parseExpr (levT 20 20) = (levN 20 20, 0, 0) by kernel_rfl)
 · exact (show parseExpr (levT 20 21) = (levN 20 21, 0, 0) by kernel_rfl)
 · exact (show parseExpr (levT 20 22) = (levN 20 22, 0, 0) by kernel_rfl)
 · exact (show parseExpr (levT 20 23) = (levN 20 23, 0, 0) by kernel_rfl)
theorem lev_21 (q : Int) (h0 : 8 ≤ q) (h1 : q ≤ 23) : parseExpr (levT 21 q) = (levN 21 q, 0, 0) := by
 have : q = 8 ∨ q = 9 ∨ q = 10 ∨ q = 11 ∨ q = 12 ∨ q = 13 ∨ q = 14 ∨ q = 15 ∨ q = 16 ∨ q = 17 ∨ q = 18 ∨ q = 19 ∨ q = 20 ∨ q = 21 ∨ q = 22 ∨ q = 23 := by omega
 rcases this with rfl | rfl | rfl | rfl | rfl | rfl | rfl | rfl | rfl | rfl | rfl | rfl | rfl | rfl | rfl | rfl
 · exact (show parseExpr (levT 21 8) = (levN 21 8, 0, 0) by kernel_rfl)
 · exact (show parseExpr (levT 21 9) = (levN 21 9, 0, 0) by kernel_rfl)
 · exact (show parseExpr (levT 21 10) = (levN 21 10, 0, 0) by kernel_rfl)
 · exact (show parseExpr (levT 21 11) = (levN 21 11, 0, 0) by kernel_rfl)
 · exact (show parseExpr (levT 21 12) = (levN 21 12, 0, 0) by kernel_rfl)
 · exact (show parseExpr (levT 21 13) = (levN 21 13, 0, 0) by kernel_rfl)
 · exact (show parseExpr (levT 21 14) = (levN 21 14, 0, 0) by kernel_rfl)
 · exact (show parseExpr (levT 21 15) = (levN 21 15, 0, 0) by kernel_rfl)
 · exact (show parseExpr (levT 21 16) = (levN 21 16, 0, 0) by kernel_rfl)
 · exact (show parseExpr (levT 21 17) = (levN 21 17, 0, 0) by kernel_rfl)
 · exact (show parseExpr (levT 21 18) = (levN 21 18, 0, 0) by kernel_rfl)
 · exact (show parseExpr (levT 21 19) = (levN 21 19, 0, 0) by kernel_rfl)
 · exact (show parseExpr (levT 21 20) = (levN 21 20, 0, 0) by kernel_rfl)
 · exact (show parseExpr (levT 21 21) = (levN 21 21, 0, 0) by kernel_rfl)
 · exact (show parseExpr (levT 21 22) = (levN 21 22, 0, 0) by kernel_rfl)
 · exact (show parseExpr (levT 21 23) = (levN 21 23, 0, 0) by kernel_rfl)
theorem lev_22 (q : Int) (h0 : 8 ≤ q) (h1 : q ≤ 23) : parseExpr (levT 22 q) = (levN 22 q, 0, 0) := by
 have : q = 8 ∨ q = 9 ∨ q = 10 ∨ q = 11 ∨ q = 12 ∨ q = 13 ∨ q = 14 ∨ q = 15 ∨ q = 16 ∨ q = 17 ∨ q = 18 ∨ q = 19 ∨ q = 20 ∨ q = 21 ∨ q = 22 ∨ q = 23 := by omega
 rcases this with rfl | rfl | rfl | rfl | rfl | rfl | rfl | rfl | rfl | rfl | rfl | rfl | rfl | rfl | rfl | rfl
 · exact (show parseExpr (levT 22 8) = (levN 22 8, 0, 0) by kernel_rfl)
 · exact (show parseExpr (levT 22 9) = (levN 22 9, 0, 0) by kernel_rfl)
 · exact (show parseExpr (levT 22 10) = (levN 22 10, 0, 0) by kernel_rfl)
 · exact (show parseExpr (levT 22 11) = (levN 22 11, 0, 0) by kernel_rfl)
 · exact (show parseExpr (levT 22 12) = (levN 22 12, 0, 0) by kernel_rfl)
 · exact (show parseExpr (levT 22 13) = (levN 22 13, 0, 0) by kernel_rfl)
 · exact (show parseExpr (levT 22 14) = (levN 22 14, 0, 0) by kernel_rfl)
 · exact (show parseExpr (levT 22 15) = (levN 22 15, 0, 0) by kernel_rfl)
 · exact (show parseExpr (levT 22 16) = (levN 22 16, 0, 0) by kernel_rfl)
 · exact (show parseExpr (levT 22 17) = (levN 22 17, 0, 0) by kernel_rfl)
 · exact (show parseExpr (levT 22 18) = (levN 22 18, 0, 0) by kernel_rfl)
 · exact (show parseExpr (levT 22 19) = (levN 22 19, 0, 0) by kernel_rfl)
 · exact (show parseExpr (levT 22 20) = (levN 22 20, 0, 0) by kernel_rfl)
 · exact (show parseExpr (levT 22 21) = (levN 22 21, 0, 0) by kernel_rfl)
 · exact (show parseExpr (levT 22 22) = (levN 22 22, 0, 0) by kernel_rfl)
 · exact (show parseExpr (levT 22 23) = (levN 22 23, 0, 0) by kernel_rfl)
theorem lev_23 (q : Int) (h0 : 8 ≤ q) (h1 : q ≤ 23) : parseExpr (levT 23 q) = (levN 23 q, 0, 0) := by
 have : q = 8 ∨ q = 9 ∨ q = 10 ∨ q = 11 ∨ q = 12 ∨ q = 13 ∨ q = 14 ∨ q = 15 ∨ q = 16 ∨ q = 17 ∨ q = 18 ∨ q = 19 ∨ q = 20 ∨ q = 21 ∨ q = 22 ∨ q = 23 := by omega
 rcases this with rfl | rfl | rfl | rfl | rfl | rfl | rfl | rfl | rfl | rfl | rfl | rfl | rfl | rfl | rfl | rfl
 · exact (show parseExpr (levT 23 8) = (levN 23 8, 0, 0) by kernel_rfl)
 · exact (show parseExpr (levT 23 9) = (levN 23 9, 0, 0) by kernel_rfl)
 · exact (show parseExpr (levT 23 10) = (levN 23 10, 0, 0) by kernel_rfl)
 · exact (show parseExpr (levT 23 11) = (levN 23 11, 0, 0) by kernel_rfl)
 · exact (show parseExpr (levT 23 12) = (levN 23 12, 0, 0) by kernel_rfl)
 · exact (show parseExpr (levT 23 13) = (levN 23 13, 0, 0) by kernel_rfl)
 · exact (show parseExpr (levT 23 14) = (levN 23 14, 0, 0) by kernel_rfl)
 · exact (show parseExpr (levT 23 15) = (levN 23 15, 0, 0) by kernel_rfl)
 · exact (show parseExpr (levT 23 16) = (levN 23 16, 0, 0) by kernel_rfl)
 · exact (show parseExpr (levT 23 17) = (levN 23 17, 0, 0) by kernel_rfl)
 · exact (show parseExpr (levT 23 18) = (levN 23 18, 0, 0) by kernel_rfl)
 · exact (show parseExpr (levT 23 19) = (levN 23 19, 0, 0) by kernel_rfl)
 · exact (show parseExpr (levT 23 20) = (levN 23 20, 0, 0) by kernel_rfl)
 · exact (show parseExpr (levT 23 21) = (levN 23 21, 0, 0) by kernel_rfl)
 · exact (show parseExpr (levT 23 22) = (levN 23 22, 0, 0) by kernel_rfl)
 · exact (show parseExpr (levT 23 23) = (levN 23 23, 0, 0) by kernel_rfl)
theorem lev_all (p q : Int) (h0 : 8 ≤ p) (h1 : p ≤ 23) (h2 : 8 ≤ q) (h3 : q ≤ 23) : parseExpr (levT p q) = (levN p q, 0, 0) := by
 have : p = 8 ∨ p = 9 ∨ p = 10 ∨ p = 11 ∨ p = 12 ∨ p = 13 ∨ p = 14 ∨ p = 15 ∨ p = 16 ∨ p = 17 ∨ p = 18 ∨ p = 19 ∨ p = 20 ∨ p = 21 ∨ p = 22 ∨ p = 23 := by omega
 rcases this with rfl | rfl | rfl | rfl | rfl | rfl | rfl | rfl | rfl | rfl | rfl | rfl | rfl | rfl | rfl | rfl
 · exact lev_8 q h2 h3
 · exact lev_9 q h2 h3
 · exact lev_10 q h2 h3
 · exact lev_11 q h2 h3
 · exact lev_12 q h2 h3
 · exact lev_13 q h2 h3
 · exact lev_14 q h2 h3
 · exact lev_15 q h2 h3
 · exact lev_16 q h2 h3
 · exact lev_17 q h2 h3
 · exact lev_18 q h2 h3
 · exact lev_19 q h2 h3
 · exact lev_20 q h2 h3
 · exact lev_21 q h2 h3
 · exact lev_22 q h2 h3
 · exact lev_23 q h2 h3
theorem symbol_len (p : Int) (h0 : 8 ≤ p) (h1 : p ≤ 23) : (symbol p).length ≤ 2 := by
 have : p = 8 ∨ p = 9 ∨ p = 10 ∨ p = 11 ∨ p = 12 ∨ p = 13 ∨ p = 14 ∨ p = 15 ∨ p = 16 ∨ p = 17 ∨ p = 18 ∨ p = 19 ∨ p = 20 ∨ p = 21 ∨ p = 22 ∨ p = 23 := by omega
 rcases this with rfl | rfl | rfl | rfl | rfl | rfl | rfl | rfl | rfl | rfl | rfl | rfl | rfl | rfl | rfl | rfl <;> decide
end Bk
namespace Bk
open Go Go.RowKit Go.Proofs
attribute [local irreducible] Go.Calls
def LevA (w : World) (p q : Int) : Ending → World → Prop := fun e w' => ∃ kb ko c jb jo c2 x0 x1 x3 y0 y1 y3 z0 z1 z3, e = .returned (.tuple #[.agg #[.int .u8 q, .int .i64 0, str [], .slice (some ⟨kb, ko, none⟩) 2 c], .int .i64 0, .int .i64 0]) ∧
 Row w' ⟨kb, ko + 0 * 4, none⟩ [.int .u8 p, .int .i64 0, str [], .slice (some ⟨jb, jo, none⟩) 2 c2] ∧ Row w' ⟨kb, ko + 1 * 4, none⟩ [z0, z1, str [122], z3] ∧ Row w' ⟨jb, jo + 0 * 4, none⟩ [x0, x1, str [120], x3] ∧ Row w' ⟨jb, jo + 1 * 4, none⟩ [y0, y1, str [121], y3] ∧ w.heap.size ≤ kb ∧ w.heap.size ≤ jb ∧ Ext w w'
theorem LevA.ret {w : World} {p q : Int} {e : Ending} {w' : World} (h : LevA w p q e w') : ∃ v, e = .returned v := by
 obtain ⟨_, _, _, _, _, _, _, _, _, _, _, _, _, _, _, h, -⟩ := h
 exact ⟨_, h⟩
def LevB (w : World) (p q : Int) : Ending → World → Prop := fun e w' => ∃ kb ko c jb jo c2 x0 x1 x3 y0 y1 y3 z0 z1 z3, e = .returned (.tuple #[.agg #[.int .u8 p, .int .i64 0, str [], .slice (some ⟨kb, ko, none⟩) 2 c], .int .i64 0, .int .i64 0]) ∧
 Row w' ⟨kb, ko + 0 * 4, none⟩ [x0, x1, str [120], x3] ∧ Row w' ⟨kb, ko + 1 * 4, none⟩ [.int .u8 q, .int .i64 0, str [], .slice (some ⟨jb, jo, none⟩) 2 c2] ∧ Row w' ⟨jb, jo + 0 * 4, none⟩ [y0, y1, str [121], y3] ∧ Row w' ⟨jb, jo + 1 * 4, none⟩ [z0, z1, str [122], z3] ∧ w.heap.size ≤ kb ∧ w.heap.size ≤ jb ∧ Ext w w'
theorem LevB.ret {w : World} {p q : Int} {e : Ending} {w' : World} (h : LevB w p q e w') : ∃ v, e = .returned v := by
 obtain ⟨_, _, _, _, _, _, _, _, _, _, _, _, _, _, _, h, -⟩ := h
 exact ⟨_, h⟩
theorem levT_len (p q : Int) (h0 : 8 ≤ p) (h1 : p ≤ 23) (h2 : 8 ≤ q) (h3 : q ≤ 23) : (levT p q).length ≤ 11 := by
 have := symbol_len p h0 h1; have := symbol_len q h2 h3
 unfold levT
 simp only [List.length_append, List.length_cons, List.length_nil]; omega
theorem levA_p (p q : Int) (h0 : 8 ≤ p) (h1 : p ≤ 23) (h2 : 8 ≤ q) (h3 : q ≤ 23) (hl : level q ≤ level p) (w : World) (hS : Syms w) (hE : Errs w) : Calls Tryd.prog 15 #[str (levT p q)] w (LevA w p q) := by
 have := Expr_p (levT p q) w (by have := levT_len p q h0 h1 h2 h3; omega) hS hE; rw [lev_all p q h0 h1 h2 h3] at this
 unfold levN at this
 rw [if_pos hl] at this; refine this.mono ?_; rintro e w' ⟨a, k, rfl, hs, x⟩; simp only [Nd.sits] at hs; obtain ⟨b, o, rfl, hb, hk⟩ := kidRows hs (by simp); obtain ⟨a0, c0, r0, s0⟩ := hk 0 _ rfl; obtain ⟨a1, c1, r1, -⟩ := hk 1 _ rfl; simp only [Nd.sits] at s0; obtain ⟨b2, o2, rfl, hb2, hk2⟩ := kidRows s0 (by simp); obtain ⟨a2, c2, r2, -⟩ := hk2 0 _ rfl; obtain ⟨a3, c3, r3, -⟩ := hk2 1 _ rfl
 exact ⟨b, o, k, b2, o2, c0, _, _, _, _, _, _, _, _, _, rfl, r0, r1, r2, r3, hb, hb2, x⟩
theorem levB_p (p q : Int) (h0 : 8 ≤ p) (h1 : p ≤ 23) (h2 : 8 ≤ q) (h3 : q ≤ 23) (hl : ¬ level q ≤ level p) (w : World) (hS : Syms w) (hE : Errs w) : Calls Tryd.prog 15 #[str (levT p q)] w (LevB w p q) := by
 have := Expr_p (levT p q) w (by have := levT_len p q h0 h1 h2 h3; omega) hS hE; rw [lev_all p q h0 h1 h2 h3] at this
 unfold levN at this
 rw [if_neg hl] at this; refine this.mono ?_; rintro e w' ⟨a, k, rfl, hs, x⟩; simp only [Nd.sits] at hs; obtain ⟨b, o, rfl, hb, hk⟩ := kidRows hs (by simp); obtain ⟨a0, c0, r0, -⟩ := hk 0 _ rfl; obtain ⟨a1, c1, r1, s1⟩ := hk 1 _ rfl; simp only [Nd.sits] at s1; obtain ⟨b2, o2, rfl, hb2, hk2⟩ := kidRows s1 (by simp); obtain ⟨a2, c2, r2, -⟩ := hk2 0 _ rfl; obtain ⟨a3, c3, r3, -⟩ := hk2 1 _ rfl
 exact ⟨b, o, k, b2, o2, c1, _, _, _, _, _, _, _, _, _, rfl, r0, r1, r2, r3, hb, hb2, x⟩
theorem opRow {w : World} {b : Nat} (h : Row w ⟨b, 0, none⟩ ((ops8 16).map (.int .u8 ·))) (j : Nat) (hj : j < 16) : Row w ⟨b, 0 + j * 1, none⟩ [.int .u8 (8 + (j : Int))] := by
 have h1 := h.sub j 1
 have e : (((ops8 16).map (.int .u8 ·)).drop j).take 1 = [Value.int .u8 (8 + (j : Int))] := by
  have : j = 0 ∨ j = 1 ∨ j = 2 ∨ j = 3 ∨ j = 4 ∨ j = 5 ∨ j = 6 ∨ j = 7 ∨ j = 8 ∨ j = 9 ∨ j = 10 ∨ j = 11 ∨ j = 12 ∨ j = 13 ∨ j = 14 ∨ j = 15 := by omega
  rcases this with rfl | rfl | rfl | rfl | rfl | rfl | rfl | rfl | rfl | rfl | rfl | rfl | rfl | rfl | rfl | rfl <;> rfl
 rw [e] at h1
 rw [Nat.mul_one]; exact h1
def OpsIJ (i j : Nat) (w : World) : Ending → World → Prop := fun e w' => ∃ b k, e = .returned (.slice (some ⟨b, 0, none⟩) 16 k) ∧ Row w' ⟨b, 0 + i * 1, none⟩ [.int .u8 (8 + (i : Int))] ∧ Row w' ⟨b, 0 + j * 1, none⟩ [.int .u8 (8 + (j : Int))] ∧ b < w'.heap.size ∧ Ext w w'
theorem OpsIJ.ret {i j : Nat} {w : World} {e : Ending} {w' : World} (h : OpsIJ i j w e w') : ∃ v, e = .returned v := by
 obtain ⟨_, _, h, -⟩ := h
 exact ⟨_, h⟩
theorem Operators_ij (i j : Nat) (hi : i < 16) (hj : j < 16) (w : World) : Calls Tryd.prog 17 #[] w (OpsIJ i j w) := by
 refine (Operators_c w).mono ?_; rintro e w' ⟨b, k, he, -, hb, hr, x⟩
 exact ⟨b, k, he, opRow hr i hi, opRow hr j hj, hb, x⟩
set_option maxRecDepth 100000 in
set_option maxHeartbeats 4000000 in
theorem ParserLevels_c (a b : Int) (w : World) (ha0 : 0 ≤ a) (ha1 : a ≤ 255) (hb0 : 0 ≤ b) (hb1 : b ≤ 255) (hS : Syms w) (hE : Errs w) : Calls Tryd.prog 7 #[.int .u8 a, .int .u8 b] w fun e w' => e = .returned (.bool true) ∧ Ext w w' := by
 have X := Ext.refl w; obtain ⟨i, hi⟩ : ∃ i : Nat, a % 16 = (i : Int) := ⟨(a % 16).toNat, by omega⟩; obtain ⟨j, hj⟩ : ∃ j : Nat, b % 16 = (j : Int) := ⟨(b % 16).toNat, by omega⟩
 have hi1 : i < 16 := by omega
 have hj1 : j < 16 := by omega
 have hs1 := symbol_len (8 + (i : Int)) (by omega) (by omega); have hs2 := symbol_len (8 + (j : Int)) (by omega) (by omega)
 by_cases hl : level (8 + (j : Int)) ≤ level (8 + (i : Int))
 · have H1 := Lib.hid (levA_p (8 + (i : Int)) (8 + (j : Int)) (by omega) (by omega) (by omega) (by omega) hl)
   refine calls_in Tryd.func7 Tryd.ntmps7 rfl rfl ?_
   focus
    refine cS (cA rfl rfl (cT (cw_seq (cS ?_)))); refine cC (by kernel_rfl) rfl (awake4_c _ (by assumption) (by assumption)) rfl ?_; rintro _ w2 ⟨⟨⟩, x1⟩; have z3 := x1.size; replace hS := hS.ext x1; replace hE := hE.ext x1; replace X := X.ext x1; clear x1; refine lw_pure (pur_not rfl) rfl (cT (cw_cond_f rfl (cw_skip (qw_then (cS ?_))))); refine cR (by kernel_rfl) rfl (Operators_ij i j hi1 hj1 _) (fun _ _ h => h.ret) rfl ?_; rintro _ w10 ⟨b4, ⟨k5, ⟨⟨⟩, ⟨h6, ⟨h7, ⟨h8, x9⟩⟩⟩⟩⟩⟩; have z11 := x9.size; replace hS := hS.ext x9; replace hE := hE.ext x9; replace X := X.ext x9; clear x9; refine cA rfl rfl (cT (cw_seq (cS (cM rfl rfl (lw_pure (pur_len_slice tabOk rfl rfl) rfl (lw_pure (pur_eql rfl rfl) rfl (cT ?_))))))); refine cw_no rfl (by decide) ?_; refine cw_skip (qw_then (cw_seq ?_)); (refine cw_tdraw (fun wz => Ext w10 wz) 17 (.pure 0 (.pure 1 (.pure 2 (.pure 3 (.pure 4 (.pure 5 (.pure 6 (.pure 7 (.pure 8 (.pure 9 (.pure 10 (.pure 11 (.pure 12 (.pure 13 (.pure 14 (.pure 15 (.pure 16 .tail))))))))))))))))) mixed (by kernel_rfl) (panicOk_then panicOk_body) ?_; intro w12 x13 _); have qs14 : (fun wz => Ext w10 wz) w12 := x13; simp only at qs14; have d_h6 := h6; have d_h7 := h7; have d_hS := hS; have d_hE := hE; have z15 := x13.size; replace h6 := h6.ext x13; replace h7 := h7.ext x13; replace hS := hS.ext x13; replace hE := hE.ext x13; replace X := X.ext x13; clear x13; refine ⟨qs14, ?_⟩; refine tw_pure rfl (pur_move rfl) rfl (tw_pure rfl (pur_move rfl) rfl ?_); refine tw_pure rfl (pur_conv tabOk rfl rfl rfl (IntWalk.i64_in _ (by omega))) rfl ?_
    refine tw_pure rfl (pur_move rfl) rfl (tw_pure rfl (pur_len_slice tabOk rfl rfl) rfl ?_); refine tw_pure rfl (pur_rem rfl rfl (by omega) (rem_known (by assumption) (by omega))) rfl ?_; refine tw_pure rfl (pur_indexAddr tabOk rfl rfl rfl rfl (by omega) (by omega)) rfl ?_; refine tw_pure rfl (pur_load tabOk rfl rfl rfl (fun wz hz => Row.at0 (Row.ext d_h6 hz) rfl)) rfl (tw_pure rfl (pur_move rfl) rfl (tw_pure rfl (pur_move rfl) rfl ?_)); refine tw_pure rfl (pur_conv tabOk rfl rfl rfl (IntWalk.i64_in _ (by omega))) rfl ?_; refine tw_pure rfl (pur_move rfl) rfl (tw_pure rfl (pur_len_slice tabOk rfl rfl) rfl ?_); refine tw_pure rfl (pur_rem rfl rfl (by omega) (rem_known (by assumption) (by omega))) rfl ?_; refine tw_pure rfl (pur_indexAddr tabOk rfl rfl rfl rfl (by omega) (by omega)) rfl ?_; refine tw_pure rfl (pur_load tabOk rfl rfl rfl (fun wz hz => Row.at0 (Row.ext d_h7 hz) rfl)) rfl (tw_pure rfl (pur_assign rfl) rfl ?_); clear qs14 d_h6 d_h7 d_hS d_hE; refine tw_tail rfl (cA rfl rfl (cN (cM rfl rfl ?_))); refine cC (by kernel_rfl) rfl (arith_Symbol_s _ _ (by omega) (by omega) (by assumption)) rfl ?_; rintro _ w16 ⟨⟨⟩, rfl⟩; refine lw_pure (pur_sadd rfl rfl (by simp only [List.length_cons, List.length_nil]; omega)) rfl ?_; refine lw_pure (pur_sadd rfl rfl (by simp only [List.length_append, List.length_cons, List.length_nil]; omega)) rfl ?_; refine cM rfl rfl ?_; refine cC (by kernel_rfl) rfl (arith_Symbol_s _ _ (by omega) (by omega) (by assumption)) rfl ?_; rintro _ w17 ⟨⟨⟩, rfl⟩
    refine lw_pure (pur_sadd rfl rfl (by simp only [List.length_append, List.length_cons, List.length_nil]; omega)) rfl ?_; refine lw_pure (pur_sadd rfl rfl (by simp only [List.length_append, List.length_cons, List.length_nil]; omega)) rfl ?_; refine cR (by kernel_rfl) rfl (H1.out _ (by assumption) (by assumption)) (fun _ _ h => h.ret) rfl ?_; rintro _ w40 ⟨kb18, ⟨ko19, ⟨c20, ⟨jb21, ⟨jo22, ⟨c223, ⟨x024, ⟨x125, ⟨x326, ⟨y027, ⟨y128, ⟨y329, ⟨z030, ⟨z131, ⟨z332, ⟨⟨⟩, ⟨h33, ⟨h34, ⟨h35, ⟨h36, ⟨h37, ⟨h38, x39⟩⟩⟩⟩⟩⟩⟩⟩⟩⟩⟩⟩⟩⟩⟩⟩⟩⟩⟩⟩⟩⟩; have z41 := x39.size; replace h6 := h6.ext x39; replace h7 := h7.ext x39; replace hS := hS.ext x39; replace hE := hE.ext x39; replace X := X.ext x39; clear x39; refine cM rfl rfl (lw_pure (pur_extract rfl rfl) rfl (lw_pure (pur_extract rfl rfl) rfl (lw_pure (pur_extract rfl rfl) rfl ?_))); (refine lw_alloc' [_, _, _, _] zOk rfl rfl ?_; intro b42 w43 n44); (refine lw_init' [_, _, _, _] tabOk rfl rfl rfl rfl rfl rfl n44 rfl ?_; clear n44; clear w43; intro w45 n44); have h46 := n44.blk; have x47 := n44.ext; have p48 := n44.pos; have z49 := n44.size; clear n44; replace h33 := h33.ext x47; replace h34 := h34.ext x47; replace h35 := h35.ext x47; replace h36 := h36.ext x47; replace h6 := h6.ext x47; replace h7 := h7.ext x47; replace hS := hS.ext x47; replace hE := hE.ext x47; replace X := X.ext x47; clear x47; refine cA rfl rfl (cA rfl rfl (cT (cw_seq (cS (cM rfl rfl (lw_pure (pur_neq rfl rfl) rfl (cM rfl rfl ?_))))))); refine lw_on rfl rfl rfl (gd_ff (by decide)) ?_
    refine lw_pure (pur_fieldAddr tabOk rfl rfl rfl) rfl ?_; refine lw_on rfl rfl rfl (gd_ff (by decide)) ?_; refine lw_load_b tabOk rfl rfl rfl h46 rfl rfl ?_; refine lw_on rfl rfl rfl (gd_ff (by decide)) ?_; refine lw_pure (pur_len_slice tabOk rfl rfl) rfl ?_; refine lw_on rfl rfl rfl (gd_ff (by decide)) ?_; refine lw_pure (pur_neq rfl rfl) rfl ?_; refine lw_pure (pur_pick_no rfl rfl (by decide)) rfl ?_; refine cT ?_; refine cw_no rfl (by decide) ?_; refine cw_skip (qw_then (cw_seq (cS (cM rfl rfl ?_)))); refine cC (by kernel_rfl) rfl (arith_Level_c _ _ (by omega) (by omega)) rfl ?_; rintro _ w50 ⟨⟨⟩, rfl⟩; refine cM rfl rfl ?_; refine cC (by kernel_rfl) rfl (arith_Level_c _ _ (by omega) (by omega)) rfl ?_; rintro _ w51 ⟨⟨⟩, rfl⟩; refine lw_pure (pur_geq rfl rfl) rfl (cT ?_); refine cw_yes rfl (by assumption) ?_; refine cS (lw_pure (pur_fieldAddr tabOk rfl rfl rfl) rfl (lw_load_b tabOk rfl rfl rfl h46 rfl rfl ?_)); refine lw_pure (pur_indexAddr tabOk rfl rfl rfl rfl (by omega) (by omega)) rfl ?_; refine lw_loads_r' [_, _, _, _] tabOk rfl rfl rfl h33 rfl rfl rfl ?_; (refine lw_alloc' [_, _, _, _] zOk rfl rfl ?_; intro b52 w53 n54); (refine lw_init' [_, _, _, _] tabOk rfl rfl rfl rfl rfl rfl n54 rfl ?_; clear n54; clear w53; intro w55 n54); have h56 := n54.blk; have x57 := n54.ext; have p58 := n54.pos; have z59 := n54.size; clear n54; replace h46 := h46.ext x57; replace h33 := h33.ext x57; replace h34 := h34.ext x57; replace h35 := h35.ext x57; replace h36 := h36.ext x57; replace h6 := h6.ext x57
    replace h7 := h7.ext x57; replace hS := hS.ext x57; replace hE := hE.ext x57; replace X := X.ext x57; clear x57; refine cN (lw_pure (pur_fieldAddr0 tabOk rfl rfl rfl) rfl (lw_load_b tabOk rfl rfl rfl h46 rfl rfl (cM rfl rfl (lw_pure (pur_eql rfl rfl) rfl (cM rfl rfl ?_))))); refine lw_on rfl rfl rfl (gd_tt (by omega)) ?_; refine lw_pure (pur_fieldAddr0 tabOk rfl rfl rfl) rfl ?_; refine lw_on rfl rfl rfl (gd_tt (by omega)) ?_; refine lw_load_b tabOk rfl rfl rfl h56 rfl rfl ?_; refine lw_on rfl rfl rfl (gd_tt (by omega)) ?_; refine cM rfl rfl ?_; refine lw_on rfl rfl rfl (gd_tt (by omega)) ?_; refine lw_pure (pur_eql rfl rfl) rfl ?_; refine lw_pure (pur_pick_yes rfl rfl (by omega)) rfl ?_; refine cM rfl rfl ?_; refine lw_on rfl rfl rfl (gd_tt (by omega)) ?_; refine lw_pure (pur_fieldAddr tabOk rfl rfl rfl) rfl ?_; refine lw_on rfl rfl rfl (gd_tt (by omega)) ?_; refine lw_load_b tabOk rfl rfl rfl h56 rfl rfl ?_; refine lw_on rfl rfl rfl (gd_tt (by omega)) ?_; refine lw_pure (pur_len_slice tabOk rfl rfl) rfl ?_; refine lw_on rfl rfl rfl (gd_tt (by omega)) ?_; refine lw_pure (pur_eql rfl rfl) rfl ?_; refine lw_pure (pur_pick_yes rfl rfl (by omega)) rfl ?_; refine cM rfl rfl ?_; refine lw_on rfl rfl rfl (gd_tt (by decide)) ?_; refine lw_pure (pur_fieldAddr tabOk rfl rfl rfl) rfl ?_; refine lw_on rfl rfl rfl (gd_tt (by decide)) ?_; refine lw_load_b tabOk rfl rfl rfl h56 rfl rfl ?_; refine lw_on rfl rfl rfl (gd_tt (by decide)) ?_; refine lw_pure (pur_indexAddr tabOk rfl rfl rfl rfl (by omega) (by omega)) rfl ?_
    refine lw_on rfl rfl rfl (gd_tt (by decide)) ?_; refine lw_pure (pur_fieldAddr tabOk rfl rfl rfl) rfl ?_; refine lw_on rfl rfl rfl (gd_tt (by decide)) ?_; refine lw_load_r tabOk rfl rfl rfl h35 rfl rfl ?_; refine lw_on rfl rfl rfl (gd_tt (by decide)) ?_; refine lw_pure (pur_seql rfl rfl) rfl ?_; refine lw_pure (pur_pick_yes rfl rfl (by decide)) rfl ?_; refine cM rfl rfl ?_; refine lw_on rfl rfl rfl (gd_tt (by decide)) ?_; refine lw_pure (pur_fieldAddr tabOk rfl rfl rfl) rfl ?_; refine lw_on rfl rfl rfl (gd_tt (by decide)) ?_; refine lw_load_b tabOk rfl rfl rfl h56 rfl rfl ?_; refine lw_on rfl rfl rfl (gd_tt (by decide)) ?_; refine lw_pure (pur_indexAddr tabOk rfl rfl rfl rfl (by omega) (by omega)) rfl ?_; refine lw_on rfl rfl rfl (gd_tt (by decide)) ?_; refine lw_pure (pur_fieldAddr tabOk rfl rfl rfl) rfl ?_; refine lw_on rfl rfl rfl (gd_tt (by decide)) ?_; refine lw_load_r tabOk rfl rfl rfl h36 rfl rfl ?_; refine lw_on rfl rfl rfl (gd_tt (by decide)) ?_; refine lw_pure (pur_seql rfl rfl) rfl ?_; refine lw_pure (pur_pick_yes rfl rfl (by decide)) rfl ?_; refine cM rfl rfl ?_; refine lw_on rfl rfl rfl (gd_tt (by decide)) ?_; refine lw_pure (pur_fieldAddr tabOk rfl rfl rfl) rfl ?_; refine lw_on rfl rfl rfl (gd_tt (by decide)) ?_; refine lw_load_b tabOk rfl rfl rfl h46 rfl rfl ?_; refine lw_on rfl rfl rfl (gd_tt (by decide)) ?_; refine lw_pure (pur_indexAddr tabOk rfl rfl rfl rfl (by omega) (by omega)) rfl ?_; refine lw_on rfl rfl rfl (gd_tt (by decide)) ?_; refine lw_pure (pur_fieldAddr tabOk rfl rfl rfl) rfl ?_
    refine lw_on rfl rfl rfl (gd_tt (by decide)) ?_; refine lw_load_r tabOk rfl rfl rfl h34 rfl rfl ?_; refine lw_on rfl rfl rfl (gd_tt (by decide)) ?_; refine lw_pure (pur_seql rfl rfl) rfl ?_; refine lw_pure (pur_pick_yes rfl rfl (by decide)) rfl ?_; refine cA rfl rfl (cT (cw_ret (qw_then_ret (qw_ret1 rfl rfl ?_)))); rotate_left 1
   exact ⟨by simp, X⟩
 · have H1 := Lib.hid (levB_p (8 + (i : Int)) (8 + (j : Int)) (by omega) (by omega) (by omega) (by omega) hl)
   refine calls_in Tryd.func7 Tryd.ntmps7 rfl rfl ?_
   focus
    refine cS (cA rfl rfl (cT (cw_seq (cS ?_)))); refine cC (by kernel_rfl) rfl (awake4_c _ (by assumption) (by assumption)) rfl ?_; rintro _ wa2 ⟨⟨⟩, xa1⟩; have za3 := xa1.size; replace hS := hS.ext xa1; replace hE := hE.ext xa1; replace X := X.ext xa1; clear xa1; refine lw_pure (pur_not rfl) rfl (cT (cw_cond_f rfl (cw_skip (qw_then (cS ?_))))); refine cR (by kernel_rfl) rfl (Operators_ij i j hi1 hj1 _) (fun _ _ h => h.ret) rfl ?_; rintro _ wa10 ⟨ba4, ⟨ka5, ⟨⟨⟩, ⟨ha6, ⟨ha7, ⟨ha8, xa9⟩⟩⟩⟩⟩⟩; have za11 := xa9.size; replace hS := hS.ext xa9; replace hE := hE.ext xa9; replace X := X.ext xa9; clear xa9; refine cA rfl rfl (cT (cw_seq (cS (cM rfl rfl (lw_pure (pur_len_slice tabOk rfl rfl) rfl (lw_pure (pur_eql rfl rfl) rfl (cT ?_))))))); refine cw_no rfl (by decide) ?_; refine cw_skip (qw_then (cw_seq ?_)); (refine cw_tdraw (fun wz => Ext wa10 wz) 17 (.pure 0 (.pure 1 (.pure 2 (.pure 3 (.pure 4 (.pure 5 (.pure 6 (.pure 7 (.pure 8 (.pure 9 (.pure 10 (.pure 11 (.pure 12 (.pure 13 (.pure 14 (.pure 15 (.pure 16 .tail))))))))))))))))) mixed (by kernel_rfl) (panicOk_then panicOk_body) ?_; intro wa12 xa13 _); have qsa14 : (fun wz => Ext wa10 wz) wa12 := xa13; simp only at qsa14; have d_ha6 := ha6; have d_ha7 := ha7; have d_hS := hS; have d_hE := hE; have za15 := xa13.size; replace ha6 := ha6.ext xa13; replace ha7 := ha7.ext xa13; replace hS := hS.ext xa13; replace hE := hE.ext xa13; replace X := X.ext xa13; clear xa13; refine ⟨qsa14, ?_⟩; refine tw_pure rfl (pur_move rfl) rfl (tw_pure rfl (pur_move rfl) rfl ?_)
    refine tw_pure rfl (pur_conv tabOk rfl rfl rfl (IntWalk.i64_in _ (by omega))) rfl ?_; refine tw_pure rfl (pur_move rfl) rfl (tw_pure rfl (pur_len_slice tabOk rfl rfl) rfl ?_); refine tw_pure rfl (pur_rem rfl rfl (by omega) (rem_known (by assumption) (by omega))) rfl ?_; refine tw_pure rfl (pur_indexAddr tabOk rfl rfl rfl rfl (by omega) (by omega)) rfl ?_; refine tw_pure rfl (pur_load tabOk rfl rfl rfl (fun wz hz => Row.at0 (Row.ext d_ha6 hz) rfl)) rfl (tw_pure rfl (pur_move rfl) rfl (tw_pure rfl (pur_move rfl) rfl ?_)); refine tw_pure rfl (pur_conv tabOk rfl rfl rfl (IntWalk.i64_in _ (by omega))) rfl ?_; refine tw_pure rfl (pur_move rfl) rfl (tw_pure rfl (pur_len_slice tabOk rfl rfl) rfl ?_); refine tw_pure rfl (pur_rem rfl rfl (by omega) (rem_known (by assumption) (by omega))) rfl ?_; refine tw_pure rfl (pur_indexAddr tabOk rfl rfl rfl rfl (by omega) (by omega)) rfl ?_; refine tw_pure rfl (pur_load tabOk rfl rfl rfl (fun wz hz => Row.at0 (Row.ext d_ha7 hz) rfl)) rfl (tw_pure rfl (pur_assign rfl) rfl ?_); clear qsa14 d_ha6 d_ha7 d_hS d_hE; refine tw_tail rfl (cA rfl rfl (cN (cM rfl rfl ?_))); refine cC (by kernel_rfl) rfl (arith_Symbol_s _ _ (by omega) (by omega) (by assumption)) rfl ?_; rintro _ wa16 ⟨⟨⟩, rfl⟩; refine lw_pure (pur_sadd rfl rfl (by simp only [List.length_cons, List.length_nil]; omega)) rfl ?_; refine lw_pure (pur_sadd rfl rfl (by simp only [List.length_append, List.length_cons, List.length_nil]; omega)) rfl ?_; refine cM rfl rfl ?_; refine cC (by kernel_rfl) rfl (arith_Symbol_s _ _ (by omega) (by omega) (by assumption)) rfl ?_
    rintro _ wa17 ⟨⟨⟩, rfl⟩; refine lw_pure (pur_sadd rfl rfl (by simp only [List.length_append, List.length_cons, List.length_nil]; omega)) rfl ?_; refine lw_pure (pur_sadd rfl rfl (by simp only [List.length_append, List.length_cons, List.length_nil]; omega)) rfl ?_; refine cR (by kernel_rfl) rfl (H1.out _ (by assumption) (by assumption)) (fun _ _ h => h.ret) rfl ?_; rintro _ wa40 ⟨kba18, ⟨koa19, ⟨ca20, ⟨jba21, ⟨joa22, ⟨c2a23, ⟨x0a24, ⟨x1a25, ⟨x3a26, ⟨y0a27, ⟨y1a28, ⟨y3a29, ⟨z0a30, ⟨z1a31, ⟨z3a32, ⟨⟨⟩, ⟨ha33, ⟨ha34, ⟨ha35, ⟨ha36, ⟨ha37, ⟨ha38, xa39⟩⟩⟩⟩⟩⟩⟩⟩⟩⟩⟩⟩⟩⟩⟩⟩⟩⟩⟩⟩⟩⟩; have za41 := xa39.size; replace ha6 := ha6.ext xa39; replace ha7 := ha7.ext xa39; replace hS := hS.ext xa39; replace hE := hE.ext xa39; replace X := X.ext xa39; clear xa39; refine cM rfl rfl (lw_pure (pur_extract rfl rfl) rfl (lw_pure (pur_extract rfl rfl) rfl (lw_pure (pur_extract rfl rfl) rfl ?_))); (refine lw_alloc' [_, _, _, _] zOk rfl rfl ?_; intro ba42 wa43 na44); (refine lw_init' [_, _, _, _] tabOk rfl rfl rfl rfl rfl rfl na44 rfl ?_; clear na44; clear wa43; intro wa45 na44); have ha46 := na44.blk; have xa47 := na44.ext; have pa48 := na44.pos; have za49 := na44.size; clear na44; replace ha33 := ha33.ext xa47; replace ha34 := ha34.ext xa47; replace ha35 := ha35.ext xa47; replace ha36 := ha36.ext xa47; replace ha6 := ha6.ext xa47; replace ha7 := ha7.ext xa47; replace hS := hS.ext xa47; replace hE := hE.ext xa47; replace X := X.ext xa47; clear xa47; refine cA rfl rfl (cA rfl rfl (cT (cw_seq (cS (cM rfl rfl (lw_pure (pur_neq rfl rfl) rfl (cM rfl rfl ?_)))))))
    refine lw_on rfl rfl rfl (gd_ff (by decide)) ?_; refine lw_pure (pur_fieldAddr tabOk rfl rfl rfl) rfl ?_; refine lw_on rfl rfl rfl (gd_ff (by decide)) ?_; refine lw_load_b tabOk rfl rfl rfl ha46 rfl rfl ?_; refine lw_on rfl rfl rfl (gd_ff (by decide)) ?_; refine lw_pure (pur_len_slice tabOk rfl rfl) rfl ?_; refine lw_on rfl rfl rfl (gd_ff (by decide)) ?_; refine lw_pure (pur_neq rfl rfl) rfl ?_; refine lw_pure (pur_pick_no rfl rfl (by decide)) rfl ?_; refine cT ?_; refine cw_no rfl (by decide) ?_; refine cw_skip (qw_then (cw_seq (cS (cM rfl rfl ?_)))); refine cC (by kernel_rfl) rfl (arith_Level_c _ _ (by omega) (by omega)) rfl ?_; rintro _ wa50 ⟨⟨⟩, rfl⟩; refine cM rfl rfl ?_; refine cC (by kernel_rfl) rfl (arith_Level_c _ _ (by omega) (by omega)) rfl ?_; rintro _ wa51 ⟨⟨⟩, rfl⟩; refine lw_pure (pur_geq rfl rfl) rfl (cT ?_); refine cw_no rfl (by assumption) ?_; refine cw_skip (qw_then (cS (lw_pure (pur_fieldAddr tabOk rfl rfl rfl) rfl (lw_load_b tabOk rfl rfl rfl ha46 rfl rfl ?_)))); refine lw_pure (pur_indexAddr tabOk rfl rfl rfl rfl (by omega) (by omega)) rfl ?_; refine lw_loads_r0 tabOk rfl rfl rfl ha34 rfl rfl ?_; (refine lw_alloc' [_, _, _, _] zOk rfl rfl ?_; intro ba52 wa53 na54); (refine lw_init' [_, _, _, _] tabOk rfl rfl rfl rfl rfl rfl na54 rfl ?_; clear na54; clear wa53; intro wa55 na54); have ha56 := na54.blk; have xa57 := na54.ext; have pa58 := na54.pos; have za59 := na54.size; clear na54; replace ha46 := ha46.ext xa57; replace ha33 := ha33.ext xa57; replace ha34 := ha34.ext xa57
    replace ha35 := ha35.ext xa57; replace ha36 := ha36.ext xa57; replace ha6 := ha6.ext xa57; replace ha7 := ha7.ext xa57; replace hS := hS.ext xa57; replace hE := hE.ext xa57; replace X := X.ext xa57; clear xa57; refine cN (lw_pure (pur_fieldAddr0 tabOk rfl rfl rfl) rfl (lw_load_b tabOk rfl rfl rfl ha46 rfl rfl (cM rfl rfl (lw_pure (pur_eql rfl rfl) rfl (cM rfl rfl ?_))))); refine lw_on rfl rfl rfl (gd_tt (by omega)) ?_; refine lw_pure (pur_fieldAddr0 tabOk rfl rfl rfl) rfl ?_; refine lw_on rfl rfl rfl (gd_tt (by omega)) ?_; refine lw_load_b tabOk rfl rfl rfl ha56 rfl rfl ?_; refine lw_on rfl rfl rfl (gd_tt (by omega)) ?_; refine cM rfl rfl ?_; refine lw_on rfl rfl rfl (gd_tt (by omega)) ?_; refine lw_pure (pur_eql rfl rfl) rfl ?_; refine lw_pure (pur_pick_yes rfl rfl (by omega)) rfl ?_; refine cM rfl rfl ?_; refine lw_on rfl rfl rfl (gd_tt (by omega)) ?_; refine lw_pure (pur_fieldAddr tabOk rfl rfl rfl) rfl ?_; refine lw_on rfl rfl rfl (gd_tt (by omega)) ?_; refine lw_load_b tabOk rfl rfl rfl ha56 rfl rfl ?_; refine lw_on rfl rfl rfl (gd_tt (by omega)) ?_; refine lw_pure (pur_len_slice tabOk rfl rfl) rfl ?_; refine lw_on rfl rfl rfl (gd_tt (by omega)) ?_; refine lw_pure (pur_eql rfl rfl) rfl ?_; refine lw_pure (pur_pick_yes rfl rfl (by omega)) rfl ?_; refine cM rfl rfl ?_; refine lw_on rfl rfl rfl (gd_tt (by decide)) ?_; refine lw_pure (pur_fieldAddr tabOk rfl rfl rfl) rfl ?_; refine lw_on rfl rfl rfl (gd_tt (by decide)) ?_; refine lw_load_b tabOk rfl rfl rfl ha46 rfl rfl ?_
    refine lw_on rfl rfl rfl (gd_tt (by decide)) ?_; refine lw_pure (pur_indexAddr tabOk rfl rfl rfl rfl (by omega) (by omega)) rfl ?_; refine lw_on rfl rfl rfl (gd_tt (by decide)) ?_; refine lw_pure (pur_fieldAddr tabOk rfl rfl rfl) rfl ?_; refine lw_on rfl rfl rfl (gd_tt (by decide)) ?_; refine lw_load_r tabOk rfl rfl rfl ha33 rfl rfl ?_; refine lw_on rfl rfl rfl (gd_tt (by decide)) ?_; refine lw_pure (pur_seql rfl rfl) rfl ?_; refine lw_pure (pur_pick_yes rfl rfl (by decide)) rfl ?_; refine cM rfl rfl ?_; refine lw_on rfl rfl rfl (gd_tt (by decide)) ?_; refine lw_pure (pur_fieldAddr tabOk rfl rfl rfl) rfl ?_; refine lw_on rfl rfl rfl (gd_tt (by decide)) ?_; refine lw_load_b tabOk rfl rfl rfl ha56 rfl rfl ?_; refine lw_on rfl rfl rfl (gd_tt (by decide)) ?_; refine lw_pure (pur_indexAddr tabOk rfl rfl rfl rfl (by omega) (by omega)) rfl ?_; refine lw_on rfl rfl rfl (gd_tt (by decide)) ?_; refine lw_pure (pur_fieldAddr tabOk rfl rfl rfl) rfl ?_; refine lw_on rfl rfl rfl (gd_tt (by decide)) ?_; refine lw_load_r tabOk rfl rfl rfl ha35 rfl rfl ?_; refine lw_on rfl rfl rfl (gd_tt (by decide)) ?_; refine lw_pure (pur_seql rfl rfl) rfl ?_; refine lw_pure (pur_pick_yes rfl rfl (by decide)) rfl ?_; refine cM rfl rfl ?_; refine lw_on rfl rfl rfl (gd_tt (by decide)) ?_; refine lw_pure (pur_fieldAddr tabOk rfl rfl rfl) rfl ?_; refine lw_on rfl rfl rfl (gd_tt (by decide)) ?_; refine lw_load_b tabOk rfl rfl rfl ha56 rfl rfl ?_; refine lw_on rfl rfl rfl (gd_tt (by decide)) ?_; refine lw_pure (pur_indexAddr tabOk rfl rfl rfl rfl (by omega) (by omega)) rfl ?_
    refine lw_on rfl rfl rfl (gd_tt (by decide)) ?_; refine lw_pure (pur_fieldAddr tabOk rfl rfl rfl) rfl ?_; refine lw_on rfl rfl rfl (gd_tt (by decide)) ?_; refine lw_load_r tabOk rfl rfl rfl ha36 rfl rfl ?_; refine lw_on rfl rfl rfl (gd_tt (by decide)) ?_; refine lw_pure (pur_seql rfl rfl) rfl ?_; refine lw_pure (pur_pick_yes rfl rfl (by decide)) rfl ?_; refine cA rfl rfl (cT (cw_ret (qw_ret1 rfl rfl ?_))); rotate_left 1
   exact ⟨by simp, X⟩
end Bk
namespace Bk
open Go Go.RowKit Go.Proofs
attribute [local irreducible] Go.Calls
section
variable {P : Program} {n : Nat} {l : Sl} {S : World → Prop} {ty : TypeId} {tab : Tab} {t t' : Nat} {x : Operand} {sz : Nat}
theorem pur_rune {k : IntKind} {c : Int} (T : TabOk P tab) {sz' : Nat} (ht : lookT tab t = some (.int k, sz)) (ht' : lookT tab t' = some (.str, sz')) {k0 : IntKind} (hx : ev l x = some (.int k0 c)) (h0 : 0 ≤ c) (h1 : c < 128) : Pur P n l S (.convert t t' x) ty (str [UInt8.ofNat c.toNat]) := by
 unfold Pur
 intro b w dst pos after g ha _; have hu : P.underlying t = some (.int k) := (T _ _ _ ht).under; have hu' : P.underlying t' = some .string := (T _ _ _ ht').under
 have hv : Utf8.valid c = true := by
  unfold Utf8.valid
  simp only [Bool.or_eq_true, Bool.and_eq_true, decide_eq_true_eq]
  left; omega
 have he : Utf8.encode c = ⟨#[UInt8.ofNat c.toNat]⟩ := by
  unfold Utf8.encode
  simp only [hv, if_true]; rw [if_pos (by omega)]
 simp [execOp, ha.ev hx, convert, run_underlying hu, run_underlying hu', Result.andThen, Conv.intToString, he, str]
end
def dg (n : Nat) : UInt8 := UInt8.ofNat ((48 + (n : Int) % 10).toNat)
def dgT : Nat → Nat → List UInt8 → List UInt8
 | 0, _, acc => acc
 | k + 1, n, acc => if n / 10 = 0 then dg n :: acc else dgT k (n / 10) (dg n :: acc)
def decT (n : Nat) : List UInt8 := dgT 20 n []
set_option maxRecDepth 100000 in
set_option maxHeartbeats 2000000 in
theorem digits_c (n : Nat) (w : World) (hn : n < 18446744073709551616) : Calls Tryd.prog 20 #[.int .u64 (n : Int)] w fun e w' => e = .returned (str (decT n)) ∧ Ext w w' := by
 have X := Ext.refl w; refine calls_in Tryd.func20 Tryd.ntmps20 rfl rfl ?_
 focus
  refine cS (cA rfl rfl (cN (cA rfl rfl (cT (cw_block ?_))))); rotate_left 1
 refine cw_loop (ι := Nat × Nat × List UInt8) (fun x => [(0, .int .u64 (x.2.1 : Int)), (3, str x.2.2)])
  (fun x w' => dgT x.1 x.2.1 x.2.2 = decT n ∧ x.2.2.length + x.1 = 20 ∧ x.2.1 < 10 ^ x.1 ∧ 1 ≤ x.1 ∧ w = w' ∧ x.2.1 < 18446744073709551616) (fun x => x.1) (20, n, []) (by (refine sub_cons rfl ?_; refine sub_cons rfl ?_; exact sub_nil)) ⟨rfl, rfl, by simp only; omega, by simp only; omega, rfl, hn⟩ ?_
 rintro ⟨k, m, acc⟩ _ ⟨he, hl, hm, hk, rfl, hm2⟩; simp only at he hl hm hk hm2; refine CW.sub (m := [(0, .int .u64 (m : Int)), (3, str acc)]) ?_ (by (refine sub_cons rfl ?_; refine sub_cons rfl ?_; exact sub_nil)); obtain ⟨k, rfl⟩ : ∃ j, k = j + 1 := ⟨k - 1, by omega⟩; rw [dgT] at he
 by_cases hz : m / 10 = 0
 · rw [if_pos hz] at he
   have hz2 : (m : Int) / 10 = 0 := by omega
   focus
    refine cw_block (cS (cM rfl rfl ?_)); refine lw_pure (pur_rem rfl rfl (by omega) (rem_pos (by omega))) rfl ?_; refine lw_pure (pur_add rfl rfl (u64_wrap _ (by omega) (by omega))) rfl ?_; refine lw_pure (pur_conv tabOk rfl rfl rfl (i32_wrap _ (by omega) (by omega))) rfl ?_; refine lw_pure (pur_rune tabOk rfl rfl rfl (by omega) (by omega)) rfl ?_; refine cM rfl rfl ?_; refine lw_pure (pur_sadd rfl rfl (by simp only [List.length_cons, List.length_nil]; omega)) rfl ?_; refine cA rfl rfl (cN (cM rfl rfl ?_)); refine lw_pure (pur_quo rfl rfl (by omega) (quo_u64 (by omega) (by omega) (by omega))) rfl ?_; refine cA rfl rfl (cN (cM rfl rfl (lw_pure (pur_eql rfl rfl) rfl (cT ?_)))); refine cw_yes rfl (by assumption) ?_; refine cS (cM rfl rfl (cA rfl rfl (cT (cw_ret (qw_block_ret (qw_then_ret (qw_block_ret (qw_ret1 rfl rfl ?_)))))))); rotate_left 1
   exact ⟨by rw [← he]; rfl, X⟩
 · rw [if_neg hz] at he
   have hz2 : ¬ (m : Int) / 10 = 0 := by omega
   have hp : 10 ^ (k + 1) = 10 ^ k * 10 := Nat.pow_succ 10 k
   have hk1 : 1 ≤ k := by
    rcases k with _ | k
    · exfalso; simp at hm; omega
    · omega
   have hm3 : m / 10 < 10 ^ k := by rw [hp] at hm; omega
   clear hp hm
   focus
    refine cw_block (cS (cM rfl rfl ?_)); refine lw_pure (pur_rem rfl rfl (by omega) (rem_pos (by omega))) rfl ?_; refine lw_pure (pur_add rfl rfl (u64_wrap _ (by omega) (by omega))) rfl ?_; refine lw_pure (pur_conv tabOk rfl rfl rfl (i32_wrap _ (by omega) (by omega))) rfl ?_; refine lw_pure (pur_rune tabOk rfl rfl rfl (by omega) (by omega)) rfl ?_; refine cM rfl rfl ?_; refine lw_pure (pur_sadd rfl rfl (by simp only [List.length_cons, List.length_nil]; omega)) rfl ?_; refine cA rfl rfl (cN (cM rfl rfl ?_)); refine lw_pure (pur_quo rfl rfl (by omega) (quo_u64 (by omega) (by omega) (by omega))) rfl ?_; refine cA rfl rfl (cN (cM rfl rfl (lw_pure (pur_eql rfl rfl) rfl (cT ?_)))); refine cw_no rfl (by assumption) ?_; refine cw_skip (qw_block_norm ?_); rotate_left 1
   refine qw_round (k, m / 10, dg m :: acc) (by exact sub_cons' rfl (by simp) (sub_cons' rfl rfl sub_nil)) ⟨he, by simp only [List.length_cons]; omega, hm3, hk1, rfl, by simp only; omega⟩ (by simp only; omega)
theorem dg_toNat (n : Nat) : (dg n).toNat = 48 + n % 10 := by
 unfold dg
 rw [UInt8.toNat_ofNat']
 omega
theorem dg_digit (n : Nat) : digit (dg n) = true := by
 have := dg_toNat n; simp only [digit, Bool.and_eq_true, decide_eq_true_eq]
 omega
theorem dgT_digits : ∀ (k n : Nat) (acc : List UInt8), (∀ c ∈ acc, digit c = true) → ∀ c ∈ dgT k n acc, digit c = true
 | 0, n, acc, h => by rw [dgT]; exact h
 | k + 1, n, acc, h => by
  have h' : ∀ c ∈ dg n :: acc, digit c = true := fun c hc => by
   rcases List.mem_cons.1 hc with rfl | hc
   · exact dg_digit n
   · exact h c hc
  rw [dgT]
  split
  · exact h'
  · exact dgT_digits k _ _ h'
theorem dgT_len : ∀ (k n : Nat) (acc : List UInt8), (dgT k n acc).length ≤ acc.length + k ∧ acc.length ≤ (dgT k n acc).length
 | 0, n, acc => by rw [dgT]; omega
 | k + 1, n, acc => by
  rw [dgT]
  split
  · simp only [List.length_cons]; omega
  · have := dgT_len k (n / 10) (dg n :: acc)
    simp only [List.length_cons] at this
    omega
theorem dgT_pos (k n : Nat) (acc : List UInt8) (hk : 1 ≤ k) : 1 ≤ (dgT k n acc).length := by
 obtain ⟨k, rfl⟩ : ∃ j, k = j + 1 := ⟨k - 1, by omega⟩; rw [dgT]
 split
 · simp
 · have := (dgT_len k (n / 10) (dg n :: acc)).2
   simp only [List.length_cons] at this
   omega
def valOf (s : List UInt8) (a : Nat) : Nat := s.foldl (fun a c => a * 10 + (c.toNat - 48)) a
theorem valOf_cons (c : UInt8) (s : List UInt8) (a : Nat) : valOf (c :: s) a = valOf s (a * 10 + (c.toNat - 48)) := by simp only [valOf, List.foldl_cons]
theorem valOf_add : ∀ (s : List UInt8) (a : Nat), valOf s a = a * 10 ^ s.length + valOf s 0
 | [], a => by simp [valOf]
 | c :: r, a => by
  rw [valOf_cons, valOf_cons, valOf_add r (a * 10 + (c.toNat - 48)), valOf_add r (0 * 10 + (c.toNat - 48))]; simp only [List.length_cons, Nat.pow_succ]
  have : (a * 10 + (c.toNat - 48)) * 10 ^ r.length = a * (10 ^ r.length * 10) + (c.toNat - 48) * 10 ^ r.length := by
   rw [Nat.add_mul, Nat.mul_assoc, Nat.mul_comm 10]
  rw [this]; simp only [Nat.zero_mul, Nat.zero_add]; omega
theorem dgT_val (k : Nat) : ∀ (n : Nat) (acc : List UInt8), n < 10 ^ k → 1 ≤ k → valOf (dgT k n acc) 0 = n * 10 ^ acc.length + valOf acc 0 := by
 induction k with
 | zero => intro n acc _ h; omega
 | succ k ih =>
  intro n acc hn _; have hd := dg_toNat n
  have hc : valOf (dg n :: acc) 0 = (n % 10) * 10 ^ acc.length + valOf acc 0 := by
   rw [valOf_cons, valOf_add, hd]
   have : 0 * 10 + (48 + n % 10 - 48) = n % 10 := by omega
   rw [this]
  rw [dgT]
  split
  · rename_i hz
    rw [hc]
    have : n % 10 = n := by omega
    rw [this]
  · rename_i hz
    have hp : 10 ^ (k + 1) = 10 ^ k * 10 := Nat.pow_succ 10 k
    have hk1 : 1 ≤ k := by
     rcases k with _ | k
     · exfalso; simp at hn; omega
     · omega
    rw [ih (n / 10) (dg n :: acc) (by rw [hp] at hn; omega) hk1, hc]; simp only [List.length_cons, Nat.pow_succ]
    have e1 : n / 10 * (10 ^ acc.length * 10) = (n / 10 * 10) * 10 ^ acc.length := by rw [Nat.mul_comm (10 ^ acc.length) 10, ← Nat.mul_assoc]
    rw [e1, ← Nat.add_assoc, ← Nat.add_mul]
    have : n / 10 * 10 + n % 10 = n := by omega
    rw [this]
theorem decT_val (n : Nat) (h : n < 18446744073709551616) : valOf (decT n) 0 = n := by
 unfold decT
 rw [dgT_val 20 n [] (by omega) (by omega)]
 simp [valOf]
def zdT (z n : Nat) : List UInt8 := List.replicate z 48 ++ decT n
theorem zdT_val (z n : Nat) (h : n < 18446744073709551616) : valOf (zdT z n) 0 = n := by
 unfold zdT
 induction z with
 | zero => exact decT_val n h
 | succ z ih =>
  rw [List.replicate_succ, List.cons_append, valOf_cons]
  exact ih
theorem zdT_digits (z n : Nat) : ∀ c ∈ zdT z n, digit c = true := by
 intro c hc
 unfold zdT at hc
 rcases List.mem_append.1 hc with hc | hc
 · have := (List.mem_replicate.1 hc).2
   subst this; decide
 · exact dgT_digits 20 n [] (by simp) c hc
theorem zdT_len (z n : Nat) : (zdT z n).length ≤ z + 20 ∧ 1 ≤ (zdT z n).length := by
 unfold zdT decT
 have h1 := dgT_len 20 n []; have h2 := dgT_pos 20 n [] (by omega); simp only [List.length_append, List.length_replicate, List.length_nil] at *
 omega
theorem zdT_next (z n : Nat) : zdT (z + 1) n = [48] ++ zdT z n := by
 unfold zdT
 rw [List.replicate_succ]; rfl
end Bk
namespace Bk
open Go Go.RowKit Go.Proofs
attribute [local irreducible] Go.Calls
theorem span_all {p : UInt8 → Bool} : ∀ (s : List UInt8), (∀ c ∈ s, p c = true) → span p s = s.length
 | [], _ => rfl
 | c :: r, h => by
  have := span_all r (fun d hd => h d (by simp [hd]))
  unfold span at *
  rw [List.takeWhile_cons, if_pos (h c (by simp)), List.length_cons, List.length_cons, this]
theorem firstTok_digits {ds : List UInt8} (hne : ds ≠ []) (h : ∀ c ∈ ds, digit c = true) : firstTok ds = (2, ds.length) := by
 cases ds with
 | nil => exact absurd rfl hne
 | cons c r =>
  have hd := h c (by simp)
  have hl : letter c = false := by
   cases hl : letter c
   · rfl
   · rw [letter_digit c hl] at hd; cases hd
  have hs := span_all (p := digit) (c :: r) h; simp only [firstTok, hl, hd, if_true, if_false, Bool.false_eq_true, hs]
theorem minus_first (v : List UInt8) : firstTok (45 :: 32 :: v) = (3, 1) := by
 have hp : pairs.contains ((45 :: 32 :: v).take 2) = false := by
  show pairs.contains [45, 32] = false
  decide
 have h3 : List.isPrefixOf [60, 61, 62] (45 :: 32 :: v) = false := by simp [List.isPrefixOf]
 have hs : singles.contains 45 = true := by decide
 have h1 : letter 45 = false := by decide
 have h2 : digit 45 = false := by decide
 have h4 : blank 45 = false := by decide
 have h5 : ¬ (45 : UInt8) = 35 := by decide
 simp only [firstTok, h1, h2, h4, h5, if_false, Bool.false_eq_true, signLen, h3, hp, List.head?_cons, Option.map_some, Option.getD_some, hs, if_true]
def numToks (ds : List UInt8) : List Tok := [⟨3, [45], 0⟩, ⟨2, ds, 2⟩]
theorem num_solid {ds : List UInt8} (hne : ds ≠ []) (h : ∀ c ∈ ds, digit c = true) : solidFrom (45 :: 32 :: ds) 0 = (numToks ds, none) := by
 have hf := minus_first ds; have hd : (45 :: 32 :: ds).drop 0 = 45 :: 32 :: ds := rfl
 have hl : ds.length ≠ 0 := fun e => hne (List.eq_nil_of_length_eq_zero e)
 have hfd := firstTok_digits hne h
 have h1 : solidFrom ds 0 = ([⟨2, ds, 0⟩], none) := by
  have hd2 : ds.drop 0 = ds := rfl; rw [solidFrom_tok (s := ds) (p := 0) (by omega) (by rw [hd2, hfd]; exact hl) (by rw [hd2, hfd]; simp) (by rw [hd2, hfd]; simp), hd2, hfd, solidFrom_end (by simp)]
  have e : tokAt ds 0 = ⟨2, ds, 0⟩ := by unfold tokAt; rw [hd2, hfd]; simp
  rw [e]; rfl
 have h2 : solidFrom (32 :: ds) 0 = shR 1 (solidFrom ds 0) := by
  rw [solidFrom_blank (s := 32 :: ds) (p := 0) (by simp) (show blank 32 = true by decide)]
  exact solidFrom_cons 32 ds 0
 have h3 : solidFrom (45 :: 32 :: ds) (0 + 1) = shR 1 (solidFrom (32 :: ds) 0) := by
  have := solidFrom_cons 45 (32 :: ds) 0
  simpa using this
 rw [solidFrom_tok (s := 45 :: 32 :: ds) (p := 0) (by simp) (by rw [hd, hf]; decide) (by rw [hd, hf]; simp) (by rw [hd, hf]; simp), hd, hf, h3, h2, h1]
 have e : tokAt (45 :: 32 :: ds) 0 = ⟨3, [45], 0⟩ := by unfold tokAt; rw [hd, hf]; rfl
 rw [e]; rfl
theorem num_ok {ds : List UInt8} (hs : ds.length ≤ 60000) (hne : ds ≠ []) (h : ∀ c ∈ ds, digit c = true) (hv : (digitsVal ds : Int) ≤ 9223372036854775807) : parseExpr (45 :: 32 :: ds) = (.mk 6 0 [] [.mk 1 (digitsVal ds) [] []], 0, 0) := by
 have hsd : startsDigit ds = true := by
  cases ds with
  | nil => exact absurd rfl hne
  | cons c r => simpa [startsDigit] using h c (by simp)
 have g : G (.ex 1) (txt (numToks ds)) (.mk 6 0 [] [.mk 1 (digitsVal ds) [] []]) := by
  have := G.ex (G.neg (G.num hsd hv)) (G.cl0 (lv := 1))
  exact this
 exact parseE_of (by simp only [List.length_cons]; omega) (num_solid hne h) g (by simp only [Nd.depth, rowDepth]; omega) (by simp [Nd.size, rowSize])
theorem num_bad {ds : List UInt8} (hs : ds.length ≤ 60000) (hne : ds ≠ []) (h : ∀ c ∈ ds, digit c = true) (hv : ¬ (digitsVal ds : Int) ≤ 9223372036854775807) : parseExpr (45 :: 32 :: ds) = (zeroNd, 2, 2) := by
 obtain ⟨e, hd⟩ := parseE_at (s := 45 :: 32 :: ds) (by simp only [List.length_cons]; omega) (num_solid hne h) (K := 12) (by simp [numToks]); rw [e]
 generalize ((45 :: 32 :: ds : List UInt8).length : Int) = n
 have hr : rem (numToks ds) st00 = [45] :: [ds] := rfl; have he : (st00 : PS).err = 0 := rfl; have hr2 : rem (numToks ds) (adv st00 1) = ds :: [] := rfl
 have hsd : startsDigit ds = true := by
  cases ds with
  | nil => exact absurd rfl hne
  | cons c r => simpa [startsDigit] using h c (by simp)
 have hne2 : ds ≠ [45] ∧ ds ≠ [33] := ⟨by rintro rfl; revert hsd; decide, by rintro rfl; revert hsd; decide⟩
 have hnum : numberP (numToks ds) n 0 9223372036854775807 (adv st00 1) = (0, ⟨2, 2, 2⟩) := by
  unfold numberP
  rw [if_pos ((kind_dig hd hr2 he).2 hsd), peek_cons hr2 he, if_neg (fun q => hv q.1)]
  rfl
 have hun2 : unaryP (numToks ds) n 10 (adv st00 1) = (.mk 1 0 [] [], ⟨2, 2, 2⟩) := by
  rw [unaryP, has_cons hr2 he, if_neg (by simpa using hne2.1), has_cons hr2 he, if_neg (by simpa using hne2.2), primaryP, if_pos ((kind_dig hd hr2 he).2 hsd), hnum]
 have hun : unaryP (numToks ds) n 11 st00 = (.mk 6 0 [] [.mk 1 0 [] []], ⟨2, 2, 2⟩) := by
  rw [unaryP, has_cons hr he, if_pos (by decide), next_adv, hun2]
 have hxp : exprP (numToks ds) n 12 1 st00 = (.mk 6 0 [] [.mk 1 0 [] []], ⟨2, 2, 2⟩) := by
  rw [exprP, hun, climbP, peek_err (by decide)]
  rfl
 rw [hxp]
 unfold endE
 have hf : finishP (numToks ds) n ⟨2, 2, 2⟩ = ⟨2, 2, 2⟩ := by unfold finishP; rw [if_neg (by simp [numToks])]
 have hlm : limitP (.mk 6 0 [] [.mk 1 0 [] []]) 0 ⟨2, 2, 2⟩ = ⟨2, 2, 2⟩ := by unfold limitP; rw [if_pos (by decide)]
 simp only [hf, hlm]; rw [if_pos (by decide)]
theorem dv_val (s : List UInt8) : digitsVal s = valOf s 0 := by unfold digitsVal valOf; rfl
theorem zd_ne (z n : Nat) : zdT z n ≠ [] := fun e => by have := (zdT_len z n).2; rw [e] at this; simp at this
def OneK (w : World) (k x y : Int) : Ending → World → Prop := fun e w' => ∃ kb ko c x2 x3, e = .returned (.tuple #[.agg #[.int .u8 k, .int .i64 0, str [], .slice (some ⟨kb, ko, none⟩) 1 c], .int .i64 0, .int .i64 0]) ∧ Row w' ⟨kb, ko + 0 * 4, none⟩ [.int .u8 x, .int .i64 y, x2, x3] ∧ Ext w w'
theorem OneK.ret {w : World} {k x y : Int} {e : Ending} {w' : World} (h : OneK w k x y e w') : ∃ v, e = .returned v := by
 obtain ⟨_, _, _, _, _, h, -⟩ := h
 exact ⟨_, h⟩
theorem num_p (z n : Nat) (hz : z ≤ 1000) (hn : n < 18446744073709551616) (hv : (n : Int) ≤ 9223372036854775807) (w : World) (hS : Syms w) (hE : Errs w) : Calls Tryd.prog 15 #[str ([45, 32] ++ zdT z n)] w (OneK w 6 1 n) := by
 have hl := (zdT_len z n).1; have := Expr_p ([45, 32] ++ zdT z n) w (by simp only [List.length_append, List.length_cons, List.length_nil]; omega) hS hE; have hp := num_ok (ds := zdT z n) (by omega) (zd_ne z n) (zdT_digits z n) (by rw [dv_val, zdT_val z n hn]; exact hv); rw [dv_val, zdT_val z n hn] at hp; rw [show [45, 32] ++ zdT z n = 45 :: 32 :: zdT z n from rfl] at this ⊢; rw [hp] at this; refine this.mono ?_; rintro e w' ⟨a, k, rfl, hs, x⟩; simp only [Nd.sits] at hs; obtain ⟨b, o, rfl, -, hk⟩ := kidRows hs (by simp); obtain ⟨a0, c0, r0, -⟩ := hk 0 _ rfl
 exact ⟨b, o, k, _, _, rfl, r0, x⟩
theorem num_q (z n : Nat) (hz : z ≤ 1000) (hn : n < 18446744073709551616) (hv : ¬ (n : Int) ≤ 9223372036854775807) (w : World) (hS : Syms w) (hE : Errs w) : Calls Tryd.prog 15 #[str ([45, 32] ++ zdT z n)] w (ParseR w (zeroNd, 2, 2)) := by
 have hl := (zdT_len z n).1; have := Expr_p ([45, 32] ++ zdT z n) w (by simp only [List.length_append, List.length_cons, List.length_nil]; omega) hS hE; have hp := num_bad (ds := zdT z n) (by omega) (zd_ne z n) (zdT_digits z n) (by rw [dv_val, zdT_val z n hn]; exact hv); rw [show [45, 32] ++ zdT z n = 45 :: 32 :: zdT z n from rfl] at this ⊢; rw [hp] at this
 exact this
set_option maxRecDepth 100000 in
set_option maxHeartbeats 4000000 in
theorem ParserNumbers_c (a b : Int) (w : World) (ha0 : 0 ≤ a) (ha1 : a ≤ 18446744073709551615) (hb0 : 0 ≤ b) (hb1 : b ≤ 255) (hS : Syms w) (hE : Errs w) : Calls Tryd.prog 8 #[.int .u64 a, .int .u8 b] w fun e w' => e = .returned (.bool true) ∧ Ext w w' := by
 have X := Ext.refl w; obtain ⟨n, rfl⟩ : ∃ n : Nat, a = (n : Int) := ⟨a.toNat, by omega⟩; obtain ⟨m, hm⟩ : ∃ m : Nat, b % 30 = (m : Int) := ⟨(b % 30).toNat, by omega⟩
 have hm1 : m < 30 := by omega
 have hn : n < 18446744073709551616 := by omega
 refine calls_in Tryd.func8 Tryd.ntmps8 rfl rfl ?_
 focus
  refine cS (cA rfl rfl (cT (cw_seq (cS ?_)))); refine cC (by kernel_rfl) rfl (awake4_c _ (by assumption) (by assumption)) rfl ?_; rintro _ w2 ⟨⟨⟩, x1⟩; have z3 := x1.size; replace hS := hS.ext x1; replace hE := hE.ext x1; replace X := X.ext x1; clear x1; refine lw_pure (pur_not rfl) rfl (cT (cw_cond_f rfl (cw_skip (qw_then (cS (cM rfl rfl ?_)))))); refine cC (by kernel_rfl) rfl (digits_c n _ hn) rfl ?_; rintro _ w5 ⟨⟨⟩, x4⟩; have z6 := x4.size; replace hS := hS.ext x4; replace hE := hE.ext x4; replace X := X.ext x4; clear x4; refine cA rfl rfl (cT (cw_seq (cS (cM rfl rfl ?_)))); refine lw_pure (pur_conv tabOk rfl rfl rfl (IntWalk.i64_in _ (by omega))) rfl ?_; refine lw_pure (pur_rem rfl rfl (by omega) (rem_known (by assumption) (by omega))) rfl ?_; refine cM rfl rfl (cT (cw_block ?_)); rotate_left 1
 refine cw_loop (ι := Nat) (fun i => [(0, .int .u64 (n : Int)), (5, str (zdT i n)), (15, .int .i64 m), (16, .int .i64 i)])
  (fun i w' => i ≤ m ∧ w5 = w') (fun i => m - i) 0 (by (refine sub_cons rfl ?_; refine sub_cons rfl ?_; refine sub_cons rfl ?_; refine sub_cons rfl ?_; exact sub_nil)) ⟨Nat.zero_le _, rfl⟩ ?_
 rintro i _ ⟨hi, rfl⟩; have hzl := (zdT_len i n).1
 by_cases hlt : i < m
 · focus
    refine cS (lw_pure (pur_lss rfl rfl) rfl (cT (cw_seq ?_))); refine cw_yes rfl (by omega) ?_; refine cw_skip (qw_then (cw_seq (cw_block (cw_region (cM rfl rfl ?_))))); refine lw_pure (pur_sadd rfl rfl (by simp only [List.length_cons, List.length_nil]; omega)) rfl ?_; refine cA rfl rfl (lw_nil (qw_block_norm (qw_then (cw_region ?_)))); refine lw_pure (pur_add rfl rfl (IntWalk.i64_in _ (by omega))) rfl ?_; refine cM rfl rfl (lw_nil ?_); rotate_left 1
   refine qw_round (i + 1) (by refine sub_cons rfl (sub_cons' rfl (by rw [zdT_next]) ?_); (refine sub_cons rfl ?_; refine sub_cons rfl ?_; exact sub_nil)) ⟨by omega, rfl⟩ (by omega)
 · obtain rfl : i = m := by omega
   by_cases hv : (n : Int) ≤ 9223372036854775807
   · have H1 := Lib.hid (num_p i n (by omega) hn hv)
     generalize zdT i n = T at *
     focus
      refine cS (lw_pure (pur_lss rfl rfl) rfl (cT (cw_seq ?_))); refine cw_no rfl (by omega) ?_; refine cw_exit (qw_then_exit (qw_then_exit (qw_block_exit (qw_then (cS (cM rfl rfl ?_)))))); refine lw_pure (pur_sadd rfl rfl (by simp only [List.length_cons, List.length_nil]; omega)) rfl ?_; refine cR (by kernel_rfl) rfl (H1.out _ (by assumption) (by assumption)) (fun _ _ h => h.ret) rfl ?_; rintro _ wb8 ⟨kbb1, ⟨kob2, ⟨cb3, ⟨x2b4, ⟨x3b5, ⟨⟨⟩, ⟨hb6, xb7⟩⟩⟩⟩⟩⟩⟩; have zb9 := xb7.size; replace hS := hS.ext xb7; replace hE := hE.ext xb7; replace X := X.ext xb7; clear xb7; refine cM rfl rfl (lw_pure (pur_extract rfl rfl) rfl (lw_pure (pur_extract rfl rfl) rfl (lw_pure (pur_extract rfl rfl) rfl ?_))); (refine lw_alloc' [_, _, _, _] zOk rfl rfl ?_; intro bb10 wb11 nb12); (refine lw_init' [_, _, _, _] tabOk rfl rfl rfl rfl rfl rfl nb12 rfl ?_; clear nb12; clear wb11; intro wb13 nb12); have hb14 := nb12.blk; have xb15 := nb12.ext; have pb16 := nb12.pos; have zb17 := nb12.size; clear nb12; replace hb6 := hb6.ext xb15; replace hS := hS.ext xb15; replace hE := hE.ext xb15; replace X := X.ext xb15; clear xb15; refine cA rfl rfl (cA rfl rfl (cT (cw_seq (cS (cM rfl rfl (lw_pure (pur_gtr rfl rfl) rfl (cT ?_))))))); refine cw_no rfl (by omega) ?_; refine cw_skip (qw_then (cS (cM rfl rfl (lw_pure (pur_eql rfl rfl) rfl (cM rfl rfl ?_))))); refine lw_on rfl rfl rfl (gd_tt (by decide)) ?_; refine lw_pure (pur_fieldAddr0 tabOk rfl rfl rfl) rfl ?_; refine lw_on rfl rfl rfl (gd_tt (by decide)) ?_; refine lw_load_b tabOk rfl rfl rfl hb14 rfl rfl ?_
      refine lw_on rfl rfl rfl (gd_tt (by decide)) ?_; refine lw_pure (pur_eql rfl rfl) rfl ?_; refine lw_pure (pur_pick_yes rfl rfl (by decide)) rfl ?_; refine cM rfl rfl ?_; refine lw_on rfl rfl rfl (gd_tt (by decide)) ?_; refine lw_pure (pur_fieldAddr tabOk rfl rfl rfl) rfl ?_; refine lw_on rfl rfl rfl (gd_tt (by decide)) ?_; refine lw_load_b tabOk rfl rfl rfl hb14 rfl rfl ?_; refine lw_on rfl rfl rfl (gd_tt (by decide)) ?_; refine lw_pure (pur_len_slice tabOk rfl rfl) rfl ?_; refine lw_on rfl rfl rfl (gd_tt (by decide)) ?_; refine lw_pure (pur_eql rfl rfl) rfl ?_; refine lw_pure (pur_pick_yes rfl rfl (by decide)) rfl ?_; refine cM rfl rfl ?_; refine lw_on rfl rfl rfl (gd_tt (by decide)) ?_; refine lw_pure (pur_fieldAddr tabOk rfl rfl rfl) rfl ?_; refine lw_on rfl rfl rfl (gd_tt (by decide)) ?_; refine lw_load_b tabOk rfl rfl rfl hb14 rfl rfl ?_; refine lw_on rfl rfl rfl (gd_tt (by decide)) ?_; refine lw_pure (pur_indexAddr tabOk rfl rfl rfl rfl (by omega) (by omega)) rfl ?_; refine lw_on rfl rfl rfl (gd_tt (by decide)) ?_; refine lw_pure (pur_fieldAddr0 tabOk rfl rfl rfl) rfl ?_; refine lw_on rfl rfl rfl (gd_tt (by decide)) ?_; refine lw_load_r tabOk rfl rfl rfl hb6 rfl rfl ?_; refine lw_on rfl rfl rfl (gd_tt (by decide)) ?_; refine lw_pure (pur_eql rfl rfl) rfl ?_; refine lw_pure (pur_pick_yes rfl rfl (by decide)) rfl ?_; refine cM rfl rfl ?_; refine lw_on rfl rfl rfl (gd_tt (by decide)) ?_; refine lw_pure (pur_fieldAddr tabOk rfl rfl rfl) rfl ?_; refine lw_on rfl rfl rfl (gd_tt (by decide)) ?_
      refine lw_load_b tabOk rfl rfl rfl hb14 rfl rfl ?_; refine lw_on rfl rfl rfl (gd_tt (by decide)) ?_; refine lw_pure (pur_indexAddr tabOk rfl rfl rfl rfl (by omega) (by omega)) rfl ?_; refine lw_on rfl rfl rfl (gd_tt (by decide)) ?_; refine lw_pure (pur_fieldAddr tabOk rfl rfl rfl) rfl ?_; refine lw_on rfl rfl rfl (gd_tt (by decide)) ?_; refine lw_load_r tabOk rfl rfl rfl hb6 rfl rfl ?_; refine lw_on rfl rfl rfl (gd_tt (by decide)) ?_; refine lw_pure (pur_conv tabOk rfl rfl rfl (u64_wrap _ (by omega) (by omega))) rfl ?_; refine lw_on rfl rfl rfl (gd_tt (by decide)) ?_; refine cM rfl rfl ?_; refine lw_on rfl rfl rfl (gd_tt (by decide)) ?_; refine lw_pure (pur_eql rfl rfl) rfl ?_; refine lw_pure (pur_pick_yes rfl rfl (by decide)) rfl ?_; refine cA rfl rfl (cT (cw_ret (qw_ret1 rfl rfl ?_))); rotate_left 1
     exact ⟨by simp, X⟩
   · have H1 := Lib.hid (num_q i n (by omega) hn hv)
     generalize zdT i n = T at *
     focus
      refine cS (lw_pure (pur_lss rfl rfl) rfl (cT (cw_seq ?_))); refine cw_no rfl (by omega) ?_; refine cw_exit (qw_then_exit (qw_then_exit (qw_block_exit (qw_then (cS (cM rfl rfl ?_)))))); refine lw_pure (pur_sadd rfl rfl (by simp only [List.length_cons, List.length_nil]; omega)) rfl ?_; refine cR (by kernel_rfl) rfl (H1.out _ (by assumption) (by assumption)) (fun _ _ h => h.ret) rfl ?_; rintro _ wc5 ⟨ac1, ⟨kc2, ⟨⟨⟩, ⟨hc3, xc4⟩⟩⟩⟩; have zc6 := xc4.size; replace hS := hS.ext xc4; replace hE := hE.ext xc4; replace X := X.ext xc4; clear xc4; refine cM rfl rfl (lw_pure (pur_extract rfl rfl) rfl (lw_pure (pur_extract rfl rfl) rfl (lw_pure (pur_extract rfl rfl) rfl ?_))); (refine lw_alloc' [_, _, _, _] zOk rfl rfl ?_; intro bc7 wc8 nc9); (refine lw_init' [_, _, _, _] tabOk rfl rfl rfl rfl rfl rfl nc9 rfl ?_; clear nc9; clear wc8; intro wc10 nc9); have hc11 := nc9.blk; dsimp only at hc11; have xc12 := nc9.ext; have pc13 := nc9.pos; have zc14 := nc9.size; clear nc9; replace hc3 := Nd.sits.ext hc3 xc12; replace hS := hS.ext xc12; replace hE := hE.ext xc12; replace X := X.ext xc12; clear xc12; refine cA rfl rfl (cA rfl rfl (cT (cw_seq (cS (cM rfl rfl (lw_pure (pur_gtr rfl rfl) rfl (cT ?_))))))); refine cw_yes rfl (by omega) ?_; refine cS (cM rfl rfl (lw_pure (pur_eql rfl rfl) rfl (cM rfl rfl ?_))); refine lw_on rfl rfl rfl (gd_tt (by decide)) ?_; refine cM rfl rfl ?_; refine lw_on rfl rfl rfl (gd_tt (by decide)) ?_; refine lw_pure (pur_eql rfl rfl) rfl ?_; refine lw_pure (pur_pick_yes rfl rfl (by decide)) rfl ?_
      refine cM rfl rfl ?_; refine lw_on rfl rfl rfl (gd_tt (by decide)) ?_; refine lw_pure (pur_fieldAddr0 tabOk rfl rfl rfl) rfl ?_; refine lw_on rfl rfl rfl (gd_tt (by decide)) ?_; refine lw_load_b tabOk rfl rfl rfl hc11 rfl rfl ?_; refine lw_on rfl rfl rfl (gd_tt (by decide)) ?_; refine lw_pure (pur_eql rfl rfl) rfl ?_; refine lw_pure (pur_pick_yes rfl rfl (by decide)) rfl ?_; refine cA rfl rfl (cT (cw_ret (qw_then_ret (qw_ret1 rfl rfl ?_)))); rotate_left 1
     exact ⟨rfl, X⟩
end Bk
