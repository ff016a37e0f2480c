/- The statement ParserValid holds: texts that its proof needs. No condition beyond the row's own. (Part 5 of 7.) -/
import Derived.Test.YtihgojmblldifaaGreatDoorPParserValid4
set_option linter.unusedSimpArgs false
set_option linter.unusedVariables false
namespace Bk
open Go
def VD.ok (v : VD) : Bool := isName v.name && if v.kind = 1 ∨ v.kind = 3 then v.len == 0 else if v.kind = 2 then decide (1 ≤ v.len) && decide (v.len ≤ 16) else false
def allOk (l : List VD) : Bool := l.all VD.ok
mutual
def Nd.lim : Nd → Int → Int → Bool × Int
 | .mk _ _ _ l, d, m => if d = 0 ∨ m = 0 then (false, m) else rowLim l (d - 1) (m - 1)
def rowLim : List Nd → Int → Int → Bool × Int
 | [], _, m => (true, m)
 | t :: r, d, m => if (t.lim d m).1 then rowLim r d (t.lim d m).2 else (false, (t.lim d m).2)
end
def bodyOk (t : Nd) : Bool := (t.lim 80 2000).1 && t.isBlock
def PD.ok (p : PD) : Bool := isName p.name && decide (p.params.length ≤ 8) && allOk p.params && bodyOk p.body
def PG.ok (g : PG) : Bool := decide (g.vars.length ≤ 32) && decide (g.procs.length ≤ 64) && allOk g.vars && g.procs.all PD.ok && bodyOk g.main
end Bk
namespace Bk
open Go
abbrev Txt := List (List UInt8)
inductive Nt where
 | ex (lv : Int) : Nt
 | cl (lv : Int) (x : Nd) : Nt
 | un : Nt
 | pl : Nt
def StopL (lv : Int) (b : Txt) : Prop := ∀ t ∈ b.head?, ∀ op, binOf t = some op → level op < lv
def NoBr (b : Txt) : Prop := ∀ t ∈ b.head?, t ≠ [91]
inductive G : Nt → Txt → Nd → Prop where
 | ex {lv : Int} {a b : Txt} {x y : Nd} : G .un a x → G (.cl lv x) b y → G (.ex lv) (a ++ b) y
 | cl0 {lv : Int} {x : Nd} : G (.cl lv x) [] x
 | cl1 {lv op : Int} {t : List UInt8} {a b : Txt} {x y z : Nd} : binOf t = some op → lv ≤ level op → G (.ex (level op + 1)) a y → StopL (level op + 1) b → G (.cl lv (.mk op 0 [] [x, y])) b z → G (.cl lv x) (t :: (a ++ b)) z
 | neg {a : Txt} {x : Nd} : G .un a x → G .un ([45] :: a) (.mk 6 0 [] [x])
 | not {a : Txt} {x : Nd} : G .un a x → G .un ([33] :: a) (.mk 7 0 [] [x])
 | num {t : List UInt8} : startsDigit t = true → (digitsVal t : Int) ≤ 9223372036854775807 → G .un [t] (.mk 1 (digitsVal t) [] [])
 | top {m : List UInt8} : isName m = true → G .un [[116, 111, 112], [40], m, [41]] (.mk 4 0 m [])
 | size {m : List UInt8} : isName m = true → G .un [[115, 105, 122, 101], [40], m, [41]] (.mk 5 0 m [])
 | par {a : Txt} {x : Nd} : G (.ex 1) a x → G .un ([40] :: (a ++ [[41]])) x
 | place {a : Txt} {x : Nd} : G .pl a x → G .un a x
 | var {m : List UInt8} : isName m = true → G .pl [m] (.mk 2 0 m [])
 | item {m : List UInt8} {a : Txt} {x : Nd} : isName m = true → G (.ex 1) a x → G .pl (m :: [91] :: (a ++ [[93]])) (.mk 3 0 m [x])
section
variable {ts : List Tok} {n : Int}
def txt (ts : List Tok) : Txt := ts.map Tok.text
def adv (σ : PS) (k : Nat) : PS := ⟨σ.at_ + k, σ.off, σ.err⟩
theorem adv_adv (σ : PS) (a b : Nat) : adv (adv σ a) b = adv σ (a + b) := by simp [adv, Nat.add_assoc]
theorem next_adv (σ : PS) : nextP σ = adv σ 1 := rfl
def rem (ts : List Tok) (σ : PS) : Txt := (txt ts).drop σ.at_
theorem rem_len (σ : PS) : (rem ts σ).length = ts.length - σ.at_ := by simp [rem, txt]
theorem rem_adv {σ : PS} {a b : Txt} (h : rem ts σ = a ++ b) : rem ts (adv σ a.length) = b := by
 unfold rem adv at *
 simp only; rw [← List.drop_drop, h]
 simp
theorem rem_cons {σ : PS} {t : List UInt8} {b : Txt} (h : rem ts σ = t :: b) : rem ts (adv σ 1) = b := rem_adv (a := [t]) h
theorem rem_lt {σ : PS} {t : List UInt8} {b : Txt} (h : rem ts σ = t :: b) : σ.at_ < ts.length := by
 have := rem_len (ts := ts) σ; rw [h] at this
 simp at this
 omega
theorem peek_cons {σ : PS} {t : List UInt8} {b : Txt} (h : rem ts σ = t :: b) (he : σ.err = 0) : (peekP ts σ).text = t := by
 have hl := rem_lt h
 unfold peekP
 rw [if_neg (by rintro (h | h); exact h he; omega)]
 unfold rem txt at h
 rw [List.drop_eq_getElem_cons (by simpa using hl)] at h; simp only [List.getElem_map, List.cons.injEq] at h; rw [List.getD_eq_getElem?_getD, List.getElem?_eq_getElem hl]
 exact h.1
theorem peek_nil {σ : PS} (hw : σ.at_ ≤ ts.length) (h : rem ts σ = []) : (peekP ts σ).text = [] := by
 have := rem_len (ts := ts) σ; rw [h] at this
 rw [peek_end (by simp at this; omega)]; rfl
theorem peek_rem {σ : PS} (hw : σ.at_ ≤ ts.length) (he : σ.err = 0) : (peekP ts σ).text = ((rem ts σ).head?).getD [] := by
 cases h : rem ts σ with
 | nil => rw [peek_nil hw h]; rfl
 | cons t b => rw [peek_cons h he]; rfl
theorem has_cons {σ : PS} {t u : List UInt8} {b : Txt} (h : rem ts σ = t :: b) (he : σ.err = 0) : hasP ts σ u = decide (t = u) := by unfold hasP; rw [peek_cons h he]
theorem peek_mem {σ : PS} (hl : σ.at_ < ts.length) (he : σ.err = 0) : peekP ts σ ∈ ts := by
 unfold peekP
 rw [if_neg (by rintro (h | h); exact h he; omega), List.getD_eq_getElem?_getD, List.getElem?_eq_getElem hl]
 exact List.getElem_mem hl
theorem kind_dig (hd : DigitKinds ts) {σ : PS} {t : List UInt8} {b : Txt} (h : rem ts σ = t :: b) (he : σ.err = 0) : (peekP ts σ).kind = 2 ↔ startsDigit t = true := by
 rw [← peek_cons h he]
 exact hd _ (peek_mem (rem_lt h) he)
theorem expect_cons {σ : PS} {t : List UInt8} {b : Txt} (h : rem ts σ = t :: b) (he : σ.err = 0) : expectP ts n σ t = adv σ 1 := by unfold expectP; rw [has_cons h he]; simp [next_adv]
theorem name_cons {σ : PS} {t : List UInt8} {b : Txt} (h : rem ts σ = t :: b) (he : σ.err = 0) (ht : isName t = true) : nameP ts n σ = (t, adv σ 1) := by unfold nameP; rw [peek_cons h he, if_pos ht]; rfl
theorem rem_step {σ : PS} (hl : σ.at_ < ts.length) (he : σ.err = 0) : rem ts σ = (peekP ts σ).text :: rem ts (adv σ 1) := by
 cases h : rem ts σ with
 | nil => have := rem_len (ts := ts) σ; rw [h] at this; simp at this; omega
 | cons t b => rw [peek_cons h he, rem_cons h]
end
theorem name_not {m : List UInt8} (h : isName m = true) : m ≠ [45] ∧ m ≠ [33] ∧ m ≠ [40] ∧ m ≠ [116, 111, 112] ∧ m ≠ [115, 105, 122, 101] ∧ startsDigit m = false := by
 refine ⟨?_, ?_, ?_, ?_, ?_, ?_⟩
 · rintro rfl; revert h; decide
 · rintro rfl; revert h; decide
 · rintro rfl; revert h; decide
 · rintro rfl; revert h; decide
 · rintro rfl; revert h; decide
 · cases m with
   | nil => rfl
   | cons c r =>
    have hk : (firstTok (c :: r)).1 = 1 := by
     simp only [isName, Bool.and_eq_true, beq_iff_eq] at h
     exact h.1.1.2
    cases hd : startsDigit (c :: r)
    · rfl
    · exfalso
      have hdg : digit c = true := by simpa [startsDigit] using hd
      have hl : letter c = false := by
       cases hl : letter c
       · rfl
       · simp only [letter, digit, Bool.and_eq_true, decide_eq_true_eq] at hl hdg; omega
      simp [firstTok, hl, hdg] at hk
theorem G.head {nt : Nt} {a : Txt} {x : Nd} (h : G nt a x) : match nt with
 | .cl lv _ => ∀ t r, a = t :: r → ∃ op, binOf t = some op ∧ lv ≤ level op
 | _ => a ≠ [] := by
 induction h with
 | ex _ _ i1 _ => simp only at *; intro h; exact i1 (List.append_eq_nil_iff.1 h).1
 | cl0 => intro t r h; cases h
 | cl1 h1 h2 => intro t r h; simp only [List.cons.injEq] at h; obtain ⟨rfl, -⟩ := h; exact ⟨_, h1, h2⟩
 | neg => simp
 | not => simp
 | num => simp
 | top => simp
 | size => simp
 | par => simp
 | place _ i => exact i
 | var => simp
 | item => simp
end Bk
namespace Bk
open Go
section
variable {ts : List Tok} {n : Int}
theorem bin_nil : binOf [] = none := by decide
theorem bin_br : binOf [91] = none := by decide
theorem has_rem {σ : PS} {u : List UInt8} (hw : σ.at_ ≤ ts.length) (he : σ.err = 0) : hasP ts σ u = decide (((rem ts σ).head?).getD [] = u) := by unfold hasP; rw [peek_rem hw he]
theorem nobr_has {σ : PS} (hw : σ.at_ ≤ ts.length) (he : σ.err = 0) (h : NoBr (rem ts σ)) : hasP ts σ [91] = false := by
 rw [has_rem hw he]
 cases hr : rem ts σ with
 | nil => simp
 | cons t b => have := h t (by rw [hr]; rfl); exact decide_eq_false this
theorem stop_bin {σ : PS} {lv : Int} (hw : σ.at_ ≤ ts.length) (he : σ.err = 0) (h : StopL lv (rem ts σ)) : ∀ op, binOf (peekP ts σ).text = some op → level op < lv := by
 intro op ho; rw [peek_rem hw he] at ho
 cases hr : rem ts σ with
 | nil => rw [hr] at ho; have ho' : binOf [] = some op := ho; rw [bin_nil] at ho'; cases ho'
 | cons t b => rw [hr] at ho; exact h t (by rw [hr]; rfl) op (by simpa using ho)
theorem rem_le {σ : PS} {a b : Txt} (h : rem ts σ = a ++ b) (ha : a ≠ []) : σ.at_ + a.length ≤ ts.length := by
 have := rem_len (ts := ts) σ; rw [h] at this
 cases a with
 | nil => exact absurd rfl ha
 | cons t r => simp only [List.length_append, List.length_cons] at this ⊢; omega
theorem rem_wf {σ : PS} {a b : Txt} (hw : σ.at_ ≤ ts.length) (h : rem ts σ = a ++ b) : (adv σ a.length).at_ ≤ ts.length := by
 cases a with
 | nil => exact hw
 | cons t r => exact rem_le h (by simp)
theorem G.pl_head {a : Txt} {x : Nd} (h : G .pl a x) : ∃ m r, a = m :: r ∧ isName m = true := by
 cases h with
 | var hm => exact ⟨_, _, rfl, hm⟩
 | item hm _ => exact ⟨_, _, rfl, hm⟩
def Reads (ts : List Tok) (n : Int) : Nt → Txt → Nd → Prop
 | .ex lv, a, x => ∀ (σ : PS) (k : Nat) (rest : Txt), σ.at_ ≤ ts.length → σ.err = 0 → rem ts σ = a ++ rest → StopL lv rest → NoBr rest → 4 * a.length + 4 ≤ k → exprP ts n k lv σ = (x, adv σ a.length)
 | .cl lv x0, a, x => ∀ (σ : PS) (k : Nat) (rest : Txt), σ.at_ ≤ ts.length → σ.err = 0 → rem ts σ = a ++ rest → StopL lv rest → NoBr rest → 4 * a.length + 1 ≤ k → climbP ts n k lv x0 σ = (x, adv σ a.length)
 | .un, a, x => ∀ (σ : PS) (k : Nat) (rest : Txt), σ.at_ ≤ ts.length → σ.err = 0 → rem ts σ = a ++ rest → NoBr rest → 4 * a.length + 3 ≤ k → unaryP ts n k σ = (x, adv σ a.length)
 | .pl, a, x => ∀ (σ : PS) (k : Nat) (rest : Txt), σ.at_ ≤ ts.length → σ.err = 0 → rem ts σ = a ++ rest → NoBr rest → 4 * a.length + 1 ≤ k → placeP ts n k σ = (x, adv σ a.length)
theorem G.cl_rest {lv : Int} {x y : Nd} {b rest : Txt} (h : G (.cl lv x) b y) (hs : StopL lv rest) (hn : NoBr rest) (op : Int) (hl : lv ≤ level op) (hb : StopL (level op + 1) b) : StopL (level op + 1) (b ++ rest) ∧ NoBr (b ++ rest) := by
 cases b with
 | nil => exact ⟨fun t ht o ho => by have := hs t ht o ho; omega, hn⟩
 | cons t r =>
  refine ⟨fun u hu => hb u (by simpa using hu), fun u hu => ?_⟩; obtain ⟨o, ho, -⟩ := h.head t r rfl
  have : u = t := by simpa using hu.symm
  subst this; rintro rfl
  rw [bin_br] at ho; cases ho
theorem G.cl_nobr {lv : Int} {x y : Nd} {b rest : Txt} (h : G (.cl lv x) b y) (hn : NoBr rest) : NoBr (b ++ rest) := by
 cases b with
 | nil => exact hn
 | cons t r =>
  intro u hu; obtain ⟨o, ho, -⟩ := h.head t r rfl
  have : u = t := by simpa using hu.symm
  subst this; rintro rfl
  rw [bin_br] at ho; cases ho
theorem stop_lit {lv : Int} {t : List UInt8} {r : Txt} (h : binOf t = none) : StopL lv (t :: r) := fun u hu op ho => by
 have : u = t := by simpa using hu.symm
 subst this
 rw [h] at ho; cases ho
theorem nobr_lit {t : List UInt8} {r : Txt} (h : t ≠ [91]) : NoBr (t :: r) := fun u hu => by
 have : u = t := by simpa using hu.symm
 subst this; exact h
theorem G.reads (hd : DigitKinds ts) {nt : Nt} {a : Txt} {x : Nd} (h : G nt a x) : Reads ts n nt a x := by
 induction h with
 | @ex lv a b x y h1 h2 i1 i2 =>
  intro σ k rest hw he hr hs hn hk; obtain ⟨k, rfl⟩ : ∃ j, k = j + 1 := ⟨k - 1, by omega⟩; simp only [List.length_append] at hk ⊢; rw [List.append_assoc] at hr; rw [exprP, i1 σ k _ hw he hr (h2.cl_nobr hn) (by omega)]; simp only; rw [i2 (adv σ a.length) k rest (rem_wf hw hr) he (rem_adv hr) hs hn (by omega), adv_adv]
 | @cl0 lv x =>
  intro σ k rest hw he hr hs hn hk; obtain ⟨k, rfl⟩ : ∃ j, k = j + 1 := ⟨k - 1, by omega⟩; rw [List.nil_append] at hr; have hb := stop_bin hw he (hr.symm ▸ hs); rw [climbP]
  split
  · rfl
  · rename_i op ho
    rw [if_pos (hb op ho)]; rfl
 | @cl1 lv op t a b x y z h1 h2 h3 h4 h5 i3 i5 =>
  intro σ k rest hw he hr hs hn hk; obtain ⟨k, rfl⟩ : ∃ j, k = j + 1 := ⟨k - 1, by omega⟩; simp only [List.length_cons, List.length_append] at hk ⊢
  have hr' : rem ts σ = t :: (a ++ (b ++ rest)) := by rw [hr]; simp
  obtain ⟨s1, s2⟩ := h5.cl_rest hs hn op h2 h4; have hl := rem_lt hr'; rw [climbP, peek_cons hr' he, h1]; simp only; rw [if_neg (by omega), next_adv, i3 (adv σ 1) k (b ++ rest) hl he (rem_cons hr') s1 s2 (by omega)]; simp only; have hr2 := rem_cons hr'; rw [i5 (adv (adv σ 1) a.length) k rest (rem_wf hl hr2) he (rem_adv hr2) hs hn (by omega), adv_adv, adv_adv]
  exact Prod.ext rfl (congrArg (adv σ) (by omega))
 | @neg a x h1 i1 =>
  intro σ k rest hw he hr hn hk; obtain ⟨k, rfl⟩ : ∃ j, k = j + 1 := ⟨k - 1, by omega⟩; simp only [List.length_cons] at hk ⊢; have hr' : rem ts σ = [45] :: (a ++ rest) := hr; rw [unaryP, has_cons hr' he, if_pos (by decide), next_adv, i1 (adv σ 1) k rest (rem_lt hr') he (rem_cons hr') hn (by omega), adv_adv, Nat.add_comm 1]
 | @not a x h1 i1 =>
  intro σ k rest hw he hr hn hk; obtain ⟨k, rfl⟩ : ∃ j, k = j + 1 := ⟨k - 1, by omega⟩; simp only [List.length_cons] at hk ⊢; have hr' : rem ts σ = [33] :: (a ++ rest) := hr; rw [unaryP, has_cons hr' he, if_neg (by decide), has_cons hr' he, if_pos (by decide), next_adv, i1 (adv σ 1) k rest (rem_lt hr') he (rem_cons hr') hn (by omega), adv_adv, Nat.add_comm 1]
 | @num t h1 h2 =>
  intro σ k rest hw he hr hn hk; obtain ⟨k, rfl⟩ : ∃ j, k = j + 2 := ⟨k - 2, by simp at hk; omega⟩; have hr' : rem ts σ = t :: rest := hr; have hne : t ≠ [45] ∧ t ≠ [33] := ⟨by rintro rfl; revert h1; decide, by rintro rfl; revert h1; decide⟩; rw [unaryP, has_cons hr' he, if_neg (by simpa using hne.1), has_cons hr' he, if_neg (by simpa using hne.2), primaryP, if_pos ((kind_dig hd hr' he).2 h1)]
  have hnum : numberP ts n 0 9223372036854775807 σ = ((digitsVal t : Int), adv σ 1) := by
   unfold numberP
   rw [if_pos ((kind_dig hd hr' he).2 h1), peek_cons hr' he, if_pos ⟨h2, by omega, h2⟩]; rfl
  rw [hnum]; rfl
 | @top m h1 =>
  intro σ k rest hw he hr hn hk; obtain ⟨k, rfl⟩ : ∃ j, k = j + 2 := ⟨k - 2, by simp at hk; omega⟩; have hr1 : rem ts σ = [116, 111, 112] :: ([40] :: m :: [41] :: rest) := hr; have hr2 := rem_cons hr1; have hr3 := rem_cons hr2; have hr4 := rem_cons hr3; rw [unaryP, has_cons hr1 he, if_neg (by decide), has_cons hr1 he, if_neg (by decide), primaryP, if_neg (fun e => by have := (kind_dig hd hr1 he).1 e; revert this; decide), has_cons hr1 he, if_pos (by decide), next_adv, expect_cons hr2 he, name_cons hr3 he h1]; simp only
  rw [expect_cons hr4 he]; rfl
 | @size m h1 =>
  intro σ k rest hw he hr hn hk; obtain ⟨k, rfl⟩ : ∃ j, k = j + 2 := ⟨k - 2, by simp at hk; omega⟩; have hr1 : rem ts σ = [115, 105, 122, 101] :: ([40] :: m :: [41] :: rest) := hr; have hr2 := rem_cons hr1; have hr3 := rem_cons hr2; have hr4 := rem_cons hr3; rw [unaryP, has_cons hr1 he, if_neg (by decide), has_cons hr1 he, if_neg (by decide), primaryP, if_neg (fun e => by have := (kind_dig hd hr1 he).1 e; revert this; decide), has_cons hr1 he, if_neg (by decide), has_cons hr1 he, if_pos (by decide), next_adv, expect_cons hr2 he, name_cons hr3 he h1]; simp only
  rw [expect_cons hr4 he]; rfl
 | @par a x h1 i1 =>
  intro σ k rest hw he hr hn hk; simp only [List.length_cons, List.length_append, List.length_nil] at hk ⊢; obtain ⟨k, rfl⟩ : ∃ j, k = j + 2 := ⟨k - 2, by omega⟩
  have hr1 : rem ts σ = [40] :: (a ++ ([41] :: rest)) := by rw [hr]; simp
  have hr2 := rem_cons hr1; have hr3 := rem_adv hr2
  rw [unaryP, has_cons hr1 he, if_neg (by decide), has_cons hr1 he, if_neg (by decide), primaryP, if_neg (fun e => by have := (kind_dig hd hr1 he).1 e; revert this; decide), has_cons hr1 he, if_neg (by decide), has_cons hr1 he, if_neg (by decide), has_cons hr1 he, if_pos (by decide), next_adv,
   i1 (adv σ 1) k _ (rem_lt hr1) he hr2 (stop_lit (by decide)) (nobr_lit (by decide)) (by omega)]
  simp only; rw [expect_cons hr3 he, adv_adv, adv_adv]
  exact Prod.ext rfl (congrArg (adv σ) (by omega))
 | @place a x h1 i1 =>
  intro σ k rest hw he hr hn hk; obtain ⟨k, rfl⟩ : ∃ j, k = j + 2 := ⟨k - 2, by omega⟩; obtain ⟨m, r, rfl, hm⟩ := h1.pl_head; have hr1 : rem ts σ = m :: (r ++ rest) := hr; obtain ⟨n1, n2, n3, n4, n5, n6⟩ := name_not hm; rw [unaryP, has_cons hr1 he, if_neg (by simpa using n1), has_cons hr1 he, if_neg (by simpa using n2), primaryP, if_neg (fun e => by have := (kind_dig hd hr1 he).1 e; rw [n6] at this; cases this), has_cons hr1 he, if_neg (by simpa using n4), has_cons hr1 he, if_neg (by simpa using n5), has_cons hr1 he, if_neg (by simpa using n3)]
  exact i1 σ k rest hw he hr hn (by omega)
 | @var m h1 =>
  intro σ k rest hw he hr hn hk; obtain ⟨k, rfl⟩ : ∃ j, k = j + 1 := ⟨k - 1, by omega⟩; have hr1 : rem ts σ = m :: rest := hr; rw [placeP, name_cons hr1 he h1]; simp only
  rw [nobr_has (σ := adv σ 1) (rem_lt hr1) he ((rem_cons hr1).symm ▸ hn), if_neg (by decide)]; rfl
 | @item m a x h1 h2 i2 =>
  intro σ k rest hw he hr hn hk; simp only [List.length_cons, List.length_append, List.length_nil] at hk ⊢; obtain ⟨k, rfl⟩ : ∃ j, k = j + 1 := ⟨k - 1, by omega⟩
  have hr1 : rem ts σ = m :: ([91] :: (a ++ ([93] :: rest))) := by rw [hr]; simp
  have hr2 := rem_cons hr1; have hr3 := rem_cons hr2; have hr4 := rem_adv hr3; rw [placeP, name_cons hr1 he h1]; simp only; rw [has_cons hr2 he, if_pos (by decide), next_adv, i2 (adv (adv σ 1) 1) k _ (rem_lt hr2) he hr3 (stop_lit (by decide)) (nobr_lit (by decide)) (by omega)]; simp only; rw [expect_cons hr4 he, adv_adv, adv_adv, adv_adv]
  exact Prod.ext rfl (congrArg (adv σ) (by omega))
end
end Bk
namespace Bk
open Go
section
variable {ts : List Tok} {n : Int}
theorem stop_of {σ : PS} {lv : Int} (hw : σ.at_ ≤ ts.length) (he : σ.err = 0) (h : ∀ op, binOf (peekP ts σ).text = some op → level op < lv) : StopL lv (rem ts σ) := by
 intro t ht op ho
 cases hr : rem ts σ with
 | nil => rw [hr] at ht; cases ht
 | cons u b =>
  rw [hr] at ht
  have : t = u := by simpa using ht.symm
  subst this
  exact h op (by rw [peek_cons hr he]; exact ho)
def Seg (ts : List Tok) (σ σ' : PS) (a : Txt) : Prop := rem ts σ = a ++ rem ts σ'
theorem Seg.refl (σ : PS) : Seg ts σ σ [] := rfl
theorem Seg.trans {σ σ1 σ2 : PS} {a b : Txt} (h : Seg ts σ σ1 a) (k : Seg ts σ1 σ2 b) : Seg ts σ σ2 (a ++ b) := by unfold Seg at *; rw [h, k, List.append_assoc]
theorem seg_next {σ : PS} (h : In ts σ) : Seg ts σ (nextP σ) [(peekP ts σ).text] := rem_step h.2 h.1
theorem seg_has {σ : PS} {t : List UInt8} (hw : σ.at_ ≤ ts.length) (h : hasP ts σ t = true) (ht : t ≠ []) : Seg ts σ (nextP σ) [t] := by
 have := seg_next (has_in hw h ht); have e : (peekP ts σ).text = t := of_decide_eq_true h
 rwa [e] at this
theorem seg_expect {σ : PS} {t : List UInt8} (hw : σ.at_ ≤ ts.length) (ht : t ≠ []) (he : (expectP ts n σ t).err = 0) : Seg ts σ (expectP ts n σ t) [t] := by
 unfold expectP at *
 split at he
 · rename_i hh; rw [if_pos hh]; exact seg_has hw hh ht
 · exact absurd he unexp_err
theorem seg_name {σ : PS} (hw : σ.at_ ≤ ts.length) (he : (nameP ts n σ).2.err = 0) : Seg ts σ (nameP ts n σ).2 [(nameP ts n σ).1] ∧ isName (nameP ts n σ).1 = true := by
 unfold nameP at *
 split at he
 · rename_i hh; rw [if_pos hh]; exact ⟨seg_next (peek_in hw (Or.inl (isName_ne hh))), hh⟩
 · exact absurd he unexp_err
theorem seg_number (hd : DigitKinds ts) {least most : Int} {σ : PS} (hw : σ.at_ ≤ ts.length) (he : (numberP ts n least most σ).2.err = 0) :
 ∃ t, Seg ts σ (numberP ts n least most σ).2 [t] ∧ startsDigit t = true ∧ (numberP ts n least most σ).1 = (digitsVal t : Int) ∧ (digitsVal t : Int) ≤ 9223372036854775807 ∧ least ≤ (digitsVal t : Int) ∧ (digitsVal t : Int) ≤ most := by
 unfold numberP at *
 split at he
 · rename_i hk
   rw [if_pos hk]; have hin := peek_in hw (Or.inr (by rw [hk]; decide))
   split at he
   · rename_i hb
     rw [if_pos hb]
     exact ⟨_, seg_next hin, (hd _ (peek_mem hin.2 hin.1)).1 hk, rfl, hb.1, hb.2.1, hb.2.2⟩
   · exact absurd he (fail_err (by decide))
 · exact absurd he unexp_err
theorem expr_sound (hd : DigitKinds ts) (k : Nat) :
 (∀ lv σ, σ.at_ ≤ ts.length → 4 * mS ts σ + 4 ≤ k → (exprP ts n k lv σ).2.err = 0 → ∃ a, Seg ts σ (exprP ts n k lv σ).2 a ∧ G (.ex lv) a (exprP ts n k lv σ).1 ∧ StopL lv (rem ts (exprP ts n k lv σ).2)) ∧
 (∀ lv x σ, σ.at_ ≤ ts.length → 4 * mS ts σ + 1 ≤ k → (climbP ts n k lv x σ).2.err = 0 → ∃ a, Seg ts σ (climbP ts n k lv x σ).2 a ∧ G (.cl lv x) a (climbP ts n k lv x σ).1 ∧ StopL lv (rem ts (climbP ts n k lv x σ).2)) ∧
 (∀ σ, σ.at_ ≤ ts.length → 4 * mS ts σ + 3 ≤ k → (unaryP ts n k σ).2.err = 0 → ∃ a, Seg ts σ (unaryP ts n k σ).2 a ∧ G .un a (unaryP ts n k σ).1) ∧
 (∀ σ, σ.at_ ≤ ts.length → 4 * mS ts σ + 2 ≤ k → (primaryP ts n k σ).2.err = 0 → ∃ a, Seg ts σ (primaryP ts n k σ).2 a ∧ G .un a (primaryP ts n k σ).1) ∧
 (∀ σ, σ.at_ ≤ ts.length → 4 * mS ts σ + 1 ≤ k → (placeP ts n k σ).2.err = 0 → ∃ a, Seg ts σ (placeP ts n k σ).2 a ∧ G .pl a (placeP ts n k σ).1) := by
 induction k with
 | zero => refine ⟨fun _ _ _ h => ?_, fun _ _ _ _ h => ?_, fun _ _ h => ?_, fun _ _ h => ?_, fun _ _ h => ?_⟩ <;> omega
 | succ k ih =>
  obtain ⟨iE, iC, iU, iP, iL⟩ := ih; obtain ⟨vE, vC, vU, vP, vL⟩ := expr_inv (ts := ts) (n := n) k; refine ⟨fun lv σ h hk he => ?_, fun lv x σ h hk he => ?_, fun σ h hk he => ?_, fun σ h hk he => ?_, fun σ h hk he => ?_⟩
  · rw [exprP] at he ⊢
    have hu := vU σ h; have hc := vC lv (unaryP ts n k σ).1 (unaryP ts n k σ).2 hu.1.wf; have hm := mS_lt hu.1 (hu.2 (by omega)); have hue := hc.ok he; obtain ⟨a, sa, ga⟩ := iU σ h (by omega) hue; obtain ⟨b, sb, gb, st⟩ := iC lv _ _ hu.1.wf (by omega) he
    exact ⟨a ++ b, sa.trans sb, G.ex ga gb, st⟩
  · cases ho : binOf (peekP ts σ).text with
    | none =>
     have e : climbP ts n (k + 1) lv x σ = (x, σ) := by rw [climbP]; simp only [ho]
     rw [e] at he ⊢
     exact ⟨[], Seg.refl _, G.cl0, stop_of h he (fun op e => by rw [ho] at e; cases e)⟩
    | some op =>
     obtain ⟨hne, hop⟩ := binOf_ne ho; have hn := peek_in h (Or.inl hne); have hm := mS_next hn; have hp := mS_pos hn
     by_cases hl : level op < lv
     · have e : climbP ts n (k + 1) lv x σ = (x, σ) := by rw [climbP]; simp only [ho]; rw [if_pos hl]
       rw [e] at he ⊢
       exact ⟨[], Seg.refl _, G.cl0, stop_of h hn.1 (fun o e => by rw [ho] at e; cases e; exact hl)⟩
     · have e : climbP ts n (k + 1) lv x σ = climbP ts n k lv (.mk op 0 [] [x, (exprP ts n k (level op + 1) (nextP σ)).1]) (exprP ts n k (level op + 1) (nextP σ)).2 := by rw [climbP]; simp only [ho]; rw [if_neg hl]
       rw [e] at he ⊢; have h1 := next_le hn; have h2 := vE (level op + 1) (nextP σ) h1.wf; have h3 := vC lv (.mk op 0 [] [x, (exprP ts n k (level op + 1) (nextP σ)).1]) _ h2.1.wf; have hm2 := mS_le h2.1; obtain ⟨a, sa, ga, sta⟩ := iE (level op + 1) (nextP σ) h1.wf (by omega) (h3.ok he); obtain ⟨b, sb, gb, st⟩ := iC lv _ _ h2.1.wf (by omega) he; refine ⟨(peekP ts σ).text :: (a ++ b), (seg_next hn).trans (sa.trans sb), G.cl1 ho (by omega) ga ?_ gb, st⟩; intro t ht; refine sta t ?_; have sb' : rem ts (exprP ts n k (level op + 1) (nextP σ)).2 = b ++ _ := sb; rw [sb']
       cases b with
       | nil => cases ht
       | cons u r => simpa using ht
  · rw [unaryP] at he ⊢
    split at he
    · rename_i hh
      rw [if_pos hh]; have hn := has_in h hh (by decide); have hm := mS_next hn; obtain ⟨a, sa, ga⟩ := iU (nextP σ) (next_le hn).wf (by omega) he
      exact ⟨_, (seg_has h hh (by decide)).trans sa, G.neg ga⟩
    · rename_i hh
      rw [if_neg hh]
      split at he
      · rename_i hh
        rw [if_pos hh]; have hn := has_in h hh (by decide); have hm := mS_next hn; obtain ⟨a, sa, ga⟩ := iU (nextP σ) (next_le hn).wf (by omega) he
        exact ⟨_, (seg_has h hh (by decide)).trans sa, G.not ga⟩
      · rename_i hh
        rw [if_neg hh]
        exact iP σ h (by omega) he
  · rw [primaryP] at he ⊢
    split at he
    · rename_i hh
      rw [if_pos hh]; obtain ⟨t, st, h1, h2, h3, -⟩ := seg_number hd h he; refine ⟨[t], st, ?_⟩; simp only [h2]
      exact G.num h1 h3
    · rename_i hh
      rw [if_neg hh]
      split at he
      · rename_i hh
        rw [if_pos hh]; have hn := has_in h hh (by decide); have h1 := next_le hn; have h2 := expect_le (n := n) (t := [40]) h1.wf (by decide); have h3 := name_le (n := n) h2.wf; have h4 := expect_le (n := n) (t := [41]) h3.wf (by decide); have e3 := h4.ok he; obtain ⟨s3, hm⟩ := seg_name h2.wf e3
        exact ⟨_, (((seg_has h hh (by decide)).trans (seg_expect h1.wf (by decide) (h3.ok e3))).trans s3).trans (seg_expect h3.wf (by decide) he), G.top hm⟩
      · rename_i hh
        rw [if_neg hh]
        split at he
        · rename_i hh
          rw [if_pos hh]; have hn := has_in h hh (by decide); have h1 := next_le hn; have h2 := expect_le (n := n) (t := [40]) h1.wf (by decide); have h3 := name_le (n := n) h2.wf; have h4 := expect_le (n := n) (t := [41]) h3.wf (by decide); have e3 := h4.ok he; obtain ⟨s3, hm⟩ := seg_name h2.wf e3
          exact ⟨_, (((seg_has h hh (by decide)).trans (seg_expect h1.wf (by decide) (h3.ok e3))).trans s3).trans (seg_expect h3.wf (by decide) he), G.size hm⟩
        · rename_i hh
          rw [if_neg hh]
          split at he
          · rename_i hh
            rw [if_pos hh]; have hn := has_in h hh (by decide); have hm := mS_next hn; have h1 := next_le hn; have h2 := (vE 1 (nextP σ) h1.wf).1; have h3 := expect_le (n := n) (t := [41]) h2.wf (by decide); obtain ⟨a, sa, ga, -⟩ := iE 1 (nextP σ) h1.wf (by omega) (h3.ok he)
            exact ⟨_, (seg_has h hh (by decide)).trans (sa.trans (seg_expect h2.wf (by decide) he)), G.par ga⟩
          · rename_i hh
            rw [if_neg hh]; obtain ⟨a, sa, ga⟩ := iL σ h (by omega) he
            exact ⟨a, sa, G.place ga⟩
  · rw [placeP] at he ⊢
    have h0 := name_le (n := n) h
    split at he
    · rename_i hh
      rw [if_pos hh]; have hn := has_in h0.wf hh (by decide); have hm := mS_next hn; have hm0 := mS_le h0; have h1 := next_le hn; have h2 := (vE 1 _ h1.wf).1; have h3 := expect_le (n := n) (t := [93]) h2.wf (by decide); obtain ⟨s0, hnm⟩ := seg_name h hn.1; obtain ⟨a, sa, ga, -⟩ := iE 1 _ h1.wf (by omega) (h3.ok he)
      exact ⟨_, s0.trans ((seg_has h0.wf hh (by decide)).trans (sa.trans (seg_expect h2.wf (by decide) he))), G.item hnm ga⟩
    · rename_i hh
      rw [if_neg hh]; obtain ⟨s0, hnm⟩ := seg_name h he
      exact ⟨_, s0, G.var hnm⟩
end
theorem G.valid {nt : Nt} {a : Txt} {x : Nd} (h : G nt a x) : match nt with
 | .cl _ y => y.isExpr = true → x.isExpr = true
 | .pl => x.isPlace = true
 | _ => x.isExpr = true := by
 induction h with
 | ex _ _ i1 i2 => exact i2 i1
 | cl0 => exact fun h => h
 | @cl1 lv op t a b x y z h1 h2 h3 h4 h5 i3 i5 =>
  intro hx; refine i5 ?_; obtain ⟨-, h8, h23, -⟩ := binOf_ne h1
  unfold Nd.isExpr
  rw [if_neg (by omega), if_neg (by omega), if_neg (by omega), if_neg (by omega), if_pos (by omega)]; simp only at i3 hx
  simp [plain, hx, i3]
 | neg _ i => unfold Nd.isExpr; simp only at i; simp [plain, i]
 | not _ i => unfold Nd.isExpr; simp only at i; simp [plain, i]
 | num => unfold Nd.isExpr; simp
 | top h => unfold Nd.isExpr; simp [named, h]
 | size h => unfold Nd.isExpr; simp [named, h]
 | par _ i => exact i
 | place _ i => simp only [Nd.isPlace, Bool.and_eq_true] at i; exact i.2
 | var h => simp [Nd.isPlace, Nd.isExpr, Nd.kind, named, h]
 | item h _ i => simp only at i; simp [Nd.isPlace, Nd.isExpr, Nd.kind, named, h, i]
end Bk
namespace Bk
open Go
inductive NtS where
 | st : NtS
 | bl : NtS
 | ls : NtS
def varN (m : List UInt8) : Nd := .mk 2 0 m []
def argT (l : Txt) : Txt := l.flatMap fun m => [[44], m]
def stackKw : List (List UInt8 × Int) := [([112, 117, 115, 104], 44), ([112, 111, 112], 45)]
def tapeKw : List (List UInt8 × Int) := [([114, 101, 97, 100], 46), ([117, 110, 114, 101, 97, 100], 47), ([119, 114, 105, 116, 101], 48), ([117, 110, 119, 114, 105, 116, 101], 49)]
def callKw : List (List UInt8 × Int) := [([99, 97, 108, 108], 50), ([117, 110, 99, 97, 108, 108], 51)]
def branchKw : List (List UInt8 × Int × List UInt8 × List UInt8) := [([105, 102], 52, [101, 108, 115, 101], [102, 105]), ([102, 114, 111, 109], 53, [108, 111, 111, 112], [117, 110, 116, 105, 108])]
inductive GS : NtS → Txt → List Nd → Prop where
 | stack {kw m : List UInt8} {kd : Int} {a : Txt} {x : Nd} : (kw, kd) ∈ stackKw → G .pl a x → isName m = true → GS .st (kw :: (a ++ [[44], m])) [.mk kd 0 m [x]]
 | tape {kw : List UInt8} {kd : Int} {a : Txt} {x : Nd} : (kw, kd) ∈ tapeKw → G .pl a x → GS .st (kw :: a) [.mk kd 0 [] [x]]
 | call0 {kw m : List UInt8} {kd : Int} : (kw, kd) ∈ callKw → isName m = true → GS .st [kw, m, [40], [41]] [.mk kd 0 m []]
 | call1 {kw m u : List UInt8} {kd : Int} {l : Txt} : (kw, kd) ∈ callKw → isName m = true → isName u = true → (∀ v ∈ l, isName v = true) → l.length ≤ 7 → GS .st (kw :: m :: [40] :: u :: (argT l ++ [[41]])) [.mk kd 0 m ((u :: l).map varN)]
 | branch {kw mid last : List UInt8} {kd : Int} {a b c d : Txt} {x y z u : Nd} : (kw, kd, mid, last) ∈ branchKw → G (.ex 1) a x → GS .bl b [y] → GS .bl c [z] → G (.ex 1) d u → GS .st (kw :: (a ++ (b ++ (mid :: (c ++ (last :: d)))))) [.mk kd 0 [] [x, y, z, u]]
 | lstack {m : List UInt8} {b : Txt} {x : Nd} : isName m = true → GS .bl b [x] → GS .st ([108, 111, 99, 97, 108] :: [115, 116, 97, 99, 107] :: m :: b) [.mk 55 0 m [x]]
 | local_ {m : List UInt8} {a b d : Txt} {x y z : Nd} : isName m = true → G (.ex 1) a x → GS .bl b [y] → G (.ex 1) d z → GS .st ([108, 111, 99, 97, 108] :: m :: [61] :: (a ++ (b ++ ([100, 101, 108, 111, 99, 97, 108] :: d)))) [.mk 54 0 m [x, y, z]]
 | upd {t : List UInt8} {a b : Txt} {x y : Nd} : G .pl a x → updKind t ≠ 0 → G (.ex 1) b y → GS .st (a ++ t :: b) [.mk (updKind t) 0 [] [x, y]]
 | swap {a b : Txt} {x y : Nd} : G .pl a x → G .pl b y → GS .st (a ++ [60, 61, 62] :: b) [.mk 43 0 [] [x, y]]
 | bl {a : Txt} {l : List Nd} : GS .ls a l → GS .bl ([123] :: (a ++ [[125]])) [.mk 57 0 [] l]
 | ls0 : GS .ls [] []
 | ls1 {a b : Txt} {x : Nd} {l : List Nd} : GS .st a [x] → GS .ls b l → GS .ls (a ++ [59] :: b) (x :: l)
theorem name_kw {m : List UInt8} (h : isName m = true) {t : List UInt8} (ht : keyword t = true) : m ≠ t := by
 rintro rfl; simp only [isName, Bool.and_eq_true, Bool.not_eq_true'] at h; rw [ht] at h
 cases h.2
theorem name_sign {m : List UInt8} (h : isName m = true) {t : List UInt8} (ht : isName t = false) : m ≠ t := by
 rintro rfl; rw [h] at ht; cases ht
section
variable {ts : List Tok} {n : Int}
theorem args_read (k : Nat) : ∀ (l acc0 : Txt) (acc : List Nd) (σ : PS) (rest : Txt), σ.at_ ≤ ts.length → σ.err = 0 → rem ts σ = argT l ++ rest → (∀ t ∈ rest.head?, t ≠ [44]) → (∀ v ∈ l, isName v = true) → acc.length + l.length ≤ 8 → l.length + 1 ≤ k →
 argsP ts n k acc σ = (acc ++ l.map varN, adv σ (2 * l.length)) := by
 induction k with
 | zero => intro l _ acc σ rest _ _ _ _ _ _ h; omega
 | succ k ih =>
  intro l acc0 acc σ rest hw he hr hc hl h8 hk; rw [argsP]
  cases l with
  | nil =>
   have hh : hasP ts σ [44] = false := by
    rw [has_rem hw he, hr]
    cases rest with
    | nil => rfl
    | cons t r => exact decide_eq_false (hc t rfl)
   rw [if_neg (by rw [hh]; decide)]
   simp [adv]
  | cons m l =>
   have hr1 : rem ts σ = [44] :: (m :: (argT l ++ rest)) := by rw [hr]; simp [argT]
   have hr2 := rem_cons hr1; have hm := hl m (by simp); rw [if_pos (by rw [has_cons hr1 he]; decide), if_neg (by simp only [List.length_cons] at h8; omega)]
   unfold argP
   rw [next_adv, name_cons hr2 he hm]; simp only; simp only [List.length_cons] at h8 hk; have hl2 := rem_lt hr2; rw [ih l [] _ (adv (adv σ 1) 1) rest hl2 he (rem_cons hr2) hc (fun v hv => hl v (by simp [hv])) (by simp only [List.length_append, List.length_cons, List.length_nil]; omega) (by omega), adv_adv, adv_adv]; refine Prod.ext ?_ (congrArg (adv σ) (by simp only [List.length_cons]; omega))
   simp [varN]
theorem GS.st_head {a : Txt} {l : List Nd} (h : GS .st a l) : ∃ t r, a = t :: r ∧ t ≠ [125] ∧ t ≠ [] := by
 cases h with
 | stack h => refine ⟨_, _, rfl, ?_⟩; simp only [stackKw, List.mem_cons, Prod.mk.injEq, List.not_mem_nil, or_false] at h; rcases h with ⟨rfl, -⟩ | ⟨rfl, -⟩ <;> decide
 | tape h => refine ⟨_, _, rfl, ?_⟩; simp only [tapeKw, List.mem_cons, Prod.mk.injEq, List.not_mem_nil, or_false] at h; rcases h with ⟨rfl, -⟩ | ⟨rfl, -⟩ | ⟨rfl, -⟩ | ⟨rfl, -⟩ <;> decide
 | call0 h => refine ⟨_, _, rfl, ?_⟩; simp only [callKw, List.mem_cons, Prod.mk.injEq, List.not_mem_nil, or_false] at h; rcases h with ⟨rfl, -⟩ | ⟨rfl, -⟩ <;> decide
 | call1 h => refine ⟨_, _, rfl, ?_⟩; simp only [callKw, List.mem_cons, Prod.mk.injEq, List.not_mem_nil, or_false] at h; rcases h with ⟨rfl, -⟩ | ⟨rfl, -⟩ <;> decide
 | branch h => refine ⟨_, _, rfl, ?_⟩; simp only [branchKw, List.mem_cons, Prod.mk.injEq, List.not_mem_nil, or_false] at h; rcases h with ⟨rfl, -⟩ | ⟨rfl, -⟩ <;> decide
 | lstack => exact ⟨_, _, rfl, by decide⟩
 | local_ => exact ⟨_, _, rfl, by decide⟩
 | upd h => obtain ⟨m, r, rfl, hm⟩ := h.pl_head; exact ⟨m, _, rfl, name_sign hm (by decide), isName_ne hm⟩
 | swap h => obtain ⟨m, r, rfl, hm⟩ := h.pl_head; exact ⟨m, _, rfl, name_sign hm (by decide), isName_ne hm⟩
theorem GS.bl_head {a : Txt} {l : List Nd} (h : GS .bl a l) : ∃ r, a = [123] :: r := by
 cases h with
 | bl _ => exact ⟨_, rfl⟩
def ReadsS (ts : List Tok) (n : Int) : NtS → Txt → List Nd → Prop
 | .st, a, l => ∀ (σ : PS) (k : Nat) (rest : Txt), σ.at_ ≤ ts.length → σ.err = 0 → rem ts σ = a ++ ([59] :: rest) → 4 * a.length + 6 ≤ k → ([(stmtP ts n k σ).1], (stmtP ts n k σ).2) = (l, adv σ a.length)
 | .bl, a, l => ∀ (σ : PS) (k : Nat) (rest : Txt), σ.at_ ≤ ts.length → σ.err = 0 → rem ts σ = a ++ rest → 4 * a.length + 4 ≤ k → ([(blockP ts n k σ).1], (blockP ts n k σ).2) = (l, adv σ a.length)
 | .ls, a, l => (∀ (σ : PS) (k : Nat) (acc : List Nd) (rest : Txt), σ.at_ ≤ ts.length → σ.err = 0 → rem ts σ = a ++ ([125] :: rest) → 4 * a.length + 7 ≤ k → stmtsP ts n k acc σ = (acc ++ l, adv σ (a.length + 1))) ∧
  (∀ (σ : PS) (k : Nat) (acc : List Nd), σ.at_ ≤ ts.length → σ.err = 0 → rem ts σ = a → 4 * a.length + 7 ≤ k → linesP ts n k acc σ = (acc ++ l, adv σ a.length))
theorem pair_one {x : Nd} {σ σ' : PS} {p : Nd × PS} (h : p = (x, σ')) : ([p.1], p.2) = ([x], σ') := by rw [h]
theorem one_pair {x : Nd} {σ' : PS} {p : Nd × PS} (h : ([p.1], p.2) = ([x], σ')) : p = (x, σ') := by
 simp only [Prod.mk.injEq, List.cons.injEq, and_true] at h
 exact Prod.ext h.1 h.2
theorem G.reads_ex (hd : DigitKinds ts) {lv : Int} {a : Txt} {x : Nd} (h : G (.ex lv) a x) {σ : PS} {k : Nat} {rest : Txt} (hw : σ.at_ ≤ ts.length) (he : σ.err = 0) (hr : rem ts σ = a ++ rest) (hs : StopL lv rest) (hb : NoBr rest) (hk : 4 * a.length + 4 ≤ k) : exprP ts n k lv σ = (x, adv σ a.length) := h.reads hd σ k rest hw he hr hs hb hk
theorem G.reads_pl (hd : DigitKinds ts) {a : Txt} {x : Nd} (h : G .pl a x) {σ : PS} {k : Nat} {rest : Txt} (hw : σ.at_ ≤ ts.length) (he : σ.err = 0) (hr : rem ts σ = a ++ rest) (hb : NoBr rest) (hk : 4 * a.length + 1 ≤ k) : placeP ts n k σ = (x, adv σ a.length) := h.reads hd σ k rest hw he hr hb hk
theorem upd_not {t : List UInt8} (h : updKind t ≠ 0) : t ≠ [91] ∧ t ≠ [60, 61, 62] ∧ binOf t = none := by
 unfold updKind at h
 by_cases h1 : t = [43, 61]
 · subst h1; decide
 by_cases h2 : t = [45, 61]
 · subst h2; decide
 by_cases h3 : t = [94, 61]
 · subst h3; decide
 by_cases h4 : t = [58, 61]
 · subst h4; decide
 simp [h1, h2, h3, h4] at h
theorem upd_peek {σ : PS} {m : List UInt8} {b : Txt} (hr : rem ts σ = m :: b) (he : σ.err = 0) (hm : isName m = true) (k : Nat) : stmtP ts n (k + 1) σ = updateP ts n k σ := by
 rw [stmtP, peek_cons hr he, if_neg (name_kw hm (by decide)), if_neg (name_kw hm (by decide)), if_neg (name_kw hm (by decide)), if_neg (name_kw hm (by decide)), if_neg (name_kw hm (by decide)), if_neg (name_kw hm (by decide)), if_neg (name_kw hm (by decide)), if_neg (name_kw hm (by decide)), if_neg (name_kw hm (by decide)), if_neg (name_kw hm (by decide)), if_neg (name_kw hm (by decide))]
end
end Bk
namespace Bk
open Go
section
variable {ts : List Tok} {n : Int}
theorem rem_lt1 {σ : PS} {t : List UInt8} {b : Txt} (h : rem ts σ = t :: b) : (adv σ 1).at_ ≤ ts.length := rem_lt h
theorem argT_len (l : Txt) : (argT l).length = 2 * l.length := by
 induction l with
 | nil => rfl
 | cons x r ih =>
  have e : argT (x :: r) = [44] :: x :: argT r := rfl; rw [e]
  simp only [List.length_cons, ih]; omega
theorem stmt_stack {σ : PS} {kw : List UInt8} {kd : Int} (h : (kw, kd) ∈ stackKw) (hp : (peekP ts σ).text = kw) (k : Nat) : stmtP ts n (k + 1) σ = stackP ts n k kd σ := by
 simp only [stackKw, List.mem_cons, Prod.mk.injEq, List.not_mem_nil, or_false] at h
 rcases h with ⟨rfl, rfl⟩ | ⟨rfl, rfl⟩
 · rw [stmtP, hp, if_pos rfl]
 · rw [stmtP, hp, if_neg (by decide), if_pos rfl]
theorem stmt_tape {σ : PS} {kw : List UInt8} {kd : Int} (h : (kw, kd) ∈ tapeKw) (hp : (peekP ts σ).text = kw) (k : Nat) : stmtP ts n (k + 1) σ = tapeP ts n k kd σ := by
 simp only [tapeKw, List.mem_cons, Prod.mk.injEq, List.not_mem_nil, or_false] at h
 rcases h with ⟨rfl, rfl⟩ | ⟨rfl, rfl⟩ | ⟨rfl, rfl⟩ | ⟨rfl, rfl⟩
 · rw [stmtP, hp, if_neg (by decide), if_neg (by decide), if_pos rfl]
 · rw [stmtP, hp, if_neg (by decide), if_neg (by decide), if_neg (by decide), if_pos rfl]
 · rw [stmtP, hp, if_neg (by decide), if_neg (by decide), if_neg (by decide), if_neg (by decide), if_pos rfl]
 · rw [stmtP, hp, if_neg (by decide), if_neg (by decide), if_neg (by decide), if_neg (by decide), if_neg (by decide), if_pos rfl]
theorem stmt_call {σ : PS} {kw : List UInt8} {kd : Int} (h : (kw, kd) ∈ callKw) (hp : (peekP ts σ).text = kw) (k : Nat) : stmtP ts n (k + 1) σ = callP ts n k kd σ := by
 simp only [callKw, List.mem_cons, Prod.mk.injEq, List.not_mem_nil, or_false] at h
 rcases h with ⟨rfl, rfl⟩ | ⟨rfl, rfl⟩
 · rw [stmtP, hp, if_neg (by decide), if_neg (by decide), if_neg (by decide), if_neg (by decide), if_neg (by decide), if_neg (by decide), if_pos rfl]
 · rw [stmtP, hp, if_neg (by decide), if_neg (by decide), if_neg (by decide), if_neg (by decide), if_neg (by decide), if_neg (by decide), if_neg (by decide), if_pos rfl]
theorem stmt_branch {σ : PS} {kw mid last : List UInt8} {kd : Int} (h : (kw, kd, mid, last) ∈ branchKw) (hp : (peekP ts σ).text = kw) (k : Nat) : stmtP ts n (k + 1) σ = branchesP ts n k kd mid last σ := by
 simp only [branchKw, List.mem_cons, Prod.mk.injEq, List.not_mem_nil, or_false] at h
 rcases h with ⟨rfl, rfl, rfl, rfl⟩ | ⟨rfl, rfl, rfl, rfl⟩
 · rw [stmtP, hp, if_neg (by decide), if_neg (by decide), if_neg (by decide), if_neg (by decide), if_neg (by decide), if_neg (by decide), if_neg (by decide), if_neg (by decide), if_pos rfl]
 · rw [stmtP, hp, if_neg (by decide), if_neg (by decide), if_neg (by decide), if_neg (by decide), if_neg (by decide), if_neg (by decide), if_neg (by decide), if_neg (by decide), if_neg (by decide), if_pos rfl]
theorem stmt_local {σ : PS} (hp : (peekP ts σ).text = [108, 111, 99, 97, 108]) (k : Nat) : stmtP ts n (k + 1) σ = localP ts n k σ := by
 rw [stmtP, hp, if_neg (by decide), if_neg (by decide), if_neg (by decide), if_neg (by decide), if_neg (by decide), if_neg (by decide), if_neg (by decide), if_neg (by decide), if_neg (by decide), if_neg (by decide), if_pos rfl]
theorem branch_kw {kw mid last : List UInt8} {kd : Int} (h : (kw, kd, mid, last) ∈ branchKw) : mid ≠ [] ∧ last ≠ [] := by
 simp only [branchKw, List.mem_cons, Prod.mk.injEq, List.not_mem_nil, or_false] at h
 rcases h with ⟨rfl, rfl, rfl, rfl⟩ | ⟨rfl, rfl, rfl, rfl⟩ <;> decide
theorem GS.reads (hd : DigitKinds ts) {nt : NtS} {a : Txt} {l : List Nd} (h : GS nt a l) : ReadsS ts n nt a l := by
 induction h with
 | @stack kw m kd a x h1 h2 h3 =>
  intro σ k rest hw he hr hk; simp only [List.length_cons, List.length_append, List.length_nil] at hk ⊢; obtain ⟨k, rfl⟩ : ∃ j, k = j + 1 := ⟨k - 1, by omega⟩
  have hr1 : rem ts σ = kw :: (a ++ ([44] :: m :: ([59] :: rest))) := by rw [hr]; simp
  have hr2 := rem_cons hr1; have hr3 := rem_adv hr2; have hr4 := rem_cons hr3; refine pair_one (σ := σ) ?_; rw [stmt_stack h1 (peek_cons hr1 he)]
  unfold stackP
  simp only; rw [next_adv, h2.reads_pl hd (rem_lt1 hr1) he hr2 (nobr_lit (by decide)) (by omega)]; simp only; rw [expect_cons hr3 he, name_cons hr4 he h3]; simp only [adv_adv]
  exact Prod.ext rfl (congrArg (adv σ) (by omega))
 | @tape kw kd a x h1 h2 =>
  intro σ k rest hw he hr hk; simp only [List.length_cons] at hk ⊢; obtain ⟨k, rfl⟩ : ∃ j, k = j + 1 := ⟨k - 1, by omega⟩; have hr1 : rem ts σ = kw :: (a ++ ([59] :: rest)) := hr; have hr2 := rem_cons hr1; refine pair_one (σ := σ) ?_; rw [stmt_tape h1 (peek_cons hr1 he)]
  unfold tapeP
  rw [next_adv, h2.reads_pl hd (rem_lt1 hr1) he hr2 (nobr_lit (by decide)) (by omega)]; simp only [adv_adv]
  exact Prod.ext rfl (congrArg (adv σ) (by omega))
 | @call0 kw m kd h1 h2 =>
  intro σ k rest hw he hr hk; simp only [List.length_cons, List.length_nil] at hk ⊢; obtain ⟨k, rfl⟩ : ∃ j, k = j + 1 := ⟨k - 1, by omega⟩; have hr1 : rem ts σ = kw :: (m :: ([40] :: ([41] :: ([59] :: rest)))) := hr; have hr2 := rem_cons hr1; have hr3 := rem_cons hr2; have hr4 := rem_cons hr3; refine pair_one (σ := σ) ?_; rw [stmt_call h1 (peek_cons hr1 he)]
  unfold callP
  simp only; rw [next_adv, name_cons hr2 he h2]; simp only; rw [expect_cons hr3 he, has_cons hr4 he, if_pos (by decide)]; simp only [next_adv, adv_adv]
 | @call1 kw m u kd l h1 h2 h3 h4 h5 =>
  intro σ k rest hw he hr hk; have hla := argT_len l; simp only [List.length_cons, List.length_append, List.length_nil] at hk ⊢; obtain ⟨k, rfl⟩ : ∃ j, k = j + 1 := ⟨k - 1, by omega⟩
  have hr1 : rem ts σ = kw :: (m :: ([40] :: (u :: (argT l ++ ([41] :: ([59] :: rest)))))) := by rw [hr]; simp
  have hr2 := rem_cons hr1; have hr3 := rem_cons hr2; have hr4 := rem_cons hr3; have hr5 := rem_cons hr4; have hr6 := rem_adv hr5; refine pair_one (σ := σ) ?_; rw [stmt_call h1 (peek_cons hr1 he)]
  unfold callP argP
  simp only; rw [next_adv, name_cons hr2 he h2]; simp only; rw [expect_cons hr3 he, has_cons hr4 he, if_neg (by simpa using name_sign h3 (by decide)), name_cons hr4 he h3]; simp only; rw [args_read k l [] _ _ _ (rem_lt1 hr4) he hr5 (by simp) h4 (by simp only [List.length_cons, List.length_nil]; omega) (by omega)]; simp only; rw [hla] at hr6; rw [expect_cons hr6 he]; simp only [adv_adv]
  exact Prod.ext (by simp [varN]) (congrArg (adv σ) (by omega))
 | @branch kw mid last kd a b c d x y z u h1 h2 h3 h4 h5 i3 i4 =>
  intro σ k rest hw he hr hk; simp only [List.length_cons, List.length_append] at hk ⊢; obtain ⟨k, rfl⟩ : ∃ j, k = j + 2 := ⟨k - 2, by omega⟩
  have hr1 : rem ts σ = kw :: (a ++ (b ++ (mid :: (c ++ (last :: (d ++ ([59] :: rest))))))) := by rw [hr]; simp
  have hr2 := rem_cons hr1; have hr3 := rem_adv hr2; have hr4 := rem_adv hr3; have hr5 := rem_cons hr4; have hr6 := rem_adv hr5; have hr7 := rem_cons hr6; obtain ⟨b', hb'⟩ := h3.bl_head; have w2 := rem_lt1 hr1; have w3 := rem_wf w2 hr2; have w5 := rem_lt1 hr4; have w7 := rem_lt1 hr6; refine pair_one (σ := σ) ?_; rw [stmt_branch h1 (peek_cons hr1 he), branchesP]; (try simp only); rw [next_adv, h2.reads_ex hd w2 he hr2 (by rw [hb']; exact stop_lit (by decide)) (by rw [hb']; exact nobr_lit (by decide)) (by omega)]; simp only; rw [one_pair (i3 (adv (adv σ 1) a.length) k _ w3 he hr3 (by omega))]; simp only; rw [expect_cons hr4 he, one_pair (i4 _ k _ w5 he hr5 (by omega))]; simp only; rw [expect_cons hr6 he, h5.reads_ex hd w7 he hr7 (stop_lit (by decide)) (nobr_lit (by decide)) (by omega)]; simp only [adv_adv]
  exact Prod.ext rfl (congrArg (adv σ) (by omega))
 | @lstack m b x h1 h2 i2 =>
  intro σ k rest hw he hr hk; simp only [List.length_cons] at hk ⊢; obtain ⟨k, rfl⟩ : ∃ j, k = j + 2 := ⟨k - 2, by omega⟩; have hr1 : rem ts σ = [108, 111, 99, 97, 108] :: ([115, 116, 97, 99, 107] :: (m :: (b ++ ([59] :: rest)))) := hr; have hr2 := rem_cons hr1; have hr3 := rem_cons hr2; have hr4 := rem_cons hr3; refine pair_one (σ := σ) ?_; rw [stmt_local (peek_cons hr1 he), localP]; simp only; rw [next_adv, if_pos (by rw [has_cons hr2 he]; decide), next_adv, name_cons hr3 he h1]; simp only; rw [one_pair (i2 (adv (adv (adv σ 1) 1) 1) k _ (rem_lt1 hr3) he hr4 (by omega))]; simp only [adv_adv]
  exact Prod.ext rfl (congrArg (adv σ) (by omega))
 | @local_ m a b d x y z h1 h2 h3 h4 i3 =>
  intro σ k rest hw he hr hk; simp only [List.length_cons, List.length_append] at hk ⊢; obtain ⟨k, rfl⟩ : ∃ j, k = j + 2 := ⟨k - 2, by omega⟩
  have hr1 : rem ts σ = [108, 111, 99, 97, 108] :: (m :: ([61] :: (a ++ (b ++ ([100, 101, 108, 111, 99, 97, 108] :: (d ++ ([59] :: rest))))))) := by rw [hr]; simp
  have hr2 := rem_cons hr1; have hr3 := rem_cons hr2; have hr4 := rem_cons hr3; have hr5 := rem_adv hr4; have hr6 := rem_adv hr5; have hr7 := rem_cons hr6; obtain ⟨b', hb'⟩ := h3.bl_head; have w4 := rem_lt1 hr3; have w5 := rem_wf w4 hr4; have w7 := rem_lt1 hr6; refine pair_one (σ := σ) ?_; rw [stmt_local (peek_cons hr1 he), localP]; simp only; rw [next_adv, if_neg (by rw [has_cons hr2 he]; simpa using name_kw h1 (by decide)), name_cons hr2 he h1]; simp only; rw [expect_cons hr3 he, h2.reads_ex hd w4 he hr4 (by rw [hb']; exact stop_lit (by decide)) (by rw [hb']; exact nobr_lit (by decide)) (by omega)]; simp only; rw [one_pair (i3 _ k _ w5 he hr5 (by omega))]; simp only; rw [expect_cons hr6 he, h4.reads_ex hd w7 he hr7 (stop_lit (by decide)) (nobr_lit (by decide)) (by omega)]; simp only [adv_adv]
  exact Prod.ext rfl (congrArg (adv σ) (by omega))
 | @upd t a b x y h1 h2 h3 =>
  intro σ k rest hw he hr hk; simp only [List.length_cons, List.length_append] at hk ⊢; obtain ⟨k, rfl⟩ : ∃ j, k = j + 1 := ⟨k - 1, by omega⟩; obtain ⟨n1, n2, n3⟩ := upd_not h2
  have hr1 : rem ts σ = a ++ (t :: (b ++ ([59] :: rest))) := by rw [hr]; simp
  have hr2 := rem_adv hr1; have hr3 := rem_cons hr2; obtain ⟨m, r, rfl, hm⟩ := h1.pl_head; refine pair_one (σ := σ) ?_; rw [upd_peek hr1 he hm]
  unfold updateP
  simp only; rw [h1.reads_pl hd hw he hr1 (nobr_lit n1) (by omega)]; simp only; rw [if_neg (by rw [has_cons hr2 he]; simpa using n2), peek_cons hr2 he, if_neg h2, next_adv, h3.reads_ex hd (rem_lt1 hr2) he hr3 (stop_lit (by decide)) (nobr_lit (by decide)) (by omega)]; simp only [adv_adv]
  exact Prod.ext rfl (congrArg (adv σ) (by omega))
 | @swap a b x y h1 h2 =>
  intro σ k rest hw he hr hk; simp only [List.length_cons, List.length_append] at hk ⊢; obtain ⟨k, rfl⟩ : ∃ j, k = j + 1 := ⟨k - 1, by omega⟩
  have hr1 : rem ts σ = a ++ ([60, 61, 62] :: (b ++ ([59] :: rest))) := by rw [hr]; simp
  have hr2 := rem_adv hr1; have hr3 := rem_cons hr2; obtain ⟨m, r, rfl, hm⟩ := h1.pl_head; refine pair_one (σ := σ) ?_; rw [upd_peek hr1 he hm]
  unfold updateP
  simp only; rw [h1.reads_pl hd hw he hr1 (nobr_lit (by decide)) (by omega)]; simp only; rw [if_pos (by rw [has_cons hr2 he]; decide), next_adv, h2.reads_pl hd (rem_lt1 hr2) he hr3 (nobr_lit (by decide)) (by omega)]; simp only [adv_adv]
  exact Prod.ext rfl (congrArg (adv σ) (by omega))
 | @bl a l h1 i1 =>
  intro σ k rest hw he hr hk; simp only [List.length_cons, List.length_append, List.length_nil] at hk ⊢; obtain ⟨k, rfl⟩ : ∃ j, k = j + 1 := ⟨k - 1, by omega⟩
  have hr1 : rem ts σ = [123] :: (a ++ ([125] :: rest)) := by rw [hr]; simp
  have hr2 := rem_cons hr1; refine pair_one (σ := σ) ?_; rw [blockP]; (try simp only); rw [expect_cons hr1 he, i1.1 (adv σ 1) k [] rest (rem_lt1 hr1) he hr2 (by omega)]; simp only [List.nil_append, adv_adv]
  exact Prod.ext rfl (congrArg (adv σ) (by omega))
 | ls0 =>
  refine ⟨fun σ k acc rest hw he hr hk => ?_, fun σ k acc hw he hr hk => ?_⟩
  · obtain ⟨k, rfl⟩ : ∃ j, k = j + 1 := ⟨k - 1, by omega⟩
    have hr1 : rem ts σ = [125] :: rest := hr; rw [stmtsP, if_neg (fun h => h he), has_cons hr1 he, if_pos (by decide)]
    simp [next_adv]
  · obtain ⟨k, rfl⟩ : ∃ j, k = j + 1 := ⟨k - 1, by omega⟩
    have := rem_len (ts := ts) σ; rw [hr] at this; rw [linesP, if_neg (fun h => by simp at this; omega)]
    simp [adv]
 | @ls1 a b x l h1 h2 i1 i2 =>
  obtain ⟨t, r, rfl, ht, -⟩ := h1.st_head; refine ⟨fun σ k acc rest hw he hr hk => ?_, fun σ k acc hw he hr hk => ?_⟩
  · simp only [List.length_append, List.length_cons] at hk ⊢
    obtain ⟨k, rfl⟩ : ∃ j, k = j + 1 := ⟨k - 1, by omega⟩
    have hr1 : rem ts σ = (t :: r) ++ ([59] :: (b ++ ([125] :: rest))) := by rw [hr]; simp
    have hr2 := rem_adv hr1; have hr3 := rem_cons hr2; rw [stmtsP, if_neg (fun h => h he), has_cons hr1 he, if_neg (by simpa using ht), one_pair (i1 σ k _ hw he hr1 (by simp only [List.length_cons]; omega))]; simp only; rw [expect_cons hr2 he, i2.1 _ k _ rest (rem_lt1 hr2) he hr3 (by omega)]; simp only [adv_adv, List.length_cons]
    exact Prod.ext (by simp) (congrArg (adv σ) (by omega))
  · simp only [List.length_append, List.length_cons] at hk ⊢
    obtain ⟨k, rfl⟩ : ∃ j, k = j + 1 := ⟨k - 1, by omega⟩; have hr1 : rem ts σ = (t :: r) ++ ([59] :: b) := hr; have hr2 := rem_adv hr1; have hr3 := rem_cons hr2; rw [linesP, if_pos ⟨he, rem_lt hr1⟩, one_pair (i1 σ k _ hw he hr1 (by simp only [List.length_cons]; omega))]; simp only; rw [expect_cons hr2 he, i2.2 _ k _ (rem_lt1 hr2) he hr3 (by omega)]; simp only [adv_adv, List.length_cons]
    exact Prod.ext (by simp) (congrArg (adv σ) (by omega))
end
end Bk
namespace Bk
open Go
section
variable {ts : List Tok} {n : Int} {I : PS → Prop}
structure Clo (ts : List Tok) (n : Int) (I : PS → Prop) : Prop where
 next : ∀ σ, In ts σ → I σ → I (nextP σ)
 unexp : ∀ σ, σ.at_ ≤ ts.length → I σ → I (unexpP ts n σ)
 full : ∀ σ, In ts σ → I σ → I (failP σ (peekP ts σ).pos 5)
 range : ∀ σ, In ts σ → I σ → I (failP (nextP σ) (peekP ts σ).pos 2)
theorem Clo.expect (C : Clo ts n I) {σ : PS} {t : List UInt8} (h : σ.at_ ≤ ts.length) (ht : t ≠ []) (i : I σ) : I (expectP ts n σ t) := by
 unfold expectP
 split
 · rename_i hh; exact C.next _ (has_in h hh ht) i
 · exact C.unexp _ h i
theorem Clo.name (C : Clo ts n I) {σ : PS} (h : σ.at_ ≤ ts.length) (i : I σ) : I (nameP ts n σ).2 := by
 unfold nameP
 split
 · rename_i hh; exact C.next _ (peek_in h (Or.inl (isName_ne hh))) i
 · exact C.unexp _ h i
theorem Clo.number (C : Clo ts n I) {a b : Int} {σ : PS} (h : σ.at_ ≤ ts.length) (i : I σ) : I (numberP ts n a b σ).2 := by
 unfold numberP
 split
 · rename_i hh
   have hn := peek_in h (Or.inr (by rw [hh]; decide))
   split
   · exact C.next _ hn i
   · exact C.range _ hn i
 · exact C.unexp _ h i
theorem Clo.exprs (C : Clo ts n I) (k : Nat) : (∀ lv σ, σ.at_ ≤ ts.length → I σ → I (exprP ts n k lv σ).2) ∧ (∀ lv x σ, σ.at_ ≤ ts.length → I σ → I (climbP ts n k lv x σ).2) ∧
 (∀ σ, σ.at_ ≤ ts.length → I σ → I (unaryP ts n k σ).2) ∧ (∀ σ, σ.at_ ≤ ts.length → I σ → I (primaryP ts n k σ).2) ∧ (∀ σ, σ.at_ ≤ ts.length → I σ → I (placeP ts n k σ).2) := by
 induction k with
 | zero =>
  refine ⟨fun lv σ h i => ?_, fun lv x σ h i => ?_, fun σ h i => ?_, fun σ h i => ?_, fun σ h i => ?_⟩
  · rw [exprP]; exact i
  · rw [climbP]; exact i
  · rw [unaryP]; exact i
  · rw [primaryP]; exact i
  · rw [placeP]; exact i
 | succ k ih =>
  obtain ⟨iE, iC, iU, iP, iL⟩ := ih; obtain ⟨vE, vC, vU, vP, vL⟩ := expr_inv (ts := ts) (n := n) k; refine ⟨fun lv σ h i => ?_, fun lv x σ h i => ?_, fun σ h i => ?_, fun σ h i => ?_, fun σ h i => ?_⟩
  · rw [exprP]
    exact iC _ _ _ (vU σ h).1.wf (iU _ h i)
  · rw [climbP]
    split
    · exact i
    · rename_i op hop
      obtain ⟨hne, -⟩ := binOf_ne hop; have hn := peek_in h (Or.inl hne)
      split
      · exact i
      · have h1 := next_le hn
        have h2 := vE (level op + 1) (nextP σ) h1.wf
        exact iC _ _ _ h2.1.wf (iE _ _ h1.wf (C.next _ hn i))
  · rw [unaryP]
    split
    · rename_i hh
      have hn := has_in h hh (by decide)
      exact iU _ (next_le hn).wf (C.next _ hn i)
    · split
      · rename_i hh
        have hn := has_in h hh (by decide)
        exact iU _ (next_le hn).wf (C.next _ hn i)
      · exact iP _ h i
  · rw [primaryP]
    split
    · exact C.number h i
    · split
      · rename_i hh
        have hn := has_in h hh (by decide); have h1 := next_le hn; have h2 := expect_le (n := n) (t := [40]) h1.wf (by decide); have h3 := name_le (n := n) h2.wf
        exact C.expect h3.wf (by decide) (C.name h2.wf (C.expect h1.wf (by decide) (C.next _ hn i)))
      · split
        · rename_i hh
          have hn := has_in h hh (by decide); have h1 := next_le hn; have h2 := expect_le (n := n) (t := [40]) h1.wf (by decide); have h3 := name_le (n := n) h2.wf
          exact C.expect h3.wf (by decide) (C.name h2.wf (C.expect h1.wf (by decide) (C.next _ hn i)))
        · split
          · rename_i hh
            have hn := has_in h hh (by decide); have h1 := next_le hn
            exact C.expect (vE 1 _ h1.wf).1.wf (by decide) (iE _ _ h1.wf (C.next _ hn i))
          · exact iL _ h i
  · rw [placeP]
    have h0 := name_le (n := n) h
    split
    · rename_i hh
      have hn := has_in h0.wf hh (by decide); have h1 := next_le hn
      exact C.expect (vE 1 _ h1.wf).1.wf (by decide) (iE _ _ h1.wf (C.next _ hn (C.name h i)))
    · exact C.name h i
theorem Clo.expr (C : Clo ts n I) {k : Nat} {lv : Int} {σ : PS} (h : σ.at_ ≤ ts.length) (i : I σ) : I (exprP ts n k lv σ).2 := (C.exprs k).1 lv σ h i
theorem Clo.place (C : Clo ts n I) {k : Nat} {σ : PS} (h : σ.at_ ≤ ts.length) (i : I σ) : I (placeP ts n k σ).2 := (C.exprs k).2.2.2.2 σ h i
theorem place_le' {k : Nat} {σ : PS} (h : σ.at_ ≤ ts.length) : Le ts σ (placeP ts n k σ).2 := ((expr_inv (ts := ts) (n := n) k).2.2.2.2 σ h).1
theorem Clo.args (C : Clo ts n I) (k : Nat) : ∀ acc σ, σ.at_ ≤ ts.length → I σ → I (argsP ts n k acc σ).2 := by
 induction k with
 | zero => intro acc σ h i; rw [argsP]; exact i
 | succ k ih =>
  intro acc σ h i; rw [argsP]
  split
  · rename_i hh
    have hn := has_in h hh (by decide); have h1 := next_le hn; have i1 := C.next _ hn i
    split
    · rename_i h8
      have l2 := fail_le (ts := ts) h1.wf (peekP ts (nextP σ)).pos 5
      exact ih _ _ (name_le (n := n) l2.wf).wf (C.name l2.wf (C.full _ (peek_in h1.wf (Or.inl (isName_ne h8.2))) i1))
    · exact ih _ _ (name_le (n := n) h1.wf).wf (C.name h1.wf i1)
  · exact i
theorem args_le' (k : Nat) : ∀ acc σ, σ.at_ ≤ ts.length → Le ts σ (argsP ts n k acc σ).2 := by
 induction k with
 | zero => intro acc σ h; rw [argsP]; exact Le.refl h
 | succ k ih =>
  intro acc σ h; rw [argsP]
  split
  · rename_i hh
    have h1 := next_le (has_in h hh (by decide))
    split
    · have l2 := h1.trans (fail_le (ts := ts) h1.wf (peekP ts (nextP σ)).pos 5)
      have l3 := l2.trans (name_le (n := n) l2.wf)
      exact l3.trans (ih _ _ l3.wf)
    · have l3 := h1.trans (name_le (n := n) h1.wf)
      exact l3.trans (ih _ _ l3.wf)
  · exact Le.refl h
theorem Clo.call (C : Clo ts n I) {k : Nat} {kind : Int} {σ : PS} (h : In ts σ) (i : I σ) : I (callP ts n k kind σ).2 := by
 unfold callP
 have h1 := next_le h; have h2 := name_le (n := n) h1.wf; have h3 := expect_le (n := n) (t := [40]) h2.wf (by decide); have i3 := C.expect (t := [40]) h2.wf (by decide) (C.name h1.wf (C.next _ h i)); simp only
 split
 · rename_i hh; exact C.next _ (has_in h3.wf hh (by decide)) i3
 · have h4 := name_le (n := n) h3.wf
   exact C.expect (args_le' k _ _ h4.wf).wf (by decide) (C.args k _ _ h4.wf (C.name h3.wf i3))
theorem Clo.update (C : Clo ts n I) {k : Nat} {σ : PS} (h : σ.at_ ≤ ts.length) (i : I σ) : I (updateP ts n k σ).2 := by
 unfold updateP
 have h1 := place_le' (n := n) (k := k) h; have i1 := C.place (k := k) h i; simp only
 split
 · rename_i hh
   have hn := has_in h1.wf hh (by decide)
   exact C.place (next_le hn).wf (C.next _ hn i1)
 · split
   · exact C.unexp _ h1.wf i1
   · rename_i hh
     have hn := peek_in h1.wf (Or.inl (upd_ne hh))
     exact C.expr (next_le hn).wf (C.next _ hn i1)
theorem Clo.stack (C : Clo ts n I) {k : Nat} {kind : Int} {σ : PS} (h : In ts σ) (i : I σ) : I (stackP ts n k kind σ).2 := by
 unfold stackP
 have h1 := next_le h; have h2 := place_le' (n := n) (k := k) h1.wf; have h3 := expect_le (n := n) (t := [44]) h2.wf (by decide)
 exact C.name h3.wf (C.expect h2.wf (by decide) (C.place h1.wf (C.next _ h i)))
theorem Clo.tape (C : Clo ts n I) {k : Nat} {kind : Int} {σ : PS} (h : In ts σ) (i : I σ) : I (tapeP ts n k kind σ).2 := by
 unfold tapeP
 exact C.place (next_le h).wf (C.next _ h i)
theorem Clo.stmts (C : Clo ts n I) (k : Nat) : (∀ σ, σ.at_ ≤ ts.length → I σ → I (stmtP ts n k σ).2) ∧ (∀ kind mid last σ, In ts σ → mid ≠ [] → last ≠ [] → I σ → I (branchesP ts n k kind mid last σ).2) ∧ (∀ σ, In ts σ → I σ → I (localP ts n k σ).2) ∧
 (∀ σ, σ.at_ ≤ ts.length → I σ → I (blockP ts n k σ).2) ∧ (∀ acc σ, σ.at_ ≤ ts.length → I σ → I (stmtsP ts n k acc σ).2) := by
 induction k with
 | zero =>
  refine ⟨fun σ h i => ?_, fun kind mid last σ h _ _ i => ?_, fun σ h i => ?_, fun σ h i => ?_, fun acc σ h i => ?_⟩
  · rw [stmtP]; exact i
  · rw [branchesP]; exact i
  · rw [localP]; exact i
  · rw [blockP]; exact i
  · rw [stmtsP]; exact i
 | succ k ih =>
  obtain ⟨iS, iB, iL, iK, iT⟩ := ih; obtain ⟨vS, vB, vL, vK, vT⟩ := stmt_inv (ts := ts) (n := n) k; refine ⟨fun σ h i => ?_, fun kind mid last σ hn hmid hlast i => ?_, fun σ hn i => ?_, fun σ h i => ?_, fun acc σ h i => ?_⟩
  · rw [stmtP]
    have hin : ∀ t : List UInt8, t ≠ [] → (peekP ts σ).text = t → In ts σ := fun t ht e => peek_in h (Or.inl (by rw [e]; exact ht))
    by_cases c : (peekP ts σ).text = [112, 117, 115, 104]
    · rw [if_pos c]; exact C.stack (hin _ (by decide) c) i
    rw [if_neg c]; clear c
    by_cases c : (peekP ts σ).text = [112, 111, 112]
    · rw [if_pos c]; exact C.stack (hin _ (by decide) c) i
    rw [if_neg c]; clear c
    by_cases c : (peekP ts σ).text = [114, 101, 97, 100]
    · rw [if_pos c]; exact C.tape (hin _ (by decide) c) i
    rw [if_neg c]; clear c
    by_cases c : (peekP ts σ).text = [117, 110, 114, 101, 97, 100]
    · rw [if_pos c]; exact C.tape (hin _ (by decide) c) i
    rw [if_neg c]; clear c
    by_cases c : (peekP ts σ).text = [119, 114, 105, 116, 101]
    · rw [if_pos c]; exact C.tape (hin _ (by decide) c) i
    rw [if_neg c]; clear c
    by_cases c : (peekP ts σ).text = [117, 110, 119, 114, 105, 116, 101]
    · rw [if_pos c]; exact C.tape (hin _ (by decide) c) i
    rw [if_neg c]; clear c
    by_cases c : (peekP ts σ).text = [99, 97, 108, 108]
    · rw [if_pos c]; exact C.call (hin _ (by decide) c) i
    rw [if_neg c]; clear c
    by_cases c : (peekP ts σ).text = [117, 110, 99, 97, 108, 108]
    · rw [if_pos c]; exact C.call (hin _ (by decide) c) i
    rw [if_neg c]; clear c
    by_cases c : (peekP ts σ).text = [105, 102]
    · rw [if_pos c]; exact iB _ _ _ _ (hin _ (by decide) c) (by decide) (by decide) i
    rw [if_neg c]; clear c
    by_cases c : (peekP ts σ).text = [102, 114, 111, 109]
    · rw [if_pos c]; exact iB _ _ _ _ (hin _ (by decide) c) (by decide) (by decide) i
    rw [if_neg c]; clear c
    by_cases c : (peekP ts σ).text = [108, 111, 99, 97, 108]
    · rw [if_pos c]; exact iL _ (hin _ (by decide) c) i
    rw [if_neg c]; clear c
    exact C.update h i
  · rw [branchesP]
    have h1 := next_le hn; have h2 := expr_le (n := n) (k := k) (lv := 1) h1.wf; have h3 := vK _ h2.wf; have h4 := expect_le (n := n) (t := mid) h3.wf hmid; have h5 := vK _ h4.wf; have h6 := expect_le (n := n) (t := last) h5.wf hlast
    exact C.expr h6.wf (C.expect h5.wf hlast (iK _ h4.wf (C.expect h3.wf hmid (iK _ h2.wf (C.expr h1.wf (C.next _ hn i))))))
  · rw [localP]
    have h1 := next_le hn; have i1 := C.next _ hn i
    split
    · rename_i hh
      have hn2 := has_in h1.wf hh (by decide); have h2 := next_le hn2
      exact iK _ (name_le (n := n) h2.wf).wf (C.name h2.wf (C.next _ hn2 i1))
    · have h2 := name_le (n := n) h1.wf
      have h3 := expect_le (n := n) (t := [61]) h2.wf (by decide); have h4 := expr_le (n := n) (k := k) (lv := 1) h3.wf; have h5 := vK _ h4.wf; have h6 := expect_le (n := n) (t := [100, 101, 108, 111, 99, 97, 108]) h5.wf (by decide)
      exact C.expr h6.wf (C.expect h5.wf (by decide) (iK _ h4.wf (C.expr h3.wf (C.expect h2.wf (by decide) (C.name h1.wf i1)))))
  · rw [blockP]
    exact iT _ _ (expect_le (n := n) (t := [123]) h (by decide)).wf (C.expect h (by decide) i)
  · rw [stmtsP]
    split
    · exact i
    · split
      · rename_i hh; exact C.next _ (has_in h hh (by decide)) i
      · have h1 := vS _ h
        exact iT _ _ (expect_le (n := n) (t := [59]) h1.wf (by decide)).wf (C.expect h1.wf (by decide) (iS _ h i))
theorem Clo.decl (C : Clo ts n I) {σ : PS} (h : σ.at_ ≤ ts.length) (i : I σ) : I (declP ts n σ).2 := by
 unfold declP
 split
 · rename_i hh
   have hn := has_in h hh (by decide)
   exact C.name (next_le hn).wf (C.next _ hn i)
 · split
   · rename_i hh
     have hn := has_in h hh (by decide)
     exact C.name (next_le hn).wf (C.next _ hn i)
   · split
     · rename_i hh
       have hn := has_in h hh (by decide); have h1 := next_le hn; have h2 := name_le (n := n) h1.wf; have h3 := expect_le (n := n) (t := [91]) h2.wf (by decide); have h4 := number_le (n := n) (a := 1) (b := 16) h3.wf
       exact C.expect h4.wf (by decide) (C.number h3.wf (C.expect h2.wf (by decide) (C.name h1.wf (C.next _ hn i))))
     · exact C.unexp _ h i
theorem atDecl_in {σ : PS} (h : σ.at_ ≤ ts.length) (hd : atDeclP ts σ = true) : In ts σ := by
 simp only [atDeclP, Bool.or_eq_true] at hd
 rcases hd with (c | c) | c <;> exact has_in h c (by decide)
theorem Clo.params (C : Clo ts n I) (k : Nat) : ∀ acc σ, σ.at_ ≤ ts.length → I σ → I (paramsP ts n k acc σ).2 := by
 induction k with
 | zero => intro acc σ h i; rw [paramsP]; exact i
 | succ k ih =>
  intro acc σ h i; rw [paramsP]
  split
  · rename_i hh
    have hn := has_in h hh (by decide); have h1 := next_le hn; have i1 := C.next _ hn i; simp only
    split
    · rename_i h8
      have l2 := fail_le (ts := ts) h1.wf (peekP ts (nextP σ)).pos 5
      exact ih _ _ (decl_le (n := n) l2.wf).wf (C.decl l2.wf (C.full _ (atDecl_in h1.wf h8.2) i1))
    · exact ih _ _ (decl_le (n := n) h1.wf).wf (C.decl h1.wf i1)
  · exact i
structure CloL (ts : List Tok) (n : Int) (I : PS → Prop) : Prop extends Clo ts n I where
 lim : ∀ σ x τ, σ.at_ ≤ ts.length → I σ → I τ → I (limitP x (peekP ts σ).pos τ)
theorem CloL.body (C : CloL ts n I) {k : Nat} {σ : PS} (h : σ.at_ ≤ ts.length) (i : I σ) : I (bodyP ts n k σ).2 := by
 unfold bodyP
 exact C.lim _ _ _ h i ((C.toClo.stmts k).2.2.2.1 _ h i)
theorem CloL.proc (C : CloL ts n I) {k : Nat} {σ : PS} (h : σ.at_ ≤ ts.length) (i : I σ) : I (procP ts n k σ).2 := by
 rw [procP_at]; have h1 := expect_le (n := n) (t := [112, 114, 111, 99]) h (by decide); have h2 := name_le (n := n) h1.wf; have h3 := expect_le (n := n) (t := [40]) h2.wf (by decide); have i3 := C.expect (t := [40]) h2.wf (by decide) (C.name h1.wf (C.expect (t := [112, 114, 111, 99]) h (by decide) i)); have h4 := procQ_le (n := n) (k := k) h3.wf; refine C.body h4.wf ?_
 unfold procQ
 split
 · rename_i hh; exact C.next _ (has_in h3.wf hh (by decide)) i3
 · have h5 := decl_le (n := n) h3.wf
   exact C.expect (params_le (n := n) k _ _ h5.wf).wf (by decide) (C.params k _ _ h5.wf (C.decl h3.wf i3))
theorem CloL.vars (C : CloL ts n I) (k : Nat) : ∀ acc σ, σ.at_ ≤ ts.length → I σ → I (varsP ts n k acc σ).2 := by
 induction k with
 | zero => intro acc σ h i; rw [varsP]; exact i
 | succ k ih =>
  intro acc σ h i; rw [varsP]
  split
  · rename_i hh
    simp only
    split
    · have l2 := fail_le (ts := ts) h (peekP ts σ).pos 5
      exact ih _ _ (decl_le (n := n) l2.wf).wf (C.decl l2.wf (C.full _ (atDecl_in h hh) i))
    · exact ih _ _ (decl_le (n := n) h).wf (C.decl h i)
  · exact i
theorem CloL.procs (C : CloL ts n I) (k : Nat) : ∀ acc σ, σ.at_ ≤ ts.length → I σ → I (procsP ts n k acc σ).2 := by
 induction k with
 | zero => intro acc σ h i; rw [procsP]; exact i
 | succ k ih =>
  intro acc σ h i; rw [procsP]
  split
  · rename_i hh
    simp only
    split
    · have l2 := fail_le (ts := ts) h (peekP ts σ).pos 5
      exact ih _ _ (procP_le (n := n) (k := k) l2.wf).wf (C.proc l2.wf (C.full _ (has_in h hh (by decide)) i))
    · exact ih _ _ (procP_le (n := n) (k := k) h).wf (C.proc h i)
  · exact i
theorem CloL.program (C : CloL ts n I) {k : Nat} {σ : PS} (h : σ.at_ ≤ ts.length) (i : I σ) : I (programP ts n k σ).2 := by
 unfold programP
 have h1 := vars_le (n := n) k [] σ h; have h2 := procs_le (n := n) k [] _ h1.wf
 exact C.body (expect_le (n := n) (t := [109, 97, 105, 110]) h2.wf (by decide)).wf (C.expect h2.wf (by decide) (C.procs k _ _ h1.wf (C.vars k _ _ h i)))
theorem Clo.finish (C : Clo ts n I) {σ : PS} (h : σ.at_ ≤ ts.length) (i : I σ) : I (finishP ts n σ) := by
 unfold finishP
 split
 · exact C.unexp _ h i
 · exact i
end
end Bk
namespace Bk
open Go
section
variable {ts : List Tok} {n : Int}
theorem args_sound (k : Nat) : ∀ (acc : List Nd) (σ : PS), σ.at_ ≤ ts.length → acc.length ≤ 8 → (argsP ts n k acc σ).2.err = 0 → ∃ l : Txt, Seg ts σ (argsP ts n k acc σ).2 (argT l) ∧ (∀ v ∈ l, isName v = true) ∧ (argsP ts n k acc σ).1 = acc ++ l.map varN ∧ acc.length + l.length ≤ 8 := by
 induction k with
 | zero => intro acc σ h h8 he; rw [argsP]; exact ⟨[], Seg.refl _, by simp, by simp, by simpa using h8⟩
 | succ k ih =>
  intro acc σ h h8 he; rw [argsP] at he ⊢
  split at he
  · rename_i hh
    rw [if_pos hh]; have hn := has_in h hh (by decide); have h1 := next_le hn
    by_cases c : acc.length = 8 ∧ isName (peekP ts (nextP σ)).text = true
    · rw [if_pos c] at he
      exfalso
      have l2 := fail_le (ts := ts) h1.wf (peekP ts (nextP σ)).pos 5; have l3 := name_le (n := n) l2.wf
      exact absurd ((l3.trans (args_le' k _ _ l3.wf)).ok he) (fail_err (by decide))
    · rw [if_neg c] at he ⊢
      have l3 := name_le (n := n) h1.wf; have e3 := (args_le' (n := n) k (acc ++ [(argP ts n (nextP σ)).1]) _ l3.wf).ok he; obtain ⟨s3, hm⟩ := seg_name h1.wf e3
      have hlt : acc.length < 8 := by
       rcases Nat.lt_or_ge acc.length 8 with h' | h'
       · exact h'
       · exfalso
         refine c ⟨by omega, ?_⟩
         unfold nameP at hm
         split at hm
         · assumption
         · have hm' : isName [] = true := hm
           exact absurd hm' (by decide)
      obtain ⟨l, sl, hl, hr, h88⟩ := ih (acc ++ [(argP ts n (nextP σ)).1]) (argP ts n (nextP σ)).2 l3.wf (by simp only [List.length_append, List.length_cons, List.length_nil]; omega) he; refine ⟨(nameP ts n (nextP σ)).1 :: l, ?_, ?_, ?_, ?_⟩
      · exact ((seg_has h hh (by decide)).trans s3).trans sl
      · intro v hv
        rcases List.mem_cons.1 hv with rfl | hv
        · exact hm
        · exact hl v hv
      · rw [hr]; simp [argP, varN]
      · simp only [List.length_append, List.length_cons, List.length_nil] at h88 ⊢; omega
  · rename_i hh
    rw [if_neg hh]
    exact ⟨[], Seg.refl _, by simp, by simp, by simpa using h8⟩
theorem call_sound {k : Nat} {kw : List UInt8} {kd : Int} {σ : PS} (hkw : (kw, kd) ∈ callKw) (hp : (peekP ts σ).text = kw) (h : In ts σ) (he : (callP ts n k kd σ).2.err = 0) : ∃ a, Seg ts σ (callP ts n k kd σ).2 a ∧ GS .st a [(callP ts n k kd σ).1] := by
 have h1 := next_le h; have h2 := name_le (n := n) h1.wf; have h3 := expect_le (n := n) (t := [40]) h2.wf (by decide); have s0 := seg_next h; rw [hp] at s0
 unfold callP at he ⊢
 simp only at he ⊢
 split at he
 · rename_i hh
   rw [if_pos hh]; have e3 := (next_le (has_in h3.wf hh (by decide))).ok he; obtain ⟨s1, hm⟩ := seg_name h1.wf (h3.ok e3)
   exact ⟨_, ((s0.trans s1).trans (seg_expect h2.wf (by decide) e3)).trans (seg_has h3.wf hh (by decide)), GS.call0 hkw hm⟩
 · rename_i hh
   rw [if_neg hh]; have h4 := name_le (n := n) h3.wf; have h5 := args_le' (n := n) k [(argP ts n (expectP ts n (nameP ts n (nextP σ)).2 [40])).1] _ h4.wf; have e5 := (expect_le (n := n) (t := [41]) h5.wf (by decide)).ok he; have e4 := h5.ok e5; have e3 := h4.ok e4; obtain ⟨s1, hm⟩ := seg_name h1.wf (h3.ok e3); obtain ⟨s4, hu⟩ := seg_name h3.wf e4; obtain ⟨l, sl, hl, hr, h8⟩ := args_sound (n := n) k _ _ h4.wf (by simp) e5; refine ⟨_, s0.trans (s1.trans ((seg_expect h2.wf (by decide) e3).trans (s4.trans (sl.trans (seg_expect h5.wf (by decide) he))))), ?_⟩; have hr' : (argsP ts n k [(argP ts n (expectP ts n (nameP ts n (nextP σ)).2 [40])).1] (argP ts n (expectP ts n (nameP ts n (nextP σ)).2 [40])).2).1 = ((nameP ts n (expectP ts n (nameP ts n (nextP σ)).2 [40])).1 :: l).map varN := hr.trans (by simp [argP, varN]); rw [hr']
   exact GS.call1 hkw hm hu hl (by simp only [List.length_cons, List.length_nil] at h8; omega)
theorem place_sound (hd : DigitKinds ts) {k : Nat} {σ : PS} (h : σ.at_ ≤ ts.length) (hk : 4 * mS ts σ + 1 ≤ k) (he : (placeP ts n k σ).2.err = 0) : ∃ a, Seg ts σ (placeP ts n k σ).2 a ∧ G .pl a (placeP ts n k σ).1 := (expr_sound hd k).2.2.2.2 σ h hk he
theorem ex_sound (hd : DigitKinds ts) {k : Nat} {lv : Int} {σ : PS} (h : σ.at_ ≤ ts.length) (hk : 4 * mS ts σ + 4 ≤ k) (he : (exprP ts n k lv σ).2.err = 0) : ∃ a, Seg ts σ (exprP ts n k lv σ).2 a ∧ G (.ex lv) a (exprP ts n k lv σ).1 := by
 obtain ⟨a, h1, h2, -⟩ := (expr_sound hd k).1 lv σ h hk he
 exact ⟨a, h1, h2⟩
theorem update_sound (hd : DigitKinds ts) {k : Nat} {σ : PS} (h : σ.at_ ≤ ts.length) (hk : 4 * mS ts σ + 1 ≤ k) (he : (updateP ts n k σ).2.err = 0) : ∃ a, Seg ts σ (updateP ts n k σ).2 a ∧ GS .st a [(updateP ts n k σ).1] := by
 have h1 := place_le' (n := n) (k := k) h; have m1 := mS_le h1
 unfold updateP at he ⊢
 simp only at he ⊢
 split at he
 · rename_i hh
   rw [if_pos hh]; have hn := has_in h1.wf hh (by decide); have m2 := mS_next hn; obtain ⟨a, sa, ga⟩ := place_sound hd h hk hn.1; obtain ⟨b, sb, gb⟩ := place_sound hd (next_le hn).wf (by omega) he
   exact ⟨_, sa.trans ((seg_has h1.wf hh (by decide)).trans sb), GS.swap ga gb⟩
 · rename_i hh
   rw [if_neg hh]
   split at he
   · exact absurd he unexp_err
   · rename_i hu
     rw [if_neg hu]; have hn := peek_in h1.wf (Or.inl (upd_ne hu)); have m2 := mS_next hn; obtain ⟨a, sa, ga⟩ := place_sound hd h hk hn.1; obtain ⟨b, sb, gb⟩ := ex_sound hd (next_le hn).wf (by omega) he
     exact ⟨_, sa.trans ((seg_next hn).trans sb), GS.upd ga hu gb⟩
theorem mS_dec {σ σ' : PS} (h : Le ts σ σ') (k : Lt σ σ') (e : σ'.err = 0) : mS ts σ' + 1 ≤ mS ts σ := by
 have h0 := h.ok e; have h1 := k e; have h2 := h.wf
 unfold mS
 rw [if_pos e, if_pos h0]; omega
theorem mS_expr {k : Nat} {lv : Int} {σ : PS} (h : σ.at_ ≤ ts.length) (hk : 4 ≤ k) : mS ts (exprP ts n k lv σ).2 + 1 ≤ mS ts σ ∨ mS ts (exprP ts n k lv σ).2 = 0 := by
 have := (expr_inv (ts := ts) (n := n) k).1 lv σ h
 exact mS_lt this.1 (this.2 hk)
theorem mS_expect {σ : PS} {t : List UInt8} (h : σ.at_ ≤ ts.length) (ht : t ≠ []) : mS ts (expectP ts n σ t) + 1 ≤ mS ts σ ∨ mS ts (expectP ts n σ t) = 0 := mS_lt (expect_le h ht) expect_lt
theorem stmt_sound (hd : DigitKinds ts) (k : Nat) :
 (∀ σ, σ.at_ ≤ ts.length → 4 * mS ts σ + 6 ≤ k → (stmtP ts n k σ).2.err = 0 → ∃ a, Seg ts σ (stmtP ts n k σ).2 a ∧ GS .st a [(stmtP ts n k σ).1]) ∧
 (∀ kw kd mid last σ, (kw, kd, mid, last) ∈ branchKw → (peekP ts σ).text = kw → In ts σ → 4 * mS ts σ + 5 ≤ k → (branchesP ts n k kd mid last σ).2.err = 0 → ∃ a, Seg ts σ (branchesP ts n k kd mid last σ).2 a ∧ GS .st a [(branchesP ts n k kd mid last σ).1]) ∧
 (∀ σ, (peekP ts σ).text = [108, 111, 99, 97, 108] → In ts σ → 4 * mS ts σ + 5 ≤ k → (localP ts n k σ).2.err = 0 → ∃ a, Seg ts σ (localP ts n k σ).2 a ∧ GS .st a [(localP ts n k σ).1]) ∧
 (∀ σ, σ.at_ ≤ ts.length → 4 * mS ts σ + 8 ≤ k → (blockP ts n k σ).2.err = 0 → ∃ a, Seg ts σ (blockP ts n k σ).2 a ∧ GS .bl a [(blockP ts n k σ).1]) ∧
 (∀ acc σ, σ.at_ ≤ ts.length → 4 * mS ts σ + 7 ≤ k → (stmtsP ts n k acc σ).2.err = 0 → ∃ a l, Seg ts σ (stmtsP ts n k acc σ).2 (a ++ [[125]]) ∧ GS .ls a l ∧ (stmtsP ts n k acc σ).1 = acc ++ l) := by
 induction k with
 | zero => refine ⟨fun _ _ h => ?_, fun _ _ _ _ _ _ _ _ h => ?_, fun _ _ _ h => ?_, fun _ _ h => ?_, fun _ _ _ h => ?_⟩ <;> omega
 | succ k ih =>
  obtain ⟨iS, iB, iL, iK, iT⟩ := ih; obtain ⟨vS, vB, vL, vK, vT⟩ := stmt_inv (ts := ts) (n := n) k; refine ⟨fun σ h hk he => ?_, fun kw kd mid last σ hkw hp hn hk he => ?_, fun σ hp hn hk he => ?_, fun σ h hk he => ?_, fun acc σ h hk he => ?_⟩
  · have hin : ∀ t : List UInt8, t ≠ [] → (peekP ts σ).text = t → In ts σ := fun t ht e => peek_in h (Or.inl (by rw [e]; exact ht))
    have hst : ∀ kw kd, (kw, kd) ∈ stackKw → kw ≠ [] → (peekP ts σ).text = kw → ∃ a, Seg ts σ (stmtP ts n (k + 1) σ).2 a ∧ GS .st a [(stmtP ts n (k + 1) σ).1] := by
     intro kw kd hkw hne hp; have hn := hin kw hne hp; have m1 := mS_next hn; rw [stmt_stack hkw hp] at he ⊢; have s0 := seg_next hn; rw [hp] at s0
     unfold stackP at he ⊢
     simp only at he ⊢; have h1 := next_le hn; have h2 := place_le' (n := n) (k := k) h1.wf; have h3 := expect_le (n := n) (t := [44]) h2.wf (by decide); have h4 := name_le (n := n) h3.wf; have e3 := h4.ok he; obtain ⟨a, sa, ga⟩ := place_sound hd h1.wf (by omega) (h3.ok e3); obtain ⟨s4, hm⟩ := seg_name h3.wf he
     exact ⟨_, s0.trans (sa.trans ((seg_expect h2.wf (by decide) e3).trans s4)), GS.stack hkw ga hm⟩
    have htp : ∀ kw kd, (kw, kd) ∈ tapeKw → kw ≠ [] → (peekP ts σ).text = kw → ∃ a, Seg ts σ (stmtP ts n (k + 1) σ).2 a ∧ GS .st a [(stmtP ts n (k + 1) σ).1] := by
     intro kw kd hkw hne hp; have hn := hin kw hne hp; have m1 := mS_next hn; rw [stmt_tape hkw hp] at he ⊢; have s0 := seg_next hn; rw [hp] at s0
     unfold tapeP at he ⊢
     simp only at he ⊢; have h1 := next_le hn; obtain ⟨a, sa, ga⟩ := place_sound hd h1.wf (by omega) he
     exact ⟨_, s0.trans sa, GS.tape hkw ga⟩
    have hca : ∀ kw kd, (kw, kd) ∈ callKw → kw ≠ [] → (peekP ts σ).text = kw → ∃ a, Seg ts σ (stmtP ts n (k + 1) σ).2 a ∧ GS .st a [(stmtP ts n (k + 1) σ).1] := by
     intro kw kd hkw hne hp; rw [stmt_call hkw hp] at he ⊢
     exact call_sound hkw hp (hin kw hne hp) he
    have hbr : ∀ kw kd mid last, (kw, kd, mid, last) ∈ branchKw → kw ≠ [] → (peekP ts σ).text = kw → ∃ a, Seg ts σ (stmtP ts n (k + 1) σ).2 a ∧ GS .st a [(stmtP ts n (k + 1) σ).1] := by
     intro kw kd mid last hkw hne hp; rw [stmt_branch hkw hp] at he ⊢
     exact iB kw kd mid last σ hkw hp (hin kw hne hp) (by omega) he
    by_cases c : (peekP ts σ).text = [112, 117, 115, 104]
    · exact hst _ 44 (by decide) (by decide) c
    by_cases c2 : (peekP ts σ).text = [112, 111, 112]
    · exact hst _ 45 (by decide) (by decide) c2
    by_cases c3 : (peekP ts σ).text = [114, 101, 97, 100]
    · exact htp _ 46 (by decide) (by decide) c3
    by_cases c4 : (peekP ts σ).text = [117, 110, 114, 101, 97, 100]
    · exact htp _ 47 (by decide) (by decide) c4
    by_cases c5 : (peekP ts σ).text = [119, 114, 105, 116, 101]
    · exact htp _ 48 (by decide) (by decide) c5
    by_cases c6 : (peekP ts σ).text = [117, 110, 119, 114, 105, 116, 101]
    · exact htp _ 49 (by decide) (by decide) c6
    by_cases c7 : (peekP ts σ).text = [99, 97, 108, 108]
    · exact hca _ 50 (by decide) (by decide) c7
    by_cases c8 : (peekP ts σ).text = [117, 110, 99, 97, 108, 108]
    · exact hca _ 51 (by decide) (by decide) c8
    by_cases c9 : (peekP ts σ).text = [105, 102]
    · exact hbr _ 52 [101, 108, 115, 101] [102, 105] (by decide) (by decide) c9
    by_cases c10 : (peekP ts σ).text = [102, 114, 111, 109]
    · exact hbr _ 53 [108, 111, 111, 112] [117, 110, 116, 105, 108] (by decide) (by decide) c10
    by_cases c11 : (peekP ts σ).text = [108, 111, 99, 97, 108]
    · rw [stmt_local c11] at he ⊢
      exact iL σ c11 (hin _ (by decide) c11) (by omega) he
    have e : stmtP ts n (k + 1) σ = updateP ts n k σ := by
     rw [stmtP, if_neg c, if_neg c2, if_neg c3, if_neg c4, if_neg c5, if_neg c6, if_neg c7, if_neg c8, if_neg c9, if_neg c10, if_neg c11]
    rw [e] at he ⊢
    exact update_sound hd h (by omega) he
  · rw [branchesP] at he ⊢
    obtain ⟨hmid, hlast⟩ := branch_kw hkw; have s0 := seg_next hn; rw [hp] at s0; have m0 := mS_next hn; have h1 := next_le hn; have h2 := expr_le (n := n) (k := k) (lv := 1) h1.wf; have m2 := mS_expr (n := n) (k := k) (lv := 1) h1.wf (by omega); have h3 := vK _ h2.wf; have m3 := mS_le h3; have h4 := expect_le (n := n) (t := mid) h3.wf hmid; have m4 := mS_le h4; have h5 := vK _ h4.wf; have m5 := mS_le h5; have h6 := expect_le (n := n) (t := last) h5.wf hlast; have m6 := mS_le h6; have h7 := expr_le (n := n) (k := k) (lv := 1) h6.wf; simp only at he ⊢; have e6 := h7.ok he; have e5 := h6.ok e6; have e4 := h5.ok e5; have e3 := h4.ok e4; have e2 := h3.ok e3; obtain ⟨a, sa, ga⟩ := ex_sound hd h1.wf (by omega) e2; obtain ⟨b, sb, gb⟩ := iK _ h2.wf (by omega) e3; obtain ⟨c, sc, gc⟩ := iK _ h4.wf (by omega) e5; obtain ⟨d, sd, gd⟩ := ex_sound hd h6.wf (by omega) he
    exact ⟨_, s0.trans (sa.trans (sb.trans ((seg_expect h3.wf hmid e4).trans (sc.trans ((seg_expect h5.wf hlast e6).trans sd))))), GS.branch hkw ga gb gc gd⟩
  · rw [localP] at he ⊢
    have s0 := seg_next hn; rw [hp] at s0; have m0 := mS_next hn; have h1 := next_le hn
    split at he
    · rename_i hh
      rw [if_pos hh]; have hn2 := has_in h1.wf hh (by decide); have m1 := mS_next hn2; have h2 := next_le hn2; have h3 := name_le (n := n) h2.wf; have m3 := mS_le h3; have h4 := vK _ h3.wf; simp only at he ⊢; obtain ⟨s3, hm⟩ := seg_name h2.wf (h4.ok he); obtain ⟨b, sb, gb⟩ := iK _ h3.wf (by omega) he
      exact ⟨_, s0.trans ((seg_has h1.wf hh (by decide)).trans (s3.trans sb)), GS.lstack hm gb⟩
    · rename_i hh
      rw [if_neg hh]; have h2 := name_le (n := n) h1.wf; have m2 := mS_le h2; have h3 := expect_le (n := n) (t := [61]) h2.wf (by decide); have m3 := mS_le h3; have h4 := expr_le (n := n) (k := k) (lv := 1) h3.wf; have m4 := mS_expr (n := n) (k := k) (lv := 1) h3.wf (by omega); have h5 := vK _ h4.wf; have m5 := mS_le h5; have h6 := expect_le (n := n) (t := [100, 101, 108, 111, 99, 97, 108]) h5.wf (by decide); have m6 := mS_le h6; have h7 := expr_le (n := n) (k := k) (lv := 1) h6.wf; simp only at he ⊢; have e6 := h7.ok he; have e5 := h6.ok e6; have e4 := h5.ok e5; have e3 := h4.ok e4; have e2 := h3.ok e3; obtain ⟨s2, hm⟩ := seg_name h1.wf e2; obtain ⟨a, sa, ga⟩ := ex_sound hd h3.wf (by omega) e4; obtain ⟨b, sb, gb⟩ := iK _ h4.wf (by omega) e5; obtain ⟨d, sd, gd⟩ := ex_sound hd h6.wf (by omega) he
      exact ⟨_, s0.trans (s2.trans ((seg_expect h2.wf (by decide) e3).trans (sa.trans (sb.trans ((seg_expect h5.wf (by decide) e6).trans sd))))), GS.local_ hm ga gb gd⟩
  · rw [blockP] at he ⊢
    have h1 := expect_le (n := n) (t := [123]) h (by decide); have m1 := mS_expect (n := n) (t := [123]) h (by decide); have h2 := vT [] _ h1.wf; simp only at he ⊢; obtain ⟨a, l, sa, ga, hl⟩ := iT [] _ h1.wf (by omega) he; refine ⟨_, (seg_expect h (by decide) (h2.ok he)).trans sa, ?_⟩; rw [hl]
    exact GS.bl ga
  · rw [stmtsP] at he ⊢
    split at he
    · exact absurd he (by assumption)
    · rename_i h0
      rw [if_neg h0]
      split at he
      · rename_i hh
        rw [if_pos hh]
        exact ⟨[], [], seg_has h hh (by decide), GS.ls0, by simp⟩
      · rename_i hh
        rw [if_neg hh]; have h1 := vS σ h; have m1 := mS_le h1; have h2 := expect_le (n := n) (t := [59]) h1.wf (by decide); have m2 := mS_expect (n := n) (t := [59]) h1.wf (by decide); have h3 := vT (acc ++ [(stmtP ts n k σ).1]) _ h2.wf; have e2 := h3.ok he; have m3 := mS_dec h2 expect_lt e2; obtain ⟨a, sa, ga⟩ := iS σ h (by omega) (h2.ok e2); obtain ⟨b, l, sb, gb, hl⟩ := iT _ _ h2.wf (by omega) he; refine ⟨a ++ [59] :: b, (stmtP ts n k σ).1 :: l, ?_, GS.ls1 ga gb, by rw [hl]; simp⟩; have := sa.trans ((seg_expect h1.wf (by decide) e2).trans sb)
        simpa using this
end
theorem var_valid (l : Txt) (h : ∀ v ∈ l, isName v = true) : (l.map varN).all Nd.isVar = true := by
 rw [List.all_eq_true]; intro x hx; obtain ⟨v, hv, rfl⟩ := List.mem_map.1 hx
 simp [varN, Nd.isVar, Nd.isExpr, Nd.kind, named, h v hv]
theorem GS.valid {nt : NtS} {a : Txt} {l : List Nd} (h : GS nt a l) : match nt with
 | .st => ∀ x, l = [x] → x.isStmt = true
 | .bl => ∀ x, l = [x] → x.isBlock = true
 | .ls => rowStmt l = true := by
 induction h with
 | stack h1 h2 h3 =>
  rintro x ⟨⟩; have := h2.valid; simp only [stackKw, List.mem_cons, Prod.mk.injEq, List.not_mem_nil, or_false] at h1
  rcases h1 with ⟨-, rfl⟩ | ⟨-, rfl⟩ <;> (unfold Nd.isStmt; simp only at this; simp [named, h3, this])
 | tape h1 h2 =>
  rintro x ⟨⟩; have := h2.valid; simp only [tapeKw, List.mem_cons, Prod.mk.injEq, List.not_mem_nil, or_false] at h1
  rcases h1 with ⟨-, rfl⟩ | ⟨-, rfl⟩ | ⟨-, rfl⟩ | ⟨-, rfl⟩ <;> (unfold Nd.isStmt; simp only at this; simp [plain, this])
 | call0 h1 h2 =>
  rintro x ⟨⟩; simp only [callKw, List.mem_cons, Prod.mk.injEq, List.not_mem_nil, or_false] at h1
  rcases h1 with ⟨-, rfl⟩ | ⟨-, rfl⟩ <;> (unfold Nd.isStmt; simp [named, h2])
 | @call1 kw m u kd l h1 h2 h3 h4 h5 =>
  rintro x ⟨⟩; have hv := var_valid (u :: l) (fun v hv => by rcases List.mem_cons.1 hv with rfl | hv; exact h3; exact h4 v hv)
  have hl : ((u :: l).map varN).length ≤ 8 := by simp only [List.length_map, List.length_cons]; omega
  simp only [callKw, List.mem_cons, Prod.mk.injEq, List.not_mem_nil, or_false] at h1
  generalize (u :: l).map varN = q at *
  rcases h1 with ⟨-, rfl⟩ | ⟨-, rfl⟩ <;> (unfold Nd.isStmt; simp [named, h2, hl, hv])
 | branch h1 h2 h3 h4 h5 i3 i4 =>
  rintro x ⟨⟩; have v2 := h2.valid; have v5 := h5.valid; have v3 := i3 _ rfl; have v4 := i4 _ rfl; simp only [branchKw, List.mem_cons, Prod.mk.injEq, List.not_mem_nil, or_false] at h1; simp only at v2 v5
  rcases h1 with ⟨-, rfl, -⟩ | ⟨-, rfl, -⟩ <;> (unfold Nd.isStmt; simp [plain, v2, v3, v4, v5])
 | lstack h1 h2 i2 =>
  rintro x ⟨⟩; have v2 := i2 _ rfl
  unfold Nd.isStmt; simp [named, h1, v2]
 | local_ h1 h2 h3 h4 i3 =>
  rintro x ⟨⟩; have v2 := h2.valid; have v3 := i3 _ rfl; have v4 := h4.valid; simp only at v2 v4
  unfold Nd.isStmt; simp [named, h1, v2, v3, v4]
 | @upd t a b x y h1 h2 h3 =>
  rintro z ⟨⟩; have v1 := h1.valid; have v3 := h3.valid; simp only at v1 v3
  have hk : updKind t = 40 ∨ updKind t = 41 ∨ updKind t = 42 ∨ updKind t = 56 := by
   unfold updKind at h2 ⊢
   by_cases c1 : t = [43, 61]
   · simp [c1]
   by_cases c2 : t = [45, 61]
   · simp [c2]
   by_cases c3 : t = [94, 61]
   · simp [c3]
   by_cases c4 : t = [58, 61]
   · simp [c4]
   simp [c1, c2, c3, c4] at h2
  unfold Nd.isStmt
  rw [if_pos hk]; simp [plain, v1, v3]
 | swap h1 h2 =>
  rintro x ⟨⟩; have v1 := h1.valid; have v2 := h2.valid; simp only at v1 v2
  unfold Nd.isStmt; simp [plain, v1, v2]
 | bl h1 i1 =>
  rintro x ⟨⟩; simp only at i1
  unfold Nd.isBlock; simp [plain, i1]
 | ls0 => simp [rowStmt]
 | ls1 h1 h2 i1 i2 =>
  have := i1 _ rfl; simp only at i2; simp only [rowStmt, this, i2, Bool.and_self]
end Bk
namespace Bk
open Go
section
variable {ts : List Tok} {n : Int}
theorem limit_ok {x : Nd} {off : Int} {σ : PS} (h : (limitP x off σ).err = 0) : σ.err = 0 ∧ x.depth ≤ 80 ∧ x.size ≤ 2000 := by
 unfold limitP at h
 split at h
 · exact absurd h (by assumption)
 · rename_i h0
   have h0' : σ.err = 0 := by simpa using h0
   split at h
   · exact absurd h (fail_err (by decide))
   · split at h
     · exact absurd h (fail_err (by decide))
     · exact ⟨h0', by omega, by omega⟩
theorem vars_small (k : Nat) : ∀ (acc : List VD) (σ : PS), σ.at_ ≤ ts.length → (varsP ts n k acc σ).2.err = 0 → acc.length ≤ 32 → (varsP ts n k acc σ).1.length ≤ 32 := by
 induction k with
 | zero => intro acc σ h he ha; rw [varsP]; exact ha
 | succ k ih =>
  intro acc σ h he ha; rw [varsP] at he ⊢
  split at he
  · rename_i hd
    rw [if_pos hd]; simp only at he ⊢
    by_cases h32 : acc.length = 32
    · rw [if_pos h32] at he
      have l0 := fail_le (ts := ts) h (peekP ts σ).pos 5; have l1 := decl_le (n := n) l0.wf
      exact absurd ((l1.trans (vars_le k _ _ l1.wf)).ok he) (fail_err (by decide))
    · rw [if_neg h32] at he ⊢
      have l1 := decl_le (n := n) h
      exact ih _ _ l1.wf he (by simp only [List.length_append, List.length_cons, List.length_nil]; omega)
  · rename_i hd
    rw [if_neg hd]; exact ha
theorem params_small (k : Nat) : ∀ (acc : List VD) (σ : PS), σ.at_ ≤ ts.length → (paramsP ts n k acc σ).2.err = 0 → acc.length ≤ 8 → (paramsP ts n k acc σ).1.length ≤ 8 := by
 induction k with
 | zero => intro acc σ h he ha; rw [paramsP]; exact ha
 | succ k ih =>
  intro acc σ h he ha; rw [paramsP] at he ⊢
  split at he
  · rename_i hc
    rw [if_pos hc]; simp only at he ⊢; have l0 := next_le (has_in h hc (by decide))
    by_cases h8 : acc.length = 8 ∧ atDeclP ts (nextP σ) = true
    · rw [if_pos h8] at he
      have l1 := fail_le (ts := ts) l0.wf (peekP ts (nextP σ)).pos 5; have l2 := decl_le (n := n) l1.wf
      exact absurd ((l2.trans (params_le k _ _ l2.wf)).ok he) (fail_err (by decide))
    · rw [if_neg h8] at he ⊢
      have l2 := decl_le (n := n) l0.wf
      by_cases h9 : acc.length = 8
      · have hd : atDeclP ts (nextP σ) = false := by
         cases hh : atDeclP ts (nextP σ)
         · rfl
         · exact absurd ⟨h9, hh⟩ h8
        have hx : (declP ts n (nextP σ)).2.err ≠ 0 := by
         simp only [atDeclP, Bool.or_eq_false_iff] at hd
         unfold declP
         rw [if_neg (by simp [hd.1.1]), if_neg (by simp [hd.2]), if_neg (by simp [hd.1.2])]
         exact unexp_err
        exact absurd ((params_le k _ _ l2.wf).ok he) hx
      · exact ih _ _ l2.wf he (by simp only [List.length_append, List.length_cons, List.length_nil]; omega)
  · rename_i hc
    rw [if_neg hc]; exact ha
theorem procP_small {k : Nat} {σ : PS} (h : σ.at_ ≤ ts.length) (he : (procP ts n k σ).2.err = 0) : (procP ts n k σ).1.params.length ≤ 8 ∧ (procP ts n k σ).1.body.size ≤ 2000 := by
 rw [procP_at] at he ⊢; simp only at he ⊢; have l1 := expect_le (n := n) (t := [112, 114, 111, 99]) h (by decide); have l2 := l1.trans (name_le (n := n) l1.wf); have l3 := l2.trans (expect_le (n := n) (t := [40]) l2.wf (by decide))
 generalize expectP ts n (nameP ts n (expectP ts n σ [112, 114, 111, 99])).2 [40] = σ1 at *
 have lq := procQ_le (n := n) (k := k) l3.wf
 unfold bodyP at he ⊢
 simp only at he ⊢; have hl := limit_ok he; refine ⟨?_, hl.2.2⟩; have hb := ((stmt_inv (ts := ts) (n := n) k).2.2.2.1 _ lq.wf).ok hl.1
 unfold procQ at hb ⊢
 split at hb
 · rename_i hc; rw [if_pos hc]; exact Nat.zero_le _
 · rename_i hc
   rw [if_neg hc]; simp only at hb ⊢; have ld := decl_le (n := n) l3.wf; have lp := params_le (n := n) k [(declP ts n σ1).1] _ ld.wf
   exact params_small k _ _ ld.wf ((expect_le (n := n) (t := [41]) lp.wf (by decide)).ok hb) (by simp)
theorem procs_small (k : Nat) : ∀ (acc : List PD) (σ : PS), σ.at_ ≤ ts.length → (procsP ts n k acc σ).2.err = 0 → acc.length ≤ 64 → (∀ p ∈ acc, p.params.length ≤ 8 ∧ p.body.size ≤ 2000) →
 (procsP ts n k acc σ).1.length ≤ 64 ∧ ∀ p ∈ (procsP ts n k acc σ).1, p.params.length ≤ 8 ∧ p.body.size ≤ 2000 := by
 induction k with
 | zero => intro acc σ h he ha hp; rw [procsP]; exact ⟨ha, hp⟩
 | succ k ih =>
  intro acc σ h he ha hp; rw [procsP] at he ⊢
  split at he
  · rename_i hd
    rw [if_pos hd]; simp only at he ⊢
    by_cases h64 : acc.length = 64
    · rw [if_pos h64] at he
      have l0 := fail_le (ts := ts) h (peekP ts σ).pos 5; have l1 := procP_le (n := n) (k := k) l0.wf
      exact absurd ((l1.trans (procs_le k _ _ l1.wf)).ok he) (fail_err (by decide))
    · rw [if_neg h64] at he ⊢
      have l1 := procP_le (n := n) (k := k) h; refine ih _ _ l1.wf he (by simp only [List.length_append, List.length_cons, List.length_nil]; omega) (fun p hm => ?_)
      rcases List.mem_append.1 hm with hm | hm
      · exact hp p hm
      · have : p = (procP ts n k σ).1 := by simpa using hm
        rw [this]
        exact procP_small h ((procs_le k _ _ l1.wf).ok he)
  · rename_i hd
    rw [if_neg hd]; exact ⟨ha, hp⟩
theorem finish_ok {σ : PS} (h : (finishP ts n σ).err = 0) : σ.err = 0 ∧ ¬ σ.at_ < ts.length := by
 unfold finishP at h
 split at h
 · exact absurd h unexp_err
 · exact ⟨h, by assumption⟩
theorem program_small {k : Nat} {σ : PS} (h : σ.at_ ≤ ts.length) (he : (programP ts n k σ).2.err = 0) :
 (programP ts n k σ).1.vars.length ≤ 32 ∧ (programP ts n k σ).1.procs.length ≤ 64 ∧ (∀ p ∈ (programP ts n k σ).1.procs, p.params.length ≤ 8 ∧ p.body.size ≤ 2000) ∧ (programP ts n k σ).1.main.size ≤ 2000 := by
 unfold programP at he ⊢
 simp only at he ⊢; have l1 := vars_le (n := n) k [] σ h; have l2 := procs_le (n := n) k [] _ l1.wf; have l3 := expect_le (n := n) (t := [109, 97, 105, 110]) l2.wf (by decide)
 unfold bodyP at he ⊢
 simp only at he ⊢; have hl := limit_ok he; have h3 := ((stmt_inv (ts := ts) (n := n) k).2.2.2.1 _ l3.wf).ok hl.1; have h2 := l3.ok h3; have h1 := l2.ok h2; have hp := procs_small k _ _ l1.wf h2 (by simp) (by simp)
 exact ⟨vars_small k _ _ h h1 (by simp), hp.1, hp.2, hl.2.2⟩
end
end Bk
namespace Bk
open Go
mutual
theorem lim_ok : ∀ (t : Nd) (d m : Int), t.depth ≤ d → (t.size : Int) ≤ m → t.lim d m = (true, m - t.size)
 | .mk _ _ _ l, d, m, hd, hm => by
  simp only [Nd.depth] at hd; simp only [Nd.size] at hm; have h0 : 0 ≤ rowDepth l := rowDepth_nn l
  unfold Nd.lim
  rw [if_neg (by omega), rowLim_ok l (d - 1) (m - 1) (by omega) (by omega)]; simp only [Nd.size]
  congr 1
  omega
theorem rowLim_ok : ∀ (l : List Nd) (d m : Int), rowDepth l ≤ d → (rowSize l : Int) ≤ m → rowLim l d m = (true, m - rowSize l)
 | [], d, m, _, _ => by simp [rowLim, rowSize]
 | t :: r, d, m, hd, hm => by
  simp only [rowDepth] at hd; simp only [rowSize] at hm; have h1 := lim_ok t d m (by omega) (by omega)
  unfold rowLim
  rw [h1]; simp only [if_true]; rw [rowLim_ok r d _ (by omega) (by omega)]; simp only [rowSize]
  congr 1
  omega
theorem rowDepth_nn : ∀ l : List Nd, 0 ≤ rowDepth l
 | [] => by simp [rowDepth]
 | t :: r => by have := rowDepth_nn r; simp only [rowDepth]; omega
end
theorem body_ok {t : Nd} (hd : t.depth ≤ 80) (hs : t.size ≤ 2000) (hb : t.isBlock = true) : bodyOk t = true := by
 unfold bodyOk
 rw [lim_ok t 80 2000 hd (by omega), hb]; rfl
section
variable {ts : List Tok} {n : Int}
theorem decl_ok (hd : DigitKinds ts) {σ : PS} (h : σ.at_ ≤ ts.length) (he : (declP ts n σ).2.err = 0) : (declP ts n σ).1.ok = true := by
 unfold declP at he ⊢
 split at he
 · rename_i hh
   rw [if_pos hh]; have hn := has_in h hh (by decide); obtain ⟨-, hm⟩ := seg_name (next_le hn).wf he
   simp [VD.ok, hm]
 · rename_i hh
   rw [if_neg hh]
   split at he
   · rename_i hh
     rw [if_pos hh]; have hn := has_in h hh (by decide); obtain ⟨-, hm⟩ := seg_name (next_le hn).wf he
     simp [VD.ok, hm]
   · rename_i hh
     rw [if_neg hh]
     split at he
     · rename_i hh
       rw [if_pos hh]; simp only at he ⊢; have hn := has_in h hh (by decide); have h1 := next_le hn; have h2 := name_le (n := n) h1.wf; have h3 := expect_le (n := n) (t := [91]) h2.wf (by decide); have h4 := number_le (n := n) (a := 1) (b := 16) h3.wf; have e4 := (expect_le (n := n) (t := [93]) h4.wf (by decide)).ok he; obtain ⟨-, hm⟩ := seg_name h1.wf (h3.ok (h4.ok e4)); obtain ⟨t, -, -, e, -, h5, h6⟩ := seg_number hd h3.wf e4; simp only [VD.ok, hm, e]
       simp [h5, h6]
     · exact absurd he unexp_err
theorem allOk_snoc {l : List VD} {v : VD} (h : allOk l = true) (hv : v.ok = true) : allOk (l ++ [v]) = true := by
 unfold allOk at *; simp [h, hv]
theorem vars_ok (hd : DigitKinds ts) (k : Nat) : ∀ (acc : List VD) (σ : PS), σ.at_ ≤ ts.length → (varsP ts n k acc σ).2.err = 0 → allOk acc = true → allOk (varsP ts n k acc σ).1 = true := by
 induction k with
 | zero => intro acc σ h he ha; rw [varsP]; exact ha
 | succ k ih =>
  intro acc σ h he ha; rw [varsP] at he ⊢
  split at he
  · rename_i hh
    rw [if_pos hh]; simp only at he ⊢
    generalize hσ : (if acc.length = 32 then failP σ (peekP ts σ).pos 5 else σ) = σ1 at *
    have l0 : Le ts σ σ1 := by
     rw [← hσ]; split
     · exact fail_le h _ _
     · exact Le.refl h
    have l1 := decl_le (n := n) l0.wf
    exact ih _ _ l1.wf he (allOk_snoc ha (decl_ok hd l0.wf ((vars_le k _ _ l1.wf).ok he)))
  · rename_i hh
    rw [if_neg hh]; exact ha
theorem params_ok (hd : DigitKinds ts) (k : Nat) : ∀ (acc : List VD) (σ : PS), σ.at_ ≤ ts.length → (paramsP ts n k acc σ).2.err = 0 → allOk acc = true → allOk (paramsP ts n k acc σ).1 = true := by
 induction k with
 | zero => intro acc σ h he ha; rw [paramsP]; exact ha
 | succ k ih =>
  intro acc σ h he ha; rw [paramsP] at he ⊢
  split at he
  · rename_i hh
    rw [if_pos hh]; simp only at he ⊢; have h1 := next_le (has_in h hh (by decide))
    generalize hσ : (if acc.length = 8 ∧ atDeclP ts (nextP σ) = true then failP (nextP σ) (peekP ts (nextP σ)).pos 5 else nextP σ) = σ1 at *
    have l0 : Le ts (nextP σ) σ1 := by
     rw [← hσ]; split
     · exact fail_le h1.wf _ _
     · exact Le.refl h1.wf
    have l1 := decl_le (n := n) l0.wf
    exact ih _ _ l1.wf he (allOk_snoc ha (decl_ok hd l0.wf ((params_le k _ _ l1.wf).ok he)))
  · rename_i hh
    rw [if_neg hh]; exact ha
theorem body_valid (hd : DigitKinds ts) {k : Nat} {σ : PS} (h : σ.at_ ≤ ts.length) (hk : 4 * mS ts σ + 8 ≤ k) (he : (bodyP ts n k σ).2.err = 0) : bodyOk (bodyP ts n k σ).1 = true := by
 unfold bodyP at he ⊢
 simp only at he ⊢; obtain ⟨e1, e2, e3⟩ := limit_ok he; obtain ⟨a, -, ga⟩ := (stmt_sound hd k).2.2.2.1 σ h hk e1
 exact body_ok e2 e3 (ga.valid _ rfl)
theorem proc_ok (hd : DigitKinds ts) {k : Nat} {σ : PS} (h : σ.at_ ≤ ts.length) (hk : 4 * mS ts σ + 8 ≤ k) (he : (procP ts n k σ).2.err = 0) : (procP ts n k σ).1.ok = true := by
 have hsm := (procP_small h he).1; rw [procP_at] at he hsm ⊢; simp only at he hsm ⊢; have l1 := expect_le (n := n) (t := [112, 114, 111, 99]) h (by decide); have l2 := name_le (n := n) l1.wf; have l3 := expect_le (n := n) (t := [40]) l2.wf (by decide); have lq := procQ_le (n := n) (k := k) l3.wf; have lb := bodyP_le (n := n) (k := k) lq.wf; have m := mS_le (((l1.trans l2).trans l3).trans lq); have hb := body_valid hd lq.wf (by omega) he; have eq := lb.ok he; have e3 := lq.ok eq; obtain ⟨-, hm⟩ := seg_name l1.wf (l3.ok e3)
 have hp : allOk (procQ ts n k (expectP ts n (nameP ts n (expectP ts n σ [112, 114, 111, 99])).2 [40])).1 = true := by
  unfold procQ at eq ⊢
  split at eq
  · rename_i hc; rw [if_pos hc]; rfl
  · rename_i hc
    rw [if_neg hc]; simp only at eq ⊢; have ld := decl_le (n := n) l3.wf; have lp := params_le (n := n) k [(declP ts n (expectP ts n (nameP ts n (expectP ts n σ [112, 114, 111, 99])).2 [40])).1] _ ld.wf; have e1 := (expect_le (n := n) (t := [41]) lp.wf (by decide)).ok eq; refine params_ok hd k _ _ ld.wf e1 ?_
    unfold allOk
    simp [decl_ok hd l3.wf (lp.ok e1)]
 simp only [PD.ok, hm, hp, hb, Bool.and_true, Bool.true_and]
 exact decide_eq_true hsm
theorem procs_ok (hd : DigitKinds ts) (k : Nat) : ∀ (acc : List PD) (σ : PS), σ.at_ ≤ ts.length → (σ.err = 0 → 4 * mS ts σ + 9 ≤ k) → (procsP ts n k acc σ).2.err = 0 → acc.all PD.ok = true → (procsP ts n k acc σ).1.all PD.ok = true := by
 induction k with
 | zero => intro acc σ h hk he ha; rw [procsP]; exact ha
 | succ k ih =>
  intro acc σ h hk he ha; rw [procsP] at he ⊢
  split at he
  · rename_i hh
    rw [if_pos hh]; simp only at he ⊢; have h0 := (has_in h hh (by decide)).1; have hk0 := hk h0
    by_cases c : acc.length = 64
    · rw [if_pos c] at he
      exfalso
      have l0 := fail_le (ts := ts) h (peekP ts σ).pos 5; have l1 := procP_le (n := n) (k := k) l0.wf
      exact absurd ((l1.trans (procs_le k _ _ l1.wf)).ok he) (fail_err (by decide))
    · rw [if_neg c] at he ⊢
      have l1 := procP_le (n := n) (k := k) h; have e1 := (procs_le k (acc ++ [(procP ts n k σ).1]) _ l1.wf).ok he; have m1 := mS_dec l1 (procP_lt h) e1; refine ih _ _ l1.wf (fun _ => by omega) he ?_; rw [List.all_append, ha]
      simp [proc_ok hd h (by omega) e1]
  · rename_i hh
    rw [if_neg hh]; exact ha
theorem program_ok (hd : DigitKinds ts) {k : Nat} {σ : PS} (h : σ.at_ ≤ ts.length) (hk : 4 * mS ts σ + 9 ≤ k) (he : (programP ts n k σ).2.err = 0) : (programP ts n k σ).1.ok = true := by
 obtain ⟨s1, s2, -, -⟩ := program_small h he
 unfold programP at he s1 s2 ⊢
 simp only at he s1 s2 ⊢; have l1 := vars_le (n := n) k [] σ h; have l2 := procs_le (n := n) k [] _ l1.wf; have l3 := expect_le (n := n) (t := [109, 97, 105, 110]) l2.wf (by decide); have l4 := bodyP_le (n := n) (k := k) l3.wf; have e3 := l4.ok he; have e2 := l3.ok e3; have e1 := l2.ok e2; have m1 := mS_le l1; have m3 := mS_le ((l1.trans l2).trans l3); have hv := vars_ok hd k [] σ h e1 rfl; have hp := procs_ok hd k [] _ l1.wf (fun _ => by omega) e2 rfl; have hb := body_valid hd l3.wf (by omega) he; simp only [PG.ok, hv, hp, hb, Bool.and_true]
 simp [s1, s2]
def OffIn (n : Int) (σ : PS) : Prop := σ.err ≠ 0 → 0 ≤ σ.off ∧ σ.off ≤ n
theorem off_fail {σ : PS} {off e : Int} (h0 : 0 ≤ off) (h1 : off ≤ n) (i : OffIn n σ) : OffIn n (failP σ off e) := by
 unfold failP
 split
 · exact fun _ => ⟨h0, h1⟩
 · exact i
theorem off_clo (hn : 0 ≤ n) (hp : ∀ t ∈ ts, 0 ≤ t.pos ∧ t.pos ≤ n) : CloL ts n (OffIn n) where
 next := fun σ _ i => i
 unexp := fun σ h i => by
  unfold unexpP
  split
  · rename_i hl
    rw [List.getD_eq_getElem?_getD, List.getElem?_eq_getElem hl]
    exact off_fail (hp _ (List.getElem_mem hl)).1 (hp _ (List.getElem_mem hl)).2 i
  · exact off_fail hn (Int.le_refl _) i
 full := fun σ h i => off_fail (hp _ (peek_mem h.2 h.1)).1 (hp _ (peek_mem h.2 h.1)).2 i
 range := fun σ h i => off_fail (hp _ (peek_mem h.2 h.1)).1 (hp _ (peek_mem h.2 h.1)).2 i
 lim := fun σ x τ h i j => by
  have hq : 0 ≤ (peekP ts σ).pos ∧ (peekP ts σ).pos ≤ n := by
   by_cases c : σ.err ≠ 0 ∨ σ.at_ = ts.length
   · have : peekP ts σ = Tok.zero := by unfold peekP; rw [if_pos c]
     rw [this]; exact ⟨by decide, hn⟩
   · exact hp _ (peek_mem (by omega) (by omega))
  unfold limitP
  split
  · exact j
  · split
    · exact off_fail hq.1 hq.2 j
    · split
      · exact off_fail hq.1 hq.2 j
      · exact j
end
theorem lexGo_off (s : List UInt8) : ∀ (k p : Nat) (acc : List Tok) (q : Nat), (lexGo k s p acc).2 = some q → q ≤ s.length
 | 0, p, acc, q, h => by rw [lexGo] at h; cases h
 | k + 1, p, acc, q, h => by
  rw [lexGo] at h
  split at h
  · rename_i hl
    split at h
    · cases h; omega
    · exact lexGo_off s k _ _ q h
  · cases h
theorem start_off (s : List UInt8) : OffIn s.length (startP s).2 := by
 intro _
 show 0 ≤ (lexT s).2.1 ∧ (lexT s).2.1 ≤ (s.length : Int)
 unfold lexT
 split
 · show (0 : Int) ≤ 0 ∧ (0 : Int) ≤ (s.length : Int)
   omega
 · split
   · show (0 : Int) ≤ 0 ∧ (0 : Int) ≤ (s.length : Int)
     omega
   · rename_i l p hl
     have := lexGo_off s _ _ _ p (by rw [hl])
     show (0 : Int) ≤ (p : Int) ∧ (p : Int) ≤ (s.length : Int)
     omega
theorem start_pos (s : List UInt8) : ∀ t ∈ (startP s).1, 0 ≤ t.pos ∧ t.pos ≤ s.length := fun t ht => (solid_ok s t ht).pos
theorem parseProgram_ok (s : List UInt8) : ((parseProgram s).2.2 = 0 → (parseProgram s).1.ok = true ∧ (parseProgram s).2.1 = 0) ∧ ((parseProgram s).2.2 ≠ 0 → (parseProgram s).1 = ⟨[], [], zeroNd⟩ ∧ 0 ≤ (parseProgram s).2.1 ∧ (parseProgram s).2.1 ≤ s.length) := by
 have hl := start_len s
 have hm : mS (startP s).1 (startP s).2 ≤ (startP s).1.length := by unfold mS; split <;> omega
 have hw : (startP s).2.at_ ≤ (startP s).1.length := Nat.zero_le _
 unfold parseProgram
 simp only
 split
 · rename_i h
   refine ⟨fun e => absurd e h, fun _ => ⟨rfl, ?_⟩⟩; have C := off_clo (ts := (startP s).1) (n := s.length) (by omega) (start_pos s); have l1 := programP_le (n := s.length) (k := fuelP s) hw
   exact C.toClo.finish l1.wf (C.program hw (start_off s)) h
 · rename_i h
   refine ⟨fun _ => ⟨?_, rfl⟩, fun e => absurd rfl e⟩
   exact program_ok (digitKinds_start s) hw (by unfold fuelP; omega) (finish_ok (by simpa using h)).1
end Bk
namespace Bk
open Go Go.RowKit Go.Proofs
def Tests (S : Nat → Prop) (f : FuncId) (p : Nd → Bool) (t : Nd) : Prop :=
 ∀ (a : Option Addr) (c : Nat) (w : World), t.sits S w a → Calls Tryz.prog f #[t.val a c] w fun e w' => e = .returned (.bool (p t)) ∧ Ext w w'
def Enters (f : FuncId) : Prop := ∀ args w, (callFunc f args).run Tryz.prog w = .ok (.enter f args) w
theorem every_c (f : FuncId) (p : Nd → Bool) (he : Enters f) (l : List Nd) (a : Option Addr) (c : Nat) (S : Nat → Prop) (w : World) (hl : l.length ≤ 9223372036854775807) (hs : rowSits S w l a) (ht : ∀ t ∈ l, Tests S f p t) :
 Calls Tryz.prog 61 #[.slice a l.length c, .func (.func f) #[] #[]] w fun e w' => e = .returned (.bool (l.all p)) ∧ Ext w w' := by
 have HT := Lib.hid ht; clear ht
 unfold Enters at he
 go_enter Tryz.func61, Tryz.ntmps61
 go_wp2_with fail
 go_loopw [9] (fun i wr => ∃ j : Nat, j ≤ l.length ∧ i = .int .i64 j ∧ Hid (l.all p = (l.drop j).all p) ∧ Ext w wr) (fun i _ => l.length - (intOf i).toNat)
 case atStart => exact ⟨0, Nat.zero_le _, rfl, Lib.hid rfl, Ext.refl _⟩
 case round =>
  obtain ⟨j, hj, rfl, HJ, hx⟩ := hrel
  by_cases hlt : j < l.length
  · have hg : l[j]? = some l[j] := List.getElem?_eq_getElem hlt
    have hmem : l[j] ∈ l := List.getElem_mem hlt; have hdrop := List.drop_eq_getElem_cons hlt
    generalize l[j] = t at *
    obtain ⟨b, o, a', c', rfl, hSb, g0, g1, g2, g3, hsk⟩ := rowSits_get (hs.ext hx) hg
    have HG := Lib.hid hg; clear hg
    have hall : l.all p = (p t && (l.drop (j + 1)).all p) := by rw [HJ.out, hdrop, List.all_cons]
    have HA := Lib.hid hall; clear hdrop hall
    go_wp2_with fail
    refine (HT.out t hmem a' c' _ (hsk.ext ((Ext.refl _).alloc _))).mono ?_; rintro e w1 ⟨rfl, hx1⟩
    cases hp : p t
    · have HP := Lib.hid hp; clear hp
      simp only
      go_wp2_with fail
      go_ret
      rw [HA.out, HP.out]
      exact ⟨rfl, (by refine Ext.trans ?_ (by assumption); refine Ext.alloc ?_ _; assumption)⟩
    · have HP := Lib.hid hp; clear hp
      simp only
      go_wp2_with fail
      go_roundw
      case rel => exact ⟨j + 1, by omega, by go_num, Lib.hid (by rw [HA.out, HP.out]; simp), (by refine Ext.trans ?_ (by assumption); refine Ext.alloc ?_ _; assumption)⟩
      case measure => simp [intOf]; omega
  · go_wp2_with fail
    go_ret
    rw [HJ.out, List.drop_eq_nil_of_le (by omega)]
    exact ⟨rfl, hx⟩
def kidsOk : List Nd → List (FuncId × (Nd → Bool)) → Bool
 | [], [] => true
 | t :: r, f :: fs => f.2 t && kidsOk r fs
 | _, _ => false
theorem kidsOk_len : ∀ (l : List Nd) (fs : List (FuncId × (Nd → Bool))), l.length ≠ fs.length → kidsOk l fs = false
 | [], [], h => absurd rfl h
 | [], _ :: _, _ => rfl
 | _ :: _, [], _ => rfl
 | t :: r, f :: fs, h => by simp only [kidsOk]; rw [kidsOk_len r fs (by simpa using h)]; simp
theorem kids_c (k n : Int) (s : List UInt8) (l : List Nd) (a : Option Addr) (c : Nat) (fs : List (FuncId × (Nd → Bool))) (tb tc : Nat) (S : Nat → Prop) (w : World)
 (hl : l.length ≤ 9223372036854775807) (hfl : fs.length ≤ 100) (hs : rowSits S w l a)
 (htb : ∀ i f, fs[i]? = some f → w.cell? ⟨tb, i, none⟩ = some (.func (.func f.1) #[] #[])) (he : ∀ f ∈ fs, Enters f.1) (ht : ∀ f ∈ fs, ∀ t ∈ l, Tests S f.1 f.2 t) :
 Calls Tryz.prog 53 #[.agg #[.int .u8 k, .int .i64 n, str s, .slice a l.length c], .slice (some ⟨tb, 0, none⟩) fs.length tc] w fun e w' => e = .returned (.bool (kidsOk l fs)) ∧ Ext w w' := by
 have HT := Lib.hid ht; clear ht
 have HE := Lib.hid he; clear he
 have HB := Lib.hid htb; clear htb
 by_cases hlen : l.length = fs.length
 · have dn : ((l.length : Int) != (fs.length : Int)) = false := by rw [hlen]; simp
   have HL := Lib.hid hlen
   have hlen1 : l.length ≤ fs.length := by omega
   have hlen2 : fs.length ≤ l.length := by omega
   clear hlen
   go_enter Tryz.func53, Tryz.ntmps53
   go_wp2_with fail
   go_loopw [15] (fun i wr => ∃ j : Nat, j ≤ fs.length ∧ i = .int .i64 j ∧ Hid (kidsOk l fs = kidsOk (l.drop j) (fs.drop j)) ∧ Ext (w.alloc (.cells #[.int .u8 k, .int .i64 n, str s, .slice a l.length c] 27)) wr) (fun i _ => fs.length - (intOf i).toNat)
   case atStart => exact ⟨0, Nat.zero_le _, rfl, Lib.hid rfl, Ext.refl _⟩
   case round =>
    obtain ⟨j, hj, rfl, HJ, hx⟩ := hrel; have hcs := hx.cells
    by_cases hlt : j < fs.length
    · have hlt' : j < l.length := by omega
      have hg : l[j]? = some l[j] := List.getElem?_eq_getElem hlt'; have hmem : l[j] ∈ l := List.getElem_mem hlt'; have hdrop := List.drop_eq_getElem_cons hlt'; have hgf : fs[j]? = some fs[j] := List.getElem?_eq_getElem hlt; have hmemf : fs[j] ∈ fs := List.getElem_mem hlt; have hdropf := List.drop_eq_getElem_cons hlt
      generalize l[j] = t at *
      generalize fs[j] = f at *
      have hxx : Ext w wr := Ext.trans ((Ext.refl _).alloc _) hx; obtain ⟨b, o, a', c', rfl, hSb, g0, g1, g2, g3, hsk⟩ := rowSits_get (hs.ext hxx) hg
      have HG := Lib.hid hg; clear hg
      have ht0 := hxx.keep (HB.out j f hgf)
      have HGF := Lib.hid hgf; clear hgf
      have hall : kidsOk l fs = (f.2 t && kidsOk (l.drop (j + 1)) (fs.drop (j + 1))) := by rw [HJ.out, hdrop, hdropf]; rfl
      have HA := Lib.hid hall; clear hdrop hall hdropf
      have hen := HE.out f hmemf
      unfold Enters at hen
      go_wp2_with fail
      refine (HT.out f hmemf t hmem a' c' _ hsk).mono ?_; rintro e w1 ⟨rfl, hx1⟩
      cases hp : f.2 t
      · have HP := Lib.hid hp; clear hp
        simp only
        go_wp2_with fail
        go_ret
        rw [HA.out, HP.out]
        exact ⟨rfl, (by refine Ext.trans ?_ (by assumption); assumption)⟩
      · have HP := Lib.hid hp; clear hp
        simp only
        go_wp2_with fail
        go_roundw
        case rel => exact ⟨j + 1, by omega, by go_num, Lib.hid (by rw [HA.out, HP.out]; simp), (by refine Ext.trans ?_ (by assumption); assumption)⟩
        case measure => simp [intOf]; omega
    · go_wp2_with fail
      go_ret
      rw [HJ.out, List.drop_eq_nil_of_le (by omega), List.drop_eq_nil_of_le (by omega)]
      exact ⟨rfl, (by refine Ext.trans ?_ (by assumption); refine Ext.alloc ?_ _; exact Ext.refl _)⟩
 · have dn : ((l.length : Int) != (fs.length : Int)) = true := by rw [bne_iff_ne]; omega
   have hk := kidsOk_len l fs hlen
   have HK := Lib.hid hk; clear hk hlen
   go_enter Tryz.func53, Tryz.ntmps53
   go_wp2_with fail
   go_ret
   rw [HK.out]
   exact ⟨rfl, (by refine Ext.alloc ?_ _; exact Ext.refl _)⟩
end Bk
namespace Bk
open Go Go.RowKit Go.Proofs
theorem get1 {α : Type} {Q : Nat → α → Prop} {x : α} (h : Q 0 x) : ∀ i f, [x][i]? = some f → Q i f := by
 intro i f hf
 rcases i with _ | i
 · simp at hf; exact hf ▸ h
 · simp at hf
theorem get2 {α : Type} {Q : Nat → α → Prop} {x y : α} (h : Q 0 x) (h1 : Q 1 y) : ∀ i f, [x, y][i]? = some f → Q i f := by
 intro i f hf
 rcases i with _ | _ | i
 · simp at hf; exact hf ▸ h
 · simp at hf; exact hf ▸ h1
 · simp at hf
theorem get3 {α : Type} {Q : Nat → α → Prop} {x y z : α} (h : Q 0 x) (h1 : Q 1 y) (h2 : Q 2 z) : ∀ i f, [x, y, z][i]? = some f → Q i f := by
 intro i f hf
 rcases i with _ | _ | _ | i
 · simp at hf; exact hf ▸ h
 · simp at hf; exact hf ▸ h1
 · simp at hf; exact hf ▸ h2
 · simp at hf
theorem get4 {α : Type} {Q : Nat → α → Prop} {x y z u : α} (h : Q 0 x) (h1 : Q 1 y) (h2 : Q 2 z) (h3 : Q 3 u) : ∀ i f, [x, y, z, u][i]? = some f → Q i f := by
 intro i f hf
 rcases i with _ | _ | _ | _ | i
 · simp at hf; exact hf ▸ h
 · simp at hf; exact hf ▸ h1
 · simp at hf; exact hf ▸ h2
 · simp at hf; exact hf ▸ h3
 · simp at hf
theorem mem1 {α : Type} {Q : α → Prop} {x : α} (h : Q x) : ∀ f ∈ [x], Q f := by intro f hf; simp at hf; exact hf ▸ h
theorem mem2 {α : Type} {Q : α → Prop} {x y : α} (h : Q x) (h1 : Q y) : ∀ f ∈ [x, y], Q f := by
 intro f hf; simp at hf; rcases hf with rfl | rfl <;> assumption
theorem mem3 {α : Type} {Q : α → Prop} {x y z : α} (h : Q x) (h1 : Q y) (h2 : Q z) : ∀ f ∈ [x, y, z], Q f := by
 intro f hf; simp at hf; rcases hf with rfl | rfl | rfl <;> assumption
theorem mem4 {α : Type} {Q : α → Prop} {x y z u : α} (h : Q x) (h1 : Q y) (h2 : Q z) (h3 : Q u) : ∀ f ∈ [x, y, z, u], Q f := by
 intro f hf; simp at hf; rcases hf with rfl | rfl | rfl | rfl <;> assumption
theorem en_IsExpr : Enters 19 := enters_of Tryz.func19 (by kernel_rfl) rfl
theorem isExpr_leaf (n : Int) (s : List UInt8) (l : List Nd) : (Nd.mk 1 n s l).isExpr = (decide (0 ≤ n) && s.isEmpty && l.isEmpty) := by rw [Nd.isExpr.eq_def]; simp
theorem isExpr_name (k n : Int) (s : List UInt8) (l : List Nd) (h : k = 2 ∨ k = 4 ∨ k = 5) : (Nd.mk k n s l).isExpr = (named n s && l.isEmpty) := by
 rcases h with rfl | rfl | rfl <;> rw [Nd.isExpr.eq_def] <;> simp
theorem isExpr_item (f : FuncId) (n : Int) (s : List UInt8) (l : List Nd) : (Nd.mk 3 n s l).isExpr = (named n s && kidsOk l [(f, Nd.isExpr)]) := by
 rcases l with _ | ⟨x, _ | ⟨y, l⟩⟩ <;> rw [Nd.isExpr.eq_def] <;> simp [kidsOk]
theorem isExpr_un (f : FuncId) (k n : Int) (s : List UInt8) (l : List Nd) (h : k = 6 ∨ k = 7) : (Nd.mk k n s l).isExpr = (plain n s && kidsOk l [(f, Nd.isExpr)]) := by
 rcases l with _ | ⟨x, _ | ⟨y, l⟩⟩ <;> rcases h with rfl | rfl <;> rw [Nd.isExpr.eq_def] <;> simp [kidsOk]
theorem isExpr_bin (f : FuncId) (k n : Int) (s : List UInt8) (l : List Nd) (h : 8 ≤ k) (h' : k ≤ 23) : (Nd.mk k n s l).isExpr = (plain n s && kidsOk l [(f, Nd.isExpr), (f, Nd.isExpr)]) := by
 have e1 : ¬ k = 1 := by omega
 have e2 : ¬ (k = 2 ∨ k = 4 ∨ k = 5) := by omega
 have e3 : ¬ k = 3 := by omega
 have e4 : ¬ (k = 6 ∨ k = 7) := by omega
 rcases l with _ | ⟨x, _ | ⟨y, _ | ⟨z, l⟩⟩⟩ <;> rw [Nd.isExpr.eq_def] <;> simp [kidsOk, e1, e2, e3, e4, h, h']
theorem isExpr_else (k n : Int) (s : List UInt8) (l : List Nd) (h : k < 1 ∨ 23 < k) : (Nd.mk k n s l).isExpr = false := by
 have e1 : ¬ k = 1 := by omega
 have e2 : ¬ (k = 2 ∨ k = 4 ∨ k = 5) := by omega
 have e3 : ¬ k = 3 := by omega
 have e4 : ¬ (k = 6 ∨ k = 7) := by omega
 have e5 : ¬ (8 ≤ k ∧ k ≤ 23) := by omega
 rw [Nd.isExpr.eq_def]; simp [e1, e2, e3, e4, e5]
set_option maxHeartbeats 2000000 in
theorem IsExpr_c (S : Nat → Prop) (N : Nat) : ∀ t : Nd, t.size < N → t.wf → Tests S 19 Nd.isExpr t := by
 induction N with
 | zero => intro t h; omega
 | succ N ih =>
  rintro ⟨k, n, s, l⟩ hN hwf a c w hs; simp only [Nd.wf, Nd.size, Nd.sits, Nd.kind, Nd.num, Nd.name, Nd.kids, Nd.val] at *; obtain ⟨hk0, hk1, hn0, hn1, hsl, hll, hrw⟩ := hwf
  have hkid : ∀ t ∈ l, Tests S 19 Nd.isExpr t := fun t ht => ih t (by have := size_mem ht; omega) (rowWf_get hrw t ht)
  have HKID := Lib.hid hkid; clear hkid ih hrw
  have HSL := Lib.hid hsl; clear hsl
  by_cases c1 : k = 1
  · subst c1
    have hr := isExpr_leaf n s l
    have HR := Lib.hid hr; clear hr
    go_enter Tryz.func19, Tryz.ntmps19
    go_wp2_with fail
    all_goals go_ret
    all_goals rw [HR.out]
    all_goals exact ⟨ret_bool (by rw [Bool.eq_iff_iff]; first | (simp [*]; done) | (simp [*]; intros; omega)), (by repeat (first | exact Ext.refl _ | assumption | refine Ext.alloc ?_ _ | refine Ext.drew ?_ | refine Ext.trans ?_ (by assumption)))⟩
  by_cases c2 : k = 2 ∨ k = 4 ∨ k = 5
  · have hr := isExpr_name k n s l c2
    have HR := Lib.hid hr; clear hr
    cases hnm : named n s
    all_goals have HNM := Lib.hid hnm; clear hnm
    all_goals rcases c2 with rfl | rfl | rfl
    all_goals go_enter Tryz.func19, Tryz.ntmps19
    all_goals go_wp2_with (go_at_call 52; refine (named_c _ _ _ _ _ _ _ HSL.out).mono ?_; rintro e w1 ⟨rfl, hx1⟩; have hc1 := hx1.cells; rw [HNM.out])
    all_goals go_ret
    all_goals rw [HR.out, HNM.out]
    all_goals exact ⟨ret_bool (by first | rfl | (rw [Bool.eq_iff_iff]; simp)), (by repeat (first | exact Ext.refl _ | assumption | refine Ext.alloc ?_ _ | refine Ext.drew ?_ | refine Ext.trans ?_ (by assumption)))⟩
  by_cases c3 : k = 3
  · subst c3
    have hr := isExpr_item 19 n s l
    have HR := Lib.hid hr; clear hr
    cases hnm : named n s
    all_goals have HNM := Lib.hid hnm; clear hnm
    all_goals go_enter Tryz.func19, Tryz.ntmps19
    all_goals go_wp2_with (first | (go_at_call 52; refine (named_c _ _ _ _ _ _ _ HSL.out).mono ?_; rintro e w1 ⟨rfl, hx1⟩; have hc1 := hx1.cells; rw [HNM.out]) | (go_at_call 53; refine (kids_c _ _ _ l a c [(19, Nd.isExpr)] _ _ S _ hll (by decide) (hs.ext (by refine Ext.alloc ?_ _; refine Ext.trans ?_ (by assumption); refine Ext.alloc ?_ _; exact Ext.refl _)) (get1 (by go_simp)) (mem1 en_IsExpr) (mem1 HKID.out)).mono ?_; rintro e w2 ⟨rfl, hx2⟩))
    all_goals go_ret
    all_goals rw [HR.out, HNM.out]
    all_goals exact ⟨ret_bool (by simp), (by repeat (first | exact Ext.refl _ | assumption | refine Ext.alloc ?_ _ | refine Ext.drew ?_ | refine Ext.trans ?_ (by assumption)))⟩
  by_cases c4 : k = 6 ∨ k = 7
  · have hr := isExpr_un 19 k n s l c4
    have HR := Lib.hid hr; clear hr
    cases hnm : plain n s
    all_goals have HNM := Lib.hid hnm; clear hnm
    all_goals rcases c4 with rfl | rfl
    all_goals go_enter Tryz.func19, Tryz.ntmps19
    all_goals go_wp2_with (first | (go_at_call 54; refine (plain_c _ _ _ _ _ _ _).mono ?_; rintro e w1 ⟨rfl, hx1⟩; have hc1 := hx1.cells; rw [HNM.out]) | (go_at_call 53; refine (kids_c _ _ _ l a c [(19, Nd.isExpr)] _ _ S _ hll (by decide) (hs.ext (by repeat (first | exact Ext.refl _ | assumption | refine Ext.alloc ?_ _ | refine Ext.drew ?_ | refine Ext.trans ?_ (by assumption)))) (get1 (by go_simp)) (mem1 en_IsExpr) (mem1 HKID.out)).mono ?_; rintro e w2 ⟨rfl, hx2⟩))
    all_goals go_ret
    all_goals rw [HR.out, HNM.out]
    all_goals exact ⟨ret_bool (by simp), (by repeat (first | exact Ext.refl _ | assumption | refine Ext.alloc ?_ _ | refine Ext.drew ?_ | refine Ext.trans ?_ (by assumption)))⟩
  by_cases c5 : 8 ≤ k ∧ k ≤ 23
  · obtain ⟨c5a, c5b⟩ := c5
    have d1 : (k == 1) = false := by rw [beq_eq_false_iff_ne]; omega
    have d2 : (k == 2) = false := by rw [beq_eq_false_iff_ne]; omega
    have d3 : (k == 3) = false := by rw [beq_eq_false_iff_ne]; omega
    have d4 : (k == 4) = false := by rw [beq_eq_false_iff_ne]; omega
    have d5 : (k == 5) = false := by rw [beq_eq_false_iff_ne]; omega
    have d6 : (k == 6) = false := by rw [beq_eq_false_iff_ne]; omega
    have d7 : (k == 7) = false := by rw [beq_eq_false_iff_ne]; omega
    clear c1 c2 c3 c4; have hr := isExpr_bin 19 k n s l c5a c5b
    have HR := Lib.hid hr; clear hr
    cases hnm : plain n s
    all_goals have HNM := Lib.hid hnm; clear hnm
    all_goals go_enter Tryz.func19, Tryz.ntmps19
    all_goals go_wp2_with (first | (go_at_call 54; refine (plain_c _ _ _ _ _ _ _).mono ?_; rintro e w1 ⟨rfl, hx1⟩; have hc1 := hx1.cells; rw [HNM.out]) | (go_at_call 53; refine (kids_c _ _ _ l a c [(19, Nd.isExpr), (19, Nd.isExpr)] _ _ S _ hll (by decide) (hs.ext (by refine Ext.alloc ?_ _; refine Ext.trans ?_ (by assumption); refine Ext.alloc ?_ _; exact Ext.refl _)) (get2 (by go_simp) (by go_simp)) (mem2 en_IsExpr en_IsExpr) (mem2 HKID.out HKID.out)).mono ?_; rintro e w2 ⟨rfl, hx2⟩))
    all_goals go_ret
    all_goals rw [HR.out, HNM.out]
    all_goals exact ⟨ret_bool (by simp), (by repeat (first | exact Ext.refl _ | assumption | refine Ext.alloc ?_ _ | refine Ext.drew ?_ | refine Ext.trans ?_ (by assumption)))⟩
  · have hr := isExpr_else k n s l (by omega)
    have HR := Lib.hid hr; clear hr
    have d1 : (k == 1) = false := by rw [beq_eq_false_iff_ne]; omega
    have d2 : (k == 2) = false := by rw [beq_eq_false_iff_ne]; omega
    have d3 : (k == 3) = false := by rw [beq_eq_false_iff_ne]; omega
    have d4 : (k == 4) = false := by rw [beq_eq_false_iff_ne]; omega
    have d5 : (k == 5) = false := by rw [beq_eq_false_iff_ne]; omega
    have d6 : (k == 6) = false := by rw [beq_eq_false_iff_ne]; omega
    have d7 : (k == 7) = false := by rw [beq_eq_false_iff_ne]; omega
    clear c1 c2 c3 c4
    go_enter Tryz.func19, Tryz.ntmps19
    go_wp2_with fail
    all_goals go_ret
    all_goals rw [HR.out]
    all_goals exact ⟨ret_bool (by first | rfl | (simp; omega)), (by repeat (first | exact Ext.refl _ | assumption | refine Ext.alloc ?_ _ | refine Ext.drew ?_ | refine Ext.trans ?_ (by assumption)))⟩
end Bk
namespace Bk
open Go Go.RowKit Go.Proofs
theorem en_IsPlace : Enters 103 := enters_of Tryz.func103 (by kernel_rfl) rfl
theorem en_isVar : Enters 104 := enters_of Tryz.func104 (by kernel_rfl) rfl
theorem en_IsStmt : Enters 62 := enters_of Tryz.func62 (by kernel_rfl) rfl
theorem en_IsBlock : Enters 23 := enters_of Tryz.func23 (by kernel_rfl) rfl
theorem IsExpr_t (S : Nat → Prop) (t : Nd) (h : t.wf) : Tests S 19 Nd.isExpr t := IsExpr_c S (t.size + 1) t (by omega) h
theorem IsPlace_t (S : Nat → Prop) (t : Nd) (h : t.wf) : Tests S 103 Nd.isPlace t := by
 have HE := Lib.hid (IsExpr_t S t h); intro a c w hs; obtain ⟨k, n, s, l⟩ := t; have hr : (Nd.mk k n s l).isPlace = ((k == 2 || k == 3) && (Nd.mk k n s l).isExpr) := rfl
 have HR := Lib.hid hr; clear hr
 have HSI := Lib.hid hs; clear hs h
 simp only [Nd.kind, Nd.num, Nd.name, Nd.kids, Nd.val]
 by_cases h2 : k = 2 ∨ k = 3
 · rcases h2 with rfl | rfl
   all_goals go_enter Tryz.func103, Tryz.ntmps103
   all_goals go_wp2_with (go_at_call 19; refine (HE.out a c _ (HSI.out.ext (by repeat (first | exact Ext.refl _ | assumption | refine Ext.alloc ?_ _ | refine Ext.drew ?_ | refine Ext.trans ?_ (by assumption))))).mono ?_; rintro e w1 ⟨rfl, hx1⟩)
   all_goals go_ret
   all_goals rw [HR.out]
   all_goals exact ⟨ret_bool (by simp), (by repeat (first | exact Ext.refl _ | assumption | refine Ext.alloc ?_ _ | refine Ext.drew ?_ | refine Ext.trans ?_ (by assumption)))⟩
 · have d2 : (k == 2) = false := by rw [beq_eq_false_iff_ne]; omega
   have d3 : (k == 3) = false := by rw [beq_eq_false_iff_ne]; omega
   clear h2
   go_enter Tryz.func103, Tryz.ntmps103
   go_wp2_with fail
   go_ret
   rw [HR.out]
   exact ⟨ret_bool (by simp [d2, d3]), (by refine Ext.alloc ?_ _; exact Ext.refl _)⟩
theorem isVar_t (S : Nat → Prop) (t : Nd) (h : t.wf) : Tests S 104 Nd.isVar t := by
 have HE := Lib.hid (IsExpr_t S t h); intro a c w hs; obtain ⟨k, n, s, l⟩ := t; have hr : (Nd.mk k n s l).isVar = (k == 2 && (Nd.mk k n s l).isExpr) := rfl
 have HR := Lib.hid hr; clear hr
 have HSI := Lib.hid hs; clear hs h
 simp only [Nd.kind, Nd.num, Nd.name, Nd.kids, Nd.val]
 by_cases h2 : k = 2
 · subst h2
   go_enter Tryz.func104, Tryz.ntmps104
   go_wp2_with (go_at_call 19; refine (HE.out a c _ (HSI.out.ext (by refine Ext.alloc ?_ _; exact Ext.refl _))).mono ?_; rintro e w1 ⟨rfl, hx1⟩)
   go_ret
   rw [HR.out]
   exact ⟨ret_bool (by simp), (by refine Ext.trans ?_ (by assumption); refine Ext.alloc ?_ _; exact Ext.refl _)⟩
 · have d2 : (k == 2) = false := by rw [beq_eq_false_iff_ne]; omega
   clear h2
   go_enter Tryz.func104, Tryz.ntmps104
   go_wp2_with fail
   go_ret
   rw [HR.out]
   exact ⟨ret_bool (by simp [d2]), (by refine Ext.alloc ?_ _; exact Ext.refl _)⟩
theorem isStmt_40 (n : Int) (s : List UInt8) (l : List Nd) : (Nd.mk 40 n s l).isStmt = (plain n s && kidsOk l [(103, Nd.isPlace), (19, Nd.isExpr)]) := by
 rcases l with _ | ⟨x, _ | ⟨y, _ | ⟨z, _ | ⟨u, _ | ⟨v, l⟩⟩⟩⟩⟩ <;> rw [Nd.isStmt.eq_def] <;> simp [kidsOk, Bool.and_assoc]
theorem IsStmt_40 (n : Int) (s : List UInt8) (l : List Nd) (a : Option Addr) (c : Nat) (S : Nat → Prop) (w : World)
 (hs : rowSits S w l a) (hsl : s.length ≤ 9223372036854775807) (hll : l.length ≤ 9223372036854775807) (hrw : rowWf l) (hb : ∀ t ∈ l, Tests S 23 Nd.isBlock t) :
 Calls Tryz.prog 62 #[.agg #[.int .u8 40, .int .i64 n, str s, .slice a l.length c]] w fun e w' => e = .returned (.bool (Nd.mk 40 n s l).isStmt) ∧ Ext w w' := by
 have HEX : Hid (∀ t ∈ l, Tests S 19 Nd.isExpr t) := Lib.hid fun t ht => IsExpr_t S t (rowWf_get hrw t ht)
 have HPL : Hid (∀ t ∈ l, Tests S 103 Nd.isPlace t) := Lib.hid fun t ht => IsPlace_t S t (rowWf_get hrw t ht)
 have HVA : Hid (∀ t ∈ l, Tests S 104 Nd.isVar t) := Lib.hid fun t ht => isVar_t S t (rowWf_get hrw t ht)
 have HBL := Lib.hid hb; clear hb
 have HSL := Lib.hid hsl; clear hsl hrw
 have hr := isStmt_40 n s l
 have HR := Lib.hid hr; clear hr
 cases hnm : plain n s
 all_goals have HNM := Lib.hid hnm; clear hnm
 all_goals go_enter Tryz.func62, Tryz.ntmps62
 all_goals go_wp2_with (first | (go_at_call 54; refine (plain_c _ _ _ _ _ _ _).mono ?_; rintro e w1 ⟨rfl, hx1⟩; have hc1 := hx1.cells; rw [HNM.out]) | (go_at_call 53; refine (kids_c _ _ _ l a c [(103, Nd.isPlace), (19, Nd.isExpr)] _ _ S _ hll (by decide) (hs.ext (by refine Ext.alloc ?_ _; refine Ext.trans ?_ (by assumption); refine Ext.alloc ?_ _; exact Ext.refl _)) (get2 (by go_simp) (by go_simp)) (mem2 en_IsPlace en_IsExpr) (mem2 HPL.out HEX.out)).mono ?_; rintro e w2 ⟨rfl, hx2⟩))
 all_goals go_ret
 all_goals rw [HR.out, HNM.out]
 all_goals exact ⟨ret_bool (by simp), (by repeat (first | exact Ext.refl _ | assumption | refine Ext.alloc ?_ _ | refine Ext.drew ?_ | refine Ext.trans ?_ (by assumption)))⟩
theorem isStmt_41 (n : Int) (s : List UInt8) (l : List Nd) : (Nd.mk 41 n s l).isStmt = (plain n s && kidsOk l [(103, Nd.isPlace), (19, Nd.isExpr)]) := by
 rcases l with _ | ⟨x, _ | ⟨y, _ | ⟨z, _ | ⟨u, _ | ⟨v, l⟩⟩⟩⟩⟩ <;> rw [Nd.isStmt.eq_def] <;> simp [kidsOk, Bool.and_assoc]
theorem IsStmt_41 (n : Int) (s : List UInt8) (l : List Nd) (a : Option Addr) (c : Nat) (S : Nat → Prop) (w : World)
 (hs : rowSits S w l a) (hsl : s.length ≤ 9223372036854775807) (hll : l.length ≤ 9223372036854775807) (hrw : rowWf l) (hb : ∀ t ∈ l, Tests S 23 Nd.isBlock t) :
 Calls Tryz.prog 62 #[.agg #[.int .u8 41, .int .i64 n, str s, .slice a l.length c]] w fun e w' => e = .returned (.bool (Nd.mk 41 n s l).isStmt) ∧ Ext w w' := by
 have HEX : Hid (∀ t ∈ l, Tests S 19 Nd.isExpr t) := Lib.hid fun t ht => IsExpr_t S t (rowWf_get hrw t ht)
 have HPL : Hid (∀ t ∈ l, Tests S 103 Nd.isPlace t) := Lib.hid fun t ht => IsPlace_t S t (rowWf_get hrw t ht)
 have HVA : Hid (∀ t ∈ l, Tests S 104 Nd.isVar t) := Lib.hid fun t ht => isVar_t S t (rowWf_get hrw t ht)
 have HBL := Lib.hid hb; clear hb
 have HSL := Lib.hid hsl; clear hsl hrw
 have hr := isStmt_41 n s l
 have HR := Lib.hid hr; clear hr
 cases hnm : plain n s
 all_goals have HNM := Lib.hid hnm; clear hnm
 all_goals go_enter Tryz.func62, Tryz.ntmps62
 all_goals go_wp2_with (first | (go_at_call 54; refine (plain_c _ _ _ _ _ _ _).mono ?_; rintro e w1 ⟨rfl, hx1⟩; have hc1 := hx1.cells; rw [HNM.out]) | (go_at_call 53; refine (kids_c _ _ _ l a c [(103, Nd.isPlace), (19, Nd.isExpr)] _ _ S _ hll (by decide) (hs.ext (by refine Ext.alloc ?_ _; refine Ext.trans ?_ (by assumption); refine Ext.alloc ?_ _; exact Ext.refl _)) (get2 (by go_simp) (by go_simp)) (mem2 en_IsPlace en_IsExpr) (mem2 HPL.out HEX.out)).mono ?_; rintro e w2 ⟨rfl, hx2⟩))
 all_goals go_ret
 all_goals rw [HR.out, HNM.out]
 all_goals exact ⟨ret_bool (by simp), (by repeat (first | exact Ext.refl _ | assumption | refine Ext.alloc ?_ _ | refine Ext.drew ?_ | refine Ext.trans ?_ (by assumption)))⟩
theorem isStmt_42 (n : Int) (s : List UInt8) (l : List Nd) : (Nd.mk 42 n s l).isStmt = (plain n s && kidsOk l [(103, Nd.isPlace), (19, Nd.isExpr)]) := by
 rcases l with _ | ⟨x, _ | ⟨y, _ | ⟨z, _ | ⟨u, _ | ⟨v, l⟩⟩⟩⟩⟩ <;> rw [Nd.isStmt.eq_def] <;> simp [kidsOk, Bool.and_assoc]
theorem IsStmt_42 (n : Int) (s : List UInt8) (l : List Nd) (a : Option Addr) (c : Nat) (S : Nat → Prop) (w : World)
 (hs : rowSits S w l a) (hsl : s.length ≤ 9223372036854775807) (hll : l.length ≤ 9223372036854775807) (hrw : rowWf l) (hb : ∀ t ∈ l, Tests S 23 Nd.isBlock t) :
 Calls Tryz.prog 62 #[.agg #[.int .u8 42, .int .i64 n, str s, .slice a l.length c]] w fun e w' => e = .returned (.bool (Nd.mk 42 n s l).isStmt) ∧ Ext w w' := by
 have HEX : Hid (∀ t ∈ l, Tests S 19 Nd.isExpr t) := Lib.hid fun t ht => IsExpr_t S t (rowWf_get hrw t ht)
 have HPL : Hid (∀ t ∈ l, Tests S 103 Nd.isPlace t) := Lib.hid fun t ht => IsPlace_t S t (rowWf_get hrw t ht)
 have HVA : Hid (∀ t ∈ l, Tests S 104 Nd.isVar t) := Lib.hid fun t ht => isVar_t S t (rowWf_get hrw t ht)
 have HBL := Lib.hid hb; clear hb
 have HSL := Lib.hid hsl; clear hsl hrw
 have hr := isStmt_42 n s l
 have HR := Lib.hid hr; clear hr
 cases hnm : plain n s
 all_goals have HNM := Lib.hid hnm; clear hnm
 all_goals go_enter Tryz.func62, Tryz.ntmps62
 all_goals go_wp2_with (first | (go_at_call 54; refine (plain_c _ _ _ _ _ _ _).mono ?_; rintro e w1 ⟨rfl, hx1⟩; have hc1 := hx1.cells; rw [HNM.out]) | (go_at_call 53; refine (kids_c _ _ _ l a c [(103, Nd.isPlace), (19, Nd.isExpr)] _ _ S _ hll (by decide) (hs.ext (by refine Ext.alloc ?_ _; refine Ext.trans ?_ (by assumption); refine Ext.alloc ?_ _; exact Ext.refl _)) (get2 (by go_simp) (by go_simp)) (mem2 en_IsPlace en_IsExpr) (mem2 HPL.out HEX.out)).mono ?_; rintro e w2 ⟨rfl, hx2⟩))
 all_goals go_ret
 all_goals rw [HR.out, HNM.out]
 all_goals exact ⟨ret_bool (by simp), (by repeat (first | exact Ext.refl _ | assumption | refine Ext.alloc ?_ _ | refine Ext.drew ?_ | refine Ext.trans ?_ (by assumption)))⟩
theorem isStmt_56 (n : Int) (s : List UInt8) (l : List Nd) : (Nd.mk 56 n s l).isStmt = (plain n s && kidsOk l [(103, Nd.isPlace), (19, Nd.isExpr)]) := by
 rcases l with _ | ⟨x, _ | ⟨y, _ | ⟨z, _ | ⟨u, _ | ⟨v, l⟩⟩⟩⟩⟩ <;> rw [Nd.isStmt.eq_def] <;> simp [kidsOk, Bool.and_assoc]
theorem IsStmt_56 (n : Int) (s : List UInt8) (l : List Nd) (a : Option Addr) (c : Nat) (S : Nat → Prop) (w : World)
 (hs : rowSits S w l a) (hsl : s.length ≤ 9223372036854775807) (hll : l.length ≤ 9223372036854775807) (hrw : rowWf l) (hb : ∀ t ∈ l, Tests S 23 Nd.isBlock t) :
 Calls Tryz.prog 62 #[.agg #[.int .u8 56, .int .i64 n, str s, .slice a l.length c]] w fun e w' => e = .returned (.bool (Nd.mk 56 n s l).isStmt) ∧ Ext w w' := by
 have HEX : Hid (∀ t ∈ l, Tests S 19 Nd.isExpr t) := Lib.hid fun t ht => IsExpr_t S t (rowWf_get hrw t ht)
 have HPL : Hid (∀ t ∈ l, Tests S 103 Nd.isPlace t) := Lib.hid fun t ht => IsPlace_t S t (rowWf_get hrw t ht)
 have HVA : Hid (∀ t ∈ l, Tests S 104 Nd.isVar t) := Lib.hid fun t ht => isVar_t S t (rowWf_get hrw t ht)
 have HBL := Lib.hid hb; clear hb
 have HSL := Lib.hid hsl; clear hsl hrw
 have hr := isStmt_56 n s l
 have HR := Lib.hid hr; clear hr
 cases hnm : plain n s
 all_goals have HNM := Lib.hid hnm; clear hnm
 all_goals go_enter Tryz.func62, Tryz.ntmps62
 all_goals go_wp2_with (first | (go_at_call 54; refine (plain_c _ _ _ _ _ _ _).mono ?_; rintro e w1 ⟨rfl, hx1⟩; have hc1 := hx1.cells; rw [HNM.out]) | (go_at_call 53; refine (kids_c _ _ _ l a c [(103, Nd.isPlace), (19, Nd.isExpr)] _ _ S _ hll (by decide) (hs.ext (by refine Ext.alloc ?_ _; refine Ext.trans ?_ (by assumption); refine Ext.alloc ?_ _; exact Ext.refl _)) (get2 (by go_simp) (by go_simp)) (mem2 en_IsPlace en_IsExpr) (mem2 HPL.out HEX.out)).mono ?_; rintro e w2 ⟨rfl, hx2⟩))
 all_goals go_ret
 all_goals rw [HR.out, HNM.out]
 all_goals exact ⟨ret_bool (by simp), (by repeat (first | exact Ext.refl _ | assumption | refine Ext.alloc ?_ _ | refine Ext.drew ?_ | refine Ext.trans ?_ (by assumption)))⟩
theorem isStmt_43 (n : Int) (s : List UInt8) (l : List Nd) : (Nd.mk 43 n s l).isStmt = (plain n s && kidsOk l [(103, Nd.isPlace), (103, Nd.isPlace)]) := by
 rcases l with _ | ⟨x, _ | ⟨y, _ | ⟨z, _ | ⟨u, _ | ⟨v, l⟩⟩⟩⟩⟩ <;> rw [Nd.isStmt.eq_def] <;> simp [kidsOk, Bool.and_assoc]
theorem IsStmt_43 (n : Int) (s : List UInt8) (l : List Nd) (a : Option Addr) (c : Nat) (S : Nat → Prop) (w : World)
 (hs : rowSits S w l a) (hsl : s.length ≤ 9223372036854775807) (hll : l.length ≤ 9223372036854775807) (hrw : rowWf l) (hb : ∀ t ∈ l, Tests S 23 Nd.isBlock t) :
 Calls Tryz.prog 62 #[.agg #[.int .u8 43, .int .i64 n, str s, .slice a l.length c]] w fun e w' => e = .returned (.bool (Nd.mk 43 n s l).isStmt) ∧ Ext w w' := by
 have HEX : Hid (∀ t ∈ l, Tests S 19 Nd.isExpr t) := Lib.hid fun t ht => IsExpr_t S t (rowWf_get hrw t ht)
 have HPL : Hid (∀ t ∈ l, Tests S 103 Nd.isPlace t) := Lib.hid fun t ht => IsPlace_t S t (rowWf_get hrw t ht)
 have HVA : Hid (∀ t ∈ l, Tests S 104 Nd.isVar t) := Lib.hid fun t ht => isVar_t S t (rowWf_get hrw t ht)
 have HBL := Lib.hid hb; clear hb
 have HSL := Lib.hid hsl; clear hsl hrw
 have hr := isStmt_43 n s l
 have HR := Lib.hid hr; clear hr
 cases hnm : plain n s
 all_goals have HNM := Lib.hid hnm; clear hnm
 all_goals go_enter Tryz.func62, Tryz.ntmps62
 all_goals go_wp2_with (first | (go_at_call 54; refine (plain_c _ _ _ _ _ _ _).mono ?_; rintro e w1 ⟨rfl, hx1⟩; have hc1 := hx1.cells; rw [HNM.out]) | (go_at_call 53; refine (kids_c _ _ _ l a c [(103, Nd.isPlace), (103, Nd.isPlace)] _ _ S _ hll (by decide) (hs.ext (by refine Ext.alloc ?_ _; refine Ext.trans ?_ (by assumption); refine Ext.alloc ?_ _; exact Ext.refl _)) (get2 (by go_simp) (by go_simp)) (mem2 en_IsPlace en_IsPlace) (mem2 HPL.out HPL.out)).mono ?_; rintro e w2 ⟨rfl, hx2⟩))
 all_goals go_ret
 all_goals rw [HR.out, HNM.out]
 all_goals exact ⟨ret_bool (by simp), (by repeat (first | exact Ext.refl _ | assumption | refine Ext.alloc ?_ _ | refine Ext.drew ?_ | refine Ext.trans ?_ (by assumption)))⟩
theorem isStmt_44 (n : Int) (s : List UInt8) (l : List Nd) : (Nd.mk 44 n s l).isStmt = (named n s && kidsOk l [(103, Nd.isPlace)]) := by
 rcases l with _ | ⟨x, _ | ⟨y, _ | ⟨z, _ | ⟨u, _ | ⟨v, l⟩⟩⟩⟩⟩ <;> rw [Nd.isStmt.eq_def] <;> simp [kidsOk, Bool.and_assoc]
theorem IsStmt_44 (n : Int) (s : List UInt8) (l : List Nd) (a : Option Addr) (c : Nat) (S : Nat → Prop) (w : World)
 (hs : rowSits S w l a) (hsl : s.length ≤ 9223372036854775807) (hll : l.length ≤ 9223372036854775807) (hrw : rowWf l) (hb : ∀ t ∈ l, Tests S 23 Nd.isBlock t) :
 Calls Tryz.prog 62 #[.agg #[.int .u8 44, .int .i64 n, str s, .slice a l.length c]] w fun e w' => e = .returned (.bool (Nd.mk 44 n s l).isStmt) ∧ Ext w w' := by
 have HEX : Hid (∀ t ∈ l, Tests S 19 Nd.isExpr t) := Lib.hid fun t ht => IsExpr_t S t (rowWf_get hrw t ht)
 have HPL : Hid (∀ t ∈ l, Tests S 103 Nd.isPlace t) := Lib.hid fun t ht => IsPlace_t S t (rowWf_get hrw t ht)
 have HVA : Hid (∀ t ∈ l, Tests S 104 Nd.isVar t) := Lib.hid fun t ht => isVar_t S t (rowWf_get hrw t ht)
 have HBL := Lib.hid hb; clear hb
 have HSL := Lib.hid hsl; clear hsl hrw
 have hr := isStmt_44 n s l
 have HR := Lib.hid hr; clear hr
 cases hnm : named n s
 all_goals have HNM := Lib.hid hnm; clear hnm
 all_goals go_enter Tryz.func62, Tryz.ntmps62
 all_goals go_wp2_with (first | (go_at_call 52; refine (named_c _ _ _ _ _ _ _ HSL.out).mono ?_; rintro e w1 ⟨rfl, hx1⟩; have hc1 := hx1.cells; rw [HNM.out]) | (go_at_call 53; refine (kids_c _ _ _ l a c [(103, Nd.isPlace)] _ _ S _ hll (by decide) (hs.ext (by refine Ext.alloc ?_ _; refine Ext.trans ?_ (by assumption); refine Ext.alloc ?_ _; exact Ext.refl _)) (get1 (by go_simp)) (mem1 en_IsPlace) (mem1 HPL.out)).mono ?_; rintro e w2 ⟨rfl, hx2⟩))
 all_goals go_ret
 all_goals rw [HR.out, HNM.out]
 all_goals exact ⟨ret_bool (by simp), (by repeat (first | exact Ext.refl _ | assumption | refine Ext.alloc ?_ _ | refine Ext.drew ?_ | refine Ext.trans ?_ (by assumption)))⟩
theorem isStmt_45 (n : Int) (s : List UInt8) (l : List Nd) : (Nd.mk 45 n s l).isStmt = (named n s && kidsOk l [(103, Nd.isPlace)]) := by
 rcases l with _ | ⟨x, _ | ⟨y, _ | ⟨z, _ | ⟨u, _ | ⟨v, l⟩⟩⟩⟩⟩ <;> rw [Nd.isStmt.eq_def] <;> simp [kidsOk, Bool.and_assoc]
theorem IsStmt_45 (n : Int) (s : List UInt8) (l : List Nd) (a : Option Addr) (c : Nat) (S : Nat → Prop) (w : World)
 (hs : rowSits S w l a) (hsl : s.length ≤ 9223372036854775807) (hll : l.length ≤ 9223372036854775807) (hrw : rowWf l) (hb : ∀ t ∈ l, Tests S 23 Nd.isBlock t) :
 Calls Tryz.prog 62 #[.agg #[.int .u8 45, .int .i64 n, str s, .slice a l.length c]] w fun e w' => e = .returned (.bool (Nd.mk 45 n s l).isStmt) ∧ Ext w w' := by
 have HEX : Hid (∀ t ∈ l, Tests S 19 Nd.isExpr t) := Lib.hid fun t ht => IsExpr_t S t (rowWf_get hrw t ht)
 have HPL : Hid (∀ t ∈ l, Tests S 103 Nd.isPlace t) := Lib.hid fun t ht => IsPlace_t S t (rowWf_get hrw t ht)
 have HVA : Hid (∀ t ∈ l, Tests S 104 Nd.isVar t) := Lib.hid fun t ht => isVar_t S t (rowWf_get hrw t ht)
 have HBL := Lib.hid hb; clear hb
 have HSL := Lib.hid hsl; clear hsl hrw
 have hr := isStmt_45 n s l
 have HR := Lib.hid hr; clear hr
 cases hnm : named n s
 all_goals have HNM := Lib.hid hnm; clear hnm
 all_goals go_enter Tryz.func62, Tryz.ntmps62
 all_goals go_wp2_with (first | (go_at_call 52; refine (named_c _ _ _ _ _ _ _ HSL.out).mono ?_; rintro e w1 ⟨rfl, hx1⟩; have hc1 := hx1.cells; rw [HNM.out]) | (go_at_call 53; refine (kids_c _ _ _ l a c [(103, Nd.isPlace)] _ _ S _ hll (by decide) (hs.ext (by refine Ext.alloc ?_ _; refine Ext.trans ?_ (by assumption); refine Ext.alloc ?_ _; exact Ext.refl _)) (get1 (by go_simp)) (mem1 en_IsPlace) (mem1 HPL.out)).mono ?_; rintro e w2 ⟨rfl, hx2⟩))
 all_goals go_ret
 all_goals rw [HR.out, HNM.out]
 all_goals exact ⟨ret_bool (by simp), (by repeat (first | exact Ext.refl _ | assumption | refine Ext.alloc ?_ _ | refine Ext.drew ?_ | refine Ext.trans ?_ (by assumption)))⟩
theorem isStmt_46 (n : Int) (s : List UInt8) (l : List Nd) : (Nd.mk 46 n s l).isStmt = (plain n s && kidsOk l [(103, Nd.isPlace)]) := by
 rcases l with _ | ⟨x, _ | ⟨y, _ | ⟨z, _ | ⟨u, _ | ⟨v, l⟩⟩⟩⟩⟩ <;> rw [Nd.isStmt.eq_def] <;> simp [kidsOk, Bool.and_assoc]
theorem IsStmt_46 (n : Int) (s : List UInt8) (l : List Nd) (a : Option Addr) (c : Nat) (S : Nat → Prop) (w : World)
 (hs : rowSits S w l a) (hsl : s.length ≤ 9223372036854775807) (hll : l.length ≤ 9223372036854775807) (hrw : rowWf l) (hb : ∀ t ∈ l, Tests S 23 Nd.isBlock t) :
 Calls Tryz.prog 62 #[.agg #[.int .u8 46, .int .i64 n, str s, .slice a l.length c]] w fun e w' => e = .returned (.bool (Nd.mk 46 n s l).isStmt) ∧ Ext w w' := by
 have HEX : Hid (∀ t ∈ l, Tests S 19 Nd.isExpr t) := Lib.hid fun t ht => IsExpr_t S t (rowWf_get hrw t ht)
 have HPL : Hid (∀ t ∈ l, Tests S 103 Nd.isPlace t) := Lib.hid fun t ht => IsPlace_t S t (rowWf_get hrw t ht)
 have HVA : Hid (∀ t ∈ l, Tests S 104 Nd.isVar t) := Lib.hid fun t ht => isVar_t S t (rowWf_get hrw t ht)
 have HBL := Lib.hid hb; clear hb
 have HSL := Lib.hid hsl; clear hsl hrw
 have hr := isStmt_46 n s l
 have HR := Lib.hid hr; clear hr
 cases hnm : plain n s
 all_goals have HNM := Lib.hid hnm; clear hnm
 all_goals go_enter Tryz.func62, Tryz.ntmps62
 all_goals go_wp2_with (first | (go_at_call 54; refine (plain_c _ _ _ _ _ _ _).mono ?_; rintro e w1 ⟨rfl, hx1⟩; have hc1 := hx1.cells; rw [HNM.out]) | (go_at_call 53; refine (kids_c _ _ _ l a c [(103, Nd.isPlace)] _ _ S _ hll (by decide) (hs.ext (by refine Ext.alloc ?_ _; refine Ext.trans ?_ (by assumption); refine Ext.alloc ?_ _; exact Ext.refl _)) (get1 (by go_simp)) (mem1 en_IsPlace) (mem1 HPL.out)).mono ?_; rintro e w2 ⟨rfl, hx2⟩))
 all_goals go_ret
 all_goals rw [HR.out, HNM.out]
 all_goals exact ⟨ret_bool (by simp), (by repeat (first | exact Ext.refl _ | assumption | refine Ext.alloc ?_ _ | refine Ext.drew ?_ | refine Ext.trans ?_ (by assumption)))⟩
theorem isStmt_47 (n : Int) (s : List UInt8) (l : List Nd) : (Nd.mk 47 n s l).isStmt = (plain n s && kidsOk l [(103, Nd.isPlace)]) := by
 rcases l with _ | ⟨x, _ | ⟨y, _ | ⟨z, _ | ⟨u, _ | ⟨v, l⟩⟩⟩⟩⟩ <;> rw [Nd.isStmt.eq_def] <;> simp [kidsOk, Bool.and_assoc]
theorem IsStmt_47 (n : Int) (s : List UInt8) (l : List Nd) (a : Option Addr) (c : Nat) (S : Nat → Prop) (w : World)
 (hs : rowSits S w l a) (hsl : s.length ≤ 9223372036854775807) (hll : l.length ≤ 9223372036854775807) (hrw : rowWf l) (hb : ∀ t ∈ l, Tests S 23 Nd.isBlock t) :
 Calls Tryz.prog 62 #[.agg #[.int .u8 47, .int .i64 n, str s, .slice a l.length c]] w fun e w' => e = .returned (.bool (Nd.mk 47 n s l).isStmt) ∧ Ext w w' := by
 have HEX : Hid (∀ t ∈ l, Tests S 19 Nd.isExpr t) := Lib.hid fun t ht => IsExpr_t S t (rowWf_get hrw t ht)
 have HPL : Hid (∀ t ∈ l, Tests S 103 Nd.isPlace t) := Lib.hid fun t ht => IsPlace_t S t (rowWf_get hrw t ht)
 have HVA : Hid (∀ t ∈ l, Tests S 104 Nd.isVar t) := Lib.hid fun t ht => isVar_t S t (rowWf_get hrw t ht)
 have HBL := Lib.hid hb; clear hb
 have HSL := Lib.hid hsl; clear hsl hrw
 have hr := isStmt_47 n s l
 have HR := Lib.hid hr; clear hr
 cases hnm : plain n s
 all_goals have HNM := Lib.hid hnm; clear hnm
 all_goals go_enter Tryz.func62, Tryz.ntmps62
 all_goals go_wp2_with (first | (go_at_call 54; refine (plain_c _ _ _ _ _ _ _).mono ?_; rintro e w1 ⟨rfl, hx1⟩; have hc1 := hx1.cells; rw [HNM.out]) | (go_at_call 53; refine (kids_c _ _ _ l a c [(103, Nd.isPlace)] _ _ S _ hll (by decide) (hs.ext (by refine Ext.alloc ?_ _; refine Ext.trans ?_ (by assumption); refine Ext.alloc ?_ _; exact Ext.refl _)) (get1 (by go_simp)) (mem1 en_IsPlace) (mem1 HPL.out)).mono ?_; rintro e w2 ⟨rfl, hx2⟩))
 all_goals go_ret
 all_goals rw [HR.out, HNM.out]
 all_goals exact ⟨ret_bool (by simp), (by repeat (first | exact Ext.refl _ | assumption | refine Ext.alloc ?_ _ | refine Ext.drew ?_ | refine Ext.trans ?_ (by assumption)))⟩
theorem isStmt_48 (n : Int) (s : List UInt8) (l : List Nd) : (Nd.mk 48 n s l).isStmt = (plain n s && kidsOk l [(103, Nd.isPlace)]) := by
 rcases l with _ | ⟨x, _ | ⟨y, _ | ⟨z, _ | ⟨u, _ | ⟨v, l⟩⟩⟩⟩⟩ <;> rw [Nd.isStmt.eq_def] <;> simp [kidsOk, Bool.and_assoc]
theorem IsStmt_48 (n : Int) (s : List UInt8) (l : List Nd) (a : Option Addr) (c : Nat) (S : Nat → Prop) (w : World)
 (hs : rowSits S w l a) (hsl : s.length ≤ 9223372036854775807) (hll : l.length ≤ 9223372036854775807) (hrw : rowWf l) (hb : ∀ t ∈ l, Tests S 23 Nd.isBlock t) :
 Calls Tryz.prog 62 #[.agg #[.int .u8 48, .int .i64 n, str s, .slice a l.length c]] w fun e w' => e = .returned (.bool (Nd.mk 48 n s l).isStmt) ∧ Ext w w' := by
 have HEX : Hid (∀ t ∈ l, Tests S 19 Nd.isExpr t) := Lib.hid fun t ht => IsExpr_t S t (rowWf_get hrw t ht)
 have HPL : Hid (∀ t ∈ l, Tests S 103 Nd.isPlace t) := Lib.hid fun t ht => IsPlace_t S t (rowWf_get hrw t ht)
 have HVA : Hid (∀ t ∈ l, Tests S 104 Nd.isVar t) := Lib.hid fun t ht => isVar_t S t (rowWf_get hrw t ht)
 have HBL := Lib.hid hb; clear hb
 have HSL := Lib.hid hsl; clear hsl hrw
 have hr := isStmt_48 n s l
 have HR := Lib.hid hr; clear hr
 cases hnm : plain n s
 all_goals have HNM := Lib.hid hnm; clear hnm
 all_goals go_enter Tryz.func62, Tryz.ntmps62
 all_goals go_wp2_with (first | (go_at_call 54; refine (plain_c _ _ _ _ _ _ _).mono ?_; rintro e w1 ⟨rfl, hx1⟩; have hc1 := hx1.cells; rw [HNM.out]) | (go_at_call 53; refine (kids_c _ _ _ l a c [(103, Nd.isPlace)] _ _ S _ hll (by decide) (hs.ext (by refine Ext.alloc ?_ _; refine Ext.trans ?_ (by assumption); refine Ext.alloc ?_ _; exact Ext.refl _)) (get1 (by go_simp)) (mem1 en_IsPlace) (mem1 HPL.out)).mono ?_; rintro e w2 ⟨rfl, hx2⟩))
 all_goals go_ret
 all_goals rw [HR.out, HNM.out]
 all_goals exact ⟨ret_bool (by simp), (by repeat (first | exact Ext.refl _ | assumption | refine Ext.alloc ?_ _ | refine Ext.drew ?_ | refine Ext.trans ?_ (by assumption)))⟩
theorem isStmt_49 (n : Int) (s : List UInt8) (l : List Nd) : (Nd.mk 49 n s l).isStmt = (plain n s && kidsOk l [(103, Nd.isPlace)]) := by
 rcases l with _ | ⟨x, _ | ⟨y, _ | ⟨z, _ | ⟨u, _ | ⟨v, l⟩⟩⟩⟩⟩ <;> rw [Nd.isStmt.eq_def] <;> simp [kidsOk, Bool.and_assoc]
theorem IsStmt_49 (n : Int) (s : List UInt8) (l : List Nd) (a : Option Addr) (c : Nat) (S : Nat → Prop) (w : World)
 (hs : rowSits S w l a) (hsl : s.length ≤ 9223372036854775807) (hll : l.length ≤ 9223372036854775807) (hrw : rowWf l) (hb : ∀ t ∈ l, Tests S 23 Nd.isBlock t) :
 Calls Tryz.prog 62 #[.agg #[.int .u8 49, .int .i64 n, str s, .slice a l.length c]] w fun e w' => e = .returned (.bool (Nd.mk 49 n s l).isStmt) ∧ Ext w w' := by
 have HEX : Hid (∀ t ∈ l, Tests S 19 Nd.isExpr t) := Lib.hid fun t ht => IsExpr_t S t (rowWf_get hrw t ht)
 have HPL : Hid (∀ t ∈ l, Tests S 103 Nd.isPlace t) := Lib.hid fun t ht => IsPlace_t S t (rowWf_get hrw t ht)
 have HVA : Hid (∀ t ∈ l, Tests S 104 Nd.isVar t) := Lib.hid fun t ht => isVar_t S t (rowWf_get hrw t ht)
 have HBL := Lib.hid hb; clear hb
 have HSL := Lib.hid hsl; clear hsl hrw
 have hr := isStmt_49 n s l
 have HR := Lib.hid hr; clear hr
 cases hnm : plain n s
 all_goals have HNM := Lib.hid hnm; clear hnm
 all_goals go_enter Tryz.func62, Tryz.ntmps62
 all_goals go_wp2_with (first | (go_at_call 54; refine (plain_c _ _ _ _ _ _ _).mono ?_; rintro e w1 ⟨rfl, hx1⟩; have hc1 := hx1.cells; rw [HNM.out]) | (go_at_call 53; refine (kids_c _ _ _ l a c [(103, Nd.isPlace)] _ _ S _ hll (by decide) (hs.ext (by refine Ext.alloc ?_ _; refine Ext.trans ?_ (by assumption); refine Ext.alloc ?_ _; exact Ext.refl _)) (get1 (by go_simp)) (mem1 en_IsPlace) (mem1 HPL.out)).mono ?_; rintro e w2 ⟨rfl, hx2⟩))
 all_goals go_ret
 all_goals rw [HR.out, HNM.out]
 all_goals exact ⟨ret_bool (by simp), (by repeat (first | exact Ext.refl _ | assumption | refine Ext.alloc ?_ _ | refine Ext.drew ?_ | refine Ext.trans ?_ (by assumption)))⟩
theorem isStmt_52 (n : Int) (s : List UInt8) (l : List Nd) : (Nd.mk 52 n s l).isStmt = (plain n s && kidsOk l [(19, Nd.isExpr), (23, Nd.isBlock), (23, Nd.isBlock), (19, Nd.isExpr)]) := by
 rcases l with _ | ⟨x, _ | ⟨y, _ | ⟨z, _ | ⟨u, _ | ⟨v, l⟩⟩⟩⟩⟩ <;> rw [Nd.isStmt.eq_def] <;> simp [kidsOk, Bool.and_assoc]
theorem IsStmt_52 (n : Int) (s : List UInt8) (l : List Nd) (a : Option Addr) (c : Nat) (S : Nat → Prop) (w : World)
 (hs : rowSits S w l a) (hsl : s.length ≤ 9223372036854775807) (hll : l.length ≤ 9223372036854775807) (hrw : rowWf l) (hb : ∀ t ∈ l, Tests S 23 Nd.isBlock t) :
 Calls Tryz.prog 62 #[.agg #[.int .u8 52, .int .i64 n, str s, .slice a l.length c]] w fun e w' => e = .returned (.bool (Nd.mk 52 n s l).isStmt) ∧ Ext w w' := by
 have HEX : Hid (∀ t ∈ l, Tests S 19 Nd.isExpr t) := Lib.hid fun t ht => IsExpr_t S t (rowWf_get hrw t ht)
 have HPL : Hid (∀ t ∈ l, Tests S 103 Nd.isPlace t) := Lib.hid fun t ht => IsPlace_t S t (rowWf_get hrw t ht)
 have HVA : Hid (∀ t ∈ l, Tests S 104 Nd.isVar t) := Lib.hid fun t ht => isVar_t S t (rowWf_get hrw t ht)
 have HBL := Lib.hid hb; clear hb
 have HSL := Lib.hid hsl; clear hsl hrw
 have hr := isStmt_52 n s l
 have HR := Lib.hid hr; clear hr
 cases hnm : plain n s
 all_goals have HNM := Lib.hid hnm; clear hnm
 all_goals go_enter Tryz.func62, Tryz.ntmps62
 all_goals go_wp2_with (first | (go_at_call 54; refine (plain_c _ _ _ _ _ _ _).mono ?_; rintro e w1 ⟨rfl, hx1⟩; have hc1 := hx1.cells; rw [HNM.out]) | (go_at_call 53; refine (kids_c _ _ _ l a c [(19, Nd.isExpr), (23, Nd.isBlock), (23, Nd.isBlock), (19, Nd.isExpr)] _ _ S _ hll (by decide) (hs.ext (by refine Ext.alloc ?_ _; refine Ext.trans ?_ (by assumption); refine Ext.alloc ?_ _; exact Ext.refl _)) (get4 (by go_simp) (by go_simp) (by go_simp) (by go_simp)) (mem4 en_IsExpr en_IsBlock en_IsBlock en_IsExpr) (mem4 HEX.out HBL.out HBL.out HEX.out)).mono ?_; rintro e w2 ⟨rfl, hx2⟩))
 all_goals go_ret
 all_goals rw [HR.out, HNM.out]
 all_goals exact ⟨ret_bool (by simp), (by repeat (first | exact Ext.refl _ | assumption | refine Ext.alloc ?_ _ | refine Ext.drew ?_ | refine Ext.trans ?_ (by assumption)))⟩
theorem isStmt_53 (n : Int) (s : List UInt8) (l : List Nd) : (Nd.mk 53 n s l).isStmt = (plain n s && kidsOk l [(19, Nd.isExpr), (23, Nd.isBlock), (23, Nd.isBlock), (19, Nd.isExpr)]) := by
 rcases l with _ | ⟨x, _ | ⟨y, _ | ⟨z, _ | ⟨u, _ | ⟨v, l⟩⟩⟩⟩⟩ <;> rw [Nd.isStmt.eq_def] <;> simp [kidsOk, Bool.and_assoc]
theorem IsStmt_53 (n : Int) (s : List UInt8) (l : List Nd) (a : Option Addr) (c : Nat) (S : Nat → Prop) (w : World)
 (hs : rowSits S w l a) (hsl : s.length ≤ 9223372036854775807) (hll : l.length ≤ 9223372036854775807) (hrw : rowWf l) (hb : ∀ t ∈ l, Tests S 23 Nd.isBlock t) :
 Calls Tryz.prog 62 #[.agg #[.int .u8 53, .int .i64 n, str s, .slice a l.length c]] w fun e w' => e = .returned (.bool (Nd.mk 53 n s l).isStmt) ∧ Ext w w' := by
 have HEX : Hid (∀ t ∈ l, Tests S 19 Nd.isExpr t) := Lib.hid fun t ht => IsExpr_t S t (rowWf_get hrw t ht)
 have HPL : Hid (∀ t ∈ l, Tests S 103 Nd.isPlace t) := Lib.hid fun t ht => IsPlace_t S t (rowWf_get hrw t ht)
 have HVA : Hid (∀ t ∈ l, Tests S 104 Nd.isVar t) := Lib.hid fun t ht => isVar_t S t (rowWf_get hrw t ht)
 have HBL := Lib.hid hb; clear hb
 have HSL := Lib.hid hsl; clear hsl hrw
 have hr := isStmt_53 n s l
 have HR := Lib.hid hr; clear hr
 cases hnm : plain n s
 all_goals have HNM := Lib.hid hnm; clear hnm
 all_goals go_enter Tryz.func62, Tryz.ntmps62
 all_goals go_wp2_with (first | (go_at_call 54; refine (plain_c _ _ _ _ _ _ _).mono ?_; rintro e w1 ⟨rfl, hx1⟩; have hc1 := hx1.cells; rw [HNM.out]) | (go_at_call 53; refine (kids_c _ _ _ l a c [(19, Nd.isExpr), (23, Nd.isBlock), (23, Nd.isBlock), (19, Nd.isExpr)] _ _ S _ hll (by decide) (hs.ext (by refine Ext.alloc ?_ _; refine Ext.trans ?_ (by assumption); refine Ext.alloc ?_ _; exact Ext.refl _)) (get4 (by go_simp) (by go_simp) (by go_simp) (by go_simp)) (mem4 en_IsExpr en_IsBlock en_IsBlock en_IsExpr) (mem4 HEX.out HBL.out HBL.out HEX.out)).mono ?_; rintro e w2 ⟨rfl, hx2⟩))
 all_goals go_ret
 all_goals rw [HR.out, HNM.out]
 all_goals exact ⟨ret_bool (by simp), (by repeat (first | exact Ext.refl _ | assumption | refine Ext.alloc ?_ _ | refine Ext.drew ?_ | refine Ext.trans ?_ (by assumption)))⟩
theorem isStmt_54 (n : Int) (s : List UInt8) (l : List Nd) : (Nd.mk 54 n s l).isStmt = (named n s && kidsOk l [(19, Nd.isExpr), (23, Nd.isBlock), (19, Nd.isExpr)]) := by
 rcases l with _ | ⟨x, _ | ⟨y, _ | ⟨z, _ | ⟨u, _ | ⟨v, l⟩⟩⟩⟩⟩ <;> rw [Nd.isStmt.eq_def] <;> simp [kidsOk, Bool.and_assoc]
theorem IsStmt_54 (n : Int) (s : List UInt8) (l : List Nd) (a : Option Addr) (c : Nat) (S : Nat → Prop) (w : World)
 (hs : rowSits S w l a) (hsl : s.length ≤ 9223372036854775807) (hll : l.length ≤ 9223372036854775807) (hrw : rowWf l) (hb : ∀ t ∈ l, Tests S 23 Nd.isBlock t) :
 Calls Tryz.prog 62 #[.agg #[.int .u8 54, .int .i64 n, str s, .slice a l.length c]] w fun e w' => e = .returned (.bool (Nd.mk 54 n s l).isStmt) ∧ Ext w w' := by
 have HEX : Hid (∀ t ∈ l, Tests S 19 Nd.isExpr t) := Lib.hid fun t ht => IsExpr_t S t (rowWf_get hrw t ht)
 have HPL : Hid (∀ t ∈ l, Tests S 103 Nd.isPlace t) := Lib.hid fun t ht => IsPlace_t S t (rowWf_get hrw t ht)
 have HVA : Hid (∀ t ∈ l, Tests S 104 Nd.isVar t) := Lib.hid fun t ht => isVar_t S t (rowWf_get hrw t ht)
 have HBL := Lib.hid hb; clear hb
 have HSL := Lib.hid hsl; clear hsl hrw
 have hr := isStmt_54 n s l
 have HR := Lib.hid hr; clear hr
 cases hnm : named n s
 all_goals have HNM := Lib.hid hnm; clear hnm
 all_goals go_enter Tryz.func62, Tryz.ntmps62
 all_goals go_wp2_with (first | (go_at_call 52; refine (named_c _ _ _ _ _ _ _ HSL.out).mono ?_; rintro e w1 ⟨rfl, hx1⟩; have hc1 := hx1.cells; rw [HNM.out]) | (go_at_call 53; refine (kids_c _ _ _ l a c [(19, Nd.isExpr), (23, Nd.isBlock), (19, Nd.isExpr)] _ _ S _ hll (by decide) (hs.ext (by refine Ext.alloc ?_ _; refine Ext.trans ?_ (by assumption); refine Ext.alloc ?_ _; exact Ext.refl _)) (get3 (by go_simp) (by go_simp) (by go_simp)) (mem3 en_IsExpr en_IsBlock en_IsExpr) (mem3 HEX.out HBL.out HEX.out)).mono ?_; rintro e w2 ⟨rfl, hx2⟩))
 all_goals go_ret
 all_goals rw [HR.out, HNM.out]
 all_goals exact ⟨ret_bool (by simp), (by repeat (first | exact Ext.refl _ | assumption | refine Ext.alloc ?_ _ | refine Ext.drew ?_ | refine Ext.trans ?_ (by assumption)))⟩
theorem isStmt_55 (n : Int) (s : List UInt8) (l : List Nd) : (Nd.mk 55 n s l).isStmt = (named n s && kidsOk l [(23, Nd.isBlock)]) := by
 rcases l with _ | ⟨x, _ | ⟨y, _ | ⟨z, _ | ⟨u, _ | ⟨v, l⟩⟩⟩⟩⟩ <;> rw [Nd.isStmt.eq_def] <;> simp [kidsOk, Bool.and_assoc]
theorem IsStmt_55 (n : Int) (s : List UInt8) (l : List Nd) (a : Option Addr) (c : Nat) (S : Nat → Prop) (w : World)
 (hs : rowSits S w l a) (hsl : s.length ≤ 9223372036854775807) (hll : l.length ≤ 9223372036854775807) (hrw : rowWf l) (hb : ∀ t ∈ l, Tests S 23 Nd.isBlock t) :
 Calls Tryz.prog 62 #[.agg #[.int .u8 55, .int .i64 n, str s, .slice a l.length c]] w fun e w' => e = .returned (.bool (Nd.mk 55 n s l).isStmt) ∧ Ext w w' := by
 have HEX : Hid (∀ t ∈ l, Tests S 19 Nd.isExpr t) := Lib.hid fun t ht => IsExpr_t S t (rowWf_get hrw t ht)
 have HPL : Hid (∀ t ∈ l, Tests S 103 Nd.isPlace t) := Lib.hid fun t ht => IsPlace_t S t (rowWf_get hrw t ht)
 have HVA : Hid (∀ t ∈ l, Tests S 104 Nd.isVar t) := Lib.hid fun t ht => isVar_t S t (rowWf_get hrw t ht)
 have HBL := Lib.hid hb; clear hb
 have HSL := Lib.hid hsl; clear hsl hrw
 have hr := isStmt_55 n s l
 have HR := Lib.hid hr; clear hr
 cases hnm : named n s
 all_goals have HNM := Lib.hid hnm; clear hnm
 all_goals go_enter Tryz.func62, Tryz.ntmps62
 all_goals go_wp2_with (first | (go_at_call 52; refine (named_c _ _ _ _ _ _ _ HSL.out).mono ?_; rintro e w1 ⟨rfl, hx1⟩; have hc1 := hx1.cells; rw [HNM.out]) | (go_at_call 53; refine (kids_c _ _ _ l a c [(23, Nd.isBlock)] _ _ S _ hll (by decide) (hs.ext (by refine Ext.alloc ?_ _; refine Ext.trans ?_ (by assumption); refine Ext.alloc ?_ _; exact Ext.refl _)) (get1 (by go_simp)) (mem1 en_IsBlock) (mem1 HBL.out)).mono ?_; rintro e w2 ⟨rfl, hx2⟩))
 all_goals go_ret
 all_goals rw [HR.out, HNM.out]
 all_goals exact ⟨ret_bool (by simp), (by repeat (first | exact Ext.refl _ | assumption | refine Ext.alloc ?_ _ | refine Ext.drew ?_ | refine Ext.trans ?_ (by assumption)))⟩
theorem isStmt_50 (n : Int) (s : List UInt8) (l : List Nd) : (Nd.mk 50 n s l).isStmt = (named n s && decide (l.length ≤ 8) && l.all Nd.isVar) := by
 rw [Nd.isStmt.eq_def]; simp
theorem IsStmt_50 (n : Int) (s : List UInt8) (l : List Nd) (a : Option Addr) (c : Nat) (S : Nat → Prop) (w : World)
 (hs : rowSits S w l a) (hsl : s.length ≤ 9223372036854775807) (hll : l.length ≤ 9223372036854775807) (hrw : rowWf l) (hb : ∀ t ∈ l, Tests S 23 Nd.isBlock t) :
 Calls Tryz.prog 62 #[.agg #[.int .u8 50, .int .i64 n, str s, .slice a l.length c]] w fun e w' => e = .returned (.bool (Nd.mk 50 n s l).isStmt) ∧ Ext w w' := by
 have HEX : Hid (∀ t ∈ l, Tests S 19 Nd.isExpr t) := Lib.hid fun t ht => IsExpr_t S t (rowWf_get hrw t ht)
 have HPL : Hid (∀ t ∈ l, Tests S 103 Nd.isPlace t) := Lib.hid fun t ht => IsPlace_t S t (rowWf_get hrw t ht)
 have HVA : Hid (∀ t ∈ l, Tests S 104 Nd.isVar t) := Lib.hid fun t ht => isVar_t S t (rowWf_get hrw t ht)
 have HBL := Lib.hid hb; clear hb
 have HSL := Lib.hid hsl; clear hsl hrw
 have hr := isStmt_50 n s l
 have HR := Lib.hid hr; clear hr
 cases hnm : named n s
 · have HNM := Lib.hid hnm; clear hnm
   go_enter Tryz.func62, Tryz.ntmps62
   go_wp2_with (first | (go_at_call 52; refine (named_c _ _ _ _ _ _ _ HSL.out).mono ?_; rintro e w1 ⟨rfl, hx1⟩; have hc1 := hx1.cells; rw [HNM.out]))
   go_ret
   rw [HR.out, HNM.out]
   exact ⟨ret_bool (by simp), (by refine Ext.trans ?_ (by assumption); refine Ext.alloc ?_ _; exact Ext.refl _)⟩
 · have HNM := Lib.hid hnm; clear hnm
   by_cases h8 : l.length ≤ 8
   · have d8 : decide ((l.length : Int) ≤ 8) = true := by simp; omega
     have H8 := Lib.hid h8; clear h8
     go_enter Tryz.func62, Tryz.ntmps62
     go_wp2_with (first | (go_at_call 52; refine (named_c _ _ _ _ _ _ _ HSL.out).mono ?_; rintro e w1 ⟨rfl, hx1⟩; have hc1 := hx1.cells; rw [HNM.out]) | (go_at_call 61; refine (every_c 104 Nd.isVar en_isVar l a c S _ hll (hs.ext (by refine Ext.trans ?_ (by assumption); refine Ext.alloc ?_ _; exact Ext.refl _)) HVA.out).mono ?_; rintro e w2 ⟨rfl, hx2⟩))
     go_ret
     rw [HR.out, HNM.out]
     exact ⟨ret_bool (by simp [H8.out]), (by refine Ext.trans ?_ (by assumption); refine Ext.trans ?_ (by assumption); refine Ext.alloc ?_ _; exact Ext.refl _)⟩
   · have d8 : decide ((l.length : Int) ≤ 8) = false := by simp; omega
     have H8 := Lib.hid h8; clear h8
     go_enter Tryz.func62, Tryz.ntmps62
     go_wp2_with (first | (go_at_call 52; refine (named_c _ _ _ _ _ _ _ HSL.out).mono ?_; rintro e w1 ⟨rfl, hx1⟩; have hc1 := hx1.cells; rw [HNM.out]))
     go_ret
     rw [HR.out, HNM.out]
     exact ⟨ret_bool (by simp [H8.out]), (by refine Ext.trans ?_ (by assumption); refine Ext.alloc ?_ _; exact Ext.refl _)⟩
theorem isStmt_51 (n : Int) (s : List UInt8) (l : List Nd) : (Nd.mk 51 n s l).isStmt = (named n s && decide (l.length ≤ 8) && l.all Nd.isVar) := by
 rw [Nd.isStmt.eq_def]; simp
theorem IsStmt_51 (n : Int) (s : List UInt8) (l : List Nd) (a : Option Addr) (c : Nat) (S : Nat → Prop) (w : World)
 (hs : rowSits S w l a) (hsl : s.length ≤ 9223372036854775807) (hll : l.length ≤ 9223372036854775807) (hrw : rowWf l) (hb : ∀ t ∈ l, Tests S 23 Nd.isBlock t) :
 Calls Tryz.prog 62 #[.agg #[.int .u8 51, .int .i64 n, str s, .slice a l.length c]] w fun e w' => e = .returned (.bool (Nd.mk 51 n s l).isStmt) ∧ Ext w w' := by
 have HEX : Hid (∀ t ∈ l, Tests S 19 Nd.isExpr t) := Lib.hid fun t ht => IsExpr_t S t (rowWf_get hrw t ht)
 have HPL : Hid (∀ t ∈ l, Tests S 103 Nd.isPlace t) := Lib.hid fun t ht => IsPlace_t S t (rowWf_get hrw t ht)
 have HVA : Hid (∀ t ∈ l, Tests S 104 Nd.isVar t) := Lib.hid fun t ht => isVar_t S t (rowWf_get hrw t ht)
 have HBL := Lib.hid hb; clear hb
 have HSL := Lib.hid hsl; clear hsl hrw
 have hr := isStmt_51 n s l
 have HR := Lib.hid hr; clear hr
 cases hnm : named n s
 · have HNM := Lib.hid hnm; clear hnm
   go_enter Tryz.func62, Tryz.ntmps62
   go_wp2_with (first | (go_at_call 52; refine (named_c _ _ _ _ _ _ _ HSL.out).mono ?_; rintro e w1 ⟨rfl, hx1⟩; have hc1 := hx1.cells; rw [HNM.out]))
   go_ret
   rw [HR.out, HNM.out]
   exact ⟨ret_bool (by simp), (by refine Ext.trans ?_ (by assumption); refine Ext.alloc ?_ _; exact Ext.refl _)⟩
 · have HNM := Lib.hid hnm; clear hnm
   by_cases h8 : l.length ≤ 8
   · have d8 : decide ((l.length : Int) ≤ 8) = true := by simp; omega
     have H8 := Lib.hid h8; clear h8
     go_enter Tryz.func62, Tryz.ntmps62
     go_wp2_with (first | (go_at_call 52; refine (named_c _ _ _ _ _ _ _ HSL.out).mono ?_; rintro e w1 ⟨rfl, hx1⟩; have hc1 := hx1.cells; rw [HNM.out]) | (go_at_call 61; refine (every_c 104 Nd.isVar en_isVar l a c S _ hll (hs.ext (by refine Ext.trans ?_ (by assumption); refine Ext.alloc ?_ _; exact Ext.refl _)) HVA.out).mono ?_; rintro e w2 ⟨rfl, hx2⟩))
     go_ret
     rw [HR.out, HNM.out]
     exact ⟨ret_bool (by simp [H8.out]), (by refine Ext.trans ?_ (by assumption); refine Ext.trans ?_ (by assumption); refine Ext.alloc ?_ _; exact Ext.refl _)⟩
   · have d8 : decide ((l.length : Int) ≤ 8) = false := by simp; omega
     have H8 := Lib.hid h8; clear h8
     go_enter Tryz.func62, Tryz.ntmps62
     go_wp2_with (first | (go_at_call 52; refine (named_c _ _ _ _ _ _ _ HSL.out).mono ?_; rintro e w1 ⟨rfl, hx1⟩; have hc1 := hx1.cells; rw [HNM.out]))
     go_ret
     rw [HR.out, HNM.out]
     exact ⟨ret_bool (by simp [H8.out]), (by refine Ext.trans ?_ (by assumption); refine Ext.alloc ?_ _; exact Ext.refl _)⟩
theorem isStmt_else (k n : Int) (s : List UInt8) (l : List Nd) (h : k < 40 ∨ 56 < k) : (Nd.mk k n s l).isStmt = false := by
 rw [Nd.isStmt.eq_def]; simp only []; rw [if_neg (by omega), if_neg (by omega), if_neg (by omega), if_neg (by omega), if_neg (by omega), if_neg (by omega), if_neg (by omega), if_neg (by omega)]
theorem IsStmt_else (k n : Int) (s : List UInt8) (l : List Nd) (a : Option Addr) (c : Nat) (w : World) (h : k < 40 ∨ 56 < k) :
 Calls Tryz.prog 62 #[.agg #[.int .u8 k, .int .i64 n, str s, .slice a l.length c]] w fun e w' => e = .returned (.bool (Nd.mk k n s l).isStmt) ∧ Ext w w' := by
 have hr := isStmt_else k n s l h
 have HR := Lib.hid hr; clear hr
 have d40 : (k == 40) = false := by rw [beq_eq_false_iff_ne]; omega
 have d41 : (k == 41) = false := by rw [beq_eq_false_iff_ne]; omega
 have d42 : (k == 42) = false := by rw [beq_eq_false_iff_ne]; omega
 have d43 : (k == 43) = false := by rw [beq_eq_false_iff_ne]; omega
 have d44 : (k == 44) = false := by rw [beq_eq_false_iff_ne]; omega
 have d45 : (k == 45) = false := by rw [beq_eq_false_iff_ne]; omega
 have d46 : (k == 46) = false := by rw [beq_eq_false_iff_ne]; omega
 have d47 : (k == 47) = false := by rw [beq_eq_false_iff_ne]; omega
 have d48 : (k == 48) = false := by rw [beq_eq_false_iff_ne]; omega
 have d49 : (k == 49) = false := by rw [beq_eq_false_iff_ne]; omega
 have d50 : (k == 50) = false := by rw [beq_eq_false_iff_ne]; omega
 have d51 : (k == 51) = false := by rw [beq_eq_false_iff_ne]; omega
 have d52 : (k == 52) = false := by rw [beq_eq_false_iff_ne]; omega
 have d53 : (k == 53) = false := by rw [beq_eq_false_iff_ne]; omega
 have d54 : (k == 54) = false := by rw [beq_eq_false_iff_ne]; omega
 have d55 : (k == 55) = false := by rw [beq_eq_false_iff_ne]; omega
 have d56 : (k == 56) = false := by rw [beq_eq_false_iff_ne]; omega
 clear h
 go_enter Tryz.func62, Tryz.ntmps62
 go_wp2_with fail
 go_ret
 rw [HR.out]
 exact ⟨rfl, (by refine Ext.alloc ?_ _; exact Ext.refl _)⟩
theorem IsStmt_any (k n : Int) (s : List UInt8) (l : List Nd) (a : Option Addr) (c : Nat) (S : Nat → Prop) (w : World)
 (hs : rowSits S w l a) (hsl : s.length ≤ 9223372036854775807) (hll : l.length ≤ 9223372036854775807) (hrw : rowWf l) (hb : ∀ t ∈ l, Tests S 23 Nd.isBlock t) :
 Calls Tryz.prog 62 #[.agg #[.int .u8 k, .int .i64 n, str s, .slice a l.length c]] w fun e w' => e = .returned (.bool (Nd.mk k n s l).isStmt) ∧ Ext w w' := by
 by_cases h : k < 40 ∨ 56 < k
 · exact IsStmt_else k n s l a c w h
 by_cases h40 : k = 40
 · subst h40; exact IsStmt_40 n s l a c S w hs hsl hll hrw hb
 by_cases h41 : k = 41
 · subst h41; exact IsStmt_41 n s l a c S w hs hsl hll hrw hb
 by_cases h42 : k = 42
 · subst h42; exact IsStmt_42 n s l a c S w hs hsl hll hrw hb
 by_cases h43 : k = 43
 · subst h43; exact IsStmt_43 n s l a c S w hs hsl hll hrw hb
 by_cases h44 : k = 44
 · subst h44; exact IsStmt_44 n s l a c S w hs hsl hll hrw hb
 by_cases h45 : k = 45
 · subst h45; exact IsStmt_45 n s l a c S w hs hsl hll hrw hb
 by_cases h46 : k = 46
 · subst h46; exact IsStmt_46 n s l a c S w hs hsl hll hrw hb
 by_cases h47 : k = 47
 · subst h47; exact IsStmt_47 n s l a c S w hs hsl hll hrw hb
 by_cases h48 : k = 48
 · subst h48; exact IsStmt_48 n s l a c S w hs hsl hll hrw hb
 by_cases h49 : k = 49
 · subst h49; exact IsStmt_49 n s l a c S w hs hsl hll hrw hb
 by_cases h50 : k = 50
 · subst h50; exact IsStmt_50 n s l a c S w hs hsl hll hrw hb
 by_cases h51 : k = 51
 · subst h51; exact IsStmt_51 n s l a c S w hs hsl hll hrw hb
 by_cases h52 : k = 52
 · subst h52; exact IsStmt_52 n s l a c S w hs hsl hll hrw hb
 by_cases h53 : k = 53
 · subst h53; exact IsStmt_53 n s l a c S w hs hsl hll hrw hb
 by_cases h54 : k = 54
 · subst h54; exact IsStmt_54 n s l a c S w hs hsl hll hrw hb
 by_cases h55 : k = 55
 · subst h55; exact IsStmt_55 n s l a c S w hs hsl hll hrw hb
 by_cases h56 : k = 56
 · subst h56; exact IsStmt_56 n s l a c S w hs hsl hll hrw hb
 omega
theorem IsBlock_any (k n : Int) (s : List UInt8) (l : List Nd) (a : Option Addr) (c : Nat) (S : Nat → Prop) (w : World)
 (hs : rowSits S w l a) (hll : l.length ≤ 9223372036854775807) (ht : ∀ t ∈ l, Tests S 62 Nd.isStmt t) :
 Calls Tryz.prog 23 #[.agg #[.int .u8 k, .int .i64 n, str s, .slice a l.length c]] w fun e w' => e = .returned (.bool (Nd.mk k n s l).isBlock) ∧ Ext w w' := by
 have hall : ∀ r : List Nd, rowStmt r = r.all Nd.isStmt := by
  intro r
  induction r with
  | nil => rfl
  | cons x r ih => simp [rowStmt, ih]
 have hr : (Nd.mk k n s l).isBlock = (k == 57 && plain n s && l.all Nd.isStmt) := by rw [Nd.isBlock, hall]
 have HR := Lib.hid hr; clear hr hall
 have HT := Lib.hid ht; clear ht
 by_cases h57 : k = 57
 · subst h57
   cases hnm : plain n s
   all_goals have HNM := Lib.hid hnm; clear hnm
   all_goals go_enter Tryz.func23, Tryz.ntmps23
   all_goals go_wp2_with (first | (go_at_call 54; refine (plain_c _ _ _ _ _ _ _).mono ?_; rintro e w1 ⟨rfl, hx1⟩; have hc1 := hx1.cells; rw [HNM.out]) | (go_at_call 61; refine (every_c 62 Nd.isStmt en_IsStmt l a c S _ hll (hs.ext (by refine Ext.trans ?_ (by assumption); refine Ext.alloc ?_ _; exact Ext.refl _)) HT.out).mono ?_; rintro e w2 ⟨rfl, hx2⟩))
   all_goals go_ret
   all_goals rw [HR.out, HNM.out]
   all_goals exact ⟨ret_bool (by simp), (by repeat (first | exact Ext.refl _ | assumption | refine Ext.alloc ?_ _ | refine Ext.drew ?_ | refine Ext.trans ?_ (by assumption)))⟩
 · have d57 : (k == 57) = false := by rw [beq_eq_false_iff_ne]; omega
   clear h57
   go_enter Tryz.func23, Tryz.ntmps23
   go_wp2_with fail
   go_ret
   rw [HR.out]
   exact ⟨ret_bool (by simp [d57]), (by refine Ext.alloc ?_ _; exact Ext.refl _)⟩
theorem IsStmtBlock_c (S : Nat → Prop) (N : Nat) : (∀ t : Nd, t.size < N → t.wf → Tests S 62 Nd.isStmt t) ∧ (∀ t : Nd, t.size < N → t.wf → Tests S 23 Nd.isBlock t) := by
 induction N with
 | zero => exact ⟨fun t h => absurd h (Nat.not_lt_zero _), fun t h => absurd h (Nat.not_lt_zero _)⟩
 | succ N ih =>
  refine ⟨?_, ?_⟩
  · rintro ⟨k, n, s, l⟩ hN hwf a c w hs
    simp only [Nd.wf, Nd.size, Nd.sits] at *
    exact IsStmt_any k n s l a c S w hs hwf.2.2.2.2.1 hwf.2.2.2.2.2.1 hwf.2.2.2.2.2.2 (fun t ht => ih.2 t (by have := size_mem ht; omega) (rowWf_get hwf.2.2.2.2.2.2 t ht))
  · rintro ⟨k, n, s, l⟩ hN hwf a c w hs
    simp only [Nd.wf, Nd.size, Nd.sits] at *
    exact IsBlock_any k n s l a c S w hs hwf.2.2.2.2.2.1 (fun t ht => ih.1 t (by have := size_mem ht; omega) (rowWf_get hwf.2.2.2.2.2.2 t ht))
theorem IsBlock_t (S : Nat → Prop) (t : Nd) (h : t.wf) : Tests S 23 Nd.isBlock t := (IsStmtBlock_c S (t.size + 1)).2 t (by omega) h
end Bk
namespace Bk
open Go Go.RowKit Go.Proofs
structure VD.wf (v : VD) : Prop where
 name : v.name.length ≤ 9223372036854775807
 k0 : 0 ≤ v.kind
 k1 : v.kind ≤ 255
 l0 : -9223372036854775808 ≤ v.len
 l1 : v.len ≤ 9223372036854775807
theorem allOk_false {l : List VD} {j : Nat} (h : j < l.length) (hk : l[j].ok = false) : allOk l = false := by
 unfold allOk
 rw [List.all_eq_false]
 exact ⟨l[j], List.getElem_mem h, by simp [hk]⟩
theorem allOk_true {l : List VD} (h : ∀ j (hj : j < l.length), l[j].ok = true) : allOk l = true := by
 unfold allOk
 rw [List.all_eq_true]; intro x hx; obtain ⟨i, hi, rfl⟩ := List.mem_iff_getElem.1 hx
 exact h i hi
set_option maxRecDepth 100000 in
set_option maxHeartbeats 1000000 in
theorem declared_c (l : List VD) (S : Nat → Prop) (a : Option Addr) (c : Nat) (w : World) (hl : l.length ≤ 9223372036854775807) (hwf : ∀ v ∈ l, v.wf) (hs : VDs S w l a) :
 Calls Tryz.prog 58 #[.slice a l.length c] w fun e w' => e = .returned (.bool (allOk l)) ∧ Ext w w' := by
 refine calls_in Tryz.func58 Tryz.ntmps58 rfl rfl ?_; (refine cw_seq ?_; refine cw_region ?_; (refine lw_is ?_; refine lw_pure (by exact pur_assign rfl) rfl ?_); refine lw_nil ?_; refine qw_then ?_; refine cw_seq ?_; refine cw_seq ?_; refine cw_region ?_; (refine lw_is ?_; refine lw_pure (by exact pur_move rfl) rfl ?_); (refine lw_is ?_; refine lw_pure (by exact pur_len_slice tabOk rfl rfl) rfl ?_); (refine lw_is ?_; refine lw_pure (by exact pur_move rfl) rfl ?_); refine lw_nil ?_; refine qw_then ?_; refine cw_block ?_); refine cw_loop (ι := Nat) (fun j => [(7, .int .i64 j), (6, .int .i64 l.length), (5, .slice a l.length c)]) (fun j w' => Ext w w' ∧ j ≤ l.length ∧ ∀ i (hi : i < l.length), i < j → l[i].ok = true) (fun j => l.length - j) 0 (by (refine sub_cons rfl ?_; refine sub_cons rfl ?_; refine sub_cons rfl ?_; exact sub_nil)) ⟨Ext.refl _, by omega, by omega⟩ ?_; rintro j w1 ⟨x1, hj, hall⟩
 have HA := Lib.hid hall; clear hall
 by_cases hlt : j < l.length
 · obtain ⟨kb, ko, rfl, -, hkid⟩ := (hs.ext x1).get (by omega)
   have rx : Row w1 ⟨kb, ko + j * 3, none⟩ l[j].cells := hkid j l[j] (List.getElem?_eq_getElem hlt); have wf := hwf l[j] (List.getElem_mem hlt); have wf1 := wf.name; have HF : l[j].ok = false → allOk l = false := allOk_false hlt; have HN := Lib.hid HF; clear HF hkid
   generalize hv : l[j] = v at *
   have HE := Lib.hid hv; clear hv
   (refine cw_seq ?_; refine cw_region ?_; (refine lw_is ?_; refine lw_pure (by exact pur_lss rfl rfl) rfl ?_); refine lw_nil ?_; refine qw_then ?_; refine cw_seq ?_; (refine cw_is ?_; refine cw_yes rfl (by omega) ?_); refine cw_skip ?_; refine qw_then ?_; refine cw_seq ?_; refine cw_block ?_; refine cw_seq ?_; refine cw_region ?_; (refine lw_is ?_; refine lw_pure (by exact pur_indexAddr tabOk rfl rfl rfl rfl (by omega) (by omega)) rfl ?_); (refine lw_is ?_; refine lw_pure (by exact pur_loads' tabOk rfl rfl rfl (by exact fun wz hz => by (try subst hz); exact (by assumption)) (by rfl)) rfl ?_)); refine lw_alloc zOk rfl rfl ?_; intro b2 w2 hn2; refine lw_init tabOk rfl rfl rfl rfl rfl rfl (hn2) rfl ?_; clear hn2 w2; intro w2 hn2; have h2 := hn2.blk; have x2 := hn2.ext; (refine lw_nil ?_; refine qw_then ?_; refine cw_seq ?_; refine cw_seq ?_; refine cw_region ?_; (refine lw_is ?_; refine lw_pure (by exact pur_fieldAddr0 tabOk rfl rfl rfl) rfl ?_); (refine lw_is ?_; refine lw_pure (by exact pur_load tabOk rfl rfl rfl (by exact fun wz hz => by (try subst hz); exact (Blk.cell (by assumption) (by rfl)))) rfl ?_)); refine cC (by kernel_rfl) rfl (Name_c v.name _ wf1) rfl ?_; rintro _ w3 ⟨⟨⟩, x3⟩; have xx3 : Ext w w3 := (by refine Ext.trans ?_ (by assumption); refine Ext.trans ?_ (by assumption); assumption); have h3 := h2.ext x3
   cases hnm : isName v.name
   · try rw [hnm]
     ((refine lw_is ?_; refine lw_pure (by exact pur_not rfl) rfl ?_); refine lw_nil ?_; refine qw_then ?_; (refine cw_is ?_; refine cw_bt rfl (by rfl) ?_); refine cw_seq ?_; refine cw_region ?_; (refine lw_is ?_; refine lw_pure (by exact pur_assign rfl) rfl ?_); refine lw_nil ?_; refine qw_then ?_; refine cw_ret ?_; refine qw_then_ret ?_; refine qw_block_ret ?_; refine qw_then_ret ?_; refine qw_then_ret ?_; refine qw_block_ret ?_; refine qw_then_ret ?_)
     refine qw_ret1 Tryz.results58 rfl ?_
     exact ⟨ret_bool (HN.out (by simp [VD.ok, hnm])).symm, xx3⟩
   try rw [hnm]
   by_cases hk : v.kind = 1 ∨ v.kind = 3
   · by_cases h0 : v.len = 0
     · have hok : v.ok = true := by simp [VD.ok, hnm, hk, h0]
       rcases hk with hk | hk
       · ((refine lw_is ?_; refine lw_pure (by exact pur_not rfl) rfl ?_); refine lw_nil ?_; refine qw_then ?_; (refine cw_is ?_; refine cw_bf rfl (by rfl) ?_); refine cw_skip ?_; refine qw_then ?_; refine cw_seq ?_; refine cw_region ?_; (refine lw_is ?_; refine lw_pure (by exact pur_fieldAddr tabOk rfl rfl rfl) rfl ?_); (refine lw_is ?_; refine lw_pure (by exact pur_load tabOk rfl rfl rfl (by exact fun wz hz => by (try subst hz); exact (Blk.cell (by assumption) (by rfl)))) rfl ?_); refine lw_nil ?_; refine qw_then ?_; refine cw_block ?_; refine cw_seq ?_; refine cw_seq ?_; refine cw_region ?_; (refine lw_is ?_; refine lw_pure (by exact pur_eql rfl rfl) rfl ?_); (refine lw_is ?_; refine lw_pure (by exact pur_assign rfl) rfl ?_); refine lw_nil ?_; refine qw_then ?_; (refine cw_is ?_; refine cw_yes rfl (by assumption) ?_); refine cw_skip ?_; refine qw_then ?_; (refine cw_is ?_; refine cw_yes rfl (by assumption) ?_); refine cw_seq ?_; refine cw_region ?_; (refine lw_is ?_; refine lw_pure (by exact pur_fieldAddr tabOk rfl rfl rfl) rfl ?_); (refine lw_is ?_; refine lw_pure (by exact pur_load tabOk rfl rfl rfl (by exact fun wz hz => by (try subst hz); exact (Blk.cell (by assumption) (by rfl)))) rfl ?_); (refine lw_is ?_; refine lw_pure (by exact pur_neq rfl rfl) rfl ?_); refine lw_nil ?_; refine qw_then ?_; (refine cw_is ?_; refine cw_no rfl (by omega) ?_); refine cw_skip ?_; refine qw_block_norm ?_; refine qw_block_norm ?_; refine qw_then ?_; refine cw_region ?_; (refine lw_is ?_; refine lw_pure (by exact pur_add rfl rfl (IntWalk.i64_in _ (by omega))) rfl ?_); (refine lw_is ?_; refine lw_pure (by exact pur_move rfl) rfl ?_); refine lw_nil ?_)
         refine qw_round (j + 1) (by (refine sub_cons rfl ?_; refine sub_cons rfl ?_; refine sub_cons rfl ?_; exact sub_nil)) ⟨xx3, by omega, fun i hi hij => ?_⟩ (by omega)
         by_cases e : i = j
         · subst e; exact HE.out ▸ hok
         · exact HA.out i hi (by omega)
       · ((refine lw_is ?_; refine lw_pure (by exact pur_not rfl) rfl ?_); refine lw_nil ?_; refine qw_then ?_; (refine cw_is ?_; refine cw_bf rfl (by rfl) ?_); refine cw_skip ?_; refine qw_then ?_; refine cw_seq ?_; refine cw_region ?_; (refine lw_is ?_; refine lw_pure (by exact pur_fieldAddr tabOk rfl rfl rfl) rfl ?_); (refine lw_is ?_; refine lw_pure (by exact pur_load tabOk rfl rfl rfl (by exact fun wz hz => by (try subst hz); exact (Blk.cell (by assumption) (by rfl)))) rfl ?_); refine lw_nil ?_; refine qw_then ?_; refine cw_block ?_; refine cw_seq ?_; refine cw_seq ?_; refine cw_region ?_; (refine lw_is ?_; refine lw_pure (by exact pur_eql rfl rfl) rfl ?_); (refine lw_is ?_; refine lw_pure (by exact pur_assign rfl) rfl ?_); refine lw_nil ?_; refine qw_then ?_; (refine cw_is ?_; refine cw_no rfl (by omega) ?_); refine cw_region ?_; (refine lw_is ?_; refine lw_pure (by exact pur_eql rfl rfl) rfl ?_); (refine lw_is ?_; refine lw_pure (by exact pur_assign rfl) rfl ?_); refine lw_nil ?_; refine qw_then ?_; (refine cw_is ?_; refine cw_yes rfl (by assumption) ?_); refine cw_seq ?_; refine cw_region ?_; (refine lw_is ?_; refine lw_pure (by exact pur_fieldAddr tabOk rfl rfl rfl) rfl ?_); (refine lw_is ?_; refine lw_pure (by exact pur_load tabOk rfl rfl rfl (by exact fun wz hz => by (try subst hz); exact (Blk.cell (by assumption) (by rfl)))) rfl ?_); (refine lw_is ?_; refine lw_pure (by exact pur_neq rfl rfl) rfl ?_); refine lw_nil ?_; refine qw_then ?_; (refine cw_is ?_; refine cw_no rfl (by omega) ?_); refine cw_skip ?_; refine qw_block_norm ?_; refine qw_block_norm ?_; refine qw_then ?_; refine cw_region ?_; (refine lw_is ?_; refine lw_pure (by exact pur_add rfl rfl (IntWalk.i64_in _ (by omega))) rfl ?_); (refine lw_is ?_; refine lw_pure (by exact pur_move rfl) rfl ?_); refine lw_nil ?_)
         refine qw_round (j + 1) (by (refine sub_cons rfl ?_; refine sub_cons rfl ?_; refine sub_cons rfl ?_; exact sub_nil)) ⟨xx3, by omega, fun i hi hij => ?_⟩ (by omega)
         by_cases e : i = j
         · subst e; exact HE.out ▸ hok
         · exact HA.out i hi (by omega)
     · have hok : v.ok = false := by simp [VD.ok, hnm, hk, h0]
       rcases hk with hk | hk
       · ((refine lw_is ?_; refine lw_pure (by exact pur_not rfl) rfl ?_); refine lw_nil ?_; refine qw_then ?_; (refine cw_is ?_; refine cw_bf rfl (by rfl) ?_); refine cw_skip ?_; refine qw_then ?_; refine cw_seq ?_; refine cw_region ?_; (refine lw_is ?_; refine lw_pure (by exact pur_fieldAddr tabOk rfl rfl rfl) rfl ?_); (refine lw_is ?_; refine lw_pure (by exact pur_load tabOk rfl rfl rfl (by exact fun wz hz => by (try subst hz); exact (Blk.cell (by assumption) (by rfl)))) rfl ?_); refine lw_nil ?_; refine qw_then ?_; refine cw_block ?_; refine cw_seq ?_; refine cw_seq ?_; refine cw_region ?_; (refine lw_is ?_; refine lw_pure (by exact pur_eql rfl rfl) rfl ?_); (refine lw_is ?_; refine lw_pure (by exact pur_assign rfl) rfl ?_); refine lw_nil ?_; refine qw_then ?_; (refine cw_is ?_; refine cw_yes rfl (by assumption) ?_); refine cw_skip ?_; refine qw_then ?_; (refine cw_is ?_; refine cw_yes rfl (by assumption) ?_); refine cw_seq ?_; refine cw_region ?_; (refine lw_is ?_; refine lw_pure (by exact pur_fieldAddr tabOk rfl rfl rfl) rfl ?_); (refine lw_is ?_; refine lw_pure (by exact pur_load tabOk rfl rfl rfl (by exact fun wz hz => by (try subst hz); exact (Blk.cell (by assumption) (by rfl)))) rfl ?_); (refine lw_is ?_; refine lw_pure (by exact pur_neq rfl rfl) rfl ?_); refine lw_nil ?_; refine qw_then ?_; (refine cw_is ?_; refine cw_yes rfl (by assumption) ?_); refine cw_seq ?_; refine cw_region ?_; (refine lw_is ?_; refine lw_pure (by exact pur_assign rfl) rfl ?_); refine lw_nil ?_; refine qw_then ?_; refine cw_ret ?_; refine qw_block_ret ?_; refine qw_block_ret ?_; refine qw_then_ret ?_; refine qw_then_ret ?_; refine qw_block_ret ?_; refine qw_then_ret ?_)
         refine qw_ret1 Tryz.results58 rfl ?_
         exact ⟨ret_bool (HN.out hok).symm, xx3⟩
       · ((refine lw_is ?_; refine lw_pure (by exact pur_not rfl) rfl ?_); refine lw_nil ?_; refine qw_then ?_; (refine cw_is ?_; refine cw_bf rfl (by rfl) ?_); refine cw_skip ?_; refine qw_then ?_; refine cw_seq ?_; refine cw_region ?_; (refine lw_is ?_; refine lw_pure (by exact pur_fieldAddr tabOk rfl rfl rfl) rfl ?_); (refine lw_is ?_; refine lw_pure (by exact pur_load tabOk rfl rfl rfl (by exact fun wz hz => by (try subst hz); exact (Blk.cell (by assumption) (by rfl)))) rfl ?_); refine lw_nil ?_; refine qw_then ?_; refine cw_block ?_; refine cw_seq ?_; refine cw_seq ?_; refine cw_region ?_; (refine lw_is ?_; refine lw_pure (by exact pur_eql rfl rfl) rfl ?_); (refine lw_is ?_; refine lw_pure (by exact pur_assign rfl) rfl ?_); refine lw_nil ?_; refine qw_then ?_; (refine cw_is ?_; refine cw_no rfl (by omega) ?_); refine cw_region ?_; (refine lw_is ?_; refine lw_pure (by exact pur_eql rfl rfl) rfl ?_); (refine lw_is ?_; refine lw_pure (by exact pur_assign rfl) rfl ?_); refine lw_nil ?_; refine qw_then ?_; (refine cw_is ?_; refine cw_yes rfl (by assumption) ?_); refine cw_seq ?_; refine cw_region ?_; (refine lw_is ?_; refine lw_pure (by exact pur_fieldAddr tabOk rfl rfl rfl) rfl ?_); (refine lw_is ?_; refine lw_pure (by exact pur_load tabOk rfl rfl rfl (by exact fun wz hz => by (try subst hz); exact (Blk.cell (by assumption) (by rfl)))) rfl ?_); (refine lw_is ?_; refine lw_pure (by exact pur_neq rfl rfl) rfl ?_); refine lw_nil ?_; refine qw_then ?_; (refine cw_is ?_; refine cw_yes rfl (by assumption) ?_); refine cw_seq ?_; refine cw_region ?_; (refine lw_is ?_; refine lw_pure (by exact pur_assign rfl) rfl ?_); refine lw_nil ?_; refine qw_then ?_; refine cw_ret ?_; refine qw_block_ret ?_; refine qw_block_ret ?_; refine qw_then_ret ?_; refine qw_then_ret ?_; refine qw_block_ret ?_; refine qw_then_ret ?_)
         refine qw_ret1 Tryz.results58 rfl ?_
         exact ⟨ret_bool (HN.out hok).symm, xx3⟩
   · have hk1 : v.kind ≠ 1 := fun e => hk (Or.inl e)
     have hk3 : v.kind ≠ 3 := fun e => hk (Or.inr e)
     by_cases hk2 : v.kind = 2
     · by_cases hlo : v.len < 1
       · have hok : v.ok = false := by simp [VD.ok, hnm, hk2]; omega
         ((refine lw_is ?_; refine lw_pure (by exact pur_not rfl) rfl ?_); refine lw_nil ?_; refine qw_then ?_; (refine cw_is ?_; refine cw_bf rfl (by rfl) ?_); refine cw_skip ?_; refine qw_then ?_; refine cw_seq ?_; refine cw_region ?_; (refine lw_is ?_; refine lw_pure (by exact pur_fieldAddr tabOk rfl rfl rfl) rfl ?_); (refine lw_is ?_; refine lw_pure (by exact pur_load tabOk rfl rfl rfl (by exact fun wz hz => by (try subst hz); exact (Blk.cell (by assumption) (by rfl)))) rfl ?_); refine lw_nil ?_; refine qw_then ?_; refine cw_block ?_; refine cw_seq ?_; refine cw_seq ?_; refine cw_region ?_; (refine lw_is ?_; refine lw_pure (by exact pur_eql rfl rfl) rfl ?_); (refine lw_is ?_; refine lw_pure (by exact pur_assign rfl) rfl ?_); refine lw_nil ?_; refine qw_then ?_; (refine cw_is ?_; refine cw_no rfl (by assumption) ?_); refine cw_region ?_; (refine lw_is ?_; refine lw_pure (by exact pur_eql rfl rfl) rfl ?_); (refine lw_is ?_; refine lw_pure (by exact pur_assign rfl) rfl ?_); refine lw_nil ?_; refine qw_then ?_; (refine cw_is ?_; refine cw_no rfl (by assumption) ?_); refine cw_seq ?_; refine cw_region ?_; (refine lw_is ?_; refine lw_pure (by exact pur_eql rfl rfl) rfl ?_); (refine lw_is ?_; refine lw_pure (by exact pur_assign rfl) rfl ?_); refine lw_nil ?_; refine qw_then ?_; (refine cw_is ?_; refine cw_yes rfl (by assumption) ?_); refine cw_seq ?_; refine cw_region ?_; (refine lw_is ?_; refine lw_pure (by exact pur_fieldAddr tabOk rfl rfl rfl) rfl ?_); (refine lw_is ?_; refine lw_pure (by exact pur_load tabOk rfl rfl rfl (by exact fun wz hz => by (try subst hz); exact (Blk.cell (by assumption) (by rfl)))) rfl ?_); (refine lw_is ?_; refine lw_pure (by exact pur_lss rfl rfl) rfl ?_); (refine lw_is ?_; refine lw_pure (by exact pur_move rfl) rfl ?_); (refine lw_isg ?_; refine lw_off_yes rfl rfl rfl (by assumption) rfl ?_); (refine lw_isg ?_; refine lw_off_yes rfl rfl rfl (by assumption) rfl ?_); (refine lw_isg ?_; refine lw_off_yes rfl rfl rfl (by assumption) rfl ?_); (refine lw_is ?_; refine lw_pure (by exact pur_pick_yes rfl rfl (by assumption)) rfl ?_); refine lw_nil ?_; refine qw_then ?_; (refine cw_is ?_; refine cw_bt rfl (by rfl) ?_); refine cw_seq ?_; refine cw_region ?_; (refine lw_is ?_; refine lw_pure (by exact pur_assign rfl) rfl ?_); refine lw_nil ?_; refine qw_then ?_; refine cw_ret ?_; refine qw_block_ret ?_; refine qw_block_ret ?_; refine qw_then_ret ?_; refine qw_then_ret ?_; refine qw_block_ret ?_; refine qw_then_ret ?_)
         refine qw_ret1 Tryz.results58 rfl ?_
         exact ⟨ret_bool (HN.out hok).symm, xx3⟩
       · by_cases hhi : 16 < v.len
         · have hok : v.ok = false := by simp [VD.ok, hnm, hk2]; omega
           ((refine lw_is ?_; refine lw_pure (by exact pur_not rfl) rfl ?_); refine lw_nil ?_; refine qw_then ?_; (refine cw_is ?_; refine cw_bf rfl (by rfl) ?_); refine cw_skip ?_; refine qw_then ?_; refine cw_seq ?_; refine cw_region ?_; (refine lw_is ?_; refine lw_pure (by exact pur_fieldAddr tabOk rfl rfl rfl) rfl ?_); (refine lw_is ?_; refine lw_pure (by exact pur_load tabOk rfl rfl rfl (by exact fun wz hz => by (try subst hz); exact (Blk.cell (by assumption) (by rfl)))) rfl ?_); refine lw_nil ?_; refine qw_then ?_; refine cw_block ?_; refine cw_seq ?_; refine cw_seq ?_; refine cw_region ?_; (refine lw_is ?_; refine lw_pure (by exact pur_eql rfl rfl) rfl ?_); (refine lw_is ?_; refine lw_pure (by exact pur_assign rfl) rfl ?_); refine lw_nil ?_; refine qw_then ?_; (refine cw_is ?_; refine cw_no rfl (by assumption) ?_); refine cw_region ?_; (refine lw_is ?_; refine lw_pure (by exact pur_eql rfl rfl) rfl ?_); (refine lw_is ?_; refine lw_pure (by exact pur_assign rfl) rfl ?_); refine lw_nil ?_; refine qw_then ?_; (refine cw_is ?_; refine cw_no rfl (by assumption) ?_); refine cw_seq ?_; refine cw_region ?_; (refine lw_is ?_; refine lw_pure (by exact pur_eql rfl rfl) rfl ?_); (refine lw_is ?_; refine lw_pure (by exact pur_assign rfl) rfl ?_); refine lw_nil ?_; refine qw_then ?_; (refine cw_is ?_; refine cw_yes rfl (by assumption) ?_); refine cw_seq ?_; refine cw_region ?_; (refine lw_is ?_; refine lw_pure (by exact pur_fieldAddr tabOk rfl rfl rfl) rfl ?_); (refine lw_is ?_; refine lw_pure (by exact pur_load tabOk rfl rfl rfl (by exact fun wz hz => by (try subst hz); exact (Blk.cell (by assumption) (by rfl)))) rfl ?_); (refine lw_is ?_; refine lw_pure (by exact pur_lss rfl rfl) rfl ?_); (refine lw_is ?_; refine lw_pure (by exact pur_move rfl) rfl ?_); (refine lw_isg ?_; refine lw_on_no rfl rfl rfl (by assumption) ?_); (refine lw_is ?_; refine lw_pure (by exact pur_fieldAddr tabOk rfl rfl rfl) rfl ?_); (refine lw_isg ?_; refine lw_on_no rfl rfl rfl (by assumption) ?_); (refine lw_is ?_; refine lw_pure (by exact pur_load tabOk rfl rfl rfl (by exact fun wz hz => by (try subst hz); exact (Blk.cell (by assumption) (by rfl)))) rfl ?_); (refine lw_isg ?_; refine lw_on_no rfl rfl rfl (by assumption) ?_); (refine lw_is ?_; refine lw_pure (by exact pur_gtr rfl rfl) rfl ?_); (refine lw_is ?_; refine lw_pure (by exact pur_pick_no rfl rfl (by assumption)) rfl ?_); refine lw_nil ?_; refine qw_then ?_; (refine cw_is ?_; refine cw_yes rfl (by assumption) ?_); refine cw_seq ?_; refine cw_region ?_; (refine lw_is ?_; refine lw_pure (by exact pur_assign rfl) rfl ?_); refine lw_nil ?_; refine qw_then ?_; refine cw_ret ?_; refine qw_block_ret ?_; refine qw_block_ret ?_; refine qw_then_ret ?_; refine qw_then_ret ?_; refine qw_block_ret ?_; refine qw_then_ret ?_)
           refine qw_ret1 Tryz.results58 rfl ?_
           exact ⟨ret_bool (HN.out hok).symm, xx3⟩
         · have hok : v.ok = true := by simp [VD.ok, hnm, hk2]; omega
           ((refine lw_is ?_; refine lw_pure (by exact pur_not rfl) rfl ?_); refine lw_nil ?_; refine qw_then ?_; (refine cw_is ?_; refine cw_bf rfl (by rfl) ?_); refine cw_skip ?_; refine qw_then ?_; refine cw_seq ?_; refine cw_region ?_; (refine lw_is ?_; refine lw_pure (by exact pur_fieldAddr tabOk rfl rfl rfl) rfl ?_); (refine lw_is ?_; refine lw_pure (by exact pur_load tabOk rfl rfl rfl (by exact fun wz hz => by (try subst hz); exact (Blk.cell (by assumption) (by rfl)))) rfl ?_); refine lw_nil ?_; refine qw_then ?_; refine cw_block ?_; refine cw_seq ?_; refine cw_seq ?_; refine cw_region ?_; (refine lw_is ?_; refine lw_pure (by exact pur_eql rfl rfl) rfl ?_); (refine lw_is ?_; refine lw_pure (by exact pur_assign rfl) rfl ?_); refine lw_nil ?_; refine qw_then ?_; (refine cw_is ?_; refine cw_no rfl (by assumption) ?_); refine cw_region ?_; (refine lw_is ?_; refine lw_pure (by exact pur_eql rfl rfl) rfl ?_); (refine lw_is ?_; refine lw_pure (by exact pur_assign rfl) rfl ?_); refine lw_nil ?_; refine qw_then ?_; (refine cw_is ?_; refine cw_no rfl (by assumption) ?_); refine cw_seq ?_; refine cw_region ?_; (refine lw_is ?_; refine lw_pure (by exact pur_eql rfl rfl) rfl ?_); (refine lw_is ?_; refine lw_pure (by exact pur_assign rfl) rfl ?_); refine lw_nil ?_; refine qw_then ?_; (refine cw_is ?_; refine cw_yes rfl (by assumption) ?_); refine cw_seq ?_; refine cw_region ?_; (refine lw_is ?_; refine lw_pure (by exact pur_fieldAddr tabOk rfl rfl rfl) rfl ?_); (refine lw_is ?_; refine lw_pure (by exact pur_load tabOk rfl rfl rfl (by exact fun wz hz => by (try subst hz); exact (Blk.cell (by assumption) (by rfl)))) rfl ?_); (refine lw_is ?_; refine lw_pure (by exact pur_lss rfl rfl) rfl ?_); (refine lw_is ?_; refine lw_pure (by exact pur_move rfl) rfl ?_); (refine lw_isg ?_; refine lw_on_no rfl rfl rfl (by assumption) ?_); (refine lw_is ?_; refine lw_pure (by exact pur_fieldAddr tabOk rfl rfl rfl) rfl ?_); (refine lw_isg ?_; refine lw_on_no rfl rfl rfl (by assumption) ?_); (refine lw_is ?_; refine lw_pure (by exact pur_load tabOk rfl rfl rfl (by exact fun wz hz => by (try subst hz); exact (Blk.cell (by assumption) (by rfl)))) rfl ?_); (refine lw_isg ?_; refine lw_on_no rfl rfl rfl (by assumption) ?_); (refine lw_is ?_; refine lw_pure (by exact pur_gtr rfl rfl) rfl ?_); (refine lw_is ?_; refine lw_pure (by exact pur_pick_no rfl rfl (by assumption)) rfl ?_); refine lw_nil ?_; refine qw_then ?_; (refine cw_is ?_; refine cw_no rfl (by assumption) ?_); refine cw_skip ?_; refine qw_block_norm ?_; refine qw_block_norm ?_; refine qw_then ?_; refine cw_region ?_; (refine lw_is ?_; refine lw_pure (by exact pur_add rfl rfl (IntWalk.i64_in _ (by omega))) rfl ?_); (refine lw_is ?_; refine lw_pure (by exact pur_move rfl) rfl ?_); refine lw_nil ?_)
           refine qw_round (j + 1) (by (refine sub_cons rfl ?_; refine sub_cons rfl ?_; refine sub_cons rfl ?_; exact sub_nil)) ⟨xx3, by omega, fun i hi hij => ?_⟩ (by omega)
           by_cases e : i = j
           · subst e; exact HE.out ▸ hok
           · exact HA.out i hi (by omega)
     · have hok : v.ok = false := by simp [VD.ok, hnm, hk1, hk2, hk3]
       ((refine lw_is ?_; refine lw_pure (by exact pur_not rfl) rfl ?_); refine lw_nil ?_; refine qw_then ?_; (refine cw_is ?_; refine cw_bf rfl (by rfl) ?_); refine cw_skip ?_; refine qw_then ?_; refine cw_seq ?_; refine cw_region ?_; (refine lw_is ?_; refine lw_pure (by exact pur_fieldAddr tabOk rfl rfl rfl) rfl ?_); (refine lw_is ?_; refine lw_pure (by exact pur_load tabOk rfl rfl rfl (by exact fun wz hz => by (try subst hz); exact (Blk.cell (by assumption) (by rfl)))) rfl ?_); refine lw_nil ?_; refine qw_then ?_; refine cw_block ?_; refine cw_seq ?_; refine cw_seq ?_; refine cw_region ?_; (refine lw_is ?_; refine lw_pure (by exact pur_eql rfl rfl) rfl ?_); (refine lw_is ?_; refine lw_pure (by exact pur_assign rfl) rfl ?_); refine lw_nil ?_; refine qw_then ?_; (refine cw_is ?_; refine cw_no rfl (by assumption) ?_); refine cw_region ?_; (refine lw_is ?_; refine lw_pure (by exact pur_eql rfl rfl) rfl ?_); (refine lw_is ?_; refine lw_pure (by exact pur_assign rfl) rfl ?_); refine lw_nil ?_; refine qw_then ?_; (refine cw_is ?_; refine cw_no rfl (by assumption) ?_); refine cw_seq ?_; refine cw_region ?_; (refine lw_is ?_; refine lw_pure (by exact pur_eql rfl rfl) rfl ?_); (refine lw_is ?_; refine lw_pure (by exact pur_assign rfl) rfl ?_); refine lw_nil ?_; refine qw_then ?_; (refine cw_is ?_; refine cw_no rfl (by assumption) ?_); refine cw_seq ?_; refine cw_region ?_; (refine lw_is ?_; refine lw_pure (by exact pur_assign rfl) rfl ?_); refine lw_nil ?_; refine qw_then ?_; refine cw_ret ?_; refine qw_block_ret ?_; refine qw_block_ret ?_; refine qw_then_ret ?_; refine qw_then_ret ?_; refine qw_block_ret ?_; refine qw_then_ret ?_)
       refine qw_ret1 Tryz.results58 rfl ?_
       exact ⟨ret_bool (HN.out hok).symm, xx3⟩
 · (refine cw_seq ?_; refine cw_region ?_; (refine lw_is ?_; refine lw_pure (by exact pur_lss rfl rfl) rfl ?_); refine lw_nil ?_; refine qw_then ?_; refine cw_seq ?_; (refine cw_is ?_; refine cw_no rfl (by omega) ?_); refine cw_exit ?_; refine qw_then_exit ?_; refine qw_then_exit ?_; refine qw_block_exit ?_; refine qw_then ?_; refine cw_seq ?_; refine cw_region ?_; (refine lw_is ?_; refine lw_pure (by exact pur_assign rfl) rfl ?_); refine lw_nil ?_; refine qw_then ?_; refine cw_ret ?_)
   refine qw_ret1 Tryz.results58 rfl ?_
   exact ⟨ret_bool (allOk_true (fun i hi => HA.out i hi (by omega))).symm, x1⟩
end Bk
