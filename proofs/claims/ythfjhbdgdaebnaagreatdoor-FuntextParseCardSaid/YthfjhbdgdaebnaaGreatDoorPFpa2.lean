/- Texts that the proofs of FuntextParse need. No condition. (Part 2 of 8.) -/
import Derived.Test.YthfjhbdgdaebnaaGreatDoorPFpa1
set_option linter.unusedSimpArgs false
set_option linter.unusedVariables false
namespace Bk
structure VD where
 name : List UInt8
 kind : Int
 len : Int
structure PD where
 name : List UInt8
 params : List VD
 body : Nd
structure PG where
 vars : List VD
 procs : List PD
 main : Nd
end Bk
namespace Bk
open Go Go.RowKit
abbrev VD.cells (v : VD) : List Value := [str v.name, .int .u8 v.kind, .int .i64 v.len]
abbrev VD.val (v : VD) : Value := .agg #[str v.name, .int .u8 v.kind, .int .i64 v.len]
def VDAt (w : World) (b o : Nat) (v : VD) : Prop := Row w ⟨b, o, none⟩ v.cells
def VDs (S : Nat → Prop) (w : World) (l : List VD) (a : Option Addr) : Prop := Arr S 3 VDAt w l a
abbrev PD.cells (p : PD) (pa : Option Addr) (pc : Nat) (ba : Option Addr) (bc : Nat) : List Value := [str p.name, .slice pa p.params.length pc, .int .u8 p.body.kind, .int .i64 p.body.num, str p.body.name, .slice ba p.body.kids.length bc]
def PDAt (S : Nat → Prop) (w : World) (b o : Nat) (p : PD) : Prop := ∃ pa pc ba bc, Row w ⟨b, o, none⟩ (p.cells pa pc ba bc) ∧ VDs S w p.params pa ∧ p.body.sits S w ba
def PDs (S : Nat → Prop) (w : World) (l : List PD) (a : Option Addr) : Prop := Arr S 6 (PDAt S) w l a
theorem VDs.ext {S : Nat → Prop} {w w' : World} {l : List VD} {a : Option Addr} (h : VDs S w l a) (x : Ext w w') : VDs S w' l a := h.mono (fun _ h => h) (fun _ _ _ _ _ h => Row.ext h x)
theorem PDs.ext {S : Nat → Prop} {w w' : World} {l : List PD} {a : Option Addr} (h : PDs S w l a) (x : Ext w w') : PDs S w' l a :=
 h.mono (fun _ h => h) (fun _ _ _ _ _ ⟨pa, pc, ba, bc, h1, h2, h3⟩ => ⟨pa, pc, ba, bc, h1.ext x, h2.ext x, h3.ext x⟩)
abbrev PG.cells (g : PG) (va : Option Addr) (vc : Nat) (pa : Option Addr) (pc : Nat) (ma : Option Addr) (mc : Nat) : List Value :=
 [.slice va g.vars.length vc, .slice pa g.procs.length pc, .int .u8 g.main.kind, .int .i64 g.main.num, str g.main.name, .slice ma g.main.kids.length mc]
structure PG.sits (S : Nat → Prop) (w : World) (g : PG) (va pa ma : Option Addr) : Prop where
 vars : VDs S w g.vars va
 procs : PDs S w g.procs pa
 main : g.main.sits S w ma
theorem PG.sits.ext {S : Nat → Prop} {w w' : World} {g : PG} {va pa ma : Option Addr} (h : g.sits S w va pa ma) (x : Ext w w') : g.sits S w' va pa ma := ⟨h.vars.ext x, h.procs.ext x, h.main.ext x⟩
theorem VDs.fr {S T : Nat → Prop} {w w' : World} {l : List VD} {a : Option Addr} (h : VDs S w l a) (x : Fr T w w') (hs : ∀ b, S b → ¬ T b) : VDs S w' l a := h.mono (fun _ h => h) (fun b _ _ _ hb h => Row.fr h x (hs b hb))
theorem PDs.fr {S T : Nat → Prop} {w w' : World} {l : List PD} {a : Option Addr} (h : PDs S w l a) (x : Fr T w w') (hs : ∀ b, S b → ¬ T b) : PDs S w' l a :=
 h.mono (fun _ h => h) (fun b _ _ _ hb ⟨pa, pc, ba, bc, h1, h2, h3⟩ => ⟨pa, pc, ba, bc, h1.fr x (hs b hb), h2.fr x hs, h3.fr x hs⟩)
theorem PG.sits.fr {S T : Nat → Prop} {w w' : World} {g : PG} {va pa ma : Option Addr} (h : g.sits S w va pa ma) (x : Fr T w w') (hs : ∀ b, S b → ¬ T b) : g.sits S w' va pa ma := ⟨h.vars.fr x hs, h.procs.fr x hs, h.main.fr x hs⟩
theorem VDs.wide {S S' : Nat → Prop} {w : World} {l : List VD} {a : Option Addr} (h : VDs S w l a) (hs : ∀ b, S b → S' b) : VDs S' w l a := h.mono hs (fun _ _ _ _ _ h => h)
theorem row_move {w w' : World} {b o : Nat} {vs : List Value} (h : Row w ⟨b, o, none⟩ vs) (hc : ∀ o v, w.cell? ⟨b, o, none⟩ = some v → w'.cell? ⟨b, o, none⟩ = some v) : Row w' ⟨b, o, none⟩ vs := fun i v hi => by
 have := h.at hi
 have e : (⟨b, o, none⟩ : Addr).add i = ⟨b, o + i, none⟩ := by unfold Addr.add; by_cases h0 : i = 0 <;> simp [h0]
 rw [e]; exact hc _ _ this
theorem VDs.move {S S' : Nat → Prop} {w w' : World} {l : List VD} {a : Option Addr} (h : VDs S w l a) (hS : ∀ b, S b → S' b) (hc : ∀ b o v, S b → w.cell? ⟨b, o, none⟩ = some v → w'.cell? ⟨b, o, none⟩ = some v) : VDs S' w' l a :=
 h.mono hS (fun b o x _ hb h => row_move h (fun o v => hc b o v hb))
theorem VDs.lt2 {S : Nat → Prop} {w : World} {l : List VD} {a : Option Addr} (h : VDs S w l a) : VDs (fun b => S b ∧ b < w.heap.size) w l a := by
 rcases h with h | ⟨b, o, h1, h2, h3⟩
 · exact Or.inl h
 · cases l with
   | nil => exact Or.inl rfl
   | cons v r => exact Or.inr ⟨b, o, h1, ⟨h2, cell_lt (Row.at0 (h3 0 v rfl) rfl)⟩, h3⟩
theorem maxLen_one : 1 ≤ maxLen := by unfold maxLen; omega
theorem OwnL.lit {α : Type} {sh : Shape α} {w : World} {B b e : Nat} {x : α} {cs : List Value} (h : TB w b cs e) (hB : B ≤ b) (hr : sh.rep w (fun k => B ≤ k ∧ k ≠ b) x cs) : OwnL sh w B e (.slice (some ⟨b, 0, none⟩) 1 1) [x] := by
 have hl := sh.len hr; refine ⟨[cs], ⟨by simp [hl], Or.inr ⟨b, 1, cs.toArray, rfl, hB, h, Nat.le_refl _, maxLen_one, by simp [hl], by simp [← hl]⟩⟩, rfl, fun i y ds hy hd => ?_⟩
 match i, hy, hd with
 | 0, hy, hd =>
  simp at hy hd
  subst hy hd
  exact sh.mono hr (fun k hk => ⟨hk.1, fun e => hk.2 (by simpa [Value.ownBlock] using e.symm)⟩) (fun _ _ _ _ h => h)
end Bk
namespace Bk
open Go
def letter (c : UInt8) : Bool := decide (97 ≤ c.toNat) && decide (c.toNat ≤ 122)
def digit (c : UInt8) : Bool := decide (48 ≤ c.toNat) && decide (c.toNat ≤ 57)
def blank (c : UInt8) : Bool := decide (c.toNat = 32) || decide (c.toNat = 9) || decide (c.toNat = 13) || decide (c.toNat = 10)
def wordish (c : UInt8) : Bool := letter c || digit c
def notLf (c : UInt8) : Bool := !decide (c.toNat = 10)
def span (p : UInt8 → Bool) (s : List UInt8) : Nat := (s.takeWhile p).length
def keywords : List (List UInt8) := [[105, 110, 116], [97, 114, 114, 97, 121], [115, 116, 97, 99, 107], [112, 114, 111, 99], [109, 97, 105, 110], [112, 117, 115, 104], [112, 111, 112], [114, 101, 97, 100], [117, 110, 114, 101, 97, 100], [119, 114, 105, 116, 101], [117, 110, 119, 114, 105, 116, 101], [99, 97, 108, 108], [117, 110, 99, 97, 108, 108], [105, 102], [101, 108, 115, 101], [102, 105], [102, 114, 111, 109], [108, 111, 111, 112], [117, 110, 116, 105, 108], [108, 111, 99, 97, 108], [100, 101, 108, 111, 99, 97, 108], [116, 111, 112], [115, 105, 122, 101]]
def keyword (s : List UInt8) : Bool := keywords.contains s
def pairs : List (List UInt8) := [[58, 61], [43, 61], [45, 61], [94, 61], [61, 61], [33, 61], [60, 61], [62, 61], [38, 38], [124, 124]]
def singles : List UInt8 := [43, 45, 42, 47, 37, 38, 124, 94, 33, 61, 60, 62, 40, 41, 123, 125, 91, 93, 59, 44]
def signLen (s : List UInt8) : Nat :=
 if List.isPrefixOf [60, 61, 62] s then 3 else if pairs.contains (s.take 2) then 2 else if (s.head?.map (singles.contains ·)).getD false then 1 else 0
def firstTok : List UInt8 → Nat × Nat
 | [] => (3, 0)
 | c :: r => if letter c then (1, span wordish (c :: r)) else if digit c then (2, span digit (c :: r)) else if blank c then (4, span blank (c :: r)) else if c = 35 then (5, span notLf (c :: r)) else (3, signLen (c :: r))
def isName (s : List UInt8) : Bool := !s.isEmpty && decide (s.length ≤ 16) && ((firstTok s).1 == 1) && ((firstTok s).2 == s.length) && !keyword s
def level (k : Int) : Int :=
 if k = 23 then 1 else if k = 22 then 2 else if k = 14 then 3 else if k = 15 then 4 else if k = 13 then 5
 else if 16 ≤ k ∧ k ≤ 21 then 6 else if k = 8 ∨ k = 9 then 7 else if 10 ≤ k ∧ k ≤ 12 then 8 else if k = 6 ∨ k = 7 then 9 else 0
def symbols : List (List UInt8) := [[], [], [], [], [], [], [45], [33], [43], [45], [42], [47], [37], [38], [124], [94], [61, 61], [33, 61], [60], [60, 61], [62], [62, 61], [38, 38], [124, 124], [], [], [], [], [], [], [], [], [], [], [], [], [], [], [], [], [43, 61], [45, 61], [94, 61]]
def symbol (k : Int) : List UInt8 := symbols.getD k.toNat []
def isBin (k : Int) : Bool := decide (8 ≤ k) && decide (k ≤ 23)
def plain (n : Int) (s : List UInt8) : Bool := n == 0 && s.isEmpty
def parenL (a k : Int) : Bool := isBin a && decide (level a < level k)
def parenR (a k : Int) : Bool := isBin a && decide (level a ≤ level k)
def wrap (s : List UInt8) (b : Bool) : List UInt8 := if b then [40] ++ s ++ [41] else s
def Nd.text : Nd → List UInt8
 | .mk k n s l =>
  if k = 1 then Lib.itoa n else if k = 2 then s
  else if k = 3 then match l with | [x] => s ++ [91] ++ x.text ++ [93] | _ => []
  else if k = 4 then [116, 111, 112, 40] ++ s ++ [41] else if k = 5 then [115, 105, 122, 101, 40] ++ s ++ [41]
  else if k = 6 ∨ k = 7 then match l with | [x] => symbol k ++ wrap x.text (isBin x.kind) | _ => []
  else match l with
   | [x, y] => wrap x.text (parenL x.kind k) ++ [32] ++ symbol k ++ [32] ++ wrap y.text (parenR y.kind k)
   | _ => []
end Bk
namespace Bk
open Go
structure Tok where
 kind : Int
 text : List UInt8
 pos : Int
def Tok.zero : Tok := ⟨0, [], 0⟩
structure PS where
 at_ : Nat
 off : Int
 err : Int
section
variable (ts : List Tok) (n : Int)
def peekP (σ : PS) : Tok := if σ.err ≠ 0 ∨ σ.at_ = ts.length then Tok.zero else ts.getD σ.at_ Tok.zero
def failP (σ : PS) (off e : Int) : PS := if σ.err = 0 then ⟨σ.at_, off, e⟩ else σ
def unexpP (σ : PS) : PS := if σ.at_ < ts.length then failP σ (ts.getD σ.at_ Tok.zero).pos 3 else failP σ n 4
def nextP (σ : PS) : PS := ⟨σ.at_ + 1, σ.off, σ.err⟩
def hasP (σ : PS) (t : List UInt8) : Bool := decide ((peekP ts σ).text = t)
def acceptP (σ : PS) (t : List UInt8) : PS := if hasP ts σ t then nextP σ else σ
def expectP (σ : PS) (t : List UInt8) : PS := if hasP ts σ t then nextP σ else unexpP ts n σ
def nameP (σ : PS) : List UInt8 × PS := if isName (peekP ts σ).text then ((peekP ts σ).text, nextP σ) else ([], unexpP ts n σ)
def digitsVal (s : List UInt8) : Nat := s.foldl (fun a c => a * 10 + (c.toNat - 48)) 0
def numberP (least most : Int) (σ : PS) : Int × PS :=
 if (peekP ts σ).kind = 2 then
  if (digitsVal (peekP ts σ).text : Int) ≤ 9223372036854775807 ∧ least ≤ (digitsVal (peekP ts σ).text : Int) ∧ (digitsVal (peekP ts σ).text : Int) ≤ most then ((digitsVal (peekP ts σ).text : Int), nextP σ)
  else (0, failP (nextP σ) (peekP ts σ).pos 2)
 else (0, unexpP ts n σ)
def binOf (t : List UInt8) : Option Int := [8, 9, 10, 11, 12, 13, 14, 15, 16, 17, 18, 19, 20, 21, 22, 23].find? (fun k => decide (symbol k = t))
mutual
def exprP : Nat → Int → PS → Nd × PS
 | 0, _, σ => (.mk 0 0 [] [], σ)
 | k + 1, lv, σ => climbP k lv (unaryP k σ).1 (unaryP k σ).2
def climbP : Nat → Int → Nd → PS → Nd × PS
 | 0, _, x, σ => (x, σ)
 | k + 1, lv, x, σ => match binOf (peekP ts σ).text with
  | none => (x, σ)
  | some op => if level op < lv then (x, σ) else
   climbP k lv (.mk op 0 [] [x, (exprP k (level op + 1) (nextP σ)).1]) (exprP k (level op + 1) (nextP σ)).2
def unaryP : Nat → PS → Nd × PS
 | 0, σ => (.mk 0 0 [] [], σ)
 | k + 1, σ =>
  if hasP ts σ [45] then (.mk 6 0 [] [(unaryP k (nextP σ)).1], (unaryP k (nextP σ)).2)
  else if hasP ts σ [33] then (.mk 7 0 [] [(unaryP k (nextP σ)).1], (unaryP k (nextP σ)).2)
  else primaryP k σ
def primaryP : Nat → PS → Nd × PS
 | 0, σ => (.mk 0 0 [] [], σ)
 | k + 1, σ =>
  if (peekP ts σ).kind = 2 then (.mk 1 (numberP ts n 0 9223372036854775807 σ).1 [] [], (numberP ts n 0 9223372036854775807 σ).2)
  else if hasP ts σ [116, 111, 112] then (.mk 4 0 (nameP ts n (expectP ts n (nextP σ) [40])).1 [], expectP ts n (nameP ts n (expectP ts n (nextP σ) [40])).2 [41])
  else if hasP ts σ [115, 105, 122, 101] then (.mk 5 0 (nameP ts n (expectP ts n (nextP σ) [40])).1 [], expectP ts n (nameP ts n (expectP ts n (nextP σ) [40])).2 [41])
  else if hasP ts σ [40] then ((exprP k 1 (nextP σ)).1, expectP ts n (exprP k 1 (nextP σ)).2 [41])
  else placeP k σ
def placeP : Nat → PS → Nd × PS
 | 0, σ => (.mk 0 0 [] [], σ)
 | k + 1, σ =>
  if hasP ts (nameP ts n σ).2 [91] then (.mk 3 0 (nameP ts n σ).1 [(exprP k 1 (nextP (nameP ts n σ).2)).1], expectP ts n (exprP k 1 (nextP (nameP ts n σ).2)).2 [93])
  else (.mk 2 0 (nameP ts n σ).1 [], (nameP ts n σ).2)
end
def argP (σ : PS) : Nd × PS := (.mk 2 0 (nameP ts n σ).1 [], (nameP ts n σ).2)
def argsP : Nat → List Nd → PS → List Nd × PS
 | 0, acc, σ => (acc, σ)
 | k + 1, acc, σ =>
  if hasP ts σ [44] then
   argsP k (acc ++ [(argP ts n (if acc.length = 8 ∧ isName (peekP ts (nextP σ)).text = true then failP (nextP σ) (peekP ts (nextP σ)).pos 5 else nextP σ)).1])
    (argP ts n (if acc.length = 8 ∧ isName (peekP ts (nextP σ)).text = true then failP (nextP σ) (peekP ts (nextP σ)).pos 5 else nextP σ)).2
  else (acc, σ)
def callP (k : Nat) (kind : Int) (σ : PS) : Nd × PS :=
 let m := nameP ts n (nextP σ)
 let σ1 := expectP ts n m.2 [40]
 if hasP ts σ1 [41] then (.mk kind 0 m.1 [], nextP σ1)
 else
  let a := argP ts n σ1
  let r := argsP ts n k [a.1] a.2
  (.mk kind 0 m.1 r.1, expectP ts n r.2 [41])
def updKind (t : List UInt8) : Int := if t = [43, 61] then 40 else if t = [45, 61] then 41 else if t = [94, 61] then 42 else if t = [58, 61] then 56 else 0
def updateP (k : Nat) (σ : PS) : Nd × PS :=
 let p := placeP ts n k σ
 if hasP ts p.2 [60, 61, 62] then (.mk 43 0 [] [p.1, (placeP ts n k (nextP p.2)).1], (placeP ts n k (nextP p.2)).2)
 else if updKind (peekP ts p.2).text = 0 then (.mk 0 0 [] [], unexpP ts n p.2)
 else (.mk (updKind (peekP ts p.2).text) 0 [] [p.1, (exprP ts n k 1 (nextP p.2)).1], (exprP ts n k 1 (nextP p.2)).2)
def stackP (k : Nat) (kind : Int) (σ : PS) : Nd × PS :=
 let p := placeP ts n k (nextP σ)
 let m := nameP ts n (expectP ts n p.2 [44])
 (.mk kind 0 m.1 [p.1], m.2)
def tapeP (k : Nat) (kind : Int) (σ : PS) : Nd × PS := (.mk kind 0 [] [(placeP ts n k (nextP σ)).1], (placeP ts n k (nextP σ)).2)
mutual
def stmtP : Nat → PS → Nd × PS
 | 0, σ => (.mk 0 0 [] [], σ)
 | k + 1, σ =>
  if (peekP ts σ).text = [112, 117, 115, 104] then stackP ts n k 44 σ else if (peekP ts σ).text = [112, 111, 112] then stackP ts n k 45 σ
  else if (peekP ts σ).text = [114, 101, 97, 100] then tapeP ts n k 46 σ else if (peekP ts σ).text = [117, 110, 114, 101, 97, 100] then tapeP ts n k 47 σ else if (peekP ts σ).text = [119, 114, 105, 116, 101] then tapeP ts n k 48 σ else if (peekP ts σ).text = [117, 110, 119, 114, 105, 116, 101] then tapeP ts n k 49 σ
  else if (peekP ts σ).text = [99, 97, 108, 108] then callP ts n k 50 σ else if (peekP ts σ).text = [117, 110, 99, 97, 108, 108] then callP ts n k 51 σ
  else if (peekP ts σ).text = [105, 102] then branchesP k 52 [101, 108, 115, 101] [102, 105] σ else if (peekP ts σ).text = [102, 114, 111, 109] then branchesP k 53 [108, 111, 111, 112] [117, 110, 116, 105, 108] σ
  else if (peekP ts σ).text = [108, 111, 99, 97, 108] then localP k σ else updateP ts n k σ
def branchesP : Nat → Int → List UInt8 → List UInt8 → PS → Nd × PS
 | 0, _, _, _, σ => (.mk 0 0 [] [], σ)
 | k + 1, kind, mid, last, σ =>
  let a := exprP ts n k 1 (nextP σ)
  let x := blockP k a.2
  let y := blockP k (expectP ts n x.2 mid)
  let e := exprP ts n k 1 (expectP ts n y.2 last)
  (.mk kind 0 [] [a.1, x.1, y.1, e.1], e.2)
def localP : Nat → PS → Nd × PS
 | 0, σ => (.mk 0 0 [] [], σ)
 | k + 1, σ =>
  if hasP ts (nextP σ) [115, 116, 97, 99, 107] then
   let m := nameP ts n (nextP (nextP σ))
   let x := blockP k m.2
   (.mk 55 0 m.1 [x.1], x.2)
  else
   let m := nameP ts n (nextP σ)
   let a := exprP ts n k 1 (expectP ts n m.2 [61])
   let x := blockP k a.2
   let e := exprP ts n k 1 (expectP ts n x.2 [100, 101, 108, 111, 99, 97, 108])
   (.mk 54 0 m.1 [a.1, x.1, e.1], e.2)
def blockP : Nat → PS → Nd × PS
 | 0, σ => (.mk 57 0 [] [], σ)
 | k + 1, σ => let r := stmtsP k [] (expectP ts n σ [123]); (.mk 57 0 [] r.1, r.2)
def stmtsP : Nat → List Nd → PS → List Nd × PS
 | 0, acc, σ => (acc, σ)
 | k + 1, acc, σ =>
  if σ.err ≠ 0 then (acc, σ)
  else if hasP ts σ [125] then (acc, nextP σ)
  else stmtsP k (acc ++ [(stmtP k σ).1]) (expectP ts n (stmtP k σ).2 [59])
end
def declP (σ : PS) : VD × PS :=
 if hasP ts σ [105, 110, 116] then (⟨(nameP ts n (nextP σ)).1, 1, 0⟩, (nameP ts n (nextP σ)).2)
 else if hasP ts σ [115, 116, 97, 99, 107] then (⟨(nameP ts n (nextP σ)).1, 3, 0⟩, (nameP ts n (nextP σ)).2)
 else if hasP ts σ [97, 114, 114, 97, 121] then
  let m := nameP ts n (nextP σ)
  let r := numberP ts n 1 16 (expectP ts n m.2 [91])
  (⟨m.1, 2, r.1⟩, expectP ts n r.2 [93])
 else (⟨[], 0, 0⟩, unexpP ts n σ)
def atDeclP (σ : PS) : Bool := hasP ts σ [105, 110, 116] || hasP ts σ [97, 114, 114, 97, 121] || hasP ts σ [115, 116, 97, 99, 107]
def paramsP : Nat → List VD → PS → List VD × PS
 | 0, acc, σ => (acc, σ)
 | k + 1, acc, σ =>
  if hasP ts σ [44] then
   let σ1 := if acc.length = 8 ∧ atDeclP ts (nextP σ) = true then failP (nextP σ) (peekP ts (nextP σ)).pos 5 else nextP σ
   paramsP k (acc ++ [(declP ts n σ1).1]) (declP ts n σ1).2
  else (acc, σ)
end
mutual
def Nd.depth : Nd → Int
 | .mk _ _ _ l => rowDepth l + 1
def rowDepth : List Nd → Int
 | [] => 0
 | t :: r => max t.depth (rowDepth r)
end
section
variable (ts : List Tok) (n : Int)
def limitP (x : Nd) (off : Int) (σ : PS) : PS := if σ.err ≠ 0 then σ else if 80 < x.depth then failP σ off 19 else if 2000 < x.size then failP σ off 5 else σ
def bodyP (k : Nat) (σ : PS) : Nd × PS := ((blockP ts n k σ).1, limitP (blockP ts n k σ).1 (peekP ts σ).pos (blockP ts n k σ).2)
def procP (k : Nat) (σ : PS) : PD × PS :=
 let m := nameP ts n (expectP ts n σ [112, 114, 111, 99])
 let σ1 := expectP ts n m.2 [40]
 let q := if hasP ts σ1 [41] then ([], nextP σ1) else
  let d := declP ts n σ1
  let r := paramsP ts n k [d.1] d.2
  (r.1, expectP ts n r.2 [41])
 let b := bodyP ts n k q.2
 (⟨m.1, q.1, b.1⟩, b.2)
def varsP : Nat → List VD → PS → List VD × PS
 | 0, acc, σ => (acc, σ)
 | k + 1, acc, σ =>
  if atDeclP ts σ then
   let σ1 := if acc.length = 32 then failP σ (peekP ts σ).pos 5 else σ
   varsP k (acc ++ [(declP ts n σ1).1]) (declP ts n σ1).2
  else (acc, σ)
def procsP : Nat → List PD → PS → List PD × PS
 | 0, acc, σ => (acc, σ)
 | k + 1, acc, σ =>
  if hasP ts σ [112, 114, 111, 99] then
   let σ1 := if acc.length = 64 then failP σ (peekP ts σ).pos 5 else σ
   procsP k (acc ++ [(procP ts n k σ1).1]) (procP ts n k σ1).2
  else (acc, σ)
def programP (k : Nat) (σ : PS) : PG × PS :=
 let v := varsP ts n k [] σ
 let p := procsP ts n k [] v.2
 let b := bodyP ts n k (expectP ts n p.2 [109, 97, 105, 110])
 (⟨v.1, p.1, b.1⟩, b.2)
end
def lexGo : Nat → List UInt8 → Nat → List Tok → List Tok × Option Nat
 | 0, _, _, acc => (acc, none)
 | k + 1, s, p, acc => if p < s.length then
  if (firstTok (s.drop p)).2 = 0 then ([], some p)
  else lexGo k s (p + (firstTok (s.drop p)).2) (acc ++ [⟨((firstTok (s.drop p)).1 : Nat), (s.drop p).take (firstTok (s.drop p)).2, (p : Int)⟩])
  else (acc, none)
def lexT (s : List UInt8) : List Tok × Int × Int :=
 if 65536 < s.length then ([], 0, 5) else match lexGo (s.length + 1) s 0 [] with
  | (l, none) => (l, 0, 0)
  | (_, some p) => ([], (p : Int), 3)
def solidT (l : List Tok) : List Tok := l.filter fun t => decide (t.kind ≠ 4) && decide (t.kind ≠ 5)
def startP (s : List UInt8) : List Tok × PS := (solidT (lexT s).1, ⟨0, (lexT s).2.1, (lexT s).2.2⟩)
def fuelP (s : List UInt8) : Nat := 4 * s.length + 20
end Bk
namespace Bk
open Go
structure FP where
 name : List UInt8
 list : Bool
deriving DecidableEq
structure FD where
 name : List UInt8
 params : List FP
 list : Bool
 body : Nd
section
variable (ts : List Tok) (n : Int)
def listP (σ : PS) : Bool × PS := if hasP ts σ [115, 116, 97, 99, 107] then (true, nextP σ) else (false, expectP ts n σ [105, 110, 116])
def fnumP (σ : PS) : Nd × PS :=
 if (digitsVal (peekP ts σ).text : Int) ≤ 9223372036854775807 then (.mk 80 (digitsVal (peekP ts σ).text : Int) [] [], nextP σ)
 else (.mk 0 0 [] [], failP σ (peekP ts σ).pos 2)
mutual
def exprF : Nat → Int → PS → Nd × PS
 | 0, _, σ => (.mk 0 0 [] [], σ)
 | k + 1, lv, σ => climbF k lv (primF k σ).1 (primF k σ).2
def climbF : Nat → Int → Nd → PS → Nd × PS
 | 0, _, x, σ => (x, σ)
 | k + 1, lv, x, σ => match binOf (peekP ts σ).text with
  | none => (x, σ)
  | some op => if level op < lv then (x, σ) else
   climbF k lv (.mk 82 op [] [x, (exprF k (level op + 1) (nextP σ)).1]) (exprF k (level op + 1) (nextP σ)).2
def primF : Nat → PS → Nd × PS
 | 0, σ => (.mk 0 0 [] [], σ)
 | k + 1, σ =>
  if hasP ts σ [91] then (.mk 86 0 [] [], expectP ts n (nextP σ) [93])
  else if hasP ts σ [112, 117, 115, 104] then (.mk 87 0 [] (args2F k (nextP σ)).1, (args2F k (nextP σ)).2)
  else if hasP ts σ [112, 111, 112] then (.mk 89 0 [] (args1F k (nextP σ)).1, (args1F k (nextP σ)).2)
  else if hasP ts σ [116, 111, 112] then (.mk 88 0 [] (args1F k (nextP σ)).1, (args1F k (nextP σ)).2)
  else if hasP ts σ [33] then (.mk 90 0 [] [(primF k (nextP σ)).1], (primF k (nextP σ)).2)
  else if hasP ts σ [105, 102] then ifF k σ
  else if hasP ts σ [108, 111, 99, 97, 108] then letF k σ
  else if hasP ts σ [40] then ((exprF k 1 (nextP σ)).1, expectP ts n (exprF k 1 (nextP σ)).2 [41])
  else if (peekP ts σ).kind = 2 then fnumP ts σ
  else namedF k σ
def args1F : Nat → PS → List Nd × PS
 | 0, σ => ([], σ)
 | k + 1, σ =>
  let a := exprF k 1 (expectP ts n σ [40])
  ([a.1], expectP ts n a.2 [41])
def args2F : Nat → PS → List Nd × PS
 | 0, σ => ([], σ)
 | k + 1, σ =>
  let a := exprF k 1 (expectP ts n σ [40])
  let b := exprF k 1 (expectP ts n a.2 [44])
  ([a.1, b.1], expectP ts n b.2 [41])
def braceF : Nat → PS → Nd × PS
 | 0, σ => (.mk 0 0 [] [], σ)
 | k + 1, σ =>
  let a := exprF k 1 (expectP ts n σ [123])
  (a.1, expectP ts n a.2 [125])
def ifF : Nat → PS → Nd × PS
 | 0, σ => (.mk 0 0 [] [], σ)
 | k + 1, σ =>
  let c := exprF k 1 (expectP ts n σ [105, 102])
  let a := braceF k c.2
  let b := braceF k (expectP ts n a.2 [101, 108, 115, 101])
  (.mk 83 0 [] [c.1, a.1, b.1], b.2)
def letF : Nat → PS → Nd × PS
 | 0, σ => (.mk 0 0 [] [], σ)
 | k + 1, σ =>
  let m := nameP ts n (expectP ts n σ [108, 111, 99, 97, 108])
  let v := exprF k 1 (expectP ts n m.2 [61])
  let b := braceF k v.2
  (.mk 84 0 m.1 [v.1, b.1], b.2)
def namedF : Nat → PS → Nd × PS
 | 0, σ => (.mk 0 0 [] [], σ)
 | k + 1, σ =>
  let m := nameP ts n σ
  if hasP ts m.2 [40] then
   if hasP ts (nextP m.2) [41] then (.mk 85 0 m.1 [], nextP (nextP m.2))
   else
    let a := exprF k 1 (nextP m.2)
    let r := moreF k [a.1] a.2
    (.mk 85 0 m.1 r.1, expectP ts n r.2 [41])
  else (.mk 81 0 m.1 [], m.2)
def moreF : Nat → List Nd → PS → List Nd × PS
 | 0, acc, σ => (acc, σ)
 | k + 1, acc, σ =>
  if hasP ts σ [44] then moreF k (acc ++ [(exprF k 1 (nextP σ)).1]) (exprF k 1 (nextP σ)).2 else (acc, σ)
end
def fparamP (σ : PS) : FP × PS :=
 let l := listP ts n σ
 let m := nameP ts n l.2
 (⟨m.1, l.1⟩, m.2)
def fparamsP : Nat → List FP → PS → List FP × PS
 | 0, acc, σ => (acc, σ)
 | k + 1, acc, σ =>
  let p := fparamP ts n σ
  if hasP ts p.2 [44] then fparamsP k (acc ++ [p.1]) (nextP p.2) else (acc ++ [p.1], p.2)
def functionP (k : Nat) (σ : PS) : FD × PS :=
 let m := nameP ts n (expectP ts n σ [112, 114, 111, 99])
 let σ1 := expectP ts n m.2 [40]
 let q := if hasP ts σ1 [41] then ([], nextP σ1) else
  let r := fparamsP ts n k [] σ1
  (r.1, expectP ts n r.2 [41])
 let l := listP ts n q.2
 let b := braceF ts n k l.2
 (⟨m.1, q.1, l.1, b.1⟩, b.2)
def libP : Nat → List FD → List Int → PS → (List FD × List Int) × PS
 | 0, acc, at_, σ => ((acc, at_), σ)
 | k + 1, acc, at_, σ =>
  if σ.err = 0 ∧ σ.at_ < ts.length then
   libP k (acc ++ [(functionP ts n k σ).1]) (at_ ++ [(ts.getD σ.at_ Tok.zero).pos]) (functionP ts n k σ).2
  else ((acc, at_), σ)
end
def funName (s : List UInt8) : Bool := !s.isEmpty && decide (s.length ≤ 12) && !keyword s && s.all letter && !([[108, 99, 111, 112, 121], [108, 115, 112, 105, 108, 108], [111, 117, 116], [103]].contains s)
def formN (k n : Int) (s : List UInt8) (c : Nat) : Bool :=
 if k = 80 then decide (0 ≤ n) && s.isEmpty && c == 0
 else if k = 81 then n == 0 && c == 0
 else if k = 82 then decide (8 ≤ n) && decide (n ≤ 23) && s.isEmpty && c == 2
 else if k = 84 then n == 0 && funName s && c == 2
 else if k = 85 then n == 0
 else n == 0 && s.isEmpty && (if k = 86 then c == 0 else if k = 88 ∨ k = 89 ∨ k = 90 then c == 1 else if k = 87 then c == 2 else if k = 83 then c == 3 else false)
mutual
def Nd.formed : Nd → Bool
 | .mk k n s l => formN k n s l.length && rowFormed l
def rowFormed : List Nd → Bool
 | [] => true
 | t :: r => t.formed && rowFormed r
end
def findF (lib : List FD) (s : List UInt8) : Option Nat := lib.findIdx? (fun f => decide (f.name = s))
abbrev Vis := List (List UInt8 × Bool)
def seen (v : Vis) (s : List UInt8) : Option Bool := (v.find? (fun p => decide (p.1 = s))).map (·.2)
def reachF (lib : List FD) (v : Vis) (k : Int) (s : List UInt8) (c : Nat) : Int :=
 if k = 81 then (if (seen v s).isSome then 0 else 6)
 else if k = 84 then (if (seen v s).isSome then 22 else 0)
 else if k = 85 then match findF lib s with
  | none => 6
  | some i => if c = ((lib[i]?.map fun f => f.params.length).getD 0) then 0 else 7
 else 0
def typeF (lib : List FD) (k : Int) (s : List UInt8) (ty : List Bool) : Bool × Int :=
 if k = 82 then (if ty = [false, false] then (false, 0) else (false, 7))
 else if k = 83 then (if ty = [false, ty.getD 1 false, ty.getD 1 false] then (ty.getD 1 false, 0) else (false, 7))
 else if k = 84 then (ty.getD 1 false, 0)
 else if k = 85 then match (findF lib s).bind (lib[·]?) with
  | none => (false, 7)
  | some f => if ty = f.params.map FP.list then (f.list, 0) else (false, 7)
 else if k = 86 then (if ty = [] then (true, 0) else (false, 7))
 else if k = 87 then (if ty = [false, true] then (true, 0) else (false, 7))
 else if k = 88 ∨ k = 90 then (if ty = [true] then (false, 0) else (false, 7))
 else if k = 89 then (if ty = [true] then (true, 0) else (false, 7))
 else (if ty = [] then (false, 0) else (false, 7))
mutual
def Nd.chk (lib : List FD) (v : Vis) : Nd → Bool × Int
 | .mk k _ s l =>
  if reachF lib v k s l.length ≠ 0 then (false, reachF lib v k s l.length)
  else if (rowChk lib v k s [] l).2 ≠ 0 then (false, (rowChk lib v k s [] l).2)
  else if k = 81 then ((seen v s).getD false, 0)
  else typeF lib k s (rowChk lib v k s [] l).1
def rowChk (lib : List FD) (v : Vis) (k : Int) (s : List UInt8) : List Bool → List Nd → List Bool × Int
 | acc, [] => (acc, 0)
 | acc, t :: r =>
  let q := t.chk lib (if k = 84 ∧ acc.length = 1 then (s, acc.getD 0 false) :: v else v)
  if q.2 ≠ 0 then (acc, q.2) else rowChk lib v k s (acc ++ [q.1]) r
end
def paramErr (l : List FP) : Int :=
 if 8 < l.length then 5 else if l.all (fun p => funName p.name) then (if (l.map FP.name).Nodup then 0 else 22) else 3
def fnErr (lib : List FD) (i : Nat) (f : FD) : Int :=
 if 30 ≤ i then 5 else if !funName f.name then 3 else if (findF lib f.name).getD i < i then 22
 else if paramErr f.params ≠ 0 then paramErr f.params
 else if !f.body.formed then 3 else if 80 < f.body.depth then 19 else if 2000 < f.body.size then 5
 else if (f.body.chk lib (f.params.map fun p => (p.name, p.list))).2 ≠ 0 then (f.body.chk lib (f.params.map fun p => (p.name, p.list))).2
 else if (f.body.chk lib (f.params.map fun p => (p.name, p.list))).1 ≠ f.list then 7 else 0
def libErrFrom (lib : List FD) : Nat → List FD → Option (Nat × Int)
 | _, [] => none
 | i, f :: r => if fnErr lib i f ≠ 0 then some (i, fnErr lib i f) else libErrFrom lib (i + 1) r
def libErr (lib : List FD) : Option (Nat × Int) := libErrFrom lib 0 lib
def parseLib (s : List UInt8) : List FD × Int × Int :=
 if (startP s).2.err ≠ 0 then ([], (startP s).2.off, (startP s).2.err) else
 let ts := (startP s).1
 let r := libP ts s.length (fuelP s) [] [] (startP s).2
 if r.2.err ≠ 0 then ([], r.2.off, r.2.err) else
 match libErr r.1.1 with
 | some (i, e) => ([], r.1.2.getD i 0, e)
 | none => (r.1.1, 0, 0)
end Bk
namespace Bk
open Go Go.RowKit
def Cells (S : Nat → Prop) (w : World) : List Nd → List Value → Prop
 | [], cs => cs = []
 | t :: r, cs => ∃ a c ds, cs = t.cells a c ++ ds ∧ t.sits S w a ∧ Cells S w r ds
theorem Cells.len {S : Nat → Prop} {w : World} : ∀ {l : List Nd} {cs : List Value}, Cells S w l cs → cs.length = l.length * 4
 | [], _, h => by rw [show _ = [] from h]; rfl
 | t :: r, _, ⟨a, c, ds, e, _, h⟩ => by
  have := h.len; rw [e, List.length_append, this, List.length_cons]
  simp only [List.length_cons, List.length_nil]; omega
theorem Cells.one {S : Nat → Prop} {w : World} : ∀ {l : List Nd} {cs : List Value}, Cells S w l cs → cs.all Value.one = true
 | [], _, h => by rw [show _ = [] from h]; rfl
 | t :: r, _, ⟨a, c, ds, e, _, h⟩ => by rw [e, List.all_append, h.one]; rfl
theorem Cells.app {S : Nat → Prop} {w : World} : ∀ {l q : List Nd} {cs ds : List Value}, Cells S w l cs → Cells S w q ds → Cells S w (l ++ q) (cs ++ ds)
 | [], _, _, _, h, k => by rw [show _ = [] from h]; exact k
 | t :: r, q, _, ds, ⟨a, c, es, e, hs, h⟩, k => ⟨a, c, es ++ ds, by rw [e, List.append_assoc], hs, h.app k⟩
theorem Cells.fr {S T : Nat → Prop} {w w' : World} (x : Fr T w w') (hd : ∀ b, S b → ¬ T b) : ∀ {l : List Nd} {cs : List Value}, Cells S w l cs → Cells S w' l cs
 | [], _, h => h
 | t :: r, _, ⟨a, c, ds, e, hs, h⟩ => ⟨a, c, ds, e, hs.fr x hd, Cells.fr x hd h⟩
theorem row_app {w : World} {b o : Nat} {us vs : List Value} (h1 : Row w ⟨b, o, none⟩ us) (h2 : Row w ⟨b, o + us.length, none⟩ vs) : Row w ⟨b, o, none⟩ (us ++ vs) := fun i v hi => by
 rcases Nat.lt_or_ge i us.length with hlt | hge
 · rw [List.getElem?_append_left hlt] at hi
   exact h1 i v hi
 · rw [List.getElem?_append_right hge] at hi
   have h := h2.at hi
   have e : (⟨b, o, none⟩ : Addr).add i = ⟨b, o + i, none⟩ := by unfold Addr.add; by_cases h0 : i = 0 <;> simp [h0]
   rw [e, show o + i = o + us.length + (i - us.length) by omega]; exact h
theorem cells_sits {S S' : Nat → Prop} {w : World} (hS : ∀ b, S b → S' b) : ∀ (l : List Nd) (g o : Nat) (cs : List Value), S' g → Row w ⟨g, o, none⟩ cs → Cells S w l cs → rowSits S' w l (some ⟨g, o, none⟩)
 | [], _, _, _, _, _, _ => by simp [rowSits]
 | t :: r, g, o, _, hg, hr, ⟨a, c, ds, e, hs, h⟩ => by
  subst e; simp only [rowSits]
  have hd : Row w ⟨g, o + 4, none⟩ ds := by
   have := hr.sub 4 ds.length
   simpa using this
  exact ⟨g, o, a, c, rfl, hg, hr.at0 rfl, hr.at (i := 1) rfl, hr.at (i := 2) rfl, hr.at (i := 3) rfl, Nd.sits.wide hs hS, cells_sits hS r g (o + 4) ds hg hd h⟩
def OwnG (e B : Nat) (w : World) (g cap : Nat) (l : List Nd) : Prop := B ≤ g ∧ ∃ cs, Own w g e 4 (.slice (some ⟨g, 0, none⟩) l.length cap) l.length cs ∧ Cells (· < B) w l cs
theorem OwnG.lt {e B : Nat} {w : World} {g cap : Nat} {l : List Nd} (h : OwnG e B w g cap l) : g < w.heap.size := by
 obtain ⟨-, cs, h1, -⟩ := h
 exact (h1.blk (k := g) rfl).2
theorem OwnG.fr {e B : Nat} {T : Nat → Prop} {w w' : World} {g cap : Nat} {l : List Nd} (h : OwnG e B w g cap l) (x : Fr T w w') (hs : ∀ k, T k → B ≤ k ∧ k ≠ g) : OwnG e B w' g cap l := by
 obtain ⟨h0, cs, h1, h2⟩ := h; refine ⟨h0, cs, h1.fr x (fun k hk hT => ?_), h2.fr x (fun b hb hT => ?_)⟩
 · simp only [Value.ownBlock, Option.some.injEq] at hk
   exact (hs k hT).2 hk.symm
 · have := (hs b hT).1; omega
theorem OwnG.ext {e B : Nat} {w w' : World} {g cap : Nat} {l : List Nd} (h : OwnG e B w g cap l) (x : Ext w w') : OwnG e B w' g cap l := by
 obtain ⟨h0, cs, h1, h2⟩ := h
 exact ⟨h0, cs, h1.ext x, h2.fr (T := fun _ => False) (.of_ext x) (fun _ _ h => h)⟩
theorem OwnG.sits {e B : Nat} {w : World} {g cap : Nat} {l : List Nd} (h : OwnG e B w g cap l) : rowSits (fun b => b < B ∨ b = g) w l (some ⟨g, 0, none⟩) := by
 obtain ⟨h0, cs, h1, h2⟩ := h
 rcases h1.row with ⟨hv, -⟩ | ⟨g', cap', hv, -, -, hr⟩
 · simp at hv
 · simp only [Value.slice.injEq, Option.some.injEq, Addr.mk.injEq, and_true] at hv
   obtain ⟨rfl, -⟩ := hv
   exact cells_sits (fun b hb => Or.inl hb) l g 0 cs (Or.inr rfl) hr h2
theorem run_append_none0 {P : Program} (w : World) (t ty e : TypeId) (i : TypeInfo) (ht : P.underlying t = some (.slice e)) (hi : P.info? e = some i) (g n cap c : Nat) (hn : n ≤ cap) :
 (Builtin.append_ #[t, t] ty #[.slice (some ⟨g, 0, none⟩) n cap, .slice none 0 c]).run P w = .ok (.slice (some ⟨g, 0, none⟩) n cap) w := by
 simp [Builtin.append_, run_underlying ht, Go.sizeOf, typeInfo, hi, Builtin.lenOf, Builtin.firstCells, hn, storeCells]
def OnSome (K : Value → World → Prop) : Option Value → World → Prop
 | some v, w => K v w
 | none, _ => False
section
variable {P : Program} {n : Nat} {l : Sl} {w : World} {tab : Tab} {zt : ZTab} {ty : TypeId}
end
end Bk
namespace Bk
open Go Go.RowKit Go.Proofs
attribute [local irreducible] Go.Calls
end Bk
namespace Bk
open Go Go.RowKit
theorem flatten_at {css : List (List Value)} {n j : Nat} (h : ∀ cs ∈ css, cs.length = n) (hj : j < css.length) : css.flatten = (css.take j).flatten ++ css[j] ++ (css.drop (j + 1)).flatten ∧ (css.take j).flatten.length = j * n := by
 constructor
 · have h1 := (List.take_append_drop j css).symm
   rw [List.drop_eq_getElem_cons hj] at h1; refine (congrArg List.flatten h1).trans ?_; rw [List.flatten_append, List.flatten_cons, List.append_assoc]
 · rw [flatten_length (fun cs hcs => h cs (List.mem_of_mem_take hcs)), List.length_take]
   congr 1; omega
structure ArrS {α : Type} (sh : Shape α) (C D : Nat) (w : World) (g : Nat) (xs : List α) : Prop where
 ex : ∃ css : List (List Value), Blk w g css.flatten ∧ css.length = xs.length ∧ ∀ (i : Nat) (x : α) (cs : List Value), xs[i]? = some x → css[i]? = some cs → sh.rep w (fun b => C ≤ b ∧ b < D) x cs
section
variable {α : Type} {sh : Shape α} {C D g : Nat} {w w' : World} {xs : List α}
theorem ArrS.lt (h : ArrS sh C D w g xs) : g < w.heap.size := by
 obtain ⟨css, h1, -⟩ := h.ex
 exact h1.lt
theorem ArrS.fr {T : Nat → Prop} (h : ArrS sh C D w g xs) (x : Fr T w w') (hs : ∀ k, T k → (k < C ∨ D ≤ k) ∧ k ≠ g) : ArrS sh C D w' g xs := by
 obtain ⟨css, h1, h2, h3⟩ := h.ex
 exact ⟨css, h1.fr x (fun hT => (hs g hT).2 rfl), h2, fun i y cs hy hc => sh.mono (h3 i y cs hy hc) (fun _ h => h) (fun b o u hb hu => x.keep (fun hT => by have := (hs b hT).1; omega) hu)⟩
theorem ArrS.ext (h : ArrS sh C D w g xs) (x : Ext w w') : ArrS sh C D w' g xs := by
 obtain ⟨css, h1, h2, h3⟩ := h.ex
 exact ⟨css, h1.ext x, h2, fun i y cs hy hc => sh.mono (h3 i y cs hy hc) (fun _ h => h) (fun b o u hb hu => x.keep hu)⟩
theorem ArrS.wide (h : ArrS sh C D w g xs) {D' : Nat} (hD : D ≤ D') : ArrS sh C D' w g xs := by
 obtain ⟨css, h1, h2, h3⟩ := h.ex
 exact ⟨css, h1, h2, fun i y cs hy hc => sh.mono (h3 i y cs hy hc) (fun _ h => ⟨h.1, by omega⟩) (fun _ _ _ _ h => h)⟩
theorem ArrS.lens (h : ArrS sh C D w g xs) {css : List (List Value)} (h2 : css.length = xs.length) (h3 : ∀ (i : Nat) (x : α) (cs : List Value), xs[i]? = some x → css[i]? = some cs → sh.rep w (fun b => C ≤ b ∧ b < D) x cs) : ∀ cs ∈ css, cs.length = sh.sz := fun cs hcs => by
 obtain ⟨k, hk, rfl⟩ := List.mem_iff_getElem.1 hcs
 exact sh.len (h3 k xs[k] css[k] (List.getElem?_eq_getElem (by omega)) (List.getElem?_eq_getElem hk))
theorem ArrS.row (h : ArrS sh C D w g xs) {j : Nat} {x : α} (hj : xs[j]? = some x) : ∃ cs, Row w ⟨g, 0 + j * sh.sz, none⟩ cs ∧ sh.rep w (fun b => C ≤ b ∧ b < D) x cs := by
 obtain ⟨css, h1, h2, h3⟩ := h.ex
 have hlt : j < xs.length := by
  rcases Nat.lt_or_ge j xs.length with h | h
  · exact h
  · rw [List.getElem?_eq_none h] at hj; cases hj
 have hc : css[j]? = some css[j] := List.getElem?_eq_getElem (by omega); obtain ⟨e1, e2⟩ := flatten_at (h.lens h2 h3) (show j < css.length by omega); refine ⟨css[j], fun i v hi => ?_, h3 j x _ hj hc⟩
 have hil : i < css[j].length := by
  rcases Nat.lt_or_ge i css[j].length with h | h
  · exact h
  · rw [List.getElem?_eq_none h] at hi; cases hi
 have hcell : css.flatten[j * sh.sz + i]? = some v := by
  rw [e1, List.append_assoc, List.getElem?_append_right (by omega), e2, Nat.add_sub_cancel_left, List.getElem?_append_left hil]
  exact hi
 have := h1.cell hcell
 have e : (⟨g, 0 + j * sh.sz, none⟩ : Addr).add i = ⟨g, j * sh.sz + i, none⟩ := by unfold Addr.add; by_cases h0 : i = 0 <;> simp [h0]
 rw [e]; exact this
end
section
variable {P : Program} {n : Nat} {l : Sl} {w : World} {tab : Tab} {zt : ZTab} {ty : TypeId} {α : Type} {sh : Shape α}
end
section
variable {P : Program} {n : Nat} {l : Sl} {w : World} {tab : Tab} {zt : ZTab} {ty : TypeId}
end
theorem cw_meet {P : Program} {n : Nat} {l : Sl} {w : World} {Q : Exit → Act → World → Prop} {x y : Code} {ι : Type} (L : ι → Sl) (I : ι → World → Prop) (h : CW P n x (Exit.then (fun a w => ∃ i, Env n (L i) a ∧ I i w) Q) l w) (k : ∀ i w, I i w → CW P n y Q (L i) w) : CW P n (.seq x y) Q l w :=
 cw_cut _ h (fun a w ⟨i, he, hi⟩ => by have := k i w hi; unfold CW at this; exact this a he)
theorem qw_meet {n : Nat} {l : Sl} {w : World} {Q : Exit → Act → World → Prop} {ι : Type} {L : ι → Sl} {I : ι → World → Prop} (i : ι) (hs : Sub (L i) l) (h : I i w) : QW n (Exit.then (fun a w => ∃ i, Env n (L i) a ∧ I i w) Q) .normal l w :=
 qw_then_I fun _ ha => ⟨i, ha.sub hs, h⟩
end Bk
namespace Bk
open Go Go.RowKit
structure OwnM {α : Type} (sh : Shape α) (w : World) (R : Nat → Prop) (B : Nat) (e : TypeId) (v : Value) (xs : List α) : Prop where
 ex : ∃ css : List (List Value), Own w B e sh.sz v xs.length css.flatten ∧ css.length = xs.length ∧ ∀ (i : Nat) (x : α) (cs : List Value), xs[i]? = some x → css[i]? = some cs → sh.rep w (fun b => (R b ∨ B ≤ b) ∧ v.ownBlock ≠ some b) x cs
section
variable {α : Type} {sh : Shape α} {R : Nat → Prop} {B e : Nat} {w w' : World} {v : Value} {xs : List α}
theorem OwnM.nil : OwnM sh w R B e (.slice none 0 0) [] := ⟨⟨[], Own.nil, rfl, by simp⟩⟩
theorem OwnM.ge (h : OwnM sh w R B e v xs) {k : Nat} (hk : v.ownBlock = some k) : B ≤ k := by
 obtain ⟨css, h1, -⟩ := h.ex
 exact h1.ge hk
theorem OwnM.lt (h : OwnM sh w R B e v xs) {k : Nat} (hk : v.ownBlock = some k) : k < w.heap.size := by
 obtain ⟨css, h1, -⟩ := h.ex
 exact (h1.blk hk).2
theorem OwnM.ext (h : OwnM sh w R B e v xs) (x : Ext w w') : OwnM sh w' R B e v xs := by
 obtain ⟨css, h1, h2, h3⟩ := h.ex
 exact ⟨css, h1.ext x, h2, fun i y cs hy hc => sh.mono (h3 i y cs hy hc) (fun _ h => h) (fun b o u _ hu => x.keep hu)⟩
theorem OwnM.fr {S : Nat → Prop} (h : OwnM sh w R B e v xs) (x : Fr S w w') (hs : ∀ k, S k → ¬ R k ∧ k < B) : OwnM sh w' R B e v xs := by
 obtain ⟨css, h1, h2, h3⟩ := h.ex
 exact ⟨css, h1.fr x (fun k hk hS => by have := h1.ge hk; have := (hs k hS).2; omega), h2, fun i y cs hy hc => sh.mono (h3 i y cs hy hc) (fun _ h => h) (fun b o u hb hu => x.keep (fun hS => by
  obtain ⟨h1, h2⟩ := hs b hS
  rcases hb.1 with h | h
  · exact h1 h
  · omega) hu)⟩
theorem OwnM.rows (h : OwnM sh w R B e v xs) (hx : xs ≠ []) : ∃ g cap, v = .slice (some ⟨g, 0, none⟩) xs.length cap ∧ B ≤ g ∧ ∀ (i : Nat) (x : α), xs[i]? = some x → ∃ cs, Row w ⟨g, i * sh.sz, none⟩ cs ∧ sh.rep w (fun b => R b ∨ B ≤ b) x cs := by
 obtain ⟨css, h1, h2, h3⟩ := h.ex
 rcases h1.row with ⟨rfl, hn, -⟩ | ⟨g, cap, rfl, hg, hob, hr⟩
 · exact absurd (List.length_eq_zero_iff.1 hn) hx
 · refine ⟨g, cap, rfl, hg, fun i x hi => ?_⟩
   have hlt : i < xs.length := by
    rcases Nat.lt_or_ge i xs.length with h | h
    · exact h
    · rw [List.getElem?_eq_none h] at hi; cases hi
   have hc : css[i]? = some css[i] := List.getElem?_eq_getElem (by omega)
   have hlen : ∀ cs ∈ css, cs.length = sh.sz := fun cs hcs => by
    obtain ⟨k, hk, rfl⟩ := List.mem_iff_getElem.1 hcs
    exact sh.len (h3 k xs[k] css[k] (List.getElem?_eq_getElem (by omega)) (List.getElem?_eq_getElem hk))
   obtain ⟨e1, e2⟩ := flatten_at hlen (show i < css.length by omega); refine ⟨css[i], fun j u hj => ?_, sh.mono (h3 i x _ hi hc) (fun _ h => h.1) (fun _ _ _ _ h => h)⟩
   have hjl : j < css[i].length := by
    rcases Nat.lt_or_ge j css[i].length with h | h
    · exact h
    · rw [List.getElem?_eq_none h] at hj; cases hj
   have hget : css.flatten[i * sh.sz + j]? = some u := by
    rw [e1, List.append_assoc, List.getElem?_append_right (by omega), e2, Nat.add_sub_cancel_left, List.getElem?_append_left hjl]
    exact hj
   have := hr.at (i := i * sh.sz + j) hget
   have e : (⟨g, i * sh.sz, none⟩ : Addr).add j = ⟨g, 0 + (i * sh.sz + j), none⟩ := by unfold Addr.add; by_cases h0 : j = 0 <;> simp [h0]
   rw [e]; exact this
theorem OwnM.slice (h : OwnM sh w R B e v xs) : ∃ a cap, v = .slice a xs.length cap := by
 obtain ⟨css, h1, h2, h3⟩ := h.ex
 rcases h1.row with ⟨rfl, hn, -⟩ | ⟨g, cap, rfl, -⟩
 · exact ⟨none, 0, by rw [hn]⟩
 · exact ⟨_, _, rfl⟩
end
theorem OwnM.sits {w : World} {R : Nat → Prop} {B e : Nat} {a : Option Addr} {len cap : Nat} {xs : List Nd} {S : Nat → Prop} (h : OwnM ndShape w R B e (.slice a len cap) xs) (hS : ∀ b, R b ∨ B ≤ b → S b) : rowSits S w xs a := by
 by_cases hx : xs = []
 · subst hx; simp [rowSits]
 · obtain ⟨g, cap', hv, hg, hall⟩ := h.rows hx
   simp only [Value.slice.injEq] at hv; obtain ⟨rfl, -, -⟩ := hv; refine rowSits_of (hS g (Or.inr hg)) xs 0 (fun i x hi => ?_); obtain ⟨cs, hr, a, c, rfl, hs⟩ := hall i x hi
   exact ⟨a, c, by simpa [ndShape] using hr, Nd.sits_mono (fun b hb => hS b hb) (fun _ _ _ _ h => h) _ _ hs⟩
end Bk
namespace Bk
open Go Go.RowKit
structure OwnQ {α : Type} (sh : Shape α) (w : World) (R : Nat → Prop) (B e : Nat) (v : Value) (xs : List α) : Prop where
 ex : ∃ css : List (List Value), Own w B e sh.sz v xs.length css.flatten ∧ css.length = xs.length ∧ ∀ (i : Nat) (x : α) (cs : List Value), xs[i]? = some x → css[i]? = some cs → sh.rep w (fun b => R b ∧ v.ownBlock ≠ some b) x cs
section
variable {α : Type} {sh : Shape α} {R R' : Nat → Prop} {B e : Nat} {w w' : World} {v : Value} {xs : List α}
theorem OwnQ.nil : OwnQ sh w R B e (.slice none 0 0) [] := ⟨⟨[], Own.nil, rfl, by simp⟩⟩
theorem OwnQ.ge (h : OwnQ sh w R B e v xs) {k : Nat} (hk : v.ownBlock = some k) : B ≤ k := by
 obtain ⟨css, h1, -⟩ := h.ex
 exact h1.ge hk
theorem OwnQ.lt (h : OwnQ sh w R B e v xs) {k : Nat} (hk : v.ownBlock = some k) : k < w.heap.size := by
 obtain ⟨css, h1, -⟩ := h.ex
 exact (h1.blk hk).2
theorem OwnQ.ext (h : OwnQ sh w R B e v xs) (x : Ext w w') : OwnQ sh w' R B e v xs := by
 obtain ⟨css, h1, h2, h3⟩ := h.ex
 exact ⟨css, h1.ext x, h2, fun i y cs hy hc => sh.mono (h3 i y cs hy hc) (fun _ h => h) (fun b o u _ hu => x.keep hu)⟩
theorem OwnQ.fr {S : Nat → Prop} (h : OwnQ sh w R B e v xs) (x : Fr S w w') (hs : ∀ k, S k → ¬ R k ∧ v.ownBlock ≠ some k) : OwnQ sh w' R B e v xs := by
 obtain ⟨css, h1, h2, h3⟩ := h.ex
 exact ⟨css, h1.fr x (fun k hk hS => (hs k hS).2 hk), h2, fun i y cs hy hc => sh.mono (h3 i y cs hy hc) (fun _ h => h) (fun b o u hb hu => x.keep (fun hS => (hs b hS).1 hb.1) hu)⟩
theorem OwnQ.wide (h : OwnQ sh w R B e v xs) (hR : ∀ b, R b → R' b) : OwnQ sh w R' B e v xs := by
 obtain ⟨css, h1, h2, h3⟩ := h.ex
 exact ⟨css, h1, h2, fun i y cs hy hc => sh.mono (h3 i y cs hy hc) (fun b hb => ⟨hR b hb.1, hb.2⟩) (fun _ _ _ _ hu => hu)⟩
theorem OwnQ.ltR (h : OwnQ sh w R B e v xs) : OwnQ sh w (fun b => R b ∧ b < w.heap.size) B e v xs := by
 obtain ⟨css, h1, h2, h3⟩ := h.ex
 exact ⟨css, h1, h2, fun i y cs hy hc => sh.mono (sh.lt (h3 i y cs hy hc)) (fun b hb => ⟨⟨hb.1.1, hb.2⟩, hb.1.2⟩) (fun _ _ _ _ hu => hu)⟩
theorem OwnQ.below (h : OwnQ sh w R B e v xs) {B' : Nat} (hB : ∀ k, v.ownBlock = some k → B' ≤ k) : OwnQ sh w R B' e v xs := by
 obtain ⟨css, h1, h2, h3⟩ := h.ex; refine ⟨css, ?_, h2, h3⟩; obtain ⟨k1, k2 | ⟨g, cap, cur, rfl, k3, k4⟩⟩ := h1
 · exact ⟨k1, Or.inl k2⟩
 · exact ⟨k1, Or.inr ⟨g, cap, cur, rfl, hB g rfl, k4⟩⟩
def GrewQ (sh : Shape α) (w : World) (R : Nat → Prop) (B : Nat) (e : TypeId) (v : Value) (ys : List α) : Option Value → World → Prop
 | some v', w' => ∃ g cap, v' = .slice (some ⟨g, 0, none⟩) ys.length cap ∧ OwnQ sh w' R B e v' ys ∧ (v.ownBlock = some g ∨ w.heap.size ≤ g) ∧ g < w'.heap.size ∧ Fr (fun k => v.ownBlock = some k) w w'
 | none, _ => False
theorem does_appendQ {P : Program} {n : Nat} {l : Sl} {tab : Tab} {zt : ZTab} {ty : TypeId} {x y : Operand} {t sz1 cap : Nat} {sE : Sk} {zs : List Value} {cs : List Value} {z : α} {p : Addr} (T : TabOk P tab) (Z : ZTabOk P zt) (ht : lookT tab t = some (.slice e, sz1)) (hE : lookT tab e = some (sE, sh.sz)) (hz : lookZ zt e = some zs) (hzl : zs.length = sh.sz)
 (hby : bytesOk P e = true) (hsz : Nat.blt 0 sh.sz = true) (hx : ev l x = some v) (hy : ev l y = some (.slice (some p) 1 cap)) (hown : OwnQ sh w R' B e v xs) (hw : ∀ b, R' b → R b) (hr : Row w p cs) (hrep : sh.rep w (fun b => R b ∧ v.ownBlock ≠ some b) z cs) (hlen : xs.length ≤ 10000000000) (hB : B ≤ w.heap.size) :
 Does P n l (.call ⟨.builtin .append, #[x, y], #[t, t]⟩) ty w (GrewQ sh w R B e v (xs ++ [z])) := by
 obtain ⟨css, h1, h2, h3'⟩ := hown.ex
 have h3 : ∀ (i : Nat) (x : α) (cs : List Value), xs[i]? = some x → css[i]? = some cs → sh.rep w (fun b => R b ∧ v.ownBlock ≠ some b) x cs := fun i y cs hy hc => sh.mono (h3' i y cs hy hc) (fun b hb => ⟨hw b hb.1, hb.2⟩) (fun _ _ _ _ hu => hu)
 have hd := does_append (P := P) (n := n) (l := l) (ty := ty) T Z ht hE hz hzl hby hsz hx hy h1 hr (by rw [sh.len hrep]; simp) (sh.one hrep) (by omega) (by omega) hB
 unfold Does at hd ⊢
 intro a dst pos after g next Q ha hn hn0; refine hd a dst pos after g next Q ha (fun v' w' hG => ?_) (fun w' hG => hG.elim); obtain ⟨g1, g2, g, cap', g3, g4⟩ := hG; have hg := g1.blk (k := g) (by rw [g3]; rfl); refine hn v' w' ⟨g, cap', by rw [g3]; simp, ⟨css ++ [cs], ?_, by simp [h2], fun i y ds hy hc => ?_⟩, g4, hg.2, g2⟩
 · have e1 : (css ++ [cs]).flatten = css.flatten ++ cs := by simp
   have e2 : (xs ++ [z]).length = xs.length + 1 := by simp
   rw [e1, e2]; exact g1
 · have key : sh.rep w (fun b => R b ∧ v.ownBlock ≠ some b) y ds := by
    by_cases hi : i < xs.length
    · rw [List.getElem?_append_left hi] at hy
      rw [List.getElem?_append_left (by omega)] at hc
      exact h3 i y ds hy hc
    · have hil : i < (xs ++ [z]).length := by
       rcases Nat.lt_or_ge i (xs ++ [z]).length with h | h
       · exact h
       · rw [List.getElem?_eq_none h] at hy; cases hy
      simp only [List.length_append, List.length_cons, List.length_nil] at hil
      have hi' : i = xs.length := by omega
      subst hi'; rw [List.getElem?_append_right (Nat.le_refl _)] at hy; rw [List.getElem?_append_right (by omega)] at hc; simp only [Nat.sub_self, List.getElem?_cons_zero, Option.some.injEq] at hy; rw [h2] at hc; simp only [Nat.sub_self, List.getElem?_cons_zero, Option.some.injEq] at hc; subst hy hc
      exact hrep
   refine sh.mono (sh.lt key) (fun b hb => ⟨hb.1.1, fun e => ?_⟩) (fun b o u hb hu => g2.keep hb.1.2 hu); rw [g3] at e; simp only [Value.ownBlock, Option.some.injEq] at e; subst e
   rcases g4 with h | h
   · exact hb.1.2 h
   · omega
theorem OwnQ.rows (h : OwnQ sh w R B e v xs) (hx : xs ≠ []) : ∃ g cap, v = .slice (some ⟨g, 0, none⟩) xs.length cap ∧ B ≤ g ∧ g < w.heap.size ∧ ∀ (i : Nat) (x : α), xs[i]? = some x → ∃ cs, Row w ⟨g, i * sh.sz, none⟩ cs ∧ sh.rep w R x cs := by
 obtain ⟨css, h1, h2, h3⟩ := h.ex; have hM : OwnM sh w R B e v xs := ⟨css, h1, h2, fun i y cs hy hc => sh.mono (h3 i y cs hy hc) (fun b hb => ⟨Or.inl hb.1, hb.2⟩) (fun _ _ _ _ hu => hu)⟩
 rcases h1.row with ⟨rfl, hn, -⟩ | ⟨g, cap, rfl, hg, hob, hr⟩
 · exact absurd (List.length_eq_zero_iff.1 hn) hx
 · refine ⟨g, cap, rfl, hg, (h1.blk (k := g) rfl).2, fun i x hi => ?_⟩
   obtain ⟨g', cap', hv, -, hall⟩ := hM.rows hx; simp only [Value.slice.injEq, Option.some.injEq, Addr.mk.injEq, and_true, true_and] at hv; obtain ⟨rfl, rfl⟩ := hv
   have hil : i < xs.length := by
    rcases Nat.lt_or_ge i xs.length with h | h
    · exact h
    · rw [List.getElem?_eq_none h] at hi; cases hi
   have hcl : ∀ cs ∈ css, cs.length = sh.sz := fun cs hcs => by
    obtain ⟨j, hj, rfl⟩ := List.mem_iff_getElem.1 hcs; have hx1 : xs[j]? = some xs[j] := List.getElem?_eq_getElem (by omega)
    exact sh.len (h3 j _ _ hx1 (List.getElem?_eq_getElem hj))
   have hci : css[i]? = some (css[i]'(by omega)) := List.getElem?_eq_getElem (by omega); obtain ⟨cs, k1, k2⟩ := hall i x hi; refine ⟨css[i]'(by omega), ?_, sh.mono (h3 i x _ hi hci) (fun b hb => hb.1) (fun _ _ _ _ hu => hu)⟩; obtain ⟨f1, f2⟩ := flatten_at hcl (j := i) (by omega); rw [f1] at hr; have hs := hr.sub (i * sh.sz) sh.sz; rw [Nat.zero_add, List.append_assoc, List.drop_left' f2, List.take_left' (hcl _ (List.getElem_mem _))] at hs
   exact hs
theorem OwnQ.lit {b : Nat} {x : α} {cs : List Value} (h : TB w b cs e) (hB : B ≤ b) (hr : sh.rep w (fun k => R k ∧ k ≠ b) x cs) : OwnQ sh w R B e (.slice (some ⟨b, 0, none⟩) 1 1) [x] := by
 have hl := sh.len hr; refine ⟨[cs], ⟨by simp [hl], Or.inr ⟨b, 1, cs.toArray, rfl, hB, h, Nat.le_refl _, maxLen_one, by simp [hl], by simp [← hl]⟩⟩, rfl, fun i y ds hy hd => ?_⟩
 match i, hy, hd with
 | 0, hy, hd =>
  simp at hy hd
  subst hy hd
  exact sh.mono hr (fun k hk => ⟨hk.1, fun e => hk.2 (by simpa [Value.ownBlock] using e.symm)⟩) (fun _ _ _ _ h => h)
end
theorem OwnQ.rowsits {w : World} {R : Nat → Prop} {B e : Nat} {a : Option Addr} {len cap : Nat} {xs : List Nd} {S : Nat → Prop} (h : OwnQ ndShape w R B e (.slice a len cap) xs) (hR : ∀ b, R b → S b) (hS : ∀ b, B ≤ b → S b) : rowSits S w xs a := by
 by_cases hx : xs = []
 · subst hx; simp [rowSits]
 · obtain ⟨g, cap', hv, hg, -, hall⟩ := h.rows hx
   simp only [Value.slice.injEq] at hv; obtain ⟨rfl, -, -⟩ := hv
   exact rowSits_of (hS g hg) xs 0 (fun i x hi => by
    obtain ⟨cs, hr, a, c, rfl, hs⟩ := hall i x hi
    exact ⟨a, c, by simpa [ndShape] using hr, Nd.sits.wide hs hR⟩)
end Bk
namespace Bk
open Go Go.RowKit
abbrev FP.cells (p : FP) : List Value := [str p.name, .bool p.list]
abbrev FP.val (p : FP) : Value := .agg #[str p.name, .bool p.list]
def FPAt (w : World) (b o : Nat) (p : FP) : Prop := Row w ⟨b, o, none⟩ p.cells
def FPs (S : Nat → Prop) (w : World) (l : List FP) (a : Option Addr) : Prop := Arr S 2 FPAt w l a
abbrev FD.cells (f : FD) (pa : Option Addr) (pc : Nat) (ba : Option Addr) (bc : Nat) : List Value := [str f.name, .slice pa f.params.length pc, .bool f.list, .int .u8 f.body.kind, .int .i64 f.body.num, str f.body.name, .slice ba f.body.kids.length bc]
def FDAt (S : Nat → Prop) (w : World) (b o : Nat) (f : FD) : Prop := ∃ pa pc ba bc, Row w ⟨b, o, none⟩ (f.cells pa pc ba bc) ∧ FPs S w f.params pa ∧ f.body.sits S w ba
def FDs (S : Nat → Prop) (w : World) (l : List FD) (a : Option Addr) : Prop := Arr S 7 (FDAt S) w l a
section
variable {S S' T : Nat → Prop} {w w' : World} {a : Option Addr}
theorem FPs.ext {l : List FP} (h : FPs S w l a) (x : Ext w w') : FPs S w' l a := h.mono (fun _ h => h) (fun _ _ _ _ _ h => Row.ext h x)
theorem FPs.fr {l : List FP} (h : FPs S w l a) (x : Fr T w w') (hs : ∀ b, S b → ¬ T b) : FPs S w' l a := h.mono (fun _ h => h) (fun b _ _ _ hb h => Row.fr h x (hs b hb))
theorem FPs.wide {l : List FP} (h : FPs S w l a) (hs : ∀ b, S b → S' b) : FPs S' w l a := h.mono hs (fun _ _ _ _ _ h => h)
theorem FPs.move {l : List FP} (h : FPs S w l a) (hS : ∀ b, S b → S' b) (hc : ∀ b o v, S b → w.cell? ⟨b, o, none⟩ = some v → w'.cell? ⟨b, o, none⟩ = some v) : FPs S' w' l a := h.mono hS (fun b o x _ hb h => row_move h (fun o v => hc b o v hb))
theorem FPs.lt2 {l : List FP} (h : FPs S w l a) : FPs (fun b => S b ∧ b < w.heap.size) w l a := by
 rcases h with h | ⟨b, o, h1, h2, h3⟩
 · exact Or.inl h
 · cases l with
   | nil => exact Or.inl rfl
   | cons v r => exact Or.inr ⟨b, o, h1, ⟨h2, cell_lt (Row.at0 (h3 0 v rfl) rfl)⟩, h3⟩
theorem FPs.ltA {l : List FP} (h : FPs S w l a) : FPs (· < w.heap.size) w l a := h.lt2.wide fun _ h => h.2
theorem FDs.ext {l : List FD} (h : FDs S w l a) (x : Ext w w') : FDs S w' l a :=
 h.mono (fun _ h => h) (fun _ _ _ _ _ ⟨pa, pc, ba, bc, h1, h2, h3⟩ => ⟨pa, pc, ba, bc, h1.ext x, h2.ext x, h3.ext x⟩)
theorem FDs.fr {l : List FD} (h : FDs S w l a) (x : Fr T w w') (hs : ∀ b, S b → ¬ T b) : FDs S w' l a :=
 h.mono (fun _ h => h) (fun b _ _ _ hb ⟨pa, pc, ba, bc, h1, h2, h3⟩ => ⟨pa, pc, ba, bc, h1.fr x (hs b hb), h2.fr x hs, h3.fr x hs⟩)
theorem FDs.wide {l : List FD} (h : FDs S w l a) (hs : ∀ b, S b → S' b) : FDs S' w l a :=
 h.mono hs (fun _ _ _ _ _ ⟨pa, pc, ba, bc, h1, h2, h3⟩ => ⟨pa, pc, ba, bc, h1, h2.wide hs, h3.wide hs⟩)
theorem FDs.lt2 {l : List FD} (h : FDs S w l a) : FDs (fun b => S b ∧ b < w.heap.size) w l a := by
 rcases h with h | ⟨b, o, h1, h2, h3⟩
 · exact Or.inl h
 · cases l with
   | nil => exact Or.inl rfl
   | cons v r =>
    obtain ⟨_, _, _, _, hr, -, -⟩ := h3 0 v rfl; refine Or.inr ⟨b, o, h1, ⟨h2, cell_lt (Row.at0 hr rfl)⟩, fun i x hi => ?_⟩; obtain ⟨pa, pc, ba, bc, hr, hv, hs⟩ := h3 i x hi
    exact ⟨pa, pc, ba, bc, hr, hv.lt2, sits_lt2 _ _ hs⟩
theorem FDs.ltA {l : List FD} (h : FDs S w l a) : FDs (· < w.heap.size) w l a := h.lt2.wide fun _ h => h.2
end
def fpShape : Shape FP where
 sz := 2
 rep := fun _ _ v cs => cs = v.cells
 len := fun h => by rw [h]; rfl
 one := fun h => by rw [h]; rfl
 mono := fun h _ _ => h
 lt := fun h => h
def fdShape : Shape FD where
 sz := 7
 rep := fun w S p cs => ∃ pa pc ba bc, cs = p.cells pa pc ba bc ∧ FPs S w p.params pa ∧ p.body.sits S w ba
 len := fun ⟨_, _, _, _, h, _⟩ => by rw [h]; rfl
 one := fun ⟨_, _, _, _, h, _⟩ => by rw [h]; rfl
 mono := fun ⟨pa, pc, ba, bc, h, h1, h2⟩ hS hc => ⟨pa, pc, ba, bc, h, h1.move hS hc, Nd.sits_mono hS hc _ ba h2⟩
 lt := fun ⟨pa, pc, ba, bc, h, h1, h2⟩ => ⟨pa, pc, ba, bc, h, h1.lt2, sits_lt2 _ ba h2⟩
theorem OwnQ.fps {w : World} {R : Nat → Prop} {B e : Nat} {a : Option Addr} {len cap : Nat} {xs : List FP} {S : Nat → Prop} (h : OwnQ fpShape w R B e (.slice a len cap) xs) (hS : ∀ b, B ≤ b → b < w.heap.size → S b) : FPs S w xs a := by
 by_cases hx : xs = []
 · exact Or.inl hx
 · obtain ⟨g, cap', hv, hg, hl, hall⟩ := h.rows hx
   simp only [Value.slice.injEq] at hv; obtain ⟨rfl, -, -⟩ := hv; refine Or.inr ⟨g, 0, rfl, hS g hg hl, fun i x hi => ?_⟩; obtain ⟨cs, hr, rfl⟩ := hall i x hi
   simpa [fpShape, FPAt] using hr
theorem OwnQ.fds {w : World} {R : Nat → Prop} {B e : Nat} {a : Option Addr} {len cap : Nat} {xs : List FD} {S : Nat → Prop} (h : OwnQ fdShape w R B e (.slice a len cap) xs) (hR : ∀ b, R b → S b) (hS : ∀ b, B ≤ b → S b) : FDs S w xs a := by
 by_cases hx : xs = []
 · exact Or.inl hx
 · obtain ⟨g, cap', hv, hg, -, hall⟩ := h.rows hx
   simp only [Value.slice.injEq] at hv; obtain ⟨rfl, -, -⟩ := hv; refine Or.inr ⟨g, 0, rfl, hS g hg, fun i x hi => ?_⟩; obtain ⟨cs, hr, pa, pc, ba, bc, rfl, h1, h2⟩ := hall i x hi
   exact ⟨pa, pc, ba, bc, by simpa [fdShape] using hr, h1.wide hR, h2.wide hR⟩
end Bk
namespace Bk
open Go Go.RowKit Go.Proofs
attribute [local irreducible] Go.Calls
theorem rowDepth_snoc (l : List Nd) (x : Nd) : rowDepth (l ++ [x]) = max (rowDepth l) x.depth := by
 induction l with
 | nil => simp only [List.nil_append, rowDepth]; omega
 | cons y r ih => simp only [List.cons_append, rowDepth, ih]; omega
mutual
theorem depth_le : ∀ t : Nd, 1 ≤ t.depth ∧ t.depth ≤ t.size
 | .mk _ _ _ l => by
  have := rowDepth_le l
  simp only [Nd.depth, Nd.size]; omega
theorem rowDepth_le : ∀ l : List Nd, 0 ≤ rowDepth l ∧ rowDepth l ≤ rowSize l
 | [] => by simp [rowDepth, rowSize]
 | t :: r => by
  have h1 := depth_le t; have h2 := rowDepth_le r
  simp only [rowDepth, rowSize]; omega
end
theorem rowSize_snoc (l : List Nd) (x : Nd) : rowSize (l ++ [x]) = rowSize l + x.size := by
 induction l with
 | nil => simp [rowSize]
 | cons y r ih => simp only [List.cons_append, rowSize, ih]; omega
theorem rowSize_take (l : List Nd) (j : Nat) : rowSize (l.take j) ≤ rowSize l := by
 induction l generalizing j with
 | nil => simp
 | cons x r ih =>
  cases j with
  | zero => simp [rowSize]
  | succ j => simp only [List.take_succ_cons, rowSize]; have := ih j; omega
theorem length_rowSize (l : List Nd) : l.length ≤ rowSize l := by
 induction l with
 | nil => simp [rowSize]
 | cons x r ih => have := Nd.size_pos x; simp only [rowSize, List.length_cons]; omega
end Bk
namespace Bk
open Go Go.RowKit
def Rows (S : Nat → Prop) (w : World) (cs : List Value) (a : Option Addr) : Prop := cs = [] ∨ ∃ b o, a = some ⟨b, o, none⟩ ∧ S b ∧ Row w ⟨b, o, none⟩ cs
section
variable {S S' T : Nat → Prop} {w w' : World} {cs : List Value} {a : Option Addr}
theorem Rows.nil : Rows S w [] a := Or.inl rfl
theorem Rows.ext (h : Rows S w cs a) (x : Ext w w') : Rows S w' cs a := h.imp id fun ⟨b, o, h1, h2, h3⟩ => ⟨b, o, h1, h2, h3.ext x⟩
theorem Rows.fr (h : Rows S w cs a) (x : Fr T w w') (hs : ∀ b, S b → ¬ T b) : Rows S w' cs a := h.imp id fun ⟨b, o, h1, h2, h3⟩ => ⟨b, o, h1, h2, h3.fr x (hs b h2)⟩
theorem Rows.wide (h : Rows S w cs a) (hS : ∀ b, S b → S' b) : Rows S' w cs a := h.imp id fun ⟨b, o, h1, h2, h3⟩ => ⟨b, o, h1, hS b h2, h3⟩
theorem Rows.lt2 (h : Rows S w cs a) : Rows (fun b => S b ∧ b < w.heap.size) w cs a := by
 rcases h with h | ⟨b, o, h1, h2, h3⟩
 · exact Or.inl h
 · cases cs with
   | nil => exact Or.inl rfl
   | cons v r => exact Or.inr ⟨b, o, h1, ⟨h2, cell_lt (Row.at0 h3 rfl)⟩, h3⟩
theorem Rows.ltA (h : Rows S w cs a) : Rows (· < w.heap.size) w cs a := h.lt2.wide fun _ h => h.2
theorem Rows.get (h : Rows S w cs a) (hc : cs ≠ []) : ∃ b o, a = some ⟨b, o, none⟩ ∧ S b ∧ Row w ⟨b, o, none⟩ cs := h.resolve_left hc
theorem Rows.move (h : Rows S w cs a) (hS : ∀ b, S b → S' b) (hc : ∀ b o v, S b → w.cell? ⟨b, o, none⟩ = some v → w'.cell? ⟨b, o, none⟩ = some v) : Rows S' w' cs a :=
 h.imp id fun ⟨b, o, h1, h2, h3⟩ => ⟨b, o, h1, hS b h2, row_move h3 (fun o v => hc b o v h2)⟩
end
def OwnF (e sz B : Nat) (w : World) (g cap n : Nat) (cs : List Value) : Prop := B ≤ g ∧ Own w g e sz (.slice (some ⟨g, 0, none⟩) n cap) n cs
theorem OwnF.lt {e sz B : Nat} {w : World} {g cap n : Nat} {cs : List Value} (h : OwnF e sz B w g cap n cs) : g < w.heap.size := (h.2.blk (k := g) rfl).2
theorem OwnF.fr {e sz B : Nat} {T : Nat → Prop} {w w' : World} {g cap n : Nat} {cs : List Value} (h : OwnF e sz B w g cap n cs) (x : Fr T w w') (hs : ∀ k, T k → k ≠ g) : OwnF e sz B w' g cap n cs :=
 ⟨h.1, h.2.fr x (fun k hk hT => by simp only [Value.ownBlock, Option.some.injEq] at hk; exact hs k hT hk.symm)⟩
theorem OwnF.ext {e sz B : Nat} {w w' : World} {g cap n : Nat} {cs : List Value} (h : OwnF e sz B w g cap n cs) (x : Ext w w') : OwnF e sz B w' g cap n cs := ⟨h.1, h.2.ext x⟩
theorem OwnF.row {e sz B : Nat} {w : World} {g cap n : Nat} {cs : List Value} (h : OwnF e sz B w g cap n cs) : Row w ⟨g, 0, none⟩ cs := by
 rcases h.2.row with ⟨hv, -⟩ | ⟨g', cap', hv, -, -, hr⟩
 · simp at hv
 · simp only [Value.slice.injEq, Option.some.injEq, Addr.mk.injEq, and_true] at hv
   obtain ⟨rfl, -⟩ := hv
   exact hr
theorem OwnF.rows {e sz B : Nat} {w : World} {g cap n : Nat} {cs : List Value} {S : Nat → Prop} (h : OwnF e sz B w g cap n cs) (hS : S g) : Rows S w cs (some ⟨g, 0, none⟩) := Or.inr ⟨g, 0, rfl, hS, h.row⟩
theorem OwnF.le {e sz B : Nat} {w : World} {g cap n : Nat} {cs : List Value} (h : OwnF e sz B w g cap n cs) : n ≤ cap := by
 rcases h.2.2 with ⟨hv, -⟩ | ⟨g', cap', cur, hv, -, -, hc, -⟩
 · simp at hv
 · simp only [Value.slice.injEq] at hv
   obtain ⟨-, -, rfl⟩ := hv; exact hc
section
variable {P : Program} {n : Nat} {l : Sl} {w : World} {tab : Tab} {zt : ZTab} {ty : TypeId}
theorem does_slice0F {t e sz1 sz B : Nat} {sE : Sk} (T : TabOk P tab) (ht : lookT tab t = some (.slice e, sz1)) (hE : lookT tab e = some (sE, sz)) (hB : B ≤ w.heap.size) :
 Does P n l (.buildSlice t 0 #[]) ty w (OnSome fun o w' => ∃ g, o = .slice (some ⟨g, 0, none⟩) 0 0 ∧ OwnF e sz B w' g 0 0 [] ∧ w.heap.size ≤ g ∧ g < w'.heap.size ∧ Ext w w') := by
 unfold Does
 intro a dst pos after g next Q ha hn _; obtain ⟨i, hi, hs⟩ := (T _ _ _ hE).info; have hu := (T _ _ _ ht).under
 have e1 : (Instr.buildSlice t 0 #[]).run P w = .ok (.slice (some ⟨w.heap.size, 0, none⟩) 0 0) (w.alloc (.cells #[] e)) := by
  simp [Instr.buildSlice, run_underlying hu, Go.sizeOf, typeInfo, hi, Instr.fill, newRow, show Array.range 0 = #[] from rfl]
 have e2 : (execOp a.eval ⟨dst, .buildSlice t 0 #[], ty, pos, after, g⟩).run P w = .ok (.value (.slice (some ⟨w.heap.size, 0, none⟩) 0 0)) (w.alloc (.cells #[] e)) := by
  simp [execOp, Sem.run_bind, e1, Result.andThen_ok]
 unfold Oper.wp
 rw [e2]; have hx : Ext w (w.alloc (.cells #[] e)) := (new_alloc w [] e).ext; refine hn _ _ ⟨w.heap.size, rfl, ⟨hB, by simp, Or.inr ⟨w.heap.size, 0, #[], rfl, Nat.le_refl _, ?_, Nat.le_refl _, by unfold maxLen; omega, by simp, by simp⟩⟩, Nat.le_refl _, ?_, hx⟩
 · rw [show (w.alloc (Obj.cells #[] e)).heap = w.heap.push (.cells #[] e) from rfl]; simp
 · rw [show (w.alloc (Obj.cells #[] e)).heap = w.heap.push (.cells #[] e) from rfl]; simp
theorem does_appendF {x y : Operand} {t e sz1 sz B g cap c k m : Nat} {sE : Sk} {zs : List Value} {a : Option Addr} {cs ds : List Value} {S : Nat → Prop} (T : TabOk P tab) (Z : ZTabOk P zt) (ht : lookT tab t = some (.slice e, sz1)) (hE : lookT tab e = some (sE, sz)) (hz : lookZ zt e = some zs) (hzl : zs.length = sz)
 (hby : bytesOk P e = true) (hsz : Nat.blt 0 sz = true) (hx : ev l x = some (.slice (some ⟨g, 0, none⟩) k cap)) (hy : ev l y = some (.slice a m c)) (hown : OwnF e sz B w g cap k cs) (hs : Rows S w ds a) (hl : ds.length = m * sz) (hone : ds.all Value.one = true) (hkm : k + m ≤ 100000000000) :
 Does P n l (.call ⟨.builtin .append, #[x, y], #[t, t]⟩) ty w (OnSome fun o w' => ∃ g' cap', o = .slice (some ⟨g', 0, none⟩) (k + m) cap' ∧ OwnF e sz B w' g' cap' (k + m) (cs ++ ds) ∧ (g' = g ∨ w.heap.size ≤ g') ∧ g' < w'.heap.size ∧ Fr (fun k => k = g) w w') := by
 have hlt := hown.lt; have hncap := hown.le; obtain ⟨h0, h1⟩ := hown
 have hsz' : 0 < sz := by simpa using hsz
 by_cases hm : m = 0
 · subst hm
   have hd0 : ds = [] := by simpa using hl
   subst hd0
   unfold Does
   intro act dst pos after gd next Q ha hn _; obtain ⟨i, hi, hsz⟩ := (T _ _ _ hE).info; have hun := (T _ _ _ ht).under
   have key : ∃ w', (Builtin.append_ #[t, t] ty #[.slice (some ⟨g, 0, none⟩) k cap, .slice a 0 c]).run P w = .ok (.slice (some ⟨g, 0, none⟩) k cap) w' ∧ Own w' g e sz (.slice (some ⟨g, 0, none⟩) k cap) k cs ∧ Fr (fun k => k = g) w w' := by
    cases a with
    | none => exact ⟨w, run_append_none0 w t ty e i hun hi g k cap c hncap, h1, .of_ext (Ext.refl w)⟩
    | some p =>
     obtain ⟨w', r1, r2, r3⟩ := run_append_fits (P := P) w g t ty e i sz hun hi hsz g k cap cs h1 p 0 c [] (by simp) (fun j u hj => by simp at hj) (fun u hu => by cases hu) (by omega); refine ⟨w', by simpa using r1, by simpa using r2, ?_⟩; have := Fr.of_grown r3
     exact this.weaken (fun b hb => by simpa using hb)
   obtain ⟨w', hrun, ho, hf⟩ := key
   have e1 : (execOp act.eval ⟨dst, .call ⟨.builtin .append, #[x, y], #[t, t]⟩, ty, pos, after, gd⟩).run P w = .ok (.value (.slice (some ⟨g, 0, none⟩) k cap)) w' := by
    simp only [execOp, resolve, invoke, builtin, Sem.run_bind, Sem.run_pure, Result.andThen_ok, List.map_toArray, List.map_cons, List.map_nil, ha.ev hx, ha.ev hy, hrun]
   unfold Oper.wp
   rw [e1]; have hsz' := hf.size
   exact hn _ _ ⟨g, cap, by simp, ⟨h0, by simpa using ho⟩, Or.inl rfl, by omega, hf⟩
 · have hdn : ds ≠ [] := by
    rintro rfl; simp only [List.length_nil] at hl; have := Nat.mul_pos (Nat.pos_of_ne_zero hm) hsz'
    omega
   obtain ⟨pb, po, rfl, -, d1⟩ := hs.get hdn; have hd := does_append (P := P) (n := n) (l := l) (ty := ty) T Z ht hE hz hzl hby hsz hx hy h1 d1 hl hone (by omega) (by omega) (by omega)
   unfold Does at hd ⊢
   intro act dst pos after gd next Q ha hn hn0; refine hd act dst pos after gd next Q ha (fun v' w' hG => ?_) (fun w' hG => hG.elim); obtain ⟨g1, g2, g', cap', g3, g4⟩ := hG; have hf : Fr (fun k => k = g) w w' := g2.weaken (fun b hb => by simpa [Value.ownBlock] using hb.symm); subst g3; have hgg := g1.blk (k := g') rfl; refine hn _ w' ⟨g', cap', rfl, ⟨by omega, ?_⟩, ?_, hgg.2, hf⟩
   · obtain ⟨k1, k2 | ⟨g2', cap2, cur, k3, k4, k5⟩⟩ := g1
     · simp at k2
     · simp only [Value.slice.injEq, Option.some.injEq, Addr.mk.injEq, and_true, true_and] at k3
       obtain ⟨rfl, rfl⟩ := k3
       exact ⟨k1, Or.inr ⟨g', cap', cur, rfl, Nat.le_refl _, k5⟩⟩
   · rcases g4 with h | h
     · simp only [Value.ownBlock, Option.some.injEq] at h
       exact Or.inl h.symm
     · exact Or.inr h
end
theorem rows_each {α : Type} {f : α → List Value} {sz : Nat} (hf : ∀ x, (f x).length = sz) {w : World} {b : Nat} : ∀ (l : List α) (o : Nat), (∀ (i : Nat) (x : α), l[i]? = some x → Row w ⟨b, o + i * sz, none⟩ (f x)) → Row w ⟨b, o, none⟩ (l.flatMap f)
 | [], o, _ => fun i v hi => by simp at hi
 | x :: r, o, h => by
  rw [List.flatMap_cons]; refine row_app (by simpa using h 0 x rfl) ?_; rw [hf x]; refine rows_each hf r (o + sz) (fun i y hy => ?_); have := h (i + 1) y hy; rw [show o + sz + i * sz = o + (i + 1) * sz by rw [Nat.add_mul]; omega]
  exact this
theorem each_rows {α : Type} {f : α → List Value} {sz : Nat} (hf : ∀ x, (f x).length = sz) {w : World} {b : Nat} : ∀ (l : List α) (o : Nat), Row w ⟨b, o, none⟩ (l.flatMap f) → ∀ (i : Nat) (x : α), l[i]? = some x → Row w ⟨b, o + i * sz, none⟩ (f x)
 | [], _, _, i, x, hi => by simp at hi
 | y :: r, o, h, i, x, hi => by
  rw [List.flatMap_cons] at h
  cases i with
  | zero =>
   simp only [List.getElem?_cons_zero, Option.some.injEq] at hi; subst hi; intro j v hj
   have hlt : j < (f y).length := by
    rcases Nat.lt_or_ge j (f y).length with h' | h'
    · exact h'
    · rw [List.getElem?_eq_none h'] at hj; cases hj
   have := h j v (by rw [List.getElem?_append_left hlt]; exact hj)
   simpa using this
  | succ i =>
   simp only [List.getElem?_cons_succ] at hi
   have hd : Row w ⟨b, o + sz, none⟩ (r.flatMap f) := by
    have := h.sub sz (r.flatMap f).length; rw [List.drop_left' (hf y), List.take_length] at this
    exact this
   have := each_rows hf r (o + sz) hd i x hi; rw [show o + (i + 1) * sz = o + sz + i * sz by rw [Nat.add_mul]; omega]
   exact this
theorem flatMap_len {α : Type} {f : α → List Value} {sz : Nat} (hf : ∀ x, (f x).length = sz) : ∀ l : List α, (l.flatMap f).length = l.length * sz
 | [] => by simp
 | x :: r => by rw [List.flatMap_cons, List.length_append, hf x, flatMap_len hf r, List.length_cons, Nat.add_mul]; omega
theorem flatMap_one {α : Type} {f : α → List Value} (hf : ∀ x, (f x).all Value.one = true) : ∀ l : List α, (l.flatMap f).all Value.one = true
 | [] => rfl
 | x :: r => by rw [List.flatMap_cons, List.all_append, hf x, flatMap_one hf r]; rfl
end Bk
namespace Bk
open Go Go.RowKit
section
variable {P : Program} {n : Nat} {l : Sl} {w : World} {tab : Tab} {zt : ZTab} {ty : TypeId}
theorem pur_funcC {S : World → Prop} {f : Fn} {cs : List Operand} {vs : List Value} (h : evs l cs = some vs) : Pur P n l S (.makeFunc f #[] cs.toArray) ty (.func f #[] vs.toArray) := by
 unfold Pur
 intro a w dst pos after g ha _; have e := ha.evs h
 simp [execOp, Instr.makeFunc, e]
theorem does_bytes {x : Operand} {t t' e sz sz1 sz2 : Nat} {a : List UInt8} (T : TabOk P tab) (ht : lookT tab t = some (.str, sz)) (ht' : lookT tab t' = some (.slice e, sz1)) (he : lookT tab e = some (.int .u8, sz2)) (hx : ev l x = some (str a)) :
 Does P n l (.convert t t' x) ty w (OnSome fun o w' => ∃ g cap, o = .slice (some ⟨g, 0, none⟩) a.length cap ∧ Row w' ⟨g, 0, none⟩ (a.map fun c => .int .u8 c.toNat) ∧ w.heap.size ≤ g ∧ g < w'.heap.size ∧ Ext w w') := by
 unfold Does
 intro act dst pos after gd next Q ha hn _; have hrun := Lib.run_convert_string_bytes (P := P) w t t' e ⟨a.toArray⟩ (T _ _ _ ht).under (T _ _ _ ht').under (T _ _ _ he).under
 have e2 : (execOp act.eval ⟨dst, .convert t t' x, ty, pos, after, gd⟩).run P w = .ok (.value (.slice (some ⟨w.heap.size, 0, none⟩) a.length (grownCap w (⟨a.toArray⟩ : ByteArray).size 0 e))) (Lib.bytesWorld w e ⟨a.toArray⟩) := by
  simp only [execOp, ha.ev hx, Sem.run_bind, hrun, Result.andThen_ok, Sem.run_pure, ba_size]
 unfold Oper.wp
 rw [e2]; refine hn _ _ ⟨w.heap.size, _, rfl, fun i v hi => ?_, Nat.le_refl _, by rw [Lib.bytesWorld_size]; omega, Lib.bytesWorld_below w e _⟩; rw [List.getElem?_map, Option.map_eq_some_iff] at hi; obtain ⟨c, hc, rfl⟩ := hi
 have hlt : i < a.length := by
  rcases Nat.lt_or_ge i a.length with h | h
  · exact h
  · rw [List.getElem?_eq_none h] at hc; cases hc
 have h1 := Lib.bytesWorld_cell w e ⟨a.toArray⟩ i (by rw [ba_size]; exact hlt)
 have e3 : (⟨w.heap.size, 0, none⟩ : Addr).add i = ⟨w.heap.size, i, none⟩ := by unfold Addr.add; by_cases h0 : i = 0 <;> simp [h0]
 rw [e3, h1]
 simp [hc]
theorem pur_maplen {S : World → Prop} {x : Operand} {t kt e sz r : Nat} {kvs : List (List UInt8 × Value)} (T : TabOk P tab) (ht : lookT tab t = some (.map kt e, sz)) (hx : ev l x = some (.map (some r))) (hm : ∀ w, S w → MapIs w r kvs) : Pur P n l S (.call ⟨.builtin .len, #[x], #[t]⟩) ty (.int .i64 kvs.length) := by
 unfold Pur
 intro a w dst pos after g ha hS; have hu : P.underlying t = some (.map kt e) := (T _ _ _ ht).under; obtain ⟨es, clock, hh, he⟩ := hm w hS
 have hg : (getObj r).run P w = .ok (.map es clock) w := by simp [getObj, Sem.run, hh]
 have hl : es.size = kvs.length := by
  have := congrArg List.length he
  simpa using this
 simp [execOp, resolve, invoke, builtin, Builtin.len_, ha.ev hx, run_underlying hu, Result.andThen, goInt, hg, hl]
def eraseS : List (List UInt8 × Value) → List UInt8 → List (List UInt8 × Value)
 | [], _ => []
 | (k', v) :: r, k => if k = k' then r else (k', v) :: eraseS r k
theorem run_delete {t kt e sz1 sz2 r : Nat} {ty : TypeId} {k : List UInt8} {kvs : List (List UInt8 × Value)} (T : TabOk P tab) (ht : lookT tab t = some (.map kt e, sz1)) (hkt : lookT tab kt = some (.str, sz2)) (hm : MapIs w r kvs) :
 ∃ w1, (Builtin.delete_ #[t, kt] ty #[.map (some r), str k]).run P w = .ok (.tuple #[]) w1 ∧ MapIs w1 r (eraseS kvs k) ∧ Fr (· = r) w w1 ∧ w1.heap.size = w.heap.size := by
 have hu : P.underlying t = some (.map kt e) := (T _ _ _ ht).under; have hk : P.underlying kt = some .string := (T _ _ _ hkt).under; obtain ⟨es, clock, hh, he⟩ := hm
 have hg : (getObj r).run P w = .ok (.map es clock) w := by simp [getObj, Sem.run, hh]
 have hset : ∀ ob, (setObj r ob).run P w = .ok () { w with heap := w.heap.setIfInBounds r ob } := fun ob => by simp [setObj, Sem.run, hh]
 have key : ∀ (es : List MapEntry) (kvs : List (List UInt8 × Value)) (i : Nat), entriesAre es kvs → ∃ o, Instr.findNow .string (str k) es i = some o ∧ (o = none → eraseS kvs k = kvs) ∧ ∀ j v, o = some (j, v) → i ≤ j ∧ j - i < es.length ∧ entriesAre (es.eraseIdx (j - i)) (eraseS kvs k) := by
  intro es
  induction es with
  | nil =>
   intro kvs i h
   cases kvs with
   | nil => exact ⟨none, rfl, fun _ => rfl, fun _ _ h => by cases h⟩
   | cons _ _ => simp [entriesAre] at h
  | cons e es ih =>
   intro kvs i h
   cases kvs with
   | nil => simp [entriesAre] at h
   | cons p kvs =>
    obtain ⟨k', v'⟩ := p; simp only [entriesAre, List.map_cons, List.cons.injEq, Prod.mk.injEq] at h; obtain ⟨⟨hk, hv⟩, hr⟩ := h
    have hs : Instr.sameNow .string (str k) e.key = some (decide (k = k')) := by
     rw [hk]; simp only [Instr.sameNow]; rw [ba_beq']
     simp [beq_dec]
    by_cases hkk : k = k'
    · subst hkk
      refine ⟨some (i, e.val), by simp [Instr.findNow, hs], (fun h => by cases h), fun j v h => ?_⟩; simp only [Option.some.injEq, Prod.mk.injEq] at h; obtain ⟨rfl, -⟩ := h; refine ⟨Nat.le_refl _, by simp, ?_⟩
      simp [eraseS]
      exact hr
    · obtain ⟨o, h1, h2, h3⟩ := ih kvs (i + 1) hr
      refine ⟨o, by simp [Instr.findNow, hs, hkk, h1], fun h => by simp [eraseS, hkk, h2 h], fun j v h => ?_⟩; obtain ⟨g1, g2, g3⟩ := h3 j v h
      have hj : j - i = (j - (i + 1)) + 1 := by omega
      refine ⟨by omega, by rw [hj]; simpa using g2, ?_⟩; rw [hj]; simp only [List.eraseIdx_cons_succ, eraseS, hkk, if_false, entriesAre, List.map_cons, List.cons.injEq, Prod.mk.injEq]
      exact ⟨⟨hk, hv⟩, g3⟩
 obtain ⟨o, h1, h2, h3⟩ := key es.toList kvs 0 he
 have hf : (Instr.findKey kt (str k) es.toList).run P w = .ok o w := by simp [Instr.findKey, run_underlying hk, Result.andThen, h1]
 cases o with
 | none =>
  obtain ⟨p1, p2⟩ := setObj_put w r _ (.map es clock) hh; refine ⟨_, ?_, ⟨_, _, p1, ?_⟩, p2, by simp⟩
  · simp [Builtin.delete_, Sem.run_bind, run_underlying hu, Result.andThen, hg, run_checkKey hk, hf, hset]
  · rw [h2 rfl]; exact he
 | some q =>
  obtain ⟨j, v⟩ := q; obtain ⟨-, g2, g3⟩ := h3 j v rfl; obtain ⟨p1, p2⟩ := setObj_put w r _ (.map (es.eraseIdxIfInBounds j) clock) hh; refine ⟨_, ?_, ⟨_, _, p1, ?_⟩, p2, by simp⟩
  · simp [Builtin.delete_, Sem.run_bind, run_underlying hu, Result.andThen, hg, run_checkKey hk, hf, hset]
  · have e1 : (es.eraseIdxIfInBounds j).toList = es.toList.eraseIdx j := by
     have : j < es.size := by simpa using g2
     simp [Array.eraseIdxIfInBounds, this]
    rw [e1]
    simpa using g3
end
section
variable {P : Program} {n : Nat} {ops : Array Oper} {Q : Exit → Act → World → Prop} {rest : List Oper} {l : Sl} {w : World} {tab : Tab} {ty : TypeId} {pos : String} {after : Array Edge}
theorem lw_delete {x y : Operand} {t kt e sz1 sz2 r : Nat} {k : List UInt8} {kvs : List (List UInt8 × Value)} (T : TabOk P tab) (ht : lookT tab t = some (.map kt e, sz1)) (hkt : lookT tab kt = some (.str, sz2)) (hx : ev l x = some (.map (some r))) (hy : ev l y = some (str k)) (hm : MapIs w r kvs)
 (kk : ∀ w1, MapIs w1 r (eraseS kvs k) → Fr (· = r) w w1 → LW P n ops Q rest l w1) : LW P n ops Q (⟨none, .call ⟨.builtin .delete, #[x, y], #[t, kt]⟩, ty, pos, after, none⟩ :: rest) l w := by
 refine lw_does0 (K := fun _ w1 => MapIs w1 r (eraseS kvs k) ∧ Fr (· = r) w w1) ?_ (fun v w1 h => kk w1 h.1 h.2)
 unfold Does
 intro a dst pos after g next Q ha hn _; obtain ⟨w1, h1, h2, h3, h4⟩ := run_delete (P := P) (k := k) (ty := ty) T ht hkt hm
 have e1 : (execOp a.eval ⟨dst, .call ⟨.builtin .delete, #[x, y], #[t, kt]⟩, ty, pos, after, g⟩).run P w = .ok (.value (.tuple #[])) w1 := by
  simp only [execOp, resolve, invoke, builtin, Sem.run_bind, Sem.run_pure, Result.andThen_ok, List.map_toArray, List.map_cons, List.map_nil, ha.ev hx, ha.ev hy, h1]
 unfold Oper.wp
 rw [e1]
 exact hn _ w1 ⟨h2, h3⟩
end
theorem getS_set (kvs : List (List UInt8 × Value)) (k : List UInt8) (v : Value) (s : List UInt8) : getS (setS kvs k v) s = if s = k then some v else getS kvs s := by
 induction kvs with
 | nil =>
  by_cases h : s = k
  · subst h; simp [setS, getS]
  · simp [setS, getS, h]
 | cons p r ih =>
  obtain ⟨k', v'⟩ := p; simp only [setS]
  by_cases hk : k = k'
  · subst hk
    simp only [if_true, getS]
    by_cases hs : s = k
    · rw [if_pos hs, if_pos hs]
    · rw [if_neg hs, if_neg hs, if_neg hs]
  · simp only [if_neg hk, getS, ih]
    by_cases hs : s = k'
    · subst hs
      rw [if_pos rfl, if_neg (fun e => hk e.symm), if_pos rfl]
    · rw [if_neg hs, if_neg hs]
theorem keys_set (kvs : List (List UInt8 × Value)) (k : List UInt8) (v : Value) : (setS kvs k v).map Prod.fst = if k ∈ kvs.map Prod.fst then kvs.map Prod.fst else kvs.map Prod.fst ++ [k] := by
 induction kvs with
 | nil => simp [setS]
 | cons p r ih =>
  obtain ⟨k', v'⟩ := p; simp only [setS]
  by_cases hk : k = k'
  · subst hk; simp
  · rw [if_neg hk, List.map_cons, List.map_cons, ih]
    by_cases hm : k ∈ r.map Prod.fst
    · rw [if_pos hm, if_pos (List.mem_cons_of_mem _ hm)]
    · rw [if_neg hm, if_neg (fun e => (List.mem_cons.1 e).elim hk hm), List.cons_append]
theorem erase_set {kvs : List (List UInt8 × Value)} {k : List UInt8} (h : getS kvs k = none) (v : Value) : eraseS (setS kvs k v) k = kvs := by
 induction kvs with
 | nil => simp [setS, eraseS]
 | cons p r ih =>
  obtain ⟨k', v'⟩ := p; simp only [getS] at h
  split at h
  · cases h
  · rename_i hn
    simp only [setS, if_neg hn, eraseS, ih h]
end Bk
namespace Bk
open Go Go.RowKit
def Els {α : Type} (c : α → Value) (S : Nat → Prop) (w : World) (l : List α) (a : Option Addr) : Prop := Arr S 1 (fun w b o x => Row w ⟨b, o, none⟩ [c x]) w l a
section
variable {α : Type} {c : α → Value} {S S' T : Nat → Prop} {w w' : World} {l : List α} {a : Option Addr}
theorem Els.ext (h : Els c S w l a) (x : Ext w w') : Els c S w' l a := h.mono (fun _ h => h) (fun _ _ _ _ _ h => Row.ext h x)
theorem Els.fr (h : Els c S w l a) (x : Fr T w w') (hs : ∀ b, S b → ¬ T b) : Els c S w' l a := h.mono (fun _ h => h) (fun b _ _ _ hb h => Row.fr h x (hs b hb))
theorem Els.wide (h : Els c S w l a) (hs : ∀ b, S b → S' b) : Els c S' w l a := h.mono hs (fun _ _ _ _ _ h => h)
theorem Els.lt2 (h : Els c S w l a) : Els c (fun b => S b ∧ b < w.heap.size) w l a := by
 rcases h with h | ⟨b, o, h1, h2, h3⟩
 · exact Or.inl h
 · cases l with
   | nil => exact Or.inl rfl
   | cons v r => exact Or.inr ⟨b, o, h1, ⟨h2, cell_lt (Row.at0 (h3 0 v rfl) rfl)⟩, h3⟩
theorem Els.ltA (h : Els c S w l a) : Els c (· < w.heap.size) w l a := h.lt2.wide fun _ h => h.2
theorem Els.nil : Els c S w [] a := Or.inl rfl
theorem row_els {b o : Nat} (hS : S b) (h : Row w ⟨b, o, none⟩ (l.map c)) : Els c S w l (some ⟨b, o, none⟩) := by
 refine Or.inr ⟨b, o, rfl, hS, fun i x hi => ?_⟩; have h1 := h.at (i := i) (v := c x) (by simp [hi]); intro j v hj
 match j, hj with
 | 0, hj =>
  simp only [List.getElem?_cons_zero, Option.some.injEq] at hj; subst hj
  simpa [Addr.add] using h1
theorem els_row (h : Els c S w l a) (hl : l ≠ []) : ∃ b o, a = some ⟨b, o, none⟩ ∧ S b ∧ Row w ⟨b, o, none⟩ (l.map c) := by
 obtain ⟨b, o, h1, h2, h3⟩ := h.get (List.length_pos_iff.2 hl); refine ⟨b, o, h1, h2, fun i v hi => ?_⟩; rw [List.getElem?_map, Option.map_eq_some_iff] at hi; obtain ⟨x, hx, rfl⟩ := hi; have := (h3 i x hx).at0 rfl; rw [addr_addE, show o + i = o + i * 1 by omega]
 exact this
where addr_addE {b o i : Nat} : (⟨b, o, none⟩ : Addr).add i = ⟨b, o + i, none⟩ := by unfold Addr.add; by_cases h0 : i = 0 <;> simp [h0]
end
def elShape {α : Type} (c : α → Value) (h1 : ∀ x, Value.one (c x) = true) : Shape α where
 sz := 1
 rep := fun _ _ v cs => cs = [c v]
 len := fun h => by rw [h]; rfl
 one := fun h => by rw [h]; simp [h1]
 mono := fun h _ _ => h
 lt := fun h => h
theorem OwnQ.els {α : Type} {c : α → Value} {h1 : ∀ x, Value.one (c x) = true} {w : World} {R : Nat → Prop} {B e : Nat} {a : Option Addr} {len cap : Nat} {xs : List α} {S : Nat → Prop} (h : OwnQ (elShape c h1) w R B e (.slice a len cap) xs) (hS : ∀ b, B ≤ b → b < w.heap.size → S b) : Els c S w xs a := by
 by_cases hx : xs = []
 · exact Or.inl hx
 · obtain ⟨g, cap', hv, hg, hl, hall⟩ := h.rows hx
   simp only [Value.slice.injEq] at hv; obtain ⟨rfl, -, -⟩ := hv; refine Or.inr ⟨g, 0, rfl, hS g hg hl, fun i x hi => ?_⟩; obtain ⟨cs, hr, rfl⟩ := hall i x hi
   simpa [elShape] using hr
abbrev boolV (b : Bool) : Value := .bool b
abbrev intV (i : Int) : Value := .int .i64 i
abbrev boolShape : Shape Bool := elShape boolV (fun _ => rfl)
abbrev intShape : Shape Int := elShape intV (fun _ => rfl)
abbrev strShape : Shape (List UInt8) := elShape str (fun _ => rfl)
end Bk
namespace Go.Proofs
open Go.Shelf
def Tryz.lays156_ren : Go.Shelf.Ren := ⟨fun | 156 => 17 | 165 => 38 | 166 => 16 | 169 => 19 | 240 => 37 | 241 => 73 | 276 => 72 | 277 => 100 | n => n, fun | 31 => 50 | 9 => 9 | 3 => 3 | 4 => 4 | 0 => 0 | 20 => 20 | 72 => 49 | 76 => 56 | 70 => 46 | 37 => 47 | 75 => 55 | 127 => 92 | 164 => 110 | 5 => 5 | 80 => 60 | n => n, fun | n => n⟩
theorem Tryz.lays156 : Go.Proofs.Lays.n156 Tryz.prog Tryz.lays156_ren := {
 mixed := by kernel_rfl
 f156 := Tryz.func17.trans (congrArg some (by kernel_rfl))
 f165 := Tryz.func38.trans (congrArg some (by kernel_rfl))
 f166 := Tryz.func16.trans (congrArg some (by kernel_rfl))
 f169 := Tryz.func19.trans (congrArg some (by kernel_rfl))
 f240 := Tryz.func37.trans (congrArg some (by kernel_rfl))
 f241 := Tryz.func73.trans (congrArg some (by kernel_rfl))
 f276 := Tryz.func72.trans (congrArg some (by kernel_rfl))
 f277 := Tryz.func100.trans (congrArg some (by kernel_rfl))
 t0 := Tryz.underlying0
 a0 := Tryz.isAgg0
 z0 := Tryz.sizeOf0
 v0 := Tryz.zeroValue0
 t3 := Tryz.underlying3
 a3 := Tryz.isAgg3
 z3 := Tryz.sizeOf3
 v3 := Tryz.zeroValue3
 t4 := Tryz.underlying4
 a4 := Tryz.isAgg4
 z4 := Tryz.sizeOf4
 v4 := Tryz.zeroValue4
 t9 := Tryz.underlying9
 a9 := Tryz.isAgg9
 z9 := Tryz.sizeOf9
 v9 := Tryz.zeroValue9
 t20 := Tryz.underlying20
 a20 := Tryz.isAgg20
 z20 := Tryz.sizeOf20
 v20 := Tryz.zeroValue20
 t31 := Tryz.underlying50
 a31 := Tryz.isAgg50
 z31 := Tryz.sizeOf50
 v31 := Tryz.zeroValue50
 t37 := Tryz.underlying47
 a37 := Tryz.isAgg47
 z37 := Tryz.sizeOf47
 v37 := Tryz.zeroValue47
 t70 := Tryz.underlying46
 a70 := Tryz.isAgg46
 z70 := Tryz.sizeOf46
 v70 := Tryz.zeroValue46
 t72 := Tryz.underlying49
 a72 := Tryz.isAgg49
 z72 := Tryz.sizeOf49
 v72 := Tryz.zeroValue49
 t75 := Tryz.underlying55
 a75 := Tryz.isAgg55
 z75 := Tryz.sizeOf55
 v75 := Tryz.zeroValue55
 t76 := Tryz.underlying56
 a76 := Tryz.isAgg56
 z76 := Tryz.sizeOf56
 v76 := Tryz.zeroValue56
 t127 := Tryz.underlying92
 a127 := Tryz.isAgg92
 z127 := Tryz.sizeOf92
 v127 := Tryz.zeroValue92
 t164 := Tryz.underlying110
 a164 := Tryz.isAgg110
 z164 := Tryz.sizeOf110
 v164 := Tryz.zeroValue110 }
theorem Tryz.Builder_Extra_156 : Builder.Extra Tryz.prog Tryz.lays156_ren := {
 sizeBuilder := by kernel_rfl
 liesBuilder := by kernel_rfl
 t5 := Tryz.underlying5
 a5 := Tryz.isAgg5
 z5 := Tryz.sizeOf5
 v5 := Tryz.zeroValue5
 infoByte := by kernel_rfl
 cellsByte := by kernel_rfl
 sizeByte := by kernel_rfl
 neB5 := by decide }
open Go.RowKit in
theorem Tryz.strings_Join_none (a : Option Addr) (c : Nat) (sep : ByteArray) (w : World) :
 Calls Tryz.prog 17 #[.slice a 0 c, .string sep] w fun e w' => e = .returned (.string ⟨#[]⟩) ∧ w' = w := Any.strings_Join_none Tryz.lays156 Tryz.Builder_Extra_156 a c sep w
open Go.RowKit in
theorem Tryz.strings_Join (bk o c : Nat) (xs : List ByteArray) (sep : ByteArray) (w : World) (hcells : ∀ (j : Nat) x, xs[j]? = some x → w.cell? ⟨bk, o + j, none⟩ = some (.string x)) (hbk : bk < w.heap.size) (hN : xs.length ≤ 140737488355328) (hcap : xs.length ≤ c) (hlen : (Lib.join (xs.map (·.data.toList)) sep.data.toList).length ≤ 140737488355328) :
 Calls Tryz.prog 17 #[.slice (some ⟨bk, o, none⟩) xs.length c, .string sep] w fun e w' => e = .returned (.string ⟨(Lib.join (xs.map (·.data.toList)) sep.data.toList).toArray⟩) ∧ Below w.heap.size w w' := Any.strings_Join Tryz.lays156 Tryz.Builder_Extra_156 bk o c xs sep w hcells hbk hN hcap hlen
def Tryz.lays137_ren : Go.Shelf.Ren := ⟨fun | 137 => 104 | 217 => 116 | 266 => 127 | n => n, fun | 9 => 9 | 5 => 5 | 3 => 3 | n => n, fun | n => n⟩
theorem Tryz.lays137 : Go.Proofs.Lays.n137 Tryz.prog Tryz.lays137_ren := {
 mixed := by kernel_rfl
 f137 := Tryz.func104.trans (congrArg some (by kernel_rfl))
 f217 := Tryz.func116.trans (congrArg some (by kernel_rfl))
 f266 := Tryz.func127.trans (congrArg some (by kernel_rfl))
 t3 := Tryz.underlying3
 a3 := Tryz.isAgg3
 z3 := Tryz.sizeOf3
 v3 := Tryz.zeroValue3
 t5 := Tryz.underlying5
 a5 := Tryz.isAgg5
 z5 := Tryz.sizeOf5
 v5 := Tryz.zeroValue5
 t9 := Tryz.underlying9
 a9 := Tryz.isAgg9
 z9 := Tryz.sizeOf9
 v9 := Tryz.zeroValue9 }
open Go.RowKit in
theorem Tryz.strings_IndexByte (s : ByteArray) (c : Int) (w : World) :
 Calls Tryz.prog 104 #[.string s, .int .u8 c] w fun e w' => e = .returned (.int .i64 (Lib.indexByte s.data.toList c.toNat.toUInt8)) ∧ w' = w := Any.strings_IndexByte Tryz.lays137 s c w
def Tryz.laysM171_ren : Go.Shelf.Ren := ⟨fun | 171 => 39 | 243 => 74 | 246 => 101 | 283 => 111 | 284 => 112 | 285 => 113 | 286 => 114 | 129 => 123 | 317 => 122 | 318 => 124 | 319 => 125 | 320 => 126 | 337 => 129 | 338 => 130 | n => n, fun | 3 => 3 | 9 => 9 | 2 => 2 | 4 => 4 | 171 => 136 | 0 => 0 | 53 => 137 | 37 => 47 | 5 => 5 | 173 => 140 | 212 => 144 | 51 => 145 | 20 => 20 | 213 => 146 | 46 => 148 | 232 => 152 | 233 => 153 | n => n, fun | 17 => 2 | 18 => 3 | 19 => 4 | n => n⟩
theorem Tryz.laysM171 : Go.Proofs.LaysM.n171 Tryz.prog Tryz.laysM171_ren := {
 mixed := by kernel_rfl
 f129 := Tryz.func123.trans (congrArg some (by kernel_rfl))
 f171 := Tryz.func39.trans (congrArg some (by kernel_rfl))
 f243 := Tryz.func74.trans (congrArg some (by kernel_rfl))
 f246 := Tryz.func101.trans (congrArg some (by kernel_rfl))
 f283 := Tryz.func111.trans (congrArg some (by kernel_rfl))
 f284 := Tryz.func112.trans (congrArg some (by kernel_rfl))
 f285 := Tryz.func113.trans (congrArg some (by kernel_rfl))
 f286 := Tryz.func114.trans (congrArg some (by kernel_rfl))
 f317 := Tryz.func122.trans (congrArg some (by kernel_rfl))
 f318 := Tryz.func124.trans (congrArg some (by kernel_rfl))
 f319 := Tryz.func125.trans (congrArg some (by kernel_rfl))
 f320 := Tryz.func126.trans (congrArg some (by kernel_rfl))
 f337 := Tryz.func129.trans (congrArg some (by kernel_rfl))
 f338 := Tryz.func130.trans (congrArg some (by kernel_rfl))
 t0 := Tryz.underlying0
 a0 := Tryz.isAgg0
 z0 := Tryz.sizeOf0
 v0 := Tryz.zeroValue0
 t2 := Tryz.underlying2
 a2 := Tryz.isAgg2
 z2 := Tryz.sizeOf2
 v2 := Tryz.zeroValue2
 t3 := Tryz.underlying3
 a3 := Tryz.isAgg3
 z3 := Tryz.sizeOf3
 v3 := Tryz.zeroValue3
 t4 := Tryz.underlying4
 a4 := Tryz.isAgg4
 z4 := Tryz.sizeOf4
 v4 := Tryz.zeroValue4
 t5 := Tryz.underlying5
 a5 := Tryz.isAgg5
 z5 := Tryz.sizeOf5
 v5 := Tryz.zeroValue5
 t9 := Tryz.underlying9
 a9 := Tryz.isAgg9
 z9 := Tryz.sizeOf9
 v9 := Tryz.zeroValue9
 t20 := Tryz.underlying20
 a20 := Tryz.isAgg20
 z20 := Tryz.sizeOf20
 v20 := Tryz.zeroValue20
 t37 := Tryz.underlying47
 a37 := Tryz.isAgg47
 z37 := Tryz.sizeOf47
 v37 := Tryz.zeroValue47
 t46 := Tryz.underlying148
 a46 := Tryz.isAgg148
 z46 := Tryz.sizeOf148
 v46 := Tryz.zeroValue148
 t51 := Tryz.underlying145
 a51 := Tryz.isAgg145
 z51 := Tryz.sizeOf145
 v51 := Tryz.zeroValue145
 t53 := Tryz.underlying137
 a53 := Tryz.isAgg137
 z53 := Tryz.sizeOf137
 v53 := Tryz.zeroValue137
 t171 := Tryz.underlying136
 a171 := Tryz.isAgg136
 z171 := Tryz.sizeOf136
 v171 := Tryz.zeroValue136
 t173 := Tryz.underlying140
 a173 := Tryz.isAgg140
 z173 := Tryz.sizeOf140
 v173 := Tryz.zeroValue140
 t212 := Tryz.underlying144
 a212 := Tryz.isAgg144
 z212 := Tryz.sizeOf144
 v212 := Tryz.zeroValue144
 t213 := Tryz.underlying146
 a213 := Tryz.isAgg146
 z213 := Tryz.sizeOf146
 t232 := Tryz.underlying152
 a232 := Tryz.isAgg152
 z232 := Tryz.sizeOf152
 v232 := Tryz.zeroValue152
 t233 := Tryz.underlying153
 a233 := Tryz.isAgg153
 z233 := Tryz.sizeOf153
 v233 := Tryz.zeroValue153
 g17 := by kernel_rfl
 g18 := by kernel_rfl
 g19 := by kernel_rfl
 i0 := by kernel_rfl
 i2 := by kernel_rfl
 i3 := by kernel_rfl
 i4 := by kernel_rfl
 i5 := by kernel_rfl
 i9 := by kernel_rfl
 i20 := by kernel_rfl
 i37 := by kernel_rfl
 i46 := by kernel_rfl
 i51 := by kernel_rfl
 i53 := by kernel_rfl
 i171 := by kernel_rfl
 i173 := by kernel_rfl
 i212 := by kernel_rfl
 i232 := by kernel_rfl
 i233 := by kernel_rfl
 m17 := by kernel_rfl
 m18 := by kernel_rfl
 m19 := by kernel_rfl }
open Go.RowKit Go.Sort Go.Lib in
theorem Tryz.strconv_Itoa (n : Int) (h0 : -9223372036854775808 ≤ n) (h1 : n ≤ 9223372036854775807) (w : World) (htab : Lib.TabIs Tryz.prog w "internal/strconv.uint64pow10" .u64 Lib.pow10Tab) :
 Calls Tryz.prog 39 #[.int .i64 n] w fun e w' => e = .returned (.string ⟨(Lib.itoa n).toArray⟩) ∧ ∃ k os, w' = grow (w.drewN k) os := Any.strconv_Itoa Tryz.laysM171 n h0 h1 w htab
def Tryz.laysC172_ren : Go.Shelf.Ren := ⟨fun | 172 => 128 | 244 => 131 | 245 => 132 | 247 => 133 | 279 => 134 | 280 => 135 | 281 => 136 | 282 => 137 | 287 => 138 | 316 => 139 | 171 => 39 | 205 => 140 | 321 => 141 | 322 => 142 | 243 => 74 | 246 => 101 | 283 => 111 | 284 => 112 | 285 => 113 | 286 => 114 | 129 => 123 | 317 => 122 | 318 => 124 | 319 => 125 | 320 => 126 | 337 => 129 | 338 => 130 | n => n, fun | 9 => 9 | 3 => 3 | 75 => 55 | 76 => 56 | 4 => 4 | 5 => 5 | 167 => 154 | 37 => 47 | 0 => 0 | 85 => 155 | 2 => 2 | 168 => 157 | 53 => 137 | 175 => 160 | 46 => 148 | 210 => 164 | 127 => 92 | 145 => 169 | 143 => 167 | 21 => 21 | 171 => 136 | 173 => 140 | 212 => 144 | 51 => 145 | 20 => 20 | 213 => 146 | 232 => 152 | 233 => 153 | 80 => 60 | n => n, fun | 15 => 5 | 16 => 6 | 17 => 2 | 18 => 3 | 19 => 4 | n => n⟩
theorem Tryz.laysC172 : Go.Proofs.LaysC.n172 Tryz.prog Tryz.laysC172_ren := {
 mixed := by kernel_rfl
 f129 := Tryz.func123.trans (congrArg some (by kernel_rfl))
 f171 := Tryz.func39.trans (congrArg some (by kernel_rfl))
 f172 := Tryz.func128.trans (congrArg some (by kernel_rfl))
 f205 := Tryz.func140.trans (congrArg some (by kernel_rfl))
 f243 := Tryz.func74.trans (congrArg some (by kernel_rfl))
 f244 := Tryz.func131.trans (congrArg some (by kernel_rfl))
 f245 := Tryz.func132.trans (congrArg some (by kernel_rfl))
 f246 := Tryz.func101.trans (congrArg some (by kernel_rfl))
 f247 := Tryz.func133.trans (congrArg some (by kernel_rfl))
 f279 := Tryz.func134.trans (congrArg some (by kernel_rfl))
 f280 := Tryz.func135.trans (congrArg some (by kernel_rfl))
 f281 := Tryz.func136.trans (congrArg some (by kernel_rfl))
 f282 := Tryz.func137.trans (congrArg some (by kernel_rfl))
 f283 := Tryz.func111.trans (congrArg some (by kernel_rfl))
 f284 := Tryz.func112.trans (congrArg some (by kernel_rfl))
 f285 := Tryz.func113.trans (congrArg some (by kernel_rfl))
 f286 := Tryz.func114.trans (congrArg some (by kernel_rfl))
 f287 := Tryz.func138.trans (congrArg some (by kernel_rfl))
 f316 := Tryz.func139.trans (congrArg some (by kernel_rfl))
 f317 := Tryz.func122.trans (congrArg some (by kernel_rfl))
 f318 := Tryz.func124.trans (congrArg some (by kernel_rfl))
 f319 := Tryz.func125.trans (congrArg some (by kernel_rfl))
 f320 := Tryz.func126.trans (congrArg some (by kernel_rfl))
 f321 := Tryz.func141.trans (congrArg some (by kernel_rfl))
 f322 := Tryz.func142.trans (congrArg some (by kernel_rfl))
 f337 := Tryz.func129.trans (congrArg some (by kernel_rfl))
 f338 := Tryz.func130.trans (congrArg some (by kernel_rfl))
 t0 := Tryz.underlying0
 a0 := Tryz.isAgg0
 z0 := Tryz.sizeOf0
 v0 := Tryz.zeroValue0
 t2 := Tryz.underlying2
 a2 := Tryz.isAgg2
 z2 := Tryz.sizeOf2
 v2 := Tryz.zeroValue2
 t3 := Tryz.underlying3
 a3 := Tryz.isAgg3
 z3 := Tryz.sizeOf3
 v3 := Tryz.zeroValue3
 t4 := Tryz.underlying4
 a4 := Tryz.isAgg4
 z4 := Tryz.sizeOf4
 v4 := Tryz.zeroValue4
 t5 := Tryz.underlying5
 a5 := Tryz.isAgg5
 z5 := Tryz.sizeOf5
 v5 := Tryz.zeroValue5
 t9 := Tryz.underlying9
 a9 := Tryz.isAgg9
 z9 := Tryz.sizeOf9
 v9 := Tryz.zeroValue9
 t20 := Tryz.underlying20
 a20 := Tryz.isAgg20
 z20 := Tryz.sizeOf20
 v20 := Tryz.zeroValue20
 t21 := Tryz.underlying21
 a21 := Tryz.isAgg21
 z21 := Tryz.sizeOf21
 v21 := Tryz.zeroValue21
 t37 := Tryz.underlying47
 a37 := Tryz.isAgg47
 z37 := Tryz.sizeOf47
 v37 := Tryz.zeroValue47
 t46 := Tryz.underlying148
 a46 := Tryz.isAgg148
 z46 := Tryz.sizeOf148
 v46 := Tryz.zeroValue148
 t51 := Tryz.underlying145
 a51 := Tryz.isAgg145
 z51 := Tryz.sizeOf145
 v51 := Tryz.zeroValue145
 t53 := Tryz.underlying137
 a53 := Tryz.isAgg137
 z53 := Tryz.sizeOf137
 v53 := Tryz.zeroValue137
 t75 := Tryz.underlying55
 a75 := Tryz.isAgg55
 z75 := Tryz.sizeOf55
 v75 := Tryz.zeroValue55
 t76 := Tryz.underlying56
 a76 := Tryz.isAgg56
 z76 := Tryz.sizeOf56
 v76 := Tryz.zeroValue56
 t85 := Tryz.underlying155
 a85 := Tryz.isAgg155
 z85 := Tryz.sizeOf155
 v85 := Tryz.zeroValue155
 t127 := Tryz.underlying92
 a127 := Tryz.isAgg92
 z127 := Tryz.sizeOf92
 v127 := Tryz.zeroValue92
 t143 := Tryz.underlying167
 a143 := Tryz.isAgg167
 z143 := Tryz.sizeOf167
 v143 := Tryz.zeroValue167
 t145 := Tryz.underlying169
 a145 := Tryz.isAgg169
 z145 := Tryz.sizeOf169
 v145 := Tryz.zeroValue169
 t167 := Tryz.underlying154
 a167 := Tryz.isAgg154
 z167 := Tryz.sizeOf154
 v167 := Tryz.zeroValue154
 t168 := Tryz.underlying157
 a168 := Tryz.isAgg157
 z168 := Tryz.sizeOf157
 v168 := Tryz.zeroValue157
 t171 := Tryz.underlying136
 a171 := Tryz.isAgg136
 z171 := Tryz.sizeOf136
 v171 := Tryz.zeroValue136
 t173 := Tryz.underlying140
 a173 := Tryz.isAgg140
 z173 := Tryz.sizeOf140
 v173 := Tryz.zeroValue140
 t175 := Tryz.underlying160
 a175 := Tryz.isAgg160
 z175 := Tryz.sizeOf160
 v175 := Tryz.zeroValue160
 t210 := Tryz.underlying164
 a210 := Tryz.isAgg164
 z210 := Tryz.sizeOf164
 v210 := Tryz.zeroValue164
 t212 := Tryz.underlying144
 a212 := Tryz.isAgg144
 z212 := Tryz.sizeOf144
 v212 := Tryz.zeroValue144
 t213 := Tryz.underlying146
 a213 := Tryz.isAgg146
 z213 := Tryz.sizeOf146
 t232 := Tryz.underlying152
 a232 := Tryz.isAgg152
 z232 := Tryz.sizeOf152
 v232 := Tryz.zeroValue152
 t233 := Tryz.underlying153
 a233 := Tryz.isAgg153
 z233 := Tryz.sizeOf153
 v233 := Tryz.zeroValue153
 g15 := by kernel_rfl
 g16 := by kernel_rfl
 g17 := by kernel_rfl
 g18 := by kernel_rfl
 g19 := by kernel_rfl
 t80 := Tryz.underlying60
 a80 := Tryz.isAgg60
 z80 := Tryz.sizeOf60
 v80 := Tryz.zeroValue60
 i0 := by kernel_rfl
 i2 := by kernel_rfl
 i3 := by kernel_rfl
 i4 := by kernel_rfl
 i5 := by kernel_rfl
 i9 := by kernel_rfl
 i20 := by kernel_rfl
 i21 := by kernel_rfl
 i37 := by kernel_rfl
 i46 := by kernel_rfl
 i51 := by kernel_rfl
 i53 := by kernel_rfl
 i75 := by kernel_rfl
 i76 := by kernel_rfl
 i80 := by kernel_rfl
 i85 := by kernel_rfl
 i127 := by kernel_rfl
 i143 := by kernel_rfl
 i145 := by kernel_rfl
 i167 := by kernel_rfl
 i168 := by kernel_rfl
 i171 := by kernel_rfl
 i173 := by kernel_rfl
 i175 := by kernel_rfl
 i210 := by kernel_rfl
 i212 := by kernel_rfl
 i232 := by kernel_rfl
 i233 := by kernel_rfl
 m15 := by kernel_rfl
 m16 := by kernel_rfl
 m17 := by kernel_rfl
 m18 := by kernel_rfl
 m19 := by kernel_rfl
 c0 := by kernel_rfl
 c2 := by kernel_rfl
 c3 := by kernel_rfl
 c4 := by kernel_rfl
 c5 := by kernel_rfl
 c9 := by kernel_rfl
 c20 := by kernel_rfl
 c21 := by kernel_rfl
 c37 := by kernel_rfl
 c46 := by kernel_rfl
 c51 := by kernel_rfl
 c53 := by kernel_rfl
 c75 := by kernel_rfl
 c76 := by kernel_rfl
 c80 := by kernel_rfl
 c85 := by kernel_rfl
 c127 := by kernel_rfl
 c143 := by kernel_rfl
 c145 := by kernel_rfl
 c167 := by kernel_rfl
 c168 := by kernel_rfl
 c171 := by kernel_rfl
 c173 := by kernel_rfl
 c175 := by kernel_rfl
 c210 := by kernel_rfl
 c212 := by kernel_rfl
 c213 := by kernel_rfl
 c232 := by kernel_rfl
 c233 := by kernel_rfl }
open Go.RowKit in
theorem Tryz.strconv_Atoi_ok (s : ByteArray) (hmax : s.size ≤ 9223372036854775806) (v : Int) (h : Lib.atoiAll s.data.toList = .ok v) (w : World) :
 Calls Tryz.prog 128 #[.string s] w fun e w' => e = .returned (.tuple #[.int .i64 v, .nilIface]) ∧ (w' = w ∨ ∃ t, w' = Lib.bytesWorld w 5 t) := Any.strconv_Atoi_ok Tryz.laysC172 s hmax v h w
open Go.RowKit in
theorem Tryz.strconv_Atoi_range (s : ByteArray) (hlim : s.size ≤ 281474976710656) (h : Lib.atoiAll s.data.toList = .range) (ev : Value) (w : World) (hv : w.cell? ⟨6, 0, none⟩ = some ev) (hev : ev = .nilIface ∨ ∃ te pe, ev = .iface te pe) :
 Calls Tryz.prog 128 #[.string s] w fun e w' => ∃ N, e = .returned (.tuple #[.int .i64 (Lib.atoiSat s.data.toList), .iface 157 (.pointer (some ⟨N, 0, none⟩))]) ∧ w.heap.size ≤ N ∧ w'.heap[N]? = some (.cells #[.string ⟨#[65, 116, 111, 105]⟩, .string s, ev] 164 (0, 0)) ∧ Below w.heap.size w w' := Any.strconv_Atoi_range Tryz.laysC172 s hlim h ev w hv hev
def Tryz.lays99_ren : Go.Shelf.Ren := ⟨fun | 99 => 103 | 206 => 115 | n => n, fun | 9 => 9 | 4 => 4 | 3 => 3 | n => n, fun | n => n⟩
theorem Tryz.lays99 : Go.Proofs.Lays.n99 Tryz.prog Tryz.lays99_ren := {
 mixed := by kernel_rfl
 f99 := Tryz.func103.trans (congrArg some (by kernel_rfl))
 f206 := Tryz.func115.trans (congrArg some (by kernel_rfl))
 t3 := Tryz.underlying3
 a3 := Tryz.isAgg3
 z3 := Tryz.sizeOf3
 v3 := Tryz.zeroValue3
 t4 := Tryz.underlying4
 a4 := Tryz.isAgg4
 z4 := Tryz.sizeOf4
 v4 := Tryz.zeroValue4
 t9 := Tryz.underlying9
 a9 := Tryz.isAgg9
 z9 := Tryz.sizeOf9
 v9 := Tryz.zeroValue9 }
open Go.RowKit Go.Lib in
theorem Tryz.strings_HasPrefix (s p : ByteArray) (w : World) :
 Calls Tryz.prog 103 #[.string s, .string p] w fun e w' => e = .returned (.bool (Lib.hasPrefix s.data.toList p.data.toList)) ∧ w' = w := Any.strings_HasPrefix Tryz.lays99 s p w
end Go.Proofs
namespace Bk
open Go Go.RowKit Go.Proofs
theorem ret_int {k : IntKind} {a b : Int} (h : a = b) : Ending.returned (.int k a) = .returned (.int k b) := by rw [h]
theorem ret_bool {a b : Bool} (h : a = b) : Ending.returned (.bool a) = .returned (.bool b) := by rw [h]
theorem arith_Level_c (k : Int) (w : World) (h0 : 0 ≤ k) (h1 : k ≤ 255) : Calls Tryz.prog 40 #[.int .u8 k] w fun e w' => e = .returned (.int .i64 (level k)) ∧ w = w' := by
 go_enter Tryz.func40, Tryz.ntmps40
 go_wp2_with fail
 all_goals go_ret
 all_goals (refine ⟨ret_int ?_, rfl⟩; (try simp only [beq_iff_eq, beq_eq_false_iff_ne, ne_eq, bne_iff_ne, decide_eq_true_eq, decide_eq_false_iff_not] at *); first | (subst k; rfl) | (unfold level; (repeat' split) <;> omega))
structure Syms (w : World) : Prop where
 sym : ∀ i, i < 43 → w.cell? ⟨0, i, none⟩ = some (str (symbols.getD i []))
theorem Syms.ext {w w' : World} (h : Syms w) (x : Ext w w') : Syms w' := ⟨fun i hi => x.keep (h.sym i hi)⟩
theorem Syms.fr {S : Nat → Prop} {w w' : World} (h : Syms w) (x : Fr S w w') (hs : ∀ k, S k → 0 < k) : Syms w' := ⟨fun i hi => x.keep (fun e => by have := hs _ e; omega) (h.sym i hi)⟩
theorem symbol_out (k : Int) (h : 43 ≤ k) : symbol k = [] := by
 unfold symbol
 rw [List.getD_eq_getElem?_getD, List.getElem?_eq_none (show 43 ≤ k.toNat by omega)]
 rfl
theorem arith_Symbol_s (k : Int) (w : World) (h0 : 0 ≤ k) (h1 : k ≤ 255) (ht : Syms w) : Calls Tryz.prog 26 #[.int .u8 k] w fun e w' => e = .returned (str (symbol k)) ∧ w = w' := by
 by_cases hk : k < 43
 · have g := ht.sym k.toNat (by omega)
   have G : Hid (symbols.getD k.toNat [] = symbol k) := Lib.hid rfl; clear ht
   go_enter Tryz.func26, Tryz.ntmps26
   go_wp2_with fail
   go_ret
   rw [← G.out]
   exact ⟨by simp [go_sem], rfl⟩
 · have hn := symbol_out k (by omega)
   have HN := Lib.hid hn; clear hn ht
   go_enter Tryz.func26, Tryz.ntmps26
   go_wp2_with fail
   go_ret
   rw [HN.out]
   exact ⟨rfl, rfl⟩
end Bk
namespace Bk
open Go Go.RowKit Go.Proofs
theorem letter_c (c : UInt8) (w : World) : Calls Tryz.prog 80 #[.int .u8 c.toNat] w fun e w' => e = .returned (.bool (letter c)) ∧ w = w' := by
 go_enter Tryz.func80, Tryz.ntmps80
 go_wp2_with fail
 all_goals go_ret
 all_goals (refine ⟨ret_bool ?_, rfl⟩; unfold letter; rw [Bool.eq_iff_iff]; simp; try omega)
theorem digit_c (c : UInt8) (w : World) : Calls Tryz.prog 83 #[.int .u8 c.toNat] w fun e w' => e = .returned (.bool (digit c)) ∧ w = w' := by
 go_enter Tryz.func83, Tryz.ntmps83
 go_wp2_with fail
 all_goals go_ret
 all_goals (refine ⟨ret_bool ?_, rfl⟩; unfold digit; rw [Bool.eq_iff_iff]; simp; try omega)
theorem blank_c (c : UInt8) (w : World) : Calls Tryz.prog 84 #[.int .u8 c.toNat] w fun e w' => e = .returned (.bool (blank c)) ∧ w = w' := by
 go_enter Tryz.func84, Tryz.ntmps84
 go_wp2_with fail
 all_goals go_ret
 all_goals (refine ⟨ret_bool ?_, rfl⟩; unfold blank; rw [Bool.eq_iff_iff]; simp; try omega)
theorem notLf_c (c : UInt8) (w : World) : Calls Tryz.prog 85 #[.int .u8 c.toNat] w fun e w' => e = .returned (.bool (notLf c)) ∧ w = w' := by
 go_enter Tryz.func85, Tryz.ntmps85
 go_wp2_with fail
 all_goals go_ret
 all_goals (refine ⟨ret_bool ?_, rfl⟩; unfold notLf; rw [Bool.eq_iff_iff]; simp; try omega)
theorem wordish_c (c : UInt8) (w : World) : Calls Tryz.prog 82 #[.int .u8 c.toNat] w fun e w' => e = .returned (.bool (wordish c)) ∧ w = w' := by
 go_enter Tryz.func82, Tryz.ntmps82
 cases hl : letter c
 all_goals have HL := Lib.hid hl; clear hl
 all_goals go_wp2_with (first | (go_at_call 80; refine (letter_c c _).mono ?_; rintro e w' ⟨rfl, rfl⟩; rw [HL.out]) | (go_at_call 83; refine (digit_c c _).mono ?_; rintro e w' ⟨rfl, rfl⟩))
 all_goals go_ret
 all_goals (refine ⟨ret_bool ?_, rfl⟩; unfold wordish; rw [HL.out]; simp)
theorem span_c (f : FuncId) (p : UInt8 → Bool) (hp : ∀ (c : UInt8) (w : World), Calls Tryz.prog f #[.int .u8 c.toNat] w fun e w' => e = .returned (.bool (p c)) ∧ w = w')
 (he : ∀ args w, (callFunc f args).run Tryz.prog w = .ok (.enter f args) w) (s : List UInt8) (w : World) (hs : s.length ≤ 9223372036854775807) :
 Calls Tryz.prog 81 #[str s, .func (.func f) #[] #[]] w fun e w' => e = .returned (.int .i64 (span p s)) ∧ w = w' := by
 have HP := Lib.hid hp; clear hp
 go_enter Tryz.func81, Tryz.ntmps81
 go_wp2_with fail
 go_loop [8] (fun i => ∃ j : Nat, j ≤ s.length ∧ i = .int .i64 j ∧ Hid (span p s = j + span p (s.drop j))) (fun i => s.length - (intOf i).toNat)
 case atStart => exact ⟨0, Nat.zero_le _, rfl, Lib.hid (by simp)⟩
 case round =>
  obtain ⟨j, hj, rfl, HJ⟩ := hrel
  by_cases hlt : j < s.length
  · go_wp2_with fail
    refine (HP.out s[j] _).mono ?_; rintro e w' ⟨rfl, rfl⟩; have hd := List.drop_eq_getElem_cons hlt
    have hsp : span p (s.drop j) = if p s[j] then 1 + span p (s.drop (j + 1)) else 0 := by
     rw [hd]; unfold span; rw [List.takeWhile_cons]; split <;> simp; omega
    have HSP := Lib.hid hsp; clear hsp hd
    cases hb : p s[j]
    · have HB := Lib.hid hb; clear hb
      go_wp2_with fail
      go_ret
      refine ⟨ret_int ?_, rfl⟩
      rw [HJ.out, HSP.out, HB.out]; simp
    · have HB := Lib.hid hb; clear hb
      go_wp2_with fail
      go_round
      case rel => exact ⟨j + 1, by omega, by go_num, Lib.hid (by rw [HJ.out, HSP.out, HB.out]; simp; omega)⟩
      case measure => simp [intOf]; omega
  · go_wp2_with fail
    go_ret
    refine ⟨ret_int ?_, rfl⟩
    rw [HJ.out, List.drop_eq_nil_of_le (by omega)]; simp [span]; omega
end Bk
namespace Bk
open Go Go.RowKit Go.Proofs
theorem take2_eq (s : List UInt8) (n : Int) (hn : n.toNat = min 2 s.length) : (⟨s.toArray⟩ : ByteArray).extract 0 n.toNat = ⟨(s.take 2).toArray⟩ := by
 apply ByteArray.ext
 rw [hn]; simp only [ByteArray.data_extract]
 apply Array.ext'
 simp only [List.extract_toArray, List.extract_eq_take_drop, Nat.sub_zero, List.drop_zero]
 rcases Nat.le_total 2 s.length with h | h
 · rw [Nat.min_eq_left h]
 · rw [Nat.min_eq_right h, List.take_of_length_le h, List.take_length]
theorem indexByte_ge : ∀ (l : List UInt8) (c : UInt8), -1 ≤ Lib.indexByte l c
 | [], c => by simp [Lib.indexByte]
 | b :: l, c => by
  have := indexByte_ge l c
  unfold Lib.indexByte
  split
  · omega
  · split <;> omega
theorem indexByte_contains : ∀ (l : List UInt8) (c : UInt8), (0 ≤ Lib.indexByte l c) ↔ l.contains c = true
 | [], c => by simp [Lib.indexByte]
 | b :: l, c => by
  have ih := indexByte_contains l c; have hg := indexByte_ge l c
  unfold Lib.indexByte
  rw [List.contains_cons]
  by_cases hb : b = c
  · simp [hb]
  · have hb' : ¬ c = b := fun e => hb e.symm
    simp only [beq_iff_eq, hb, hb', if_false, Bool.or_eq_true, false_or, ← ih]
    split <;> omega
theorem sign_c (c : UInt8) (r : List UInt8) (w : World) (hs : (c :: r).length ≤ 9223372036854775807) :
 Calls Tryz.prog 86 #[str (c :: r)] w fun e w' => e = .returned (.int .i64 (signLen (c :: r))) ∧ w = w' := by
 simp only [List.length_cons] at hs; have hx := take2_eq (c :: r) (min 2 ((r.length : Int) + 1)) (by simp only [List.length_cons]; omega)
 have hsl : signLen (c :: r) = if List.isPrefixOf [60, 61, 62] (c :: r) then 3 else if pairs.contains ((c :: r).take 2) then 2 else if singles.contains c then 1 else 0 := rfl
 have HSL := Lib.hid hsl; clear hsl
 generalize (c :: r).take 2 = t at *
 cases h3 : List.isPrefixOf [60, 61, 62] (c :: r)
 · have H3 := Lib.hid h3; clear h3
   cases hp : pairs.contains t
   · have HP := Lib.hid hp
     simp only [pairs, List.contains_cons, List.contains_nil, Bool.or_eq_false_iff, Bool.or_false] at hp; obtain ⟨p0, p1, p2, p3, p4, p5, p6, p7, p8, p9⟩ := hp
     go_enter Tryz.func86, Tryz.ntmps86
     go_wp2_with (go_at_call 103; refine (Tryz.strings_HasPrefix _ _ _).mono ?_; rintro e w' ⟨rfl, rfl⟩; rw [show Lib.hasPrefix (⟨(c :: r).toArray⟩ : ByteArray).data.toList (⟨#[60, 61, 62]⟩ : ByteArray).data.toList = false from H3.out])
     refine (Tryz.strings_IndexByte _ _ _).mono ?_; rintro e w2 ⟨rfl, rfl⟩
     have e0 : (((c.toNat : Nat) : Int)).toNat.toUInt8 = c := by simp
     have e1 : ∀ h, (((((⟨(c :: r).toArray⟩ : ByteArray)[0]'h).toNat : Nat) : Int)).toNat.toUInt8 = c := fun _ => e0
     rw [e1]; have hi := indexByte_contains singles c; rw [show Lib.indexByte (⟨#[43, 45, 42, 47, 37, 38, 124, 94, 33, 61, 60, 62, 40, 41, 123, 125, 91, 93, 59, 44]⟩ : ByteArray).data.toList c = Lib.indexByte singles c from rfl]
     generalize Lib.indexByte singles c = ix at *
     cases hc : singles.contains c
     · have hlt : ix < 0 := by rw [hc] at hi; simp at hi; omega
       have HC := Lib.hid hc; clear hc hi
       simp only
       go_wp2_with fail
       go_ret
       rw [HSL.out, H3.out, HP.out, HC.out]; exact ⟨rfl, rfl⟩
     · have hge : 0 ≤ ix := hi.2 hc
       have HC := Lib.hid hc; clear hc hi
       simp only
       go_wp2_with fail
       go_ret
       rw [HSL.out, H3.out, HP.out, HC.out]; exact ⟨rfl, rfl⟩
   · go_enter Tryz.func86, Tryz.ntmps86
     go_wp2_with (go_at_call 103; refine (Tryz.strings_HasPrefix _ _ _).mono ?_; rintro e w' ⟨rfl, rfl⟩; rw [show Lib.hasPrefix (⟨(c :: r).toArray⟩ : ByteArray).data.toList (⟨#[60, 61, 62]⟩ : ByteArray).data.toList = false from H3.out])
     all_goals first | (go_ret; rw [HSL.out, H3.out, hp]; exact ⟨rfl, rfl⟩) | (exfalso; simp_all [pairs]; done)
 · have H3 := Lib.hid h3; clear h3
   go_enter Tryz.func86, Tryz.ntmps86
   go_wp2_with (go_at_call 103; refine (Tryz.strings_HasPrefix _ _ _).mono ?_; rintro e w' ⟨rfl, rfl⟩; rw [show Lib.hasPrefix (⟨(c :: r).toArray⟩ : ByteArray).data.toList (⟨#[60, 61, 62]⟩ : ByteArray).data.toList = true from H3.out])
   go_ret
   rw [HSL.out, H3.out]; exact ⟨rfl, rfl⟩
end Bk
namespace Bk
open Go Go.RowKit Go.Proofs
def kwEntries : List (List UInt8) → Nat → List MapEntry
 | [], _ => []
 | k :: r, i => { key := str k, val := .bool true, born := i } :: kwEntries r (i + 1)
def kwMap (ks : List (List UInt8)) : Obj := .map (kwEntries ks 0).toArray ks.length
theorem kwEntries_snoc (ks : List (List UInt8)) (k : List UInt8) : ∀ i, kwEntries (ks ++ [k]) i = kwEntries ks i ++ [{ key := str k, val := .bool true, born := i + ks.length }] := by
 induction ks with
 | nil => intro i; simp [kwEntries]
 | cons x r ih => intro i; simp [kwEntries, ih, Nat.add_assoc, Nat.add_comm 1]
theorem ba_beq (b : ByteArray) (x : List UInt8) : (b == (⟨x.toArray⟩ : ByteArray)) = (b.data.toList == x) := by
 show (b.data == x.toArray) = _
 rw [Bool.eq_iff_iff]; simp
 constructor
 · intro h; rw [h]
 · intro h; rw [← h]
theorem findNow_kw (b : ByteArray) (ks : List (List UInt8)) : ∀ i j, (ks.contains b.data.toList = false → Instr.findNow .string (.string b) (kwEntries ks i) j = some none) ∧
 (ks.contains b.data.toList = true → ∃ n, Instr.findNow .string (.string b) (kwEntries ks i) j = some (some (n, .bool true))) := by
 induction ks with
 | nil => intro i j; simp [kwEntries, Instr.findNow]
 | cons x r ih =>
  intro i j; simp only [kwEntries, Instr.findNow, Instr.sameNow, ba_beq, List.contains_cons]
  cases h : b.data.toList == x
  · simpa using ih (i + 1) (j + 1)
  · simp
theorem push_set (h : Array Obj) (a b : Obj) : (h.push a).setIfInBounds h.size b = h.push b := by
 apply Array.ext'
 simp
theorem underMap : Tryz.prog.underlying 122 = some (.map 9 4) := by kernel_rfl
theorem underStr : Tryz.prog.underlying 9 = some .string := by kernel_rfl
theorem run_kw_ins (w : World) (ks : List (List UInt8)) (b : ByteArray) (h : ks.contains b.data.toList = false) :
 (Instr.mapUpdate 122 (.map (some w.heap.size)) (.string b) (.bool true)).run Tryz.prog (w.alloc (kwMap ks)) = .ok () (w.alloc (kwMap (ks ++ [b.data.toList]))) := by
 have hb : (w.alloc (kwMap ks)).heap[w.heap.size]? = some (.map (kwEntries ks 0).toArray ks.length) := by show (w.heap.push (kwMap ks))[w.heap.size]? = _; simp [kwMap]
 have hf : Instr.findNow .string (.string b) (kwEntries ks 0) 0 = some none := (findNow_kw b ks 0 0).1 h; have hc : (Instr.checkKey false 10000 9 (.string b)).run Tryz.prog (w.alloc (kwMap ks)) = .ok () (w.alloc (kwMap ks)) := MapKept.run_checkKey (k := .string b) underStr (by simp [MapKept.IsKey]) false 9999
 simp [Instr.mapUpdate, run_underlying underMap, MapKept.run_getObj_map hb, hc, MapKept.run_findKey underStr hf, MapKept.run_setObj_map _ hb, Result.andThen]
 show ({ w with heap := (w.heap.push (kwMap ks)).setIfInBounds w.heap.size _ } : World) = { w with heap := w.heap.push _ }
 rw [push_set]
 unfold kwMap
 rw [kwEntries_snoc]
 simp
theorem run_kw_look (w : World) (ks : List (List UInt8)) (b : ByteArray) :
 (Instr.lookup 122 (.map (some w.heap.size)) (.string b) false).run Tryz.prog (w.alloc (kwMap ks)) = .ok (.bool (ks.contains b.data.toList)) (w.alloc (kwMap ks)) := by
 have hb : (w.alloc (kwMap ks)).heap[w.heap.size]? = some (.map (kwEntries ks 0).toArray ks.length) := by show (w.heap.push (kwMap ks))[w.heap.size]? = _; simp [kwMap]
 have hc : ∀ q, (Instr.checkKey q 10000 9 (.string b)).run Tryz.prog (w.alloc (kwMap ks)) = .ok () (w.alloc (kwMap ks)) := fun q => MapKept.run_checkKey (k := .string b) underStr (by simp [MapKept.IsKey]) q 9999
 have hz : (zeroValue 4).run Tryz.prog (w.alloc (kwMap ks)) = .ok (.bool false) (w.alloc (kwMap ks)) := by kernel_rfl
 cases hk : ks.contains b.data.toList
 · have hf := (findNow_kw b ks 0 0).1 hk
   simp [Instr.lookup, run_underlying underMap, MapKept.run_getObj_map hb, hc, MapKept.run_findKey underStr hf, hz, Result.andThen]
 · obtain ⟨n, hf⟩ := (findNow_kw b ks 0 0).2 hk
   simp [Instr.lookup, run_underlying underMap, MapKept.run_getObj_map hb, hc, MapKept.run_findKey underStr hf, Result.andThen]
theorem run_kw_make (w : World) : (Instr.makeMap 122 none).run Tryz.prog w = .ok (.map (some w.heap.size)) (w.alloc (kwMap [])) := run_makeMap _ w
theorem keyword_len (s : List UInt8) (h : keyword s = true) : 2 ≤ s.length ∧ s.length ≤ 7 := by
 have key : ∀ k ∈ keywords, 2 ≤ k.length ∧ k.length ≤ 7 := by decide
 exact key s (by simpa [keyword] using h)
set_option maxRecDepth 100000 in
theorem Keyword_c (s : List UInt8) (w : World) (hs : s.length ≤ 9223372036854775807) :
 Calls Tryz.prog 94 #[str s] w fun e w' => e = .returned (.bool (keyword s)) ∧ Ext w w' := by
 by_cases h2 : s.length < 2 ∨ 7 < s.length
 · have hk : keyword s = false := by
    cases h : keyword s
    · rfl
    · have := keyword_len s h; omega
   have HK := Lib.hid hk; clear hk
   by_cases h3 : s.length < 2
   · have d1 : decide ((s.length : Int) < 2) = true := by simp; omega
     clear h2
     go_enter Tryz.func94, Tryz.ntmps94
     go_wp2_with fail
     go_ret
     rw [HK.out]; exact ⟨rfl, Ext.refl _⟩
   · have d1 : decide ((s.length : Int) < 2) = false := by simp; omega
     have d2 : decide ((7 : Int) < s.length) = true := by simp; omega
     clear h2
     go_enter Tryz.func94, Tryz.ntmps94
     go_wp2_with fail
     go_ret
     rw [HK.out]; exact ⟨rfl, Ext.refl _⟩
 · have d1 : decide ((s.length : Int) < 2) = false := by simp; omega
   have d2 : decide ((7 : Int) < s.length) = false := by simp; omega
   have r1 := run_kw_make; have r2 := run_kw_ins w; have r3 := run_kw_look w
   go_enter Tryz.func94, Tryz.ntmps94
   go_wp2_with fail
   go_ret
   exact ⟨ret_bool (by simp [keyword, keywords]), (by refine Ext.alloc ?_ _; exact Ext.refl _)⟩
end Bk
namespace Bk
open Go Go.RowKit Go.Proofs
attribute [local irreducible] Go.Calls
theorem not_mem_take {ls : List (List UInt8)} {s : List UInt8} {j : Nat} (hj : j < ls.length) (h : s ∉ ls.take j) (hs : ¬ s = ls[j]) : s ∉ ls.take (j + 1) := by
 rw [List.take_succ_eq_append_getElem hj]; intro e
 rcases List.mem_append.1 e with e | e
 · exact h e
 · exact hs (List.mem_singleton.1 e)
set_option maxRecDepth 100000 in
set_option maxHeartbeats 2000000 in
theorem sIndex_c (ls : List (List UInt8)) (s : List UInt8) (hl : ls.length ≤ 1000000) (S : Nat → Prop) (a : Option Addr) (c : Nat) (w : World) (hs : Els str S w ls a) :
 Calls Tryz.prog 109 #[.slice a ls.length c, str s] w fun e w' => ∃ k : Int, e = .returned (.int .i64 k) ∧ (0 ≤ k ↔ s ∈ ls) ∧ Ext w w' := by
 have X := Ext.refl w; refine calls_in Tryz.func109 Tryz.ntmps109 rfl rfl ?_
 focus
  refine cS (C1 Pa (cT (cw_seq (cS (C1 Mv (C1 Pz (C1 Mv (cT (cw_block ?_))))))))); rotate_left 1
 refine cw_loop (ι := Nat) (fun j => [(0, .slice a ls.length c), (1, str s), (7, .int .i64 ls.length), (8, .int .i64 j)]) (fun j w' => Els str S w' ls a ∧ Ext w w' ∧ j ≤ ls.length ∧ s ∉ ls.take j) (fun j => ls.length - j) 0 (by (refine sub_cons rfl ?_; refine sub_cons rfl ?_; refine sub_cons rfl ?_; refine sub_cons rfl ?_; exact sub_nil)) ⟨hs, X, Nat.zero_le _, by simp⟩ ?_; clear hs X; rintro j w1 ⟨hs, X, hj, hn⟩; have HN := Lib.hid hn; clear hn
 by_cases hlt : j < ls.length
 · obtain ⟨kb, ko, rfl, -, hk⟩ := Arr.get hs (by omega)
   have r1 : Row w1 ⟨kb, ko + j * 1, none⟩ [str ls[j]] := hk j _ (List.getElem?_eq_getElem hlt); have hmem : ls[j] ∈ ls := List.getElem_mem hlt; have hnx := Lib.hid (not_mem_take hlt HN.out); clear hk
   generalize ls[j] = x at *
   by_cases hx : s = x
   · subst hx
     focus
      refine cS (C1 V3 (cT (cw_seq (Wyo (cw_skip (qw_then (cw_seq (cw_block (cS (C1 Mv (C1 Pa ?_))))))))))); refine cN (C1 Mv (C1 Mv (C1 Mv (C1 Pi (C1 (Pw0 r1) (C1 V8 (cT (cw_yes rfl (rfl) (cS (C1 Mv (C1 Pa ?_))))))))))); refine cT (cw_ret (qw_block_ret (qw_then_ret (qw_then_ret (qw_block_ret (qw_then_ret (qw_ret1 rfl rfl ?_))))))); rotate_left 1
     exact ⟨j, rfl, ⟨fun _ => hmem, fun _ => by omega⟩, X⟩
   · focus
      refine cS (C1 V3 (cT (cw_seq (Wyo (cw_skip (qw_then (cw_seq (cw_block (cS (C1 Mv (C1 Pa ?_))))))))))); refine cN (C1 Mv (C1 Mv (C1 Mv (C1 Pi (C1 (Pw0 r1) (C1 V8 (cT (Wna (cw_skip (qw_block_norm (qw_then ?_))))))))))); refine cw_region (C1 V7 (C1 Mv (lw_nil ?_))); rotate_left 1
     exact qw_round (j + 1) (by (refine sub_cons rfl ?_; refine sub_cons rfl ?_; refine sub_cons rfl ?_; refine sub_cons rfl ?_; exact sub_nil)) ⟨hs, X, by omega, hnx.out hx⟩ (by omega)
 · have hje : j = ls.length := by omega
   subst hje; have hn := HN.out; rw [List.take_length] at hn; replace HN := Lib.hid hn; clear hn
   focus
    refine cS (C1 V3 (cT (cw_seq (Wno (cw_exit (qw_then_exit (qw_then_exit (qw_block_exit (qw_then (cS (C1 Pa ?_))))))))))); refine cT (cw_ret (qw_ret1 rfl rfl ?_)); rotate_left 1
   exact ⟨-1, rfl, ⟨fun h => by omega, fun h => absurd h HN.out⟩, X⟩
set_option maxRecDepth 100000 in
set_option maxHeartbeats 2000000 in
theorem sContains_c (ls : List (List UInt8)) (s : List UInt8) (hl : ls.length ≤ 1000000) (S : Nat → Prop) (a : Option Addr) (c : Nat) (w : World) (hs : Els str S w ls a) :
 Calls Tryz.prog 95 #[.slice a ls.length c, str s] w fun e w' => e = .returned (.bool (decide (s ∈ ls))) ∧ Ext w w' := by
 have X := Ext.refl w; have HI := Lib.hid (sIndex_c ls s hl S a c); refine calls_in Tryz.func95 Tryz.ntmps95 rfl rfl ?_
 focus
  refine cS (C1 Pa (cN (C1 Mv (C1 Mv ?_)))); refine lw_does (does_call (by kernel_rfl) rfl (HI.out _ (by assumption)) (fun _ _ ⟨_, h⟩ => ⟨_, h.1⟩)) rfl ?_ (fun _ h => h); rintro _ w4 ⟨k1, ⟨⟨⟩, ⟨h2, x3⟩⟩⟩; have z5 := x3.size; replace hs := hs.ext x3; replace X := X.ext x3; clear x3; refine C1 V6 (C1 Pa (cT (cw_ret (qw_ret1 rfl rfl ?_)))); rotate_left 1
 exact ⟨by rw [decide_eq_decide.2 h2], X⟩
def funBad : List (List UInt8) := [[108, 99, 111, 112, 121], [108, 115, 112, 105, 108, 108], [111, 117, 116], [103]]
theorem letters_snoc {s : List UInt8} {j : Nat} (hj : j < s.length) (h : (s.take j).all letter = true) (hc : letter s[j] = true) : (s.take (j + 1)).all letter = true := by
 rw [List.take_succ_eq_append_getElem hj, List.all_append, h]
 simp [hc]
theorem letters_not {s : List UInt8} {j : Nat} (hj : j < s.length) (hc : letter s[j] = false) : s.all letter = false := by
 rw [List.all_eq_false]
 exact ⟨s[j], List.getElem_mem hj, by simp [hc]⟩
theorem funName_f {s : List UInt8} (h : s.length < 1 ∨ 12 < s.length ∨ keyword s = true ∨ s.all letter = false) : funName s = false := by
 unfold funName
 rcases h with h | h | h | h
 · obtain rfl : s = [] := List.length_eq_zero_iff.1 (by omega)
   rfl
 · have : ¬ s.length ≤ 12 := by omega
   simp [this]
 · simp [h]
 · simp [h]
theorem funName_t {s : List UInt8} (h1 : 1 ≤ s.length) (h2 : s.length ≤ 12) (h3 : keyword s = false) (h4 : s.all letter = true) : funName s = !decide (s ∈ funBad) := by
 unfold funName funBad
 have : s.isEmpty = false := by cases s with | nil => simp at h1 | cons _ _ => rfl
 rw [this, h3, h4, decide_eq_true h2]; simp only [Bool.not_false, Bool.and_self, Bool.true_and, List.contains_eq_mem]
theorem keyword_v {s : List UInt8} {b : Bool} (h : keyword s = b) (w : World) (hs : s.length ≤ 1000000) : Calls Tryz.prog 94 #[str s] w fun e w' => e = .returned (.bool b) ∧ Ext w w' := by
 have := Keyword_c s w (by omega)
 rw [h] at this; exact this
set_option maxRecDepth 100000 in
set_option maxHeartbeats 4000000 in
theorem funIsName_c (s : List UInt8) (w : World) (hs : s.length ≤ 9223372036854775807) : Calls Tryz.prog 66 #[str s] w fun e w' => e = .returned (.bool (funName s)) ∧ Ext w w' := by
 have X := Ext.refl w
 by_cases h1 : s.length < 1
 · rw [funName_f (Or.inl h1)]
   refine calls_in Tryz.func66 Tryz.ntmps66 rfl rfl ?_
   focus
    refine cS (C1 Pa (cT (cw_seq (cS (C1 Mv (C1 Py (C1 V3 (C1 Mv (Oyo (Oyo (Oyo ?_))))))))))); refine C1 Qyo (C1 Mv (lw_off rfl rfl rfl (rfl) rfl (lw_off rfl rfl rfl (rfl) rfl (C1 (pur_pick_t rfl rfl rfl) (cT (cw_cond_t rfl (cS (C1 Pa (cT (cw_ret (qw_then_ret ?_))))))))))); refine qw_ret1 rfl rfl ?_; rotate_left 1
   exact ⟨rfl, X⟩
 by_cases h2 : 12 < s.length
 · rw [funName_f (Or.inr (Or.inl h2))]
   refine calls_in Tryz.func66 Tryz.ntmps66 rfl rfl ?_
   focus
    refine cS (C1 Pa (cT (cw_seq (cS (C1 Mv (C1 Py (C1 V3 (C1 Mv (Gno (C1 Mv (Gno ?_))))))))))); refine C1 Py (Gno (C1 V5 (C1 Qno (C1 Mv (Oyo (Oyo (C1 Qyo (cT (cw_cond_t rfl (cS (C1 Pa ?_))))))))))); refine cT (cw_ret (qw_then_ret (qw_ret1 rfl rfl ?_))); rotate_left 1
   exact ⟨rfl, X⟩
 cases hk : keyword s
 case true =>
  rw [funName_f (Or.inr (Or.inr (Or.inl hk)))]; have HK := Lib.hid (keyword_v hk); refine calls_in Tryz.func66 Tryz.ntmps66 rfl rfl ?_
  focus
   refine cS (C1 Pa (cT (cw_seq (cS (C1 Mv (C1 Py (C1 V3 (C1 Mv (Gno (C1 Mv (Gno ?_))))))))))); refine C1 Py (Gno (C1 V5 (C1 Qno (C1 Mv (Gno (C1 Mv (Gno ?_))))))); refine cC rfl (HK.out _ (by omega)) ?_; rintro _ wb2 ⟨⟨⟩, xb1⟩; have zb3 := xb1.size; replace X := X.ext xb1; clear xb1; refine C1 Qno (cT (cw_cond_t rfl (cS (C1 Pa (cT (cw_ret (qw_then_ret (qw_ret1 rfl rfl ?_)))))))); rotate_left 1
  exact ⟨rfl, X⟩
 have HK := Lib.hid (keyword_v hk); have HT := Lib.hid (funName_t (by omega) (by omega) hk); have HF := Lib.hid (fun h => funName_f (s := s) (Or.inr (Or.inr (Or.inr h)))); clear hk; refine calls_in Tryz.func66 Tryz.ntmps66 rfl rfl ?_
 focus
  refine cS (C1 Pa (cT (cw_seq (cS (C1 Mv (C1 Py (C1 V3 (C1 Mv (Gno (C1 Mv (Gno ?_))))))))))); refine C1 Py (Gno (C1 V5 (C1 Qno (C1 Mv (Gno (C1 Mv (Gno ?_))))))); refine cC rfl (HK.out _ (by omega)) ?_; rintro _ wc2 ⟨⟨⟩, xc1⟩; have zc3 := xc1.size; replace X := X.ext xc1; clear xc1; refine C1 Qno (cT (cw_cond_f rfl (cw_skip (qw_then (cw_seq (cS (C1 Mv ?_))))))); refine lw_does (does_bytes tabOk rfl rfl rfl rfl) rfl ?_ (fun _ h => h); rintro _ wc10 ⟨gc4, ⟨capc5, ⟨rfl, ⟨hc6, ⟨hc7, ⟨hc8, xc9⟩⟩⟩⟩⟩⟩; have zc11 := xc9.size; replace X := X.ext xc9; clear xc9; refine C1 Pz (C1 Mv (cT (cw_block ?_))); rotate_left 1
 have hel : Els (fun c : UInt8 => .int .u8 c.toNat) (fun _ => True) wc10 s (some ⟨gc4, 0, none⟩) := row_els trivial hc6; clear hc6 hc7 hc8; refine cw_loop (ι := Nat) (fun j => [(0, str s), (18, .slice (some ⟨gc4, 0, none⟩) s.length capc5), (19, .int .i64 s.length), (20, .int .i64 j)]) (fun j w' => Els (fun c : UInt8 => .int .u8 c.toNat) (fun _ => True) w' s (some ⟨gc4, 0, none⟩) ∧ Ext w w' ∧ j ≤ s.length ∧ (s.take j).all letter = true) (fun j => s.length - j) 0 (by (refine sub_cons rfl ?_; refine sub_cons rfl ?_; refine sub_cons rfl ?_; refine sub_cons rfl ?_; exact sub_nil)) ⟨hel, X, Nat.zero_le _, by simp⟩ ?_; clear hel X; rintro j w1 ⟨hs, X, hj, hn⟩; have HN := Lib.hid hn; clear hn
 by_cases hlt : j < s.length
 · obtain ⟨kb, ko, ⟨⟩, -, hk⟩ := Arr.get hs (by omega)
   have r1 : Row w1 ⟨gc4, 0 + j * 1, none⟩ [.int .u8 (s[j]).toNat] := hk j _ (List.getElem?_eq_getElem hlt); have hnx := Lib.hid (letters_snoc hlt HN.out); have hnt := Lib.hid (letters_not hlt); clear hk HN
   generalize s[j] = x at *
   by_cases hx : 97 ≤ x.toNat ∧ x.toNat ≤ 122
   · obtain ⟨x1, x2⟩ := hx
     have hq := Lib.hid (hnx.out (by simp [letter, x1, x2])); clear hnx hnt
     focus
      refine cS (C1 V3 (cT (cw_seq (Wyo (cw_skip (qw_then (cw_seq (cw_block (cS (C1 Pi (C1 (Pw0 r1) ?_))))))))))); refine C1 Pa (cN (C1 Mv (C1 V3 (C1 Mv (Gno (C1 Mv (Gno (C1 V5 (C1 Qno (cT (Wno ?_))))))))))); refine cw_skip (qw_block_norm (qw_then (cw_region (C1 V7 (C1 Mv (lw_nil ?_)))))); rotate_left 1
     exact qw_round (j + 1) (by (refine sub_cons rfl ?_; refine sub_cons rfl ?_; refine sub_cons rfl ?_; refine sub_cons rfl ?_; exact sub_nil)) ⟨hs, X, by omega, hq.out⟩ (by omega)
   · have hq := Lib.hid (HF.out (hnt.out (by simp only [letter, Bool.and_eq_false_iff, decide_eq_false_iff_not]; omega)))
     clear hnx hnt HF HT
     focus
      refine cS (C1 V3 (cT (cw_seq (Wyo (cw_skip (qw_then (cw_seq (cw_block (cS (C1 Pi (C1 (Pw0 r1) ?_))))))))))); refine C1 Pa (cN (C1 Mv (C1 V3 (C1 Mv ?_)))); refine lw_dec rfl rfl rfl (fun ce1 => ?_) (fun ce1 => ?_); refine Oya (Oya (C1 Qya (cT (cw_cond_t rfl (cS (C1 Pa (cT (cw_ret (qw_block_ret (qw_then_ret (qw_then_ret ?_))))))))))); refine qw_block_ret (qw_then_ret (qw_ret1 rfl rfl ?_)); rotate_left 1; refine Gna (C1 Mv (Gna (C1 V5 (C1 Qna (cT (Wyo (cS (C1 Pa (cT (cw_ret (qw_block_ret ?_))))))))))); refine qw_then_ret (qw_then_ret (qw_block_ret (qw_then_ret (qw_ret1 rfl rfl ?_)))); rotate_left 1
     all_goals exact ⟨by rw [hq.out], X⟩
 · have hje : j = s.length := by omega
   subst hje; have hn := HN.out; rw [List.take_length] at hn; have hq := Lib.hid (HT.out hn); clear hn HN HT HF
   focus
    refine cS (C1 V3 (cT (cw_seq (Wno (cw_exit (qw_then_exit (qw_then_exit (qw_block_exit (qw_then (cS ?_)))))))))); (refine lw_does (does_slice' [_, _, _, _] tabOk zOk rfl rfl rfl rfl rfl rfl rfl rfl rfl) rfl ?_ (fun _ h => h); rintro _ wf2 ⟨bf1, rfl, nf3, tf4⟩); clear tf4; have hf5 := nf3.blk; have xf6 := nf3.ext; have pf7 := nf3.pos; have zf8 := nf3.size; clear nf3; replace hs := hs.ext xf6; replace X := X.ext xf6; clear xf6; refine C1 Mv ?_; refine cC rfl (sContains_c funBad s (by decide) (fun _ => True) _ _ _ (row_els trivial (Blk.row (by assumption)))) ?_; rintro _ wf10 ⟨⟨⟩, xf9⟩; have zf11 := xf9.size; replace hf5 := hf5.ext xf9; replace hs := hs.ext xf9; replace X := X.ext xf9; clear xf9; refine C1 Pt (C1 Pa (cT (cw_ret (qw_ret1 rfl rfl ?_)))); rotate_left 1
   exact ⟨by rw [hq.out], X⟩
end Bk
namespace Bk
open Go Go.RowKit Go.Proofs
attribute [local irreducible] Go.Calls
theorem retb {a b : Bool} {w w' : World} (h : a = b) (x : Ext w w') : Ending.returned (.bool a) = Ending.returned (.bool b) ∧ Ext w w' := ⟨by rw [h], x⟩
set_option maxRecDepth 100000 in
set_option maxHeartbeats 8000000 in
theorem form_c (k n : Int) (s : List UInt8) (a : Option Addr) (m c : Nat) (w : World) (hs : s.length ≤ 9223372036854775807) (hm : m ≤ 9223372036854775807) :
 Calls Tryz.prog 96 #[.agg #[.int .u8 k, .int .i64 n, str s, .slice a m c]] w fun e w' => e = .returned (.bool (formN k n s m)) ∧ Ext w w' := by
 have X := Ext.refl w; refine calls_in Tryz.func96 Tryz.ntmps96 rfl rfl ?_
 focus
  refine cS ?_; (refine lw_box' [_, _, _, _] rfl rfl rfl ?_; intro b1 w2 n3); have h4 := n3.blk; have x5 := n3.ext; have p6 := n3.pos; have z7 := n3.size; clear n3; replace X := X.ext x5; clear x5; refine C1 Pa (cN (C1 Pf (C1 (Pl h4) (C1 Pz (C1 Pa (cT (cw_seq (cS (C1 Pg (C1 (Pl h4) (cT ?_))))))))))); refine cw_block (cS (C1 V1 (C1 Pa (cT ?_)))); refine cw_dec rfl (fun c8 => ?_) (fun c8 => ?_); refine cS (C1 Pf (C1 (Pl h4) (C1 V6 (C1 Mv ?_)))); refine lw_dec rfl rfl rfl (fun c9 => ?_) (fun c9 => ?_); refine Gya (C1 Pf (Gya (C1 (Pl h4) (Gya (C1 V8 (C1 Qya (C1 Mv ?_))))))); refine lw_dec rfl rfl rfl (fun c10 => ?_) (fun c10 => ?_); refine Gya (C1 Mv (Gya (C1 V1 (C1 Qya (C1 Pa (cT (cw_ret (qw_block_ret (qw_then_ret (qw_ret1 rfl rfl ?_)))))))))); rotate_left 1; refine Ona (Ona (C1 Qna (C1 Pa (cT (cw_ret (qw_block_ret (qw_then_ret (qw_ret1 rfl rfl ?_)))))))); rotate_left 1; refine Ona (Ona (Ona (C1 Qna (C1 Mv (lw_off rfl rfl rfl (rfl) rfl (lw_off rfl rfl rfl (rfl) rfl (C1 (pur_pick_f rfl rfl rfl) (C1 Pa (cT (cw_ret (qw_block_ret ?_))))))))))); refine qw_then_ret (qw_ret1 rfl rfl ?_); rotate_left 1; refine cS (C1 V1 (C1 Pa (cT ?_))); refine cw_dec rfl (fun c11 => ?_) (fun c11 => ?_); refine cS (C1 Pf (C1 (Pl h4) (C1 V1 (C1 Mv ?_)))); refine lw_dec rfl rfl rfl (fun c12 => ?_) (fun c12 => ?_); refine Gya (C1 Mv (Gya (C1 V1 (C1 Qya (C1 Pa (cT (cw_ret (qw_block_ret (qw_then_ret (qw_ret1 rfl rfl ?_)))))))))); rotate_left 1; refine Ona (Ona (C1 Qna (C1 Pa (cT (cw_ret (qw_block_ret (qw_then_ret (qw_ret1 rfl rfl ?_))))))))
  rotate_left 1; refine cS (C1 V1 (C1 Pa (cT ?_))); refine cw_dec rfl (fun c13 => ?_) (fun c13 => ?_); refine cS (C1 Pf (C1 (Pl h4) (C1 V6 (C1 Mv ?_)))); refine lw_dec rfl rfl rfl (fun c14 => ?_) (fun c14 => ?_); refine Gya (C1 Pf (Gya (C1 (Pl h4) (Gya (C1 V4 (C1 Qya (C1 Mv ?_))))))); refine lw_dec rfl rfl rfl (fun c15 => ?_) (fun c15 => ?_); refine Gya (C1 Pf (Gya (C1 (Pl h4) (Gya (C1 V8 (C1 Qya (C1 Mv ?_))))))); refine lw_dec rfl rfl rfl (fun c16 => ?_) (fun c16 => ?_); refine Gya (C1 Mv (Gya (C1 V1 (C1 Qya (C1 Pa (cT (cw_ret (qw_block_ret (qw_then_ret (qw_ret1 rfl rfl ?_)))))))))); rotate_left 1; refine Ona (Ona (C1 Qna (C1 Pa (cT (cw_ret (qw_block_ret (qw_then_ret (qw_ret1 rfl rfl ?_)))))))); rotate_left 1; refine Ona (Ona (Ona (C1 Qna (C1 Mv (lw_off rfl rfl rfl (rfl) rfl (lw_off rfl rfl rfl (rfl) rfl (C1 (pur_pick_f rfl rfl rfl) (C1 Pa (cT (cw_ret (qw_block_ret ?_))))))))))); refine qw_then_ret (qw_ret1 rfl rfl ?_); rotate_left 1; refine Ona (Ona (Ona (C1 Qna (C1 Mv (lw_off rfl rfl rfl (rfl) rfl (lw_off rfl rfl rfl (rfl) rfl (lw_off rfl rfl rfl (rfl) rfl (C1 (pur_pick_f rfl rfl rfl) (C1 Mv (lw_off rfl rfl rfl (rfl) rfl (lw_off rfl rfl rfl (rfl) rfl ?_))))))))))); refine C1 (pur_pick_f rfl rfl rfl) (C1 Pa (cT (cw_ret (qw_block_ret (qw_then_ret (qw_ret1 rfl rfl ?_)))))); rotate_left 1; refine cS (C1 V1 (C1 Pa (cT ?_))); refine cw_dec rfl (fun c17 => ?_) (fun c17 => ?_); refine cS (C1 Pf (C1 (Pl h4) (C1 V1 (C1 Mv ?_)))); refine lw_dec rfl rfl rfl (fun c18 => ?_) (fun c18 => ?_)
  refine Gya (C1 Pf (Gya (C1 (Pl h4) (Gya ?_)))); refine cC rfl (funIsName_c _ _ (by omega)) ?_; rintro _ w20 ⟨⟨⟩, x19⟩; have z21 := x19.size; replace h4 := h4.ext x19; replace X := X.ext x19; clear x19; refine C1 Qya (C1 Mv ?_); refine lw_bool rfl rfl rfl (fun c22 => ?_) (fun c22 => ?_); refine lw_on rfl rfl rfl (gb_tt (by assumption)) ?_; refine C1 Mv ?_; refine lw_on rfl rfl rfl (gb_tt (by assumption)) ?_; refine C1 V1 ?_; refine C1 (pur_pick_t rfl rfl (by assumption)) ?_; refine C1 Pa (cT (cw_ret (qw_block_ret (qw_then_ret (qw_ret1 rfl rfl ?_))))); rotate_left 1; refine lw_off rfl rfl rfl (gb_tf (by assumption)) rfl ?_; refine lw_off rfl rfl rfl (gb_tf (by assumption)) rfl ?_; refine C1 (pur_pick_f rfl rfl (by assumption)) ?_; refine C1 Pa (cT (cw_ret (qw_block_ret (qw_then_ret (qw_ret1 rfl rfl ?_))))); rotate_left 1; refine Ona (Ona (Ona (C1 Qna (C1 Mv (lw_off rfl rfl rfl (rfl) rfl (lw_off rfl rfl rfl (rfl) rfl (C1 (pur_pick_f rfl rfl rfl) (C1 Pa (cT (cw_ret (qw_block_ret ?_))))))))))); refine qw_then_ret (qw_ret1 rfl rfl ?_); rotate_left 1; refine cS (C1 V1 (C1 Pa (cT ?_))); refine cw_dec rfl (fun c23 => ?_) (fun c23 => ?_); refine cS (C1 Pf (C1 (Pl h4) (C1 V1 (C1 Pa (cT (cw_ret (qw_block_ret (qw_then_ret (qw_ret1 rfl rfl ?_))))))))); rotate_left 1; refine cw_skip (qw_block_norm (qw_then (cw_seq (cS (C1 Pf (C1 (Pl h4) (C1 V2 (C1 Mv ?_)))))))); refine lw_dec rfl rfl rfl (fun c24 => ?_) (fun c24 => ?_); refine Oya (Oya (Oya (C1 Qya (cT (cw_cond_t rfl (cS (C1 Pa (cT (cw_ret (qw_then_ret (qw_ret1 rfl rfl ?_)))))))))))
  rotate_left 1; refine Gna (C1 Pf (Gna (C1 (Pl h4) (Gna (C1 V9 (C1 Qna (cT ?_))))))); refine cw_decn rfl (fun c25 => ?_) (fun c25 => ?_); refine cS (C1 Pa (cT (cw_ret (qw_then_ret (qw_ret1 rfl rfl ?_))))); rotate_left 1; refine cw_skip (qw_then (cw_seq (cS (C1 Pg (C1 (Pl h4) (cT (cw_block (cS (C1 V1 (C1 Pa (cT ?_))))))))))); refine cw_dec rfl (fun c26 => ?_) (fun c26 => ?_); refine cS (C1 Mv (C1 V1 (C1 Pa (cT (cw_ret (qw_block_ret (qw_then_ret (qw_ret1 rfl rfl ?_)))))))); rotate_left 1; refine cw_seq (cS (C1 V1 (C1 Pa (cT ?_)))); refine cw_dec rfl (fun c27 => ?_) (fun c27 => ?_); refine cw_skip (qw_then (Wya (cS (C1 Mv (C1 V1 (C1 Pa (cT (cw_ret (qw_block_ret (qw_then_ret (qw_ret1 rfl rfl ?_))))))))))); rotate_left 1; refine cS (C1 V1 (C1 Pa (cT ?_))); refine cw_dec rfl (fun c28 => ?_) (fun c28 => ?_); refine cw_skip (qw_then (Wya (cS (C1 Mv (C1 V1 (C1 Pa (cT (cw_ret (qw_block_ret (qw_then_ret (qw_ret1 rfl rfl ?_))))))))))); rotate_left 1; refine cw_region (C1 V1 (C1 Pa (cT ?_))); refine cw_dec rfl (fun c29 => ?_) (fun c29 => ?_); refine cS (C1 Mv (C1 V1 (C1 Pa (cT (cw_ret (qw_block_ret (qw_then_ret (qw_ret1 rfl rfl ?_)))))))); rotate_left 1; refine cS (C1 V1 (C1 Pa (cT ?_))); refine cw_dec rfl (fun c30 => ?_) (fun c30 => ?_); refine cS (C1 Mv (C1 V1 (C1 Pa (cT (cw_ret (qw_block_ret (qw_then_ret (qw_ret1 rfl rfl ?_)))))))); rotate_left 1; refine cS (C1 V1 (C1 Pa (cT ?_))); refine cw_dec rfl (fun c31 => ?_) (fun c31 => ?_); refine cS (C1 Mv (C1 V1 (C1 Pa (cT (cw_ret (qw_block_ret (qw_then_ret (qw_ret1 rfl rfl ?_))))))))
  rotate_left 1; refine cw_skip (qw_block_norm (qw_then (cS (C1 Pa (cT (cw_ret (qw_ret1 rfl rfl ?_))))))); rotate_left 1
 all_goals (refine retb ?_ X; unfold formN; (try subst_vars); simp [*] <;> first | omega | (rw [Bool.eq_iff_iff]; simp only [decide_eq_true_eq, beq_iff_eq, Bool.and_eq_true]; done) | (rw [Bool.eq_iff_iff]; simp only [decide_eq_true_eq, beq_iff_eq, Bool.and_eq_true]; omega))
theorem rowWf_iffF {l : List Nd} : rowWf l ↔ ∀ x ∈ l, x.wf := by
 induction l with
 | nil => simp [rowWf]
 | cons a r ih => simp [rowWf, ih]
theorem rowFormed_take {l : List Nd} {j : Nat} (hj : j < l.length) (h : rowFormed (l.take j) = true) (hc : (l[j]).formed = true) : rowFormed (l.take (j + 1)) = true := by
 have key : ∀ a b : List Nd, rowFormed (a ++ b) = (rowFormed a && rowFormed b) := by
  intro a b
  induction a with
  | nil => simp [rowFormed]
  | cons x r ih => simp only [List.cons_append, rowFormed, ih, Bool.and_assoc]
 rw [List.take_succ_eq_append_getElem hj, key, h]
 simp [rowFormed, hc]
theorem rowFormed_not {l : List Nd} {x : Nd} (h : x ∈ l) (hc : x.formed = false) : rowFormed l = false := by
 induction l with
 | nil => cases h
 | cons y r ih =>
  simp only [rowFormed]
  rcases List.mem_cons.1 h with rfl | h
  · simp [hc]
  · simp [ih h]
set_option maxRecDepth 100000 in
set_option maxHeartbeats 4000000 in
theorem formed_c (N : Nat) : ∀ (t : Nd) (S : Nat → Prop) (a : Option Addr) (c : Nat) (w : World), t.size < N → t.size ≤ 1000000000 → t.wf → t.sits S w a →
 Calls Tryz.prog 69 #[t.val a c] w fun e w' => e = .returned (.bool t.formed) ∧ Ext w w' := by
 induction N with
 | zero => intro t S a c w h; omega
 | succ N ih =>
  rintro ⟨k, n, s, l⟩ S a c w hN hM hwf hs
  have IH := Lib.hid ih; clear ih
  simp only [Nd.sits] at hs; simp only [Nd.size] at hN hM; have hwfl := hwf; simp only [Nd.wf] at hwfl; obtain ⟨-, -, -, -, q1, q2, q3⟩ := hwfl; have HW := Lib.hid (rowWf_iffF.1 q3); clear q3 hwf; have X := Ext.refl w; have hl := length_rowSize l; have HFm := Lib.hid (fun (w : World) => form_c k n s a l.length c w q1 q2)
  by_cases hf : formN k n s l.length = true
  · rw [hf] at HFm
    rw [show (Nd.mk k n s l).formed = rowFormed l from by simp [Nd.formed, hf]]; clear hf; refine calls_in Tryz.func69 Tryz.ntmps69 rfl rfl ?_
    focus
     refine cS ?_; (refine lw_box' [_, _, _, _] rfl rfl rfl ?_; intro b1 w2 n3); have h4 := n3.blk; have x5 := n3.ext; have p6 := n3.pos; have z7 := n3.size; clear n3; replace hs := Bk.rowSits.ext hs x5; replace X := X.ext x5; clear x5; refine C1 Pa (cT (cw_seq (cS (lw_loads_b' [_, _, _, _] tabOk rfl rfl rfl h4 rfl rfl rfl (cC rfl (HFm.out _) ?_))))); rintro _ w9 ⟨⟨⟩, x8⟩; have z10 := x8.size; replace h4 := h4.ext x8; replace hs := Bk.rowSits.ext hs x8; replace X := X.ext x8; clear x8; refine C1 Pt (cT (cw_cond_f rfl (cw_skip (qw_then (cw_seq (cS (C1 Pf (C1 (Pl h4) (C1 Pz (C1 Mv (cT ?_))))))))))); refine cw_block ?_; rotate_left 1
    refine cw_loop (ι := Nat) (fun j => [(1, .pointer (some ⟨b1, 0, none⟩)), (9, .slice a l.length c), (10, .int .i64 l.length), (11, .int .i64 j)]) (fun j w' => rowSits S w' l a ∧ Ext w w' ∧ j ≤ l.length ∧ rowFormed (l.take j) = true) (fun j => l.length - j) 0 (by (refine sub_cons rfl ?_; refine sub_cons rfl ?_; refine sub_cons rfl ?_; refine sub_cons rfl ?_; exact sub_nil)) ⟨hs, X, Nat.zero_le _, by simp [rowFormed]⟩ ?_; clear hs X h4; rintro j w1 ⟨hs, X, hj, hn⟩; have HN := Lib.hid hn; clear hn
    by_cases hlt : j < l.length
    · obtain ⟨kb, ko, rfl, hkS, hkid⟩ := kidRows hs (by intro e; subst e; simp at hlt)
      obtain ⟨xa, xc, rx, sx⟩ := hkid j l[j] (List.getElem?_eq_getElem hlt); have hsz := size_mem (List.getElem_mem hlt); have hxw := HW.out _ (List.getElem_mem hlt); have hnx := Lib.hid (rowFormed_take hlt HN.out); have hnt := Lib.hid (rowFormed_not (List.getElem_mem hlt)); clear hkid HN
      generalize l[j] = x at *
      have HX := Lib.hid (fun (S : Nat → Prop) (a : Option Addr) (c : Nat) (w : World) (hs : x.sits S w a) => IH.out x S a c w (by omega) (by omega) hxw hs); clear hxw
      by_cases hx : x.formed = true
      · rw [hx] at HX
        have hq := Lib.hid (hnx.out hx); clear hnx hnt hx
        focus
         refine cS (C1 V3 (cT (cw_seq (Wyo (cw_skip (qw_then (cw_seq (cw_block (cS (C1 Pi (C1 (Pws rx) ?_))))))))))); (refine lw_alloc' [_, _, _, _] zOk rfl rfl ?_; intro ba1 wa2 na3); (refine lw_init' [_, _, _, _] tabOk rfl rfl rfl rfl rfl rfl na3 rfl ?_; clear na3; clear wa2; intro wa4 na3); have ha5 := na3.blk; have xa6 := na3.ext; have pa7 := na3.pos; have za8 := na3.size; clear na3; replace X := X.ext xa6; replace hs := Bk.rowSits.ext hs xa6; replace rx := rx.ext xa6; replace sx := Nd.sits.ext sx xa6; clear xa6; refine cN (lw_loads_b' [_, _, _, _] tabOk rfl rfl rfl ha5 rfl rfl rfl ?_); refine cC rfl (HX.out _ _ _ _ (by assumption)) ?_; rintro _ wa10 ⟨⟨⟩, xa9⟩; have za11 := xa9.size; replace ha5 := ha5.ext xa9; replace X := X.ext xa9; replace hs := Bk.rowSits.ext hs xa9; replace rx := rx.ext xa9; replace sx := Nd.sits.ext sx xa9; clear xa9; refine C1 Pt (cT (cw_cond_f rfl (cw_skip (qw_block_norm (qw_then (cw_region (C1 V7 (C1 Mv (lw_nil ?_))))))))); rotate_left 1
        exact qw_round (j + 1) (by (refine sub_cons rfl ?_; refine sub_cons rfl ?_; refine sub_cons rfl ?_; refine sub_cons rfl ?_; exact sub_nil)) ⟨hs, X, by omega, hq.out⟩ (by omega)
      · have hx : x.formed = false := by simpa using hx
        rw [hx] at HX; have hq := Lib.hid (hnt.out hx); clear hnx hnt hx
        focus
         refine cS (C1 V3 (cT (cw_seq (Wyo (cw_skip (qw_then (cw_seq (cw_block (cS (C1 Pi (C1 (Pws rx) ?_))))))))))); (refine lw_alloc' [_, _, _, _] zOk rfl rfl ?_; intro bb1 wb2 nb3); (refine lw_init' [_, _, _, _] tabOk rfl rfl rfl rfl rfl rfl nb3 rfl ?_; clear nb3; clear wb2; intro wb4 nb3); have hb5 := nb3.blk; have xb6 := nb3.ext; have pb7 := nb3.pos; have zb8 := nb3.size; clear nb3; replace X := X.ext xb6; replace hs := Bk.rowSits.ext hs xb6; replace rx := rx.ext xb6; replace sx := Nd.sits.ext sx xb6; clear xb6; refine cN (lw_loads_b' [_, _, _, _] tabOk rfl rfl rfl hb5 rfl rfl rfl ?_); refine cC rfl (HX.out _ _ _ _ (by assumption)) ?_; rintro _ wb10 ⟨⟨⟩, xb9⟩; have zb11 := xb9.size; replace hb5 := hb5.ext xb9; replace X := X.ext xb9; replace hs := Bk.rowSits.ext hs xb9; replace rx := rx.ext xb9; replace sx := Nd.sits.ext sx xb9; clear xb9; refine C1 Pt (cT (cw_cond_t rfl (cS (C1 Pa (cT (cw_ret (qw_block_ret (qw_then_ret (qw_then_ret (qw_block_ret (qw_then_ret ?_))))))))))); refine qw_ret1 rfl rfl ?_; rotate_left 1
        exact retb hq.out.symm X
    · have hje : j = l.length := by omega
      subst hje; have hn := HN.out; rw [List.take_length] at hn; have hq := Lib.hid hn; clear hn HN
      focus
       refine cS (C1 V3 (cT (cw_seq (Wno (cw_exit (qw_then_exit (qw_then_exit (qw_block_exit (qw_then (cS (C1 Pa ?_))))))))))); refine cT (cw_ret (qw_ret1 rfl rfl ?_)); rotate_left 1
      exact retb hq.out.symm X
  · have hf : formN k n s l.length = false := by simpa using hf
    rw [hf] at HFm; rw [show (Nd.mk k n s l).formed = false from by simp [Nd.formed, hf]]; clear hf; refine calls_in Tryz.func69 Tryz.ntmps69 rfl rfl ?_
    focus
     refine cS ?_; (refine lw_box' [_, _, _, _] rfl rfl rfl ?_; intro bd1 wd2 nd3); have hd4 := nd3.blk; have xd5 := nd3.ext; have pd6 := nd3.pos; have zd7 := nd3.size; clear nd3; replace hs := Bk.rowSits.ext hs xd5; replace X := X.ext xd5; clear xd5; refine C1 Pa (cT (cw_seq (cS (lw_loads_b' [_, _, _, _] tabOk rfl rfl rfl hd4 rfl rfl rfl (cC rfl (HFm.out _) ?_))))); rintro _ wd9 ⟨⟨⟩, xd8⟩; have zd10 := xd8.size; replace hd4 := hd4.ext xd8; replace hs := Bk.rowSits.ext hs xd8; replace X := X.ext xd8; clear xd8; refine C1 Pt (cT (cw_cond_t rfl (cS (C1 Pa (cT (cw_ret (qw_then_ret (qw_ret1 rfl rfl ?_)))))))); rotate_left 1
    exact ⟨rfl, X⟩
end Bk
namespace Bk
open Go
section
variable {ts : List Tok} {n : Int}
structure Le (ts : List Tok) (σ σ' : PS) : Prop where
 le : σ.at_ ≤ σ'.at_
 wf : σ'.at_ ≤ ts.length
 err : σ.err ≠ 0 → σ' = σ
def Lt (σ σ' : PS) : Prop := σ'.err = 0 → σ.at_ < σ'.at_
theorem Le.refl {σ : PS} (h : σ.at_ ≤ ts.length) : Le ts σ σ := ⟨Nat.le_refl _, h, fun _ => rfl⟩
theorem Le.trans {a b c : PS} (h : Le ts a b) (k : Le ts b c) : Le ts a c := ⟨Nat.le_trans h.le k.le, k.wf, fun e => by rw [k.err (by rw [h.err e]; exact e), h.err e]⟩
theorem Le.ok {a b : PS} (h : Le ts a b) (e : b.err = 0) : a.err = 0 := by
 rcases Int.lt_trichotomy a.err 0 with h' | h' | h'
 · have := h.err (by omega); rw [this] at e; exact e
 · exact h'
 · have := h.err (by omega); rw [this] at e; exact e
theorem Lt.of_lt {a b c : PS} (h : Lt a b) (k : Le ts b c) : Lt a c := fun e => Nat.lt_of_lt_of_le (h (k.ok e)) k.le
theorem Lt.of_le {a b c : PS} (h : Le ts a b) (k : Lt b c) : Lt a c := fun e => Nat.lt_of_le_of_lt h.le (k e)
theorem peek_err {σ : PS} (h : σ.err ≠ 0) : peekP ts σ = Tok.zero := by unfold peekP; rw [if_pos (Or.inl h)]
theorem peek_end {σ : PS} (h : σ.at_ = ts.length) : peekP ts σ = Tok.zero := by unfold peekP; rw [if_pos (Or.inr h)]
theorem peek_in {σ : PS} (hw : σ.at_ ≤ ts.length) (h : (peekP ts σ).text ≠ [] ∨ (peekP ts σ).kind ≠ 0) : σ.err = 0 ∧ σ.at_ < ts.length := by
 by_cases h1 : σ.err = 0
 · by_cases h2 : σ.at_ = ts.length
   · rw [peek_end h2] at h; simp [Tok.zero] at h
   · exact ⟨h1, by omega⟩
 · rw [peek_err h1] at h; simp [Tok.zero] at h
theorem has_in {σ : PS} {t : List UInt8} (hw : σ.at_ ≤ ts.length) (h : hasP ts σ t = true) (ht : t ≠ []) : σ.err = 0 ∧ σ.at_ < ts.length := by
 unfold hasP at h
 have := of_decide_eq_true h
 exact peek_in hw (Or.inl (by rw [this]; exact ht))
theorem next_le {σ : PS} (h : σ.err = 0 ∧ σ.at_ < ts.length) : Le ts σ (nextP σ) := ⟨Nat.le_succ _, h.2, fun e => absurd h.1 e⟩
theorem next_lt {σ : PS} : Lt σ (nextP σ) := fun _ => Nat.lt_succ_self _
theorem fail_le {σ : PS} (h : σ.at_ ≤ ts.length) (off e : Int) : Le ts σ (failP σ off e) := by
 unfold failP
 split
 · rename_i h0; exact ⟨Nat.le_refl _, h, fun e => absurd h0 e⟩
 · exact Le.refl h
theorem fail_err {σ : PS} {off e : Int} (he : e ≠ 0) : (failP σ off e).err ≠ 0 := by
 unfold failP
 split
 · exact he
 · assumption
theorem unexp_le {σ : PS} (h : σ.at_ ≤ ts.length) : Le ts σ (unexpP ts n σ) := by
 unfold unexpP; split <;> exact fail_le h _ _
theorem unexp_err {σ : PS} : (unexpP ts n σ).err ≠ 0 := by
 unfold unexpP; split <;> exact fail_err (by decide)
theorem unexp_lt {σ : PS} : Lt σ (unexpP ts n σ) := fun e => absurd e unexp_err
theorem expect_le {σ : PS} {t : List UInt8} (h : σ.at_ ≤ ts.length) (ht : t ≠ []) : Le ts σ (expectP ts n σ t) := by
 unfold expectP
 split
 · rename_i hh; exact next_le (has_in h hh ht)
 · exact unexp_le h
theorem expect_lt {σ : PS} {t : List UInt8} : Lt σ (expectP ts n σ t) := by
 unfold expectP
 split
 · exact next_lt
 · exact unexp_lt
theorem isName_ne {s : List UInt8} (h : isName s = true) : s ≠ [] := by
 intro e; subst e; simp [isName] at h
theorem name_le {σ : PS} (h : σ.at_ ≤ ts.length) : Le ts σ (nameP ts n σ).2 := by
 unfold nameP
 split
 · rename_i hh; exact next_le (peek_in h (Or.inl (isName_ne hh)))
 · exact unexp_le h
theorem name_lt {σ : PS} : Lt σ (nameP ts n σ).2 := by
 unfold nameP
 split
 · exact next_lt
 · exact unexp_lt
theorem number_le {σ : PS} {a b : Int} (h : σ.at_ ≤ ts.length) : Le ts σ (numberP ts n a b σ).2 := by
 unfold numberP
 split
 · rename_i hh
   have hn := peek_in h (Or.inr (by rw [hh]; decide))
   split
   · exact next_le hn
   · exact (next_le hn).trans (fail_le (next_le hn).wf _ _)
 · exact unexp_le h
theorem number_lt {σ : PS} {a b : Int} : Lt σ (numberP ts n a b σ).2 := by
 unfold numberP
 split
 · split
   · exact next_lt
   · exact fun e => absurd e (fail_err (by decide))
 · exact unexp_lt
theorem binOf_ne {t : List UInt8} {op : Int} (h : binOf t = some op) : t ≠ [] ∧ 8 ≤ op ∧ op ≤ 23 ∧ symbol op = t := by
 unfold binOf at h
 have h1 := List.find?_some h; have h2 := List.mem_of_find?_eq_some h; have h3 := of_decide_eq_true h1; simp only [List.mem_cons, List.not_mem_nil, or_false] at h2; refine ⟨?_, by omega, by omega, h3⟩; rintro rfl
 rcases h2 with rfl | rfl | rfl | rfl | rfl | rfl | rfl | rfl | rfl | rfl | rfl | rfl | rfl | rfl | rfl | rfl <;> exact absurd h3 (by decide)
theorem expr_inv (k : Nat) : (∀ lv σ, σ.at_ ≤ ts.length → Le ts σ (exprP ts n k lv σ).2 ∧ (4 ≤ k → Lt σ (exprP ts n k lv σ).2)) ∧ (∀ lv x σ, σ.at_ ≤ ts.length → Le ts σ (climbP ts n k lv x σ).2) ∧
 (∀ σ, σ.at_ ≤ ts.length → Le ts σ (unaryP ts n k σ).2 ∧ (3 ≤ k → Lt σ (unaryP ts n k σ).2)) ∧ (∀ σ, σ.at_ ≤ ts.length → Le ts σ (primaryP ts n k σ).2 ∧ (2 ≤ k → Lt σ (primaryP ts n k σ).2)) ∧
 (∀ σ, σ.at_ ≤ ts.length → Le ts σ (placeP ts n k σ).2 ∧ (1 ≤ k → Lt σ (placeP ts n k σ).2)) := by
 induction k with
 | zero =>
  refine ⟨fun lv σ h => ⟨?_, fun h => by omega⟩, fun lv x σ h => ?_, fun σ h => ⟨?_, fun h => by omega⟩, fun σ h => ⟨?_, fun h => by omega⟩, fun σ h => ⟨?_, fun h => by omega⟩⟩
  · rw [exprP]; exact Le.refl h
  · rw [climbP]; exact Le.refl h
  · rw [unaryP]; exact Le.refl h
  · rw [primaryP]; exact Le.refl h
  · rw [placeP]; exact Le.refl h
 | succ k ih =>
  obtain ⟨iE, iC, iU, iP, iL⟩ := ih; refine ⟨fun lv σ h => ?_, fun lv x σ h => ?_, fun σ h => ?_, fun σ h => ?_, fun σ h => ?_⟩
  · rw [exprP]
    have hu := iU σ h; have hc := iC lv (unaryP ts n k σ).1 (unaryP ts n k σ).2 hu.1.wf
    exact ⟨hu.1.trans hc, fun hk => (hu.2 (by omega)).of_lt hc⟩
  · rw [climbP]
    split
    · exact Le.refl h
    · rename_i op hop
      obtain ⟨hne, -⟩ := binOf_ne hop; have hn := peek_in h (Or.inl hne)
      split
      · exact Le.refl h
      · have h1 := next_le hn
        have h2 := iE (level op + 1) (nextP σ) h1.wf
        exact (h1.trans h2.1).trans (iC _ _ _ h2.1.wf)
  · rw [unaryP]
    split
    · rename_i hh
      have hn := has_in h hh (by decide); have h1 := next_le hn; have h2 := iU (nextP σ) h1.wf
      exact ⟨h1.trans h2.1, fun _ => next_lt.of_lt h2.1⟩
    · split
      · rename_i hh
        have hn := has_in h hh (by decide); have h1 := next_le hn; have h2 := iU (nextP σ) h1.wf
        exact ⟨h1.trans h2.1, fun _ => next_lt.of_lt h2.1⟩
      · exact ⟨(iP σ h).1, fun hk => (iP σ h).2 (by omega)⟩
  · rw [primaryP]
    split
    · exact ⟨number_le h, fun _ => number_lt⟩
    · split
      · rename_i hh
        have hn := has_in h hh (by decide); have h1 := next_le hn; have h2 := h1.trans (expect_le (n := n) (t := [40]) h1.wf (by decide)); have h3 := h2.trans (name_le (n := n) h2.wf); have h4 := h3.trans (expect_le (n := n) (t := [41]) h3.wf (by decide))
        exact ⟨h4, fun _ => Lt.of_le (ts := ts) h3 expect_lt⟩
      · split
        · rename_i hh
          have hn := has_in h hh (by decide); have h1 := next_le hn; have h2 := h1.trans (expect_le (n := n) (t := [40]) h1.wf (by decide)); have h3 := h2.trans (name_le (n := n) h2.wf); have h4 := h3.trans (expect_le (n := n) (t := [41]) h3.wf (by decide))
          exact ⟨h4, fun _ => Lt.of_le (ts := ts) h3 expect_lt⟩
        · split
          · rename_i hh
            have hn := has_in h hh (by decide); have h1 := next_le hn; have h2 := h1.trans (iE 1 (nextP σ) h1.wf).1
            exact ⟨h2.trans (expect_le h2.wf (by decide)), fun _ => Lt.of_le (ts := ts) h2 expect_lt⟩
          · exact ⟨(iL σ h).1, fun hk => (iL σ h).2 (by omega)⟩
  · rw [placeP]
    have h0 := name_le (n := n) h
    split
    · rename_i hh
      have hn := has_in h0.wf hh (by decide); have h1 := h0.trans (next_le hn); have h2 := h1.trans (iE 1 _ h1.wf).1
      exact ⟨h2.trans (expect_le h2.wf (by decide)), fun _ => Lt.of_le (ts := ts) h2 expect_lt⟩
    · exact ⟨h0, fun _ => name_lt⟩
end
end Bk
namespace Bk
open Go Go.RowKit Go.Proofs
attribute [local irreducible] Go.Calls
structure PC where
 pb : Nat
 B : Nat
 ts : List Tok
 n : Int
 a : Option Addr
 cap : Nat
 r : Nat
abbrev Tok.cells (t : Tok) : List Value := [.int .u8 t.kind, str t.text, .int .i64 t.pos]
abbrev Tok.val (t : Tok) : Value := .agg #[.int .u8 t.kind, str t.text, .int .i64 t.pos]
def TokAt (w : World) (b o : Nat) (t : Tok) : Prop := Row w ⟨b, o, none⟩ t.cells
def binMap : List (List UInt8 × Value) := [8, 9, 10, 11, 12, 13, 14, 15, 16, 17, 18, 19, 20, 21, 22, 23].map fun k => (symbol k, .int .u8 k)
abbrev PC.cells (c : PC) (σ : PS) : List Value := [.slice c.a c.ts.length c.cap, .int .i64 σ.at_, .int .i64 c.n, .map (some c.r), .int .i64 σ.off, .int .i64 σ.err]
structure Errs (w : World) : Prop where
 ex : ∃ te pe, w.cell? ⟨6, 0, none⟩ = some (.iface te pe)
theorem Errs.ext {w w' : World} (h : Errs w) (x : Ext w w') : Errs w' := by
 obtain ⟨te, pe, h⟩ := h.ex
 exact ⟨te, pe, x.keep h⟩
theorem Errs.fr {S : Nat → Prop} {w w' : World} (h : Errs w) (x : Fr S w w') (hs : ¬ S 6) : Errs w' := by
 obtain ⟨te, pe, h⟩ := h.ex
 exact ⟨te, pe, x.keep hs h⟩
structure PP (c : PC) (σ : PS) (w : World) : Prop where
 blk : Blk w c.pb (c.cells σ)
 toks : Arr (fun b => b < c.B ∧ b ≠ c.pb) 3 TokAt w c.ts c.a
 map : MapIs w c.r binMap
 pbB : c.pb < c.B
 rB : c.r < c.B
 rne : c.r ≠ c.pb
 B : c.B ≤ w.heap.size
 at_ : σ.at_ ≤ c.ts.length
 len : c.ts.length ≤ 1000000
 tok : ∀ t ∈ c.ts, t.text.length ≤ 1000000
 num : ∀ t ∈ c.ts, t.kind = 2 → t.text ≠ [] ∧ ∀ x ∈ t.text, digit x = true
 errs : Errs w
 gl : 6 < c.pb
theorem PP.ext {c : PC} {σ : PS} {w w' : World} (h : PP c σ w) (x : Ext w w') : PP c σ w' :=
 ⟨h.blk.ext x, h.toks.mono (fun _ h => h) (fun _ _ _ _ _ h => Row.ext h x), h.map.ext x, h.pbB, h.rB, h.rne, Nat.le_trans h.B x.size, h.at_, h.len, h.tok, h.num, h.errs.ext x, h.gl⟩
theorem PP.fr {c : PC} {σ : PS} {S : Nat → Prop} {w w' : World} (h : PP c σ w) (x : Fr S w w') (hs : ∀ k, S k → c.B ≤ k) : PP c σ w' :=
 ⟨h.blk.fr x (fun e => by have := hs _ e; have := h.pbB; omega), h.toks.mono (fun _ h => h) (fun b _ _ _ hb h => Row.fr h x (fun e => by have h1 := hs _ e; have h2 := hb.1; have h3 : c.B ≤ b := h1; omega)), h.map.fr x (fun e => by have := hs _ e; have := h.rB; omega), h.pbB, h.rB, h.rne, Nat.le_trans h.B x.size, h.at_, h.len, h.tok, h.num, h.errs.fr x (fun e => by have := hs _ e; have := h.gl; have := h.pbB; omega), h.gl⟩
theorem PP.put {c : PC} {σ σ' : PS} {w w' : World} (h : PP c σ w) (p : Put w w' c.pb (c.cells σ')) (ha : σ'.at_ ≤ c.ts.length) : PP c σ' w' :=
 ⟨p.blk, h.toks.mono (fun _ h => h) (fun b _ _ _ hb h => Row.fr h p.fr (fun e => hb.2 e)), h.map.fr p.fr (fun e => h.rne e), h.pbB, h.rB, h.rne, Nat.le_trans h.B p.fr.size, ha, h.len, h.tok, h.num, h.errs.fr p.fr (fun e => by have := h.gl; have e' : 6 = c.pb := e; omega), h.gl⟩
section
variable {P : Program} {n : Nat} {ops : Array Oper} {Q : Exit → Act → World → Prop} {rest : List Oper} {l : Sl} {w : World} {tab : Tab} {ty : TypeId} {pos : String} {after : Array Edge}
end
theorem peek_off {ts : List Tok} {σ : PS} (h : σ.err ≠ 0 ∨ σ.at_ = ts.length) : peekP ts σ = Tok.zero := by unfold peekP; rw [if_pos h]
theorem peek_is {ts : List Tok} {σ : PS} (h : ¬ (σ.err ≠ 0 ∨ σ.at_ = ts.length)) (hl : σ.at_ < ts.length) : peekP ts σ = ts[σ.at_] := by unfold peekP; rw [if_neg h]; simp [hl]
end Bk
namespace Bk
open Go Go.RowKit Go.Proofs
theorem en_digit : ∀ args w, (callFunc 83 args).run Tryz.prog w = .ok (.enter 83 args) w := enters_of Tryz.func83 (by kernel_rfl) rfl
theorem en_blank : ∀ args w, (callFunc 84 args).run Tryz.prog w = .ok (.enter 84 args) w := enters_of Tryz.func84 (by kernel_rfl) rfl
theorem en_first1 : ∀ args w, (callFunc 82 args).run Tryz.prog w = .ok (.enter 82 args) w := enters_of Tryz.func82 (by kernel_rfl) rfl
theorem en_first2 : ∀ args w, (callFunc 85 args).run Tryz.prog w = .ok (.enter 85 args) w := enters_of Tryz.func85 (by kernel_rfl) rfl
theorem first_c (c : UInt8) (r : List UInt8) (w : World) (hs : (c :: r).length ≤ 9223372036854775807) :
 Calls Tryz.prog 54 #[str (c :: r)] w fun e w' => e = .returned (.tuple #[.int .u8 (firstTok (c :: r)).1, .int .i64 (firstTok (c :: r)).2]) ∧ w = w' := by
 have hf : firstTok (c :: r) = if letter c then (1, span wordish (c :: r)) else if digit c then (2, span digit (c :: r)) else if blank c then (4, span blank (c :: r)) else if c = 35 then (5, span notLf (c :: r)) else (3, signLen (c :: r)) := rfl
 have HF := Lib.hid hf; clear hf
 have HS := Lib.hid hs; simp only [List.length_cons] at hs
 go_enter Tryz.func54, Tryz.ntmps54
 go_wp2_with fail
 refine (letter_c c _).mono ?_; rintro e w1 ⟨rfl, rfl⟩
 cases hl : letter c
 · have HL := Lib.hid hl; clear hl
   simp only
   go_wp2_with fail
   refine (digit_c c _).mono ?_; rintro e w1 ⟨rfl, rfl⟩
   cases hd : digit c
   · have HD := Lib.hid hd; clear hd
     simp only
     go_wp2_with fail
     refine (blank_c c _).mono ?_; rintro e w1 ⟨rfl, rfl⟩
     cases hb : blank c
     · have HB := Lib.hid hb; clear hb
       simp only
       by_cases h35 : c = 35
       · have H35 := Lib.hid h35
         have e35 : (({ data := (c :: r).toArray } : ByteArray)[0]'(by simp [ByteArray.size])).toNat = 35 := by show c.toNat = 35; rw [h35]; rfl
         clear h35
         go_wp2_with fail
         refine (span_c 85 notLf notLf_c en_first2 _ _ HS.out).mono ?_; rintro e w1 ⟨rfl, rfl⟩; simp only
         go_wp2_with fail
         go_ret2
         rw [HF.out, HL.out, HD.out, HB.out, if_pos H35.out]; exact ⟨rfl, rfl⟩
       · have H35 := Lib.hid h35
         have e35 : ((({ data := (c :: r).toArray } : ByteArray)[0]'(by simp [ByteArray.size])).toNat : Int) ≠ 35 := by
          show (c.toNat : Int) ≠ 35
          intro h; apply h35; apply UInt8.toNat_inj.1; show c.toNat = 35; omega
         clear h35
         go_wp2_with fail
         refine (sign_c c r _ HS.out).mono ?_; rintro e w1 ⟨rfl, rfl⟩; simp only
         go_wp2_with fail
         go_ret2
         rw [HF.out, HL.out, HD.out, HB.out, if_neg H35.out]; exact ⟨rfl, rfl⟩
     · have HB := Lib.hid hb; clear hb
       simp only
       go_wp2_with fail
       refine (span_c 84 blank blank_c en_blank _ _ HS.out).mono ?_; rintro e w1 ⟨rfl, rfl⟩; simp only
       go_wp2_with fail
       go_ret2
       rw [HF.out, HL.out, HD.out, HB.out]; exact ⟨rfl, rfl⟩
   · have HD := Lib.hid hd; clear hd
     simp only
     go_wp2_with fail
     refine (span_c 83 digit digit_c en_digit _ _ HS.out).mono ?_; rintro e w1 ⟨rfl, rfl⟩; simp only
     go_wp2_with fail
     go_ret2
     rw [HF.out, HL.out, HD.out]; exact ⟨rfl, rfl⟩
 · have HL := Lib.hid hl; clear hl
   simp only
   go_wp2_with fail
   refine (span_c 82 wordish wordish_c en_first1 _ _ HS.out).mono ?_; rintro e w1 ⟨rfl, rfl⟩; simp only
   go_wp2_with fail
   go_ret2
   rw [HF.out, HL.out]; exact ⟨rfl, rfl⟩
theorem Name_c (s : List UInt8) (w : World) (hs : s.length ≤ 9223372036854775807) :
 Calls Tryz.prog 89 #[str s] w fun e w' => e = .returned (.bool (isName s)) ∧ Ext w w' := by
 cases s with
 | nil =>
  go_enter Tryz.func89, Tryz.ntmps89
  go_wp2_with fail
  go_ret
  exact ⟨rfl, Ext.refl _⟩
 | cons c r =>
  have hn : isName (c :: r) = (decide ((c :: r).length ≤ 16) && ((firstTok (c :: r)).1 == 1) && ((firstTok (c :: r)).2 == (c :: r).length) && !keyword (c :: r)) := by simp [isName]
  have HN := Lib.hid hn; clear hn
  have HS := Lib.hid hs; simp only [List.length_cons] at hs
  by_cases h16 : 16 < (c :: r).length
  · simp only [List.length_cons] at h16
    have d1 : decide ((16 : Int) < (r.length : Int) + 1) = true := by simp; omega
    have H16 := Lib.hid h16; clear h16
    go_enter Tryz.func89, Tryz.ntmps89
    go_wp2_with fail
    go_ret
    rw [HN.out]
    exact ⟨ret_bool (by have := H16.out; simp; omega), Ext.refl _⟩
  · simp only [List.length_cons] at h16
    have d1 : decide ((16 : Int) < (r.length : Int) + 1) = false := by simp; omega
    go_enter Tryz.func89, Tryz.ntmps89
    go_wp2_with fail
    refine (first_c c r _ HS.out).mono ?_; rintro e w1 ⟨rfl, rfl⟩
    generalize firstTok (c :: r) = ft at *
    obtain ⟨k, n⟩ := ft
    by_cases hk : k = 1
    · by_cases hl : n = (c :: r).length
      · subst hk hl
        simp only [List.length_cons]
        go_wp2_with fail
        refine (Keyword_c _ _ HS.out).mono ?_; rintro e w2 ⟨rfl, hx⟩; simp only
        go_wp2_with fail
        go_ret
        rw [HN.out]
        exact ⟨ret_bool (by simp; omega), hx⟩
      · subst hk
        have dl : ((n : Int) == (r.length : Int) + 1) = false := by simp only [List.length_cons] at hl; rw [beq_eq_false_iff_ne]; omega
        have HL := Lib.hid hl; clear hl
        simp only
        go_wp2_with fail
        go_ret
        rw [HN.out]
        exact ⟨ret_bool (by have := HL.out; simp at this ⊢; simp [this]), Ext.refl _⟩
    · have dk : ((k : Int) == 1) = false := by rw [beq_eq_false_iff_ne]; omega
      have HK := Lib.hid hk; clear hk
      simp only
      go_wp2_with fail
      go_ret
      rw [HN.out]
      exact ⟨ret_bool (by have := HK.out; simp [this]), Ext.refl _⟩
end Bk
namespace Bk
open Go Go.RowKit Go.Proofs
attribute [local irreducible] Go.Calls
def TreeR (c : PC) (w : World) (r : Nd × PS) : Ending → World → Prop := fun e w' => ∃ a k, e = .returned (r.1.val a k) ∧ r.1.sits (fun b => w.heap.size ≤ b ∧ b < w'.heap.size) w' a ∧ PP c r.2 w' ∧ Fr (· = c.pb) w w'
theorem TreeR.ret {c : PC} {w : World} {r : Nd × PS} {e : Ending} {w' : World} (h : TreeR c w r e w') : ∃ v, e = .returned v := by
 obtain ⟨_, _, h, -⟩ := h
 exact ⟨_, h⟩
end Bk
namespace Bk
open Go
section
variable {ts : List Tok} {n : Int}
def mS (ts : List Tok) (σ : PS) : Nat := if σ.err = 0 then ts.length - σ.at_ else 0
theorem mS_le {σ σ' : PS} (h : Le ts σ σ') : mS ts σ' ≤ mS ts σ := by
 unfold mS
 by_cases e' : σ'.err = 0
 · have := h.ok e'
   have := h.le
   rw [if_pos e', if_pos (by assumption)]; omega
 · rw [if_neg e']; omega
theorem mS_lt {σ σ' : PS} (h : Le ts σ σ') (k : Lt σ σ') : mS ts σ' + 1 ≤ mS ts σ ∨ mS ts σ' = 0 := by
 unfold mS
 by_cases e' : σ'.err = 0
 · have := h.ok e'
   have := k e'; have := h.wf
   rw [if_pos e', if_pos (by assumption)]; omega
 · rw [if_neg e']; exact Or.inr rfl
theorem mS_next {σ : PS} (h : σ.err = 0 ∧ σ.at_ < ts.length) : mS ts (nextP σ) + 1 = mS ts σ := by
 unfold mS nextP
 simp only [h.1, if_true]
 omega
theorem mS_pos {σ : PS} (h : σ.err = 0 ∧ σ.at_ < ts.length) : 1 ≤ mS ts σ := by have := mS_next h; omega
end
end Bk
namespace Bk
open Go
def startsDigit (s : List UInt8) : Bool := match s with
 | [] => false
 | c :: _ => digit c
section
variable (ts : List Tok) (n : Int)
end
section
variable {ts : List Tok} {n : Int}
theorem startsDigit_ne {s : List UInt8} (h : startsDigit s = true) : s ≠ [] := by rintro rfl; simp [startsDigit] at h
structure REq {α : Type} (a b : α × PS) : Prop where
 err : a.2.err = b.2.err
 off : a.2.off = b.2.off
 ok : a.2.err = 0 → a.2.at_ = b.2.at_ ∧ a.1 = b.1
theorem REq.refl {α : Type} (a : α × PS) : REq a a := ⟨rfl, rfl, fun _ => ⟨rfl, rfl⟩⟩
theorem REq.same {α : Type} {a b : α × PS} (h : REq a b) (e : a.2.err = 0) : a = b := by
 obtain ⟨x, σ⟩ := a; obtain ⟨y, ρ⟩ := b; obtain ⟨h1, h2, h3⟩ := h; obtain ⟨h4, h5⟩ := h3 e
 cases σ; cases ρ
 simp_all
theorem REq.trans {α : Type} {a b c : α × PS} (h : REq a b) (k : REq b c) : REq a c :=
 ⟨h.err.trans k.err, h.off.trans k.off, fun e => ⟨(h.ok e).1.trans (k.ok (h.err ▸ e)).1, (h.ok e).2.trans (k.ok (h.err ▸ e)).2⟩⟩
theorem REq.bind {α β : Type} {a b : α × PS} (h : REq a b) {f g : α × PS → β × PS} (hf : a.2.err ≠ 0 → (f a).2 = a.2) (hg : b.2.err ≠ 0 → (g b).2 = b.2) (hok : a.2.err = 0 → a = b → REq (f a) (g b)) : REq (f a) (g b) := by
 by_cases e : a.2.err = 0
 · exact hok e (h.same e)
 · have e' : b.2.err ≠ 0 := h.err ▸ e
   refine ⟨by rw [hf e, hg e', h.err], by rw [hf e, hg e', h.off], fun z => ?_⟩
   rw [hf e] at z; exact absurd z e
end
end Bk
namespace Bk
open Go
section
variable {ts : List Tok} {n : Int}
theorem level_bd {op : Int} (h0 : 8 ≤ op) (h1 : op ≤ 23) : 1 ≤ level op ∧ level op ≤ 8 := by
 have : op = 8 ∨ op = 9 ∨ op = 10 ∨ op = 11 ∨ op = 12 ∨ op = 13 ∨ op = 14 ∨ op = 15 ∨ op = 16 ∨ op = 17 ∨ op = 18 ∨ op = 19 ∨ op = 20 ∨ op = 21 ∨ op = 22 ∨ op = 23 := by omega
 rcases this with rfl | rfl | rfl | rfl | rfl | rfl | rfl | rfl | rfl | rfl | rfl | rfl | rfl | rfl | rfl | rfl <;> decide
def DigitKinds (ts : List Tok) : Prop := ∀ t ∈ ts, t.kind = 2 ↔ startsDigit t.text = true
theorem peek_digit (hd : DigitKinds ts) {σ : PS} (h : σ.at_ ≤ ts.length) : (peekP ts σ).kind = 2 ↔ startsDigit (peekP ts σ).text = true := by
 unfold peekP
 split
 · simp [Tok.zero, startsDigit]
 · rename_i hh
   have hlt : σ.at_ < ts.length := by omega
   rw [List.getD_eq_getElem?_getD, List.getElem?_eq_getElem hlt]
   exact hd _ (List.getElem_mem hlt)
end
end Bk
namespace Bk
open Go
theorem takeWhile_len {α : Type} (p : α → Bool) (l : List α) : (l.takeWhile p).length ≤ l.length := by
 induction l with
 | nil => simp
 | cons x r ih => simp only [List.takeWhile_cons]; split <;> simp; exact ih
theorem signLen_le (s : List UInt8) : signLen s ≤ s.length := by
 unfold signLen
 split
 · rename_i h
   rw [List.isPrefixOf_iff_prefix] at h
   exact h.length_le
 · split
   · rename_i h
     rcases s with _ | ⟨a, _ | ⟨b, r⟩⟩
     · exact absurd h (by decide)
     · exfalso
       simp [pairs] at h
     · simp
   · split
     · rename_i h
       cases s with
       | nil => simp at h
       | cons a r => simp
     · omega
theorem firstTok_le (s : List UInt8) : (firstTok s).2 ≤ s.length := by
 cases s with
 | nil => simp [firstTok]
 | cons c r =>
  simp only [firstTok, span]
  split
  · exact takeWhile_len _ _
  · split
    · exact takeWhile_len _ _
    · split
      · exact takeWhile_len _ _
      · split
        · exact takeWhile_len _ _
        · exact signLen_le _
theorem take_takeWhile {α : Type} (p : α → Bool) (l : List α) : l.take (l.takeWhile p).length = l.takeWhile p := by
 induction l with
 | nil => simp
 | cons x r ih => simp only [List.takeWhile_cons]; split <;> simp [ih]
theorem mem_takeWhile {α : Type} (p : α → Bool) (l : List α) : ∀ x ∈ l.takeWhile p, p x = true := by
 induction l with
 | nil => simp
 | cons y r ih =>
  simp only [List.takeWhile_cons]
  split
  · rename_i h
    intro x hx
    rcases List.mem_cons.1 hx with rfl | hx
    · exact h
    · exact ih x hx
  · simp
theorem letter_digit (c : UInt8) (h : letter c = true) : digit c = false := by
 simp only [letter, digit, Bool.and_eq_true, decide_eq_true_eq, Bool.and_eq_false_iff, decide_eq_false_iff_not] at h ⊢
 omega
theorem firstTok_num (s : List UInt8) (h : (firstTok s).1 = 2) : s.take (firstTok s).2 ≠ [] ∧ ∀ x ∈ s.take (firstTok s).2, digit x = true := by
 cases s with
 | nil => simp [firstTok] at h
 | cons c r =>
  simp only [firstTok] at h ⊢
  by_cases h1 : letter c = true
  · simp [h1] at h
  · by_cases h2 : digit c = true
    · simp only [h1, h2, if_true, Bool.false_eq_true, if_false, span]
      rw [take_takeWhile]; refine ⟨by simp [List.takeWhile_cons, h2], mem_takeWhile _ _⟩
    · exfalso
      simp only [h1, h2, Bool.false_eq_true, if_false] at h
      by_cases h3 : blank c = true
      · simp [h3] at h
      · by_cases h4 : c = 35
        · subst h4; simp [h3] at h
        · simp [h3, h4] at h
theorem firstTok_kind (s : List UInt8) (hs : s ≠ []) (h0 : (firstTok s).2 ≠ 0) : (firstTok s).1 = 2 ↔ startsDigit (s.take (firstTok s).2) = true := by
 cases s with
 | nil => exact absurd rfl hs
 | cons c r =>
  obtain ⟨m, hm⟩ : ∃ m, (firstTok (c :: r)).2 = m + 1 := ⟨(firstTok (c :: r)).2 - 1, by omega⟩; rw [hm]; simp only [List.take_succ_cons, startsDigit, firstTok]
  by_cases h1 : letter c = true
  · simp [h1, letter_digit c h1]
  · by_cases h2 : digit c = true
    · simp [h1, h2]
    · simp only [h1, h2, Bool.false_eq_true, if_false, iff_false]
      by_cases h3 : blank c = true
      · simp [h3]
      · by_cases h4 : c = 35
        · subst h4; simp [h3]
        · simp [h3, h4]
structure TokOk (n : Nat) (t : Tok) : Prop where
 len : t.text.length ≤ n
 num : t.kind = 2 → t.text ≠ [] ∧ ∀ x ∈ t.text, digit x = true
 dig : t.kind = 2 ↔ startsDigit t.text = true
 pos : 0 ≤ t.pos ∧ t.pos ≤ n
theorem lexGo_ok (s : List UInt8) : ∀ (k p : Nat) (acc : List Tok), (∀ t ∈ acc, TokOk s.length t) → ∀ t ∈ (lexGo k s p acc).1, TokOk s.length t
 | 0, p, acc, h => by rw [lexGo]; exact h
 | k + 1, p, acc, h => by
  rw [lexGo]
  split
  · rename_i hp
    split
    · simp
    · rename_i h0
      refine lexGo_ok s k _ _ ?_; intro t ht
      rcases List.mem_append.1 ht with ht | ht
      · exact h t ht
      · simp only [List.mem_singleton] at ht
        subst ht
        have hne : s.drop p ≠ [] := by
         intro e; have := congrArg List.length e
         simp at this; omega
        refine ⟨?_, ?_, ?_, ?_⟩
        · simp only [List.length_take, List.length_drop]; omega
        · intro hk
          have hk' : (firstTok (s.drop p)).1 = 2 := by simp only at hk; omega
          exact firstTok_num _ hk'
        · have := firstTok_kind (s.drop p) hne h0
          simp only; rw [← this]
          omega
        · simp only; omega
  · exact h
theorem lexT_ok (s : List UInt8) : ∀ t ∈ (lexT s).1, TokOk s.length t := by
 unfold lexT
 split
 · simp
 · have := lexGo_ok s (s.length + 1) 0 [] (by simp)
   split
   · rename_i l h; rw [h] at this; exact this
   · simp
theorem solid_ok (s : List UInt8) : ∀ t ∈ (startP s).1, TokOk s.length t := fun t ht => lexT_ok s t (List.mem_filter.1 ht).1
theorem digitKinds_start (s : List UInt8) : DigitKinds (startP s).1 := fun t ht => (solid_ok s t ht).dig
theorem lexGo_len (s : List UInt8) : ∀ (k p : Nat) (acc : List Tok), acc.length ≤ p → p ≤ s.length → (lexGo k s p acc).1.length ≤ s.length
 | 0, p, acc, h, hp => by rw [lexGo]; simp; omega
 | k + 1, p, acc, h, hp => by
  rw [lexGo]
  split
  · split
    · simp
    · rename_i h0
      have := firstTok_le (s.drop p); rw [List.length_drop] at this
      exact lexGo_len s k _ _ (by simp; omega) (by omega)
  · simp only; omega
theorem lexT_len (s : List UInt8) : (lexT s).1.length ≤ s.length := by
 unfold lexT
 split
 · simp
 · have := lexGo_len s (s.length + 1) 0 [] (by simp) (by omega)
   split
   · rename_i l h; rw [h] at this; exact this
   · simp
theorem start_len (s : List UInt8) : (startP s).1.length ≤ s.length := Nat.le_trans (List.length_filter_le _ _) (lexT_len s)
end Bk
namespace Bk
open Go Go.RowKit Go.Proofs
attribute [local irreducible] Go.Calls
def Toks (S : Nat → Prop) (w : World) (l : List Tok) (a : Option Addr) : Prop := Arr S 3 TokAt w l a
theorem Toks.ext {S : Nat → Prop} {w w' : World} {l : List Tok} {a : Option Addr} (h : Toks S w l a) (x : Ext w w') : Toks S w' l a := h.mono (fun _ h => h) (fun _ _ _ _ _ h => Row.ext h x)
theorem Toks.fr {S T : Nat → Prop} {w w' : World} {l : List Tok} {a : Option Addr} (h : Toks S w l a) (x : Fr T w w') (hs : ∀ b, S b → ¬ T b) : Toks S w' l a := h.mono (fun _ h => h) (fun b _ _ _ hb h => Row.fr h x (hs b hb))
theorem Toks.wide {S S' : Nat → Prop} {w : World} {l : List Tok} {a : Option Addr} (h : Toks S w l a) (hs : ∀ b, S b → S' b) : Toks S' w l a := h.mono hs (fun _ _ _ _ _ h => h)
theorem Toks.lt2 {S : Nat → Prop} {w : World} {l : List Tok} {a : Option Addr} (h : Toks S w l a) : Toks (fun b => S b ∧ b < w.heap.size) w l a := by
 rcases h with h | ⟨b, o, h1, h2, h3⟩
 · exact Or.inl h
 · cases l with
   | nil => exact Or.inl rfl
   | cons v r => exact Or.inr ⟨b, o, h1, ⟨h2, cell_lt (Row.at0 (h3 0 v rfl) rfl)⟩, h3⟩
def tokShape : Shape Tok where
 sz := 3
 rep := fun _ _ v cs => cs = v.cells
 len := fun h => by rw [h]; rfl
 one := fun h => by rw [h]; rfl
 mono := fun h _ _ => h
 lt := fun h => h
theorem OwnL.toks {w : World} {B e : Nat} {a : Option Addr} {len cap : Nat} {xs : List Tok} {S : Nat → Prop} (h : OwnL tokShape w B e (.slice a len cap) xs) (hS : ∀ b, B ≤ b → S b) : Toks S w xs a := by
 by_cases hx : xs = []
 · exact Or.inl hx
 · obtain ⟨g, cap', hv, hg, hall⟩ := h.rows hx
   simp only [Value.slice.injEq] at hv; obtain ⟨rfl, -, -⟩ := hv; refine Or.inr ⟨g, 0, rfl, hS g hg, fun i x hi => ?_⟩; obtain ⟨cs, hr, rfl⟩ := hall i x hi
   simpa [tokShape, TokAt] using hr
theorem first_s (t : List UInt8) (w : World) (ht : t ≠ []) (hl : t.length ≤ 9223372036854775807) : Calls Tryz.prog 54 #[str t] w fun e w' => e = .returned (.tuple #[.int .u8 (firstTok t).1, .int .i64 (firstTok t).2]) ∧ w = w' := by
 cases t with
 | nil => exact absurd rfl ht
 | cons c r => exact first_c c r w hl
def LexR (w : World) (r : List Tok × Int × Int) : Ending → World → Prop := fun e w' => ∃ a k, e = .returned (.tuple #[.slice a r.1.length k, .int .i64 r.2.1, .int .i64 r.2.2]) ∧ Toks (fun b => w.heap.size ≤ b ∧ b < w'.heap.size) w' r.1 a ∧ Ext w w'
theorem LexR.ret {w : World} {r : List Tok × Int × Int} {e : Ending} {w' : World} (h : LexR w r e w') : ∃ v, e = .returned v := by
 obtain ⟨_, _, h, -⟩ := h
 exact ⟨_, h⟩
set_option maxRecDepth 100000 in
set_option maxHeartbeats 2000000 in
theorem Lex_c (s : List UInt8) (w : World) (hs : s.length ≤ 1000000) : Calls Tryz.prog 23 #[str s] w (LexR w (lexT s)) := by
 have X := Ext.refl w
 by_cases h0 : 65536 < s.length
 · rw [show lexT s = ([], 0, 5) from by simp [lexT, h0]]
   refine calls_in Tryz.func23 Tryz.ntmps23 rfl rfl ?_
   focus
    refine cS (C1 Pa (C1 Pa (C1 Pa (cT (cw_seq (cS (C1 Mv (C1 Py (C1 V5 (cT (Wyo ?_))))))))))); refine cS (C1 Pa (C1 Pa (C1 Pa (cT (cw_ret (qw_then_ret (qw_ret3 rfl rfl rfl rfl ?_))))))); rotate_left 1
   exact ⟨_, _, rfl, Or.inl rfl, X⟩
 have hun : ∀ r, lexGo (s.length + 1) s 0 [] = r → lexT s = match r with | (l, none) => (l, 0, 0) | (_, some p) => ([], (p : Int), 3) := fun r hr => by
  obtain ⟨l, o⟩ := r
  cases o <;> simp [lexT, h0, hr]
 have HU := Lib.hid hun; clear hun
 refine calls_in Tryz.func23 Tryz.ntmps23 rfl rfl ?_
 focus
  refine cS (C1 Pa (C1 Pa (C1 Pa (cT (cw_seq (cS (C1 Mv (C1 Py (C1 V5 (cT (Wno ?_))))))))))); refine cw_skip (qw_then (cS (C1 Pa (cT (cw_seq (cS (C1 Pa (cT (cw_block ?_))))))))); rotate_left 1
 refine cw_loop (ι := Nat × Nat × List Tok × Option Addr × Nat) (fun x => [(0, str s), (5, .slice x.2.2.2.1 x.2.2.1.length x.2.2.2.2), (6, .int .i64 x.2.1)])
  (fun x w' => OwnL tokShape w' w.heap.size 73 (.slice x.2.2.2.1 x.2.2.1.length x.2.2.2.2) x.2.2.1 ∧ Ext w w' ∧ x.2.1 ≤ s.length ∧ x.2.2.1.length ≤ x.2.1 ∧ s.length + 1 ≤ x.1 + x.2.1 ∧
   lexGo (s.length + 1) s 0 [] = lexGo x.1 s x.2.1 x.2.2.1) (fun x => x.1) (s.length + 1, 0, [], none, 0) (by (refine sub_cons rfl ?_; refine sub_cons rfl ?_; refine sub_cons rfl ?_; exact sub_nil)) ⟨OwnL.nil, X, Nat.zero_le _, Nat.le_refl _, Nat.le_refl _, rfl⟩ ?_
 rintro ⟨j, p, acc, a, cap⟩ w1 ⟨hown, X, hp, hacc, hj, he⟩; simp only at hown hp hacc hj he; refine CW.sub (m := [(0, str s), (5, .slice a acc.length cap), (6, .int .i64 p)]) ?_ (by (refine sub_cons rfl ?_; refine sub_cons rfl ?_; refine sub_cons rfl ?_; exact sub_nil)); obtain ⟨j, rfl⟩ : ∃ i, j = i + 1 := ⟨j - 1, by omega⟩
 by_cases hlt : p < s.length
 · have hne : s.drop p ≠ [] := by
    intro e; have := congrArg List.length e
    simp at this; omega
   have hdl : (s.drop p).length = s.length - p := List.length_drop; have hfl := firstTok_le (s.drop p); rw [hdl] at hfl
   by_cases hz : (firstTok (s.drop p)).2 = 0
   · rw [HU.out ([], some p) (by rw [he, lexGo]; simp [hlt, hz])]
     focus
      refine cw_seq (cS (C1 Mv (C1 Mv (C1 Py (C1 V3 (cT (Wyo (cw_skip (qw_then (cw_block (cS ?_))))))))))); refine C1 Mv (C1 Mv ?_); refine C1 (pur_sfromN tabOk rfl rfl rfl (by omega)) ?_; refine cC rfl (first_s _ _ hne (by omega)) ?_; rintro _ wb1 ⟨⟨⟩, rfl⟩; refine C1 Mv (C1 Px (C1 Px (C1 Pa (C1 Pa (cT (cw_seq (cS (C1 Mv (C1 V1 (cT (Wyo ?_))))))))))); refine cS (C1 Mv (C1 Pa (C1 Pa (C1 Pa (cT (cw_ret (qw_then_ret (qw_block_ret (qw_then_ret (qw_block_ret (qw_then_ret ?_))))))))))); refine qw_ret3 rfl rfl rfl rfl ?_; rotate_left 1
     exact ⟨_, _, rfl, Or.inl rfl, X⟩
   · have he2 : lexGo (s.length + 1) s 0 [] = lexGo j s (p + (firstTok (s.drop p)).2) (acc ++ [⟨((firstTok (s.drop p)).1 : Nat), (s.drop p).take (firstTok (s.drop p)).2, (p : Int)⟩]) := by rw [he, lexGo]; simp [hlt, hz]
     focus
      refine cw_seq (cS (C1 Mv (C1 Mv (C1 Py (C1 V3 (cT (Wyo (cw_skip (qw_then (cw_block (cS ?_))))))))))); refine C1 Mv (C1 Mv ?_); refine C1 (pur_sfromN tabOk rfl rfl rfl (by omega)) ?_; refine cC rfl (first_s _ _ hne (by omega)) ?_; rintro _ wc1 ⟨⟨⟩, rfl⟩; refine C1 Mv (C1 Px (C1 Px (C1 Pa (C1 Pa (cT (cw_seq (cS (C1 Mv (C1 V1 (cT (Wno ?_))))))))))); refine cw_skip (qw_then (cS (C1 Mv (C1 Mv (C1 Mv (C1 Mv (C1 Mv (C1 Mv (C1 V7 ?_))))))))); refine C1 (pur_spartN tabOk rfl rfl rfl rfl (by omega)) ?_; refine C1 Mv (C1 (pur_build' [_, _, _] tabOk zOk rfl rfl rfl rfl) ?_); (refine lw_does (does_slice' [_, _, _] tabOk zOk rfl rfl rfl rfl rfl rfl rfl rfl rfl) rfl ?_ (fun _ h => h); rintro _ wc3 ⟨bc2, rfl, nc4, tc5⟩); clear tc5; have hc6 := nc4.blk; have xc7 := nc4.ext; have pc8 := nc4.pos; have zc9 := nc4.size; clear nc4; replace hown := hown.ext xc7; replace X := X.ext xc7; clear xc7; refine lw_appendL (sh := tokShape) (z := ⟨((firstTok (s.drop p)).1 : Nat), (s.drop p).take (firstTok (s.drop p)).2, (p : Int)⟩) tabOk zOk rfl rfl rfl rfl (by kernel_rfl) rfl rfl rfl hown (Blk.row (by assumption)) rfl (by omega) (by have := Ext.size X; omega) rfl ?_; rintro gc10 cap'c11 wc12 hc13 fc14; have zc15 := fc14.size; clear hc6 hown; replace X := X.fr fc14 (by omega); clear fc14; refine C1 Pa (cT (cw_region (C1 Mv (C1 Mv (C1 V7 (C1 Pa (lw_nil (qw_block_norm ?_)))))))); rotate_left 1
     refine qw_round (j, p + (firstTok (s.drop p)).2, acc ++ [⟨((firstTok (s.drop p)).1 : Nat), (s.drop p).take (firstTok (s.drop p)).2, (p : Int)⟩], some ⟨_, 0, none⟩, _) (by (refine sub_cons rfl ?_; refine sub_cons rfl ?_; refine sub_cons rfl ?_; exact sub_nil)) ⟨by assumption, X, by simp only; omega, by simp only [List.length_append, List.length_cons, List.length_nil]; omega, by simp only; omega, he2⟩ (by simp)
 · rw [HU.out (acc, none) (by rw [he, lexGo]; simp [hlt])]
   focus
    refine cw_seq (cS (C1 Mv (C1 Mv (C1 Py (C1 V3 (cT (Wno (cw_exit (qw_then_exit (qw_then_exit (qw_block_exit ?_))))))))))); refine qw_then (cS (C1 Mv (C1 Pa (C1 Pa (C1 Pa (cT (cw_ret (qw_ret3 rfl rfl rfl rfl ?_)))))))); rotate_left 1
   exact ⟨_, _, rfl, Toks.lt2 (S := (w.heap.size ≤ ·)) (OwnL.toks hown (fun b h => h)), X⟩
theorem solid_snoc (l : List Tok) (t : Tok) : solidT (l ++ [t]) = solidT l ++ (if t.kind ≠ 4 ∧ t.kind ≠ 5 then [t] else []) := by
 unfold solidT
 rw [List.filter_append]
 congr 1
 by_cases h4 : t.kind = 4 <;> by_cases h5 : t.kind = 5 <;> simp [h4, h5]
def SolidR (w : World) (r : List Tok) : Ending → World → Prop := fun e w' => ∃ a k, e = .returned (.slice a r.length k) ∧ Toks (fun b => w.heap.size ≤ b ∧ b < w'.heap.size) w' r a ∧ Ext w w'
theorem SolidR.ret {w : World} {r : List Tok} {e : Ending} {w' : World} (h : SolidR w r e w') : ∃ v, e = .returned v := by
 obtain ⟨_, _, h, -⟩ := h
 exact ⟨_, h⟩
set_option maxRecDepth 100000 in
set_option maxHeartbeats 2000000 in
theorem Solid_c (ts : List Tok) (S : Nat → Prop) (b0 : Option Addr) (k0 : Nat) (w : World) (hl : ts.length ≤ 1000000) (hT : Toks S w ts b0) (hS : ∀ b, S b → b < w.heap.size) : Calls Tryz.prog 24 #[.slice b0 ts.length k0] w (SolidR w (solidT ts)) := by
 have X := Ext.refl w; refine calls_in Tryz.func24 Tryz.ntmps24 rfl rfl ?_
 focus
  refine cS (C1 Pa (cN (C1 Pa (cT (cw_seq (cS (C1 Mv (C1 Pz (C1 Mv (cT (cw_block ?_))))))))))); rotate_left 1
 refine cw_loop (ι := Nat × Option Addr × Nat) (fun x => [(3, .slice x.2.1 (solidT (ts.take x.1)).length x.2.2), (6, .slice b0 ts.length k0), (7, .int .i64 ts.length), (8, .int .i64 x.1)])
  (fun x w' => OwnL tokShape w' w.heap.size 73 (.slice x.2.1 (solidT (ts.take x.1)).length x.2.2) (solidT (ts.take x.1)) ∧ Ext w w' ∧ x.1 ≤ ts.length ∧ Toks S w' ts b0) (fun x => ts.length - x.1) (0, none, 0) (by (refine sub_cons rfl ?_; refine sub_cons rfl ?_; refine sub_cons rfl ?_; refine sub_cons rfl ?_; exact sub_nil)) ⟨OwnL.nil, X, Nat.zero_le _, hT⟩ ?_
 rintro ⟨j, a, cap⟩ w1 ⟨hown, X, hj, hT⟩; simp only at hown hj hT; have hsz := X.size; refine CW.sub (m := [(3, .slice a (solidT (ts.take j)).length cap), (6, .slice b0 ts.length k0), (7, .int .i64 ts.length), (8, .int .i64 j)]) ?_ (by (refine sub_cons rfl ?_; refine sub_cons rfl ?_; refine sub_cons rfl ?_; refine sub_cons rfl ?_; exact sub_nil))
 by_cases hlt : j < ts.length
 · have htk : ts.take (j + 1) = ts.take j ++ [ts[j]] := by rw [List.take_add_one, List.getElem?_eq_getElem hlt]; rfl
   have hsn : solidT (ts.take (j + 1)) = solidT (ts.take j) ++ (if ts[j].kind ≠ 4 ∧ ts[j].kind ≠ 5 then [ts[j]] else []) := by rw [htk, solid_snoc]
   have hbd : (solidT (ts.take j)).length ≤ 1000000 := Nat.le_trans (List.length_filter_le _ _) (by rw [List.length_take]; omega); obtain ⟨tb, tof, rfl, hkS, hrow⟩ := hT.get (by omega); have hr : Row w1 ⟨tb, tof + j * 3, none⟩ ts[j].cells := hrow j _ (List.getElem?_eq_getElem hlt); have htb := hS tb hkS; clear hrow htk
   generalize ts[j] = t at *
   by_cases h4 : t.kind = 4
   · rw [show (if t.kind ≠ 4 ∧ t.kind ≠ 5 then [t] else []) = [] from by simp [h4], List.append_nil] at hsn
     focus
      refine cS (C1 V3 (cT (cw_seq (Wyo (cw_skip (qw_then (cw_seq (cw_block (cS (C1 Pi (C1 (Pws hr) ?_))))))))))); (refine lw_alloc' [_, _, _] zOk rfl rfl ?_; intro ba1 wa2 na3); (refine lw_init' [_, _, _] tabOk rfl rfl rfl rfl rfl rfl na3 rfl ?_; clear na3; clear wa2; intro wa4 na3); have ha5 := na3.blk; have xa6 := na3.ext; have pa7 := na3.pos; have za8 := na3.size; clear na3; replace hown := hown.ext xa6; replace X := X.ext xa6; replace hT := hT.ext xa6; replace hr := hr.ext xa6; clear xa6; refine cN (C1 Pg (C1 (Pl ha5) (C1 V2 (C1 Mv (Ono (Ono (Ono (C1 Qno (cT (cw_cond_f rfl (cw_skip ?_))))))))))); refine qw_block_norm (qw_then (cw_region (C1 V7 (C1 Mv (lw_nil ?_))))); rotate_left 1
     refine qw_round (j + 1, a, cap) ?_ ⟨by rw [hsn]; exact hown, X, by simp only; omega, hT⟩ (by simp only; omega); refine sub_cons' rfl (by rw [hsn]) (sub_cons rfl (sub_cons rfl (sub_cons rfl sub_nil)))
   by_cases h5 : t.kind = 5
   · rw [show (if t.kind ≠ 4 ∧ t.kind ≠ 5 then [t] else []) = [] from by simp [h5], List.append_nil] at hsn
     focus
      refine cS (C1 V3 (cT (cw_seq (Wyo (cw_skip (qw_then (cw_seq (cw_block (cS (C1 Pi (C1 (Pws hr) ?_))))))))))); (refine lw_alloc' [_, _, _] zOk rfl rfl ?_; intro bb1 wb2 nb3); (refine lw_init' [_, _, _] tabOk rfl rfl rfl rfl rfl rfl nb3 rfl ?_; clear nb3; clear wb2; intro wb4 nb3); have hb5 := nb3.blk; have xb6 := nb3.ext; have pb7 := nb3.pos; have zb8 := nb3.size; clear nb3; replace hown := hown.ext xb6; replace X := X.ext xb6; replace hT := hT.ext xb6; replace hr := hr.ext xb6; clear xb6; refine cN (C1 Pg (C1 (Pl hb5) (C1 V2 (C1 Mv (Gya (C1 Pg (Gya (C1 (Pl hb5) (Gya (C1 V2 (C1 Qya ?_))))))))))); refine cT (Wno (cw_skip (qw_block_norm (qw_then (cw_region (C1 V7 (C1 Mv (lw_nil ?_)))))))); rotate_left 1
     refine qw_round (j + 1, a, cap) ?_ ⟨by rw [hsn]; exact hown, X, by simp only; omega, hT⟩ (by simp only; omega); refine sub_cons' rfl (by rw [hsn]) (sub_cons rfl (sub_cons rfl (sub_cons rfl sub_nil)))
   · rw [show (if t.kind ≠ 4 ∧ t.kind ≠ 5 then [t] else []) = [t] from by simp [h4, h5]] at hsn
     focus
      refine cS (C1 V3 (cT (cw_seq (Wyo (cw_skip (qw_then (cw_seq (cw_block (cS (C1 Pi (C1 (Pws hr) ?_))))))))))); (refine lw_alloc' [_, _, _] zOk rfl rfl ?_; intro bc1 wc2 nc3); (refine lw_init' [_, _, _] tabOk rfl rfl rfl rfl rfl rfl nc3 rfl ?_; clear nc3; clear wc2; intro wc4 nc3); have hc5 := nc3.blk; have xc6 := nc3.ext; have pc7 := nc3.pos; have zc8 := nc3.size; clear nc3; replace hown := hown.ext xc6; replace X := X.ext xc6; replace hT := hT.ext xc6; replace hr := hr.ext xc6; clear xc6; refine cN (C1 Pg (C1 (Pl hc5) (C1 V2 (C1 Mv (Gya (C1 Pg (Gya (C1 (Pl hc5) (Gya (C1 V2 (C1 Qya ?_))))))))))); refine cT (Wya (cw_region (C1 Mv (lw_loads_b' [_, _, _] tabOk rfl rfl rfl hc5 rfl rfl rfl ?_)))); (refine lw_does (does_slice' [_, _, _] tabOk zOk rfl rfl rfl rfl rfl rfl rfl rfl rfl) rfl ?_ (fun _ h => h); rintro _ wc10 ⟨bc9, rfl, nc11, tc12⟩); clear tc12; have hc13 := nc11.blk; have xc14 := nc11.ext; have pc15 := nc11.pos; have zc16 := nc11.size; clear nc11; replace hc5 := hc5.ext xc14; replace hown := hown.ext xc14; replace X := X.ext xc14; replace hT := hT.ext xc14; replace hr := hr.ext xc14; clear xc14; refine lw_appendL (sh := tokShape) (z := t) tabOk zOk rfl rfl rfl rfl (by kernel_rfl) rfl rfl rfl hown (Blk.row (by assumption)) rfl (by omega) (by omega) rfl ?_; rintro gc17 cap'c18 wc19 hc20 fc21; have zc22 := fc21.size; clear hc13 hc5 hown; replace X := X.fr fc21 (by omega); replace hT := Toks.fr hT fc21 (fun k hk e => by have := hS k hk; omega); replace hr := Row.fr hr fc21 (by simp only; omega)
      clear fc21; refine C1 Pa (lw_nil (qw_block_norm (qw_then (cw_region (C1 V7 (C1 Mv (lw_nil ?_))))))); rotate_left 1
     refine qw_round (j + 1, some ⟨_, 0, none⟩, _) ?_ ⟨by rw [hsn]; assumption, X, by simp only; omega, hT⟩ (by simp only; omega); refine sub_cons' rfl (by rw [hsn]) (sub_cons rfl (sub_cons rfl (sub_cons rfl sub_nil)))
 · have : j = ts.length := by omega
   subst this; rw [List.take_length] at hown
   focus
    refine cS (C1 V3 (cT (cw_seq (Wno (cw_exit (qw_then_exit (qw_then_exit (qw_block_exit (qw_then (cS (C1 Mv ?_))))))))))); refine C1 Pa (cT (cw_ret (qw_ret1 rfl rfl ?_))); rotate_left 1
   rw [List.take_length]
   exact ⟨_, _, rfl, Toks.lt2 (S := (w.heap.size ≤ ·)) (OwnL.toks hown (fun b h => h)), X⟩
end Bk
