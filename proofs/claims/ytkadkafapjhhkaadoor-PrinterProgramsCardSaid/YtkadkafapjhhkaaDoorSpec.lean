/- Plain functions on trees and texts: what layers 1, 2, 3 and 5 compute (names, valid expressions and statements, the printed text). No condition. -/
import Derived.Test.YtkadkafapjhhkaaDoorBase
import Derived.Lib.ItoaNum
namespace Bk
open Go

def letter (c : UInt8) : Bool := decide (97 ≤ c.toNat) && decide (c.toNat ≤ 122)
def digit (c : UInt8) : Bool := decide (48 ≤ c.toNat) && decide (c.toNat ≤ 57)
def blank (c : UInt8) : Bool := decide (c.toNat = 32) || decide (c.toNat = 9) || decide (c.toNat = 13) || decide (c.toNat = 10)
def wordish (c : UInt8) : Bool := letter c || digit c
def notLf (c : UInt8) : Bool := !decide (c.toNat = 10)
def span (p : UInt8 → Bool) (s : List UInt8) : Nat := (s.takeWhile p).length
def keywords : List (List UInt8) := [[105, 110, 116], [97, 114, 114, 97, 121], [115, 116, 97, 99, 107], [112, 114, 111, 99], [109, 97, 105, 110], [112, 117, 115, 104], [112, 111, 112], [114, 101, 97, 100], [117, 110, 114, 101, 97, 100], [119, 114, 105, 116, 101], [117, 110, 119, 114, 105, 116, 101], [99, 97, 108, 108], [117, 110, 99, 97, 108, 108], [105, 102], [101, 108, 115, 101], [102, 105], [102, 114, 111, 109], [108, 111, 111, 112], [117, 110, 116, 105, 108], [108, 111, 99, 97, 108], [100, 101, 108, 111, 99, 97, 108], [116, 111, 112], [115, 105, 122, 101]]
def keyword (s : List UInt8) : Bool := keywords.contains s
def pairs : List (List UInt8) := [[58, 61], [43, 61], [45, 61], [94, 61], [61, 61], [33, 61], [60, 61], [62, 61], [38, 38], [124, 124]]
def singles : List UInt8 := [43, 45, 42, 47, 37, 38, 124, 94, 33, 61, 60, 62, 40, 41, 123, 125, 91, 93, 59, 44]
def signLen (s : List UInt8) : Nat :=
  if List.isPrefixOf [60, 61, 62] s then 3 else if pairs.contains (s.take 2) then 2 else if (s.head?.map (singles.contains ·)).getD false then 1 else 0
/-- The kind and the length of the first token. -/
def firstTok : List UInt8 → Nat × Nat
  | [] => (3, 0)
  | c :: r => if letter c then (1, span wordish (c :: r)) else if digit c then (2, span digit (c :: r)) else if blank c then (4, span blank (c :: r)) else if c = 35 then (5, span notLf (c :: r)) else (3, signLen (c :: r))
def isName (s : List UInt8) : Bool := !s.isEmpty && decide (s.length ≤ 16) && ((firstTok s).1 == 1) && ((firstTok s).2 == s.length) && !keyword s

def level (k : Int) : Int :=
  if k = 23 then 1 else if k = 22 then 2 else if k = 14 then 3 else if k = 15 then 4 else if k = 13 then 5
  else if 16 ≤ k ∧ k ≤ 21 then 6 else if k = 8 ∨ k = 9 then 7 else if 10 ≤ k ∧ k ≤ 12 then 8 else if k = 6 ∨ k = 7 then 9 else 0
def symbols : List (List UInt8) := [[], [], [], [], [], [], [45], [33], [43], [45], [42], [47], [37], [38], [124], [94], [61, 61], [33, 61], [60], [60, 61], [62], [62, 61], [38, 38], [124, 124], [], [], [], [], [], [], [], [], [], [], [], [], [], [], [], [], [43, 61], [45, 61], [94, 61]]
def symbol (k : Int) : List UInt8 := symbols.getD k.toNat []

def isBin (k : Int) : Bool := decide (8 ≤ k) && decide (k ≤ 23)
def named (n : Int) (s : List UInt8) : Bool := n == 0 && isName s
def plain (n : Int) (s : List UInt8) : Bool := n == 0 && s.isEmpty

def Nd.isExpr : Nd → Bool
  | .mk k n s l =>
    if k = 1 then decide (0 ≤ n) && s.isEmpty && l.isEmpty
    else if k = 2 ∨ k = 4 ∨ k = 5 then named n s && l.isEmpty
    else if k = 3 then named n s && match l with | [x] => x.isExpr | _ => false
    else if k = 6 ∨ k = 7 then plain n s && match l with | [x] => x.isExpr | _ => false
    else if 8 ≤ k ∧ k ≤ 23 then plain n s && match l with | [x, y] => x.isExpr && y.isExpr | _ => false
    else false
def Nd.isPlace (t : Nd) : Bool := (t.kind == 2 || t.kind == 3) && t.isExpr
def Nd.isVar (t : Nd) : Bool := t.kind == 2 && t.isExpr
mutual
def Nd.isStmt : Nd → Bool
  | .mk k n s l =>
    if k = 40 ∨ k = 41 ∨ k = 42 ∨ k = 56 then plain n s && match l with | [x, y] => x.isPlace && y.isExpr | _ => false
    else if k = 43 then plain n s && match l with | [x, y] => x.isPlace && y.isPlace | _ => false
    else if k = 44 ∨ k = 45 then named n s && match l with | [x] => x.isPlace | _ => false
    else if 46 ≤ k ∧ k ≤ 49 then plain n s && match l with | [x] => x.isPlace | _ => false
    else if k = 50 ∨ k = 51 then named n s && decide (l.length ≤ 8) && l.all Nd.isVar
    else if k = 52 ∨ k = 53 then plain n s && match l with | [x, y, z, u] => x.isExpr && y.isBlock && z.isBlock && u.isExpr | _ => false
    else if k = 54 then named n s && match l with | [x, y, z] => x.isExpr && y.isBlock && z.isExpr | _ => false
    else if k = 55 then named n s && match l with | [x] => x.isBlock | _ => false
    else false
def Nd.isBlock : Nd → Bool
  | .mk k n s l => k == 57 && plain n s && rowStmt l
def rowStmt : List Nd → Bool
  | [] => true
  | t :: r => t.isStmt && rowStmt r
end

def parenL (a k : Int) : Bool := isBin a && decide (level a < level k)
def parenR (a k : Int) : Bool := isBin a && decide (level a ≤ level k)
def wrap (s : List UInt8) (b : Bool) : List UInt8 := if b then [40] ++ s ++ [41] else s
def Nd.text : Nd → List UInt8
  | .mk k n s l =>
    if k = 1 then Lib.itoa n else if k = 2 then s
    else if k = 3 then match l with | [x] => s ++ [91] ++ x.text ++ [93] | _ => []
    else if k = 4 then [116, 111, 112, 40] ++ s ++ [41] else if k = 5 then [115, 105, 122, 101, 40] ++ s ++ [41]
    else if k = 6 ∨ k = 7 then match l with | [x] => symbol k ++ wrap x.text (isBin x.kind) | _ => []
    else match l with
      | [x, y] => wrap x.text (parenL x.kind k) ++ [32] ++ symbol k ++ [32] ++ wrap y.text (parenR y.kind k)
      | _ => []
end Bk
