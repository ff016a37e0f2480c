/- Plain functions: the printed text of statements, blocks, declarations and programs. No condition. -/
import Derived.Test.YtkadkafapjhhkaaDoorSpec
namespace Bk
open Go
def kword (k : Int) : List UInt8 :=
  if k = 44 then [112, 117, 115, 104, 32] else if k = 45 then [112, 111, 112, 32] else if k = 46 then [114, 101, 97, 100, 32] else if k = 47 then [117, 110, 114, 101, 97, 100, 32] else if k = 48 then [119, 114, 105, 116, 101, 32] else if k = 49 then [117, 110, 119, 114, 105, 116, 101, 32]
  else if k = 50 then [99, 97, 108, 108, 32] else if k = 51 then [117, 110, 99, 97, 108, 108, 32] else if k = 52 then [105, 102, 32] else if k = 53 then [102, 114, 111, 109, 32] else if k = 54 then [108, 111, 99, 97, 108, 32] else if k = 55 then [108, 111, 99, 97, 108, 32, 115, 116, 97, 99, 107, 32] else []
def updSign (k : Int) : List UInt8 := if k = 56 then [58, 61] else if k = 43 then [60, 61, 62] else symbol k
def tabT (d : Nat) : List UInt8 := List.replicate d 9
/-- Names with commas between them; first: nothing stands before. -/
def argsT : Bool → List Nd → List UInt8
  | _, [] => []
  | first, t :: r => (if first then [] else [44, 32]) ++ t.text ++ argsT false r
mutual
/-- A statement without its indentation and its semicolon. -/
def Nd.stmtT : Nd → Nat → List UInt8
  | .mk k _ s l, d =>
    if k = 40 ∨ k = 41 ∨ k = 42 ∨ k = 56 ∨ k = 43 then match l with | [x, y] => x.text ++ [32] ++ updSign k ++ [32] ++ y.text | _ => []
    else if k = 44 ∨ k = 45 then match l with | [x] => kword k ++ x.text ++ [44, 32] ++ s | _ => []
    else if 46 ≤ k ∧ k ≤ 49 then match l with | [x] => kword k ++ x.text | _ => []
    else if k = 50 ∨ k = 51 then kword k ++ s ++ [40] ++ argsT true l ++ [41]
    else if k = 52 then match l with | [x, y, z, u] => kword k ++ x.text ++ ([32, 123, 10] ++ y.linesT (d + 1) ++ tabT d ++ [125]) ++ [32, 101, 108, 115, 101] ++ ([32, 123, 10] ++ z.linesT (d + 1) ++ tabT d ++ [125]) ++ [32, 102, 105, 32] ++ u.text | _ => []
    else if k = 53 then match l with | [x, y, z, u] => kword k ++ x.text ++ ([32, 123, 10] ++ y.linesT (d + 1) ++ tabT d ++ [125]) ++ [32, 108, 111, 111, 112] ++ ([32, 123, 10] ++ z.linesT (d + 1) ++ tabT d ++ [125]) ++ [32, 117, 110, 116, 105, 108, 32] ++ u.text | _ => []
    else if k = 54 then match l with | [x, y, z] => kword k ++ s ++ [32, 61, 32] ++ x.text ++ ([32, 123, 10] ++ y.linesT (d + 1) ++ tabT d ++ [125]) ++ [32, 100, 101, 108, 111, 99, 97, 108, 32] ++ z.text | _ => []
    else if k = 55 then match l with | [x] => kword k ++ s ++ ([32, 123, 10] ++ x.linesT (d + 1) ++ tabT d ++ [125]) | _ => []
    else []
def Nd.linesT : Nd → Nat → List UInt8
  | .mk _ _ _ l, d => rowLines l d
def rowLines : List Nd → Nat → List UInt8
  | [], _ => []
  | t :: r, d => tabT d ++ t.stmtT d ++ [59, 10] ++ rowLines r d
end
def bracesT (t : Nd) (d : Nat) : List UInt8 := [32, 123, 10] ++ t.linesT (d + 1) ++ tabT d ++ [125]
end Bk
