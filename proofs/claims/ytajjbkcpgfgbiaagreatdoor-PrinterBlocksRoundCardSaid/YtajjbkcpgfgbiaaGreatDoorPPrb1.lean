/- Texts that the proofs of PrinterBlocksRound need. No condition. (Part 1 of 7.) -/
import Derived.WalkKit
import Derived.Lib.Hide
import Derived.Lib.ItoaNum
import Derived.Test.YtajjbkcpgfgbiaaGreatDoorProg
import Derived.Shelf.Strings.Builder1
import Derived.Shelf.Small.Strs
import Derived.Shelf.Strings.BuilderF
import Derived.Shelf.Strings.BuilderK
import Derived.Shelf.Strconv.Atoi
import Derived.Shelf.Strconv.Itoa0
import Derived.Shelf.Strconv.Itoa1
import Derived.Shelf.LaysM
import Derived.Shelf.Strconv.Itoa2
import Derived.Shelf.Strconv.Itoa3
import Derived.Shelf.Strconv.AtoiErrFast
import Derived.Shelf.Strconv.ParseIntEmpty
import Derived.Shelf.Strconv.AtoiFail
import Derived.Shelf.Strconv.Clone
import Derived.Shelf.Strconv.SyntaxError
import Derived.Shelf.LaysC
import Derived.Shelf.Strconv.ToError
import Derived.Shelf.Strconv.Lower
import Derived.Shelf.Strconv.ParseUint10
import Derived.Shelf.Strconv.ParseUint10Empty
import Derived.Shelf.Strconv.ParseUint10Any
import Derived.Shelf.Strconv.ParseInt10
import Derived.Shelf.Strconv.AtoiLong
import Derived.Shelf.Strconv.AtoiInnerAll
import Derived.Shelf.Strconv.RangeError
import Derived.Shelf.Strconv.ToErrorRange
import Derived.Shelf.Strconv.AtoiAll
import Derived.Shelf.Strconv.ErrVarAll
import Derived.Shelf.Strings.Search1
import Derived.Shelf.Strings.Prefix
import Derived.Shelf.Strings.BuilderCap
import Derived.Sort.Grow
import Derived.Lib.AppendIntMem
import Derived.Deep.RegionHeld3
import Derived.Deep.DeepCutAuto
import Derived.Lib.ItoaLen
import Derived.Orders
import Derived.OrdersHeld
import Derived.Laws.AppendOwn
import Derived.IntWalk
import Derived.Laws.OwnMore
import Derived.Lib.AtoiAll
import Derived.Lib.AtoiErrMem
import Derived.Great.BuildSlice
import Derived.Laws.StructEq
import Derived.ChangeArms
import Derived.Test.YtajjbkcpgfgbiaaGreatDoorRows
import Derived.Lib.LaidTab
import Derived.FnData
import Derived.LaidLaws
import Derived.ProofKit
import Derived.OpenShut
import Derived.Deep.DeepHandedRow
import Derived.ChangeMaps5
set_option linter.unusedSimpArgs false
set_option linter.unusedVariables false
namespace Bk
open Go Go.RowKit
def Ext (w w' : World) : Prop := Below w.heap.size w w'
theorem Ext.refl (w : World) : Ext w w := Below.refl _ _
theorem Ext.trans {a b c : World} (h : Ext a b) (k : Ext b c) : Ext a c := Below.trans h (Below.mono k h.size)
theorem Ext.alloc {a w : World} (h : Ext a w) (o : Obj) : Ext a (w.alloc o) := Below.alloc h h.size o
theorem Ext.drew {a w : World} (h : Ext a w) : Ext a w.drew := Below.drew h
theorem Ext.setCell {a w : World} (h : Ext a w) (p : Addr) (v : Value) (hp : a.heap.size ≤ p.block) : Ext a (w.setCell p v) := Below.setCell h hp v
theorem Ext.size {a w : World} (h : Ext a w) : a.heap.size ≤ w.heap.size := Below.size h
theorem Ext.block {a w : World} (h : Ext a w) {k : Nat} (hk : k < a.heap.size) : w.heap[k]? = a.heap[k]? := Below.block h k hk
theorem Ext.cells {a w : World} (h : Ext a w) : ∀ b o, b < a.heap.size → w.cell? ⟨b, o, none⟩ = a.cell? ⟨b, o, none⟩ := fun b o hb => Below.cell (p := ⟨b, o, none⟩) h hb
theorem cell_lt {w : World} {p : Addr} {v : Value} (h : w.cell? p = some v) : p.block < w.heap.size := by
 unfold World.cell? at h
 rcases Nat.lt_or_ge p.block w.heap.size with h' | h'
 · exact h'
 · simp [Array.getElem?_eq_none h'] at h
theorem Ext.keep {a w : World} (h : Ext a w) {b o : Nat} {v : Value} (hc : a.cell? ⟨b, o, none⟩ = some v) : w.cell? ⟨b, o, none⟩ = some v :=
 (h.cells b o (cell_lt hc)).trans hc
inductive Nd where
 | mk (kind num : Int) (name : List UInt8) (kids : List Nd)
def Nd.kind : Nd → Int | .mk k _ _ _ => k
def Nd.num : Nd → Int | .mk _ n _ _ => n
def Nd.name : Nd → List UInt8 | .mk _ _ s _ => s
def Nd.kids : Nd → List Nd | .mk _ _ _ l => l
abbrev str (l : List UInt8) : Value := .string ⟨l.toArray⟩
abbrev Nd.val (t : Nd) (a : Option Addr) (c : Nat) : Value := .agg #[.int .u8 t.kind, .int .i64 t.num, str t.name, .slice a t.kids.length c]
abbrev Nd.cells (t : Nd) (a : Option Addr) (c : Nat) : List Value := [.int .u8 t.kind, .int .i64 t.num, str t.name, .slice a t.kids.length c]
mutual
def Nd.sits (S : Nat → Prop) (w : World) : Nd → Option Addr → Prop
 | .mk _ _ _ l, a => rowSits S w l a
def rowSits (S : Nat → Prop) (w : World) : List Nd → Option Addr → Prop
 | [], _ => True
 | t :: r, a => ∃ b o a' c, a = some ⟨b, o, none⟩ ∧ S b ∧ w.cell? ⟨b, o, none⟩ = some (.int .u8 t.kind) ∧ w.cell? ⟨b, o + 1, none⟩ = some (.int .i64 t.num) ∧
  w.cell? ⟨b, o + 2, none⟩ = some (str t.name) ∧ w.cell? ⟨b, o + 3, none⟩ = some (.slice a' t.kids.length c) ∧ t.sits S w a' ∧ rowSits S w r (some ⟨b, o + 4, none⟩)
end
mutual
def Nd.wf : Nd → Prop
 | .mk k n s l => 0 ≤ k ∧ k ≤ 255 ∧ -9223372036854775808 ≤ n ∧ n ≤ 9223372036854775807 ∧ s.length ≤ 9223372036854775807 ∧ l.length ≤ 9223372036854775807 ∧ rowWf l
def rowWf : List Nd → Prop
 | [] => True
 | t :: r => t.wf ∧ rowWf r
end
mutual
def Nd.size : Nd → Nat
 | .mk _ _ _ l => 1 + rowSize l
def rowSize : List Nd → Nat
 | [] => 0
 | t :: r => t.size + rowSize r
end
theorem rowWf_get {l : List Nd} (h : rowWf l) : ∀ t ∈ l, t.wf := by
 induction l with
 | nil => simp
 | cons x r ih =>
  simp only [rowWf] at h
  intro t ht
  rcases List.mem_cons.1 ht with rfl | ht
  · exact h.1
  · exact ih h.2 t ht
theorem size_mem {l : List Nd} {t : Nd} (h : t ∈ l) : t.size ≤ rowSize l := by
 induction l with
 | nil => cases h
 | cons x r ih =>
  simp only [rowSize]
  rcases List.mem_cons.1 h with rfl | h
  · omega
  · have := ih h; omega
theorem Nd.size_pos (t : Nd) : 1 ≤ t.size := by cases t; simp [Nd.size]
theorem rowSits_get {S : Nat → Prop} {w : World} {l : List Nd} {a : Option Addr} (h : rowSits S w l a) {i : Nat} {t : Nd} (ht : l[i]? = some t) :
 ∃ b o a' c, a = some ⟨b, o, none⟩ ∧ S b ∧ w.cell? ⟨b, o + i * 4, none⟩ = some (.int .u8 t.kind) ∧ w.cell? ⟨b, o + i * 4 + 1, none⟩ = some (.int .i64 t.num) ∧
  w.cell? ⟨b, o + i * 4 + 2, none⟩ = some (str t.name) ∧ w.cell? ⟨b, o + i * 4 + 3, none⟩ = some (.slice a' t.kids.length c) ∧ t.sits S w a' := by
 induction l generalizing i a with
 | nil => simp at ht
 | cons x r ih =>
  simp only [rowSits] at h
  obtain ⟨b, o, a', c, rfl, hS, h0, h1, h2, h3, hs, hr⟩ := h
  cases i with
  | zero =>
   simp at ht
   subst ht
   exact ⟨b, o, a', c, rfl, hS, h0, h1, h2, h3, hs⟩
  | succ i =>
   obtain ⟨b', o', a'', c', he, r⟩ := ih hr (by simpa using ht)
   simp only [Option.some.injEq, Addr.mk.injEq] at he
   obtain ⟨rfl, rfl, -⟩ := he
   refine ⟨b, o, a'', c', rfl, r.1, ?_⟩
   rw [show o + (i + 1) * 4 = o + 4 + i * 4 from by omega]
   exact r.2
mutual
theorem Nd.sits_mono {S S' : Nat → Prop} {w w' : World} (hS : ∀ b, S b → S' b) (hc : ∀ b o v, S b → w.cell? ⟨b, o, none⟩ = some v → w'.cell? ⟨b, o, none⟩ = some v) :
 ∀ (t : Nd) (a : Option Addr), t.sits S w a → t.sits S' w' a
 | .mk _ _ _ l, a, h => by
  simp only [Nd.sits] at h ⊢
  exact rowSits_mono hS hc l a h
theorem rowSits_mono {S S' : Nat → Prop} {w w' : World} (hS : ∀ b, S b → S' b) (hc : ∀ b o v, S b → w.cell? ⟨b, o, none⟩ = some v → w'.cell? ⟨b, o, none⟩ = some v) :
 ∀ (l : List Nd) (a : Option Addr), rowSits S w l a → rowSits S' w' l a
 | [], _, _ => by simp [rowSits]
 | t :: r, a, h => by
  simp only [rowSits] at h ⊢
  obtain ⟨b, o, a', c, rfl, hb, h0, h1, h2, h3, hs, hr⟩ := h
  exact ⟨b, o, a', c, rfl, hS b hb, hc _ _ _ hb h0, hc _ _ _ hb h1, hc _ _ _ hb h2, hc _ _ _ hb h3, Nd.sits_mono hS hc t a' hs, rowSits_mono hS hc r _ hr⟩
end
theorem rowSits.ext {S : Nat → Prop} {w w' : World} {l : List Nd} {a : Option Addr} (h : rowSits S w l a) (e : Ext w w') : rowSits S w' l a :=
 rowSits_mono (fun _ h => h) (fun _ _ _ _ hc => e.keep hc) l a h
theorem Nd.sits.ext {S : Nat → Prop} {w w' : World} {t : Nd} {a : Option Addr} (h : t.sits S w a) (e : Ext w w') : t.sits S w' a :=
 Nd.sits_mono (fun _ h => h) (fun _ _ _ _ hc => e.keep hc) t a h
structure Fr (S : Nat → Prop) (w w' : World) : Prop where
 os : w'.os = w.os
 tape : w'.tape = w.tape
 output : w'.output = w.output
 size : w.heap.size ≤ w'.heap.size
 block : ∀ k, k < w.heap.size → ¬ S k → w'.heap[k]? = w.heap[k]?
theorem Fr.refl (S : Nat → Prop) (w : World) : Fr S w w := ⟨rfl, rfl, rfl, Nat.le_refl _, fun _ _ _ => rfl⟩
theorem Fr.trans {S : Nat → Prop} {a b c : World} (h : Fr S a b) (k : Fr S b c) : Fr S a c :=
 ⟨k.os.trans h.os, k.tape.trans h.tape, k.output.trans h.output, Nat.le_trans h.size k.size, fun i hi hs => (k.block i (Nat.lt_of_lt_of_le hi h.size) hs).trans (h.block i hi hs)⟩
theorem Fr.of_ext {S : Nat → Prop} {a b : World} (h : Ext a b) : Fr S a b := ⟨Below.os h, Below.tape h, Below.output h, Below.size h, fun k hk _ => Below.block h k hk⟩
theorem Fr.alloc {S : Nat → Prop} {a w : World} (h : Fr S a w) (o : Obj) : Fr S a (w.alloc o) := h.trans (.of_ext ((Ext.refl w).alloc o))
theorem Fr.drew {S : Nat → Prop} {a w : World} (h : Fr S a w) : Fr S a w.drew := h.trans (.of_ext (Ext.refl w).drew)
theorem Fr.setCell {S : Nat → Prop} {a w : World} (h : Fr S a w) (p : Addr) (v : Value) (hp : S p.block ∨ a.heap.size ≤ p.block) : Fr S a (w.setCell p v) := by
 refine ⟨h.os, h.tape, h.output, ?_, fun k hk hs => ?_⟩
 · have : (w.setCell p v).heap.size = w.heap.size := by simp [World.setCell]
   rw [this]; exact h.size
 · rw [Below.heap_setCell _ _ _ _ (by rintro rfl; rcases hp with hp | hp; exact hs hp; omega)]
   exact h.block k hk hs
theorem Fr.cells {S : Nat → Prop} {a w : World} (h : Fr S a w) : ∀ b o, b < a.heap.size → ¬ S b → w.cell? ⟨b, o, none⟩ = a.cell? ⟨b, o, none⟩ :=
 fun b _ hb hs => World.cell?_of_block (w := a) (h.block b hb hs)
theorem Fr.keep {S : Nat → Prop} {a w : World} (h : Fr S a w) {b o : Nat} {v : Value} (hs : ¬ S b) (hc : a.cell? ⟨b, o, none⟩ = some v) : w.cell? ⟨b, o, none⟩ = some v :=
 (h.cells b o (cell_lt hc) hs).trans hc
theorem rowSits.fr {S T : Nat → Prop} {w w' : World} {l : List Nd} {a : Option Addr} (h : rowSits S w l a) (e : Fr T w w') (hd : ∀ b, S b → ¬ T b) : rowSits S w' l a :=
 rowSits_mono (fun _ h => h) (fun b _ _ hb hc => e.keep (hd b hb) hc) l a h
theorem Nd.sits.fr {S T : Nat → Prop} {w w' : World} {t : Nd} {a : Option Addr} (h : t.sits S w a) (e : Fr T w w') (hd : ∀ b, S b → ¬ T b) : t.sits S w' a :=
 Nd.sits_mono (fun _ h => h) (fun b _ _ hb hc => e.keep (hd b hb) hc) t a h
end Bk
namespace Bk
open Go
def letter (c : UInt8) : Bool := decide (97 ≤ c.toNat) && decide (c.toNat ≤ 122)
def digit (c : UInt8) : Bool := decide (48 ≤ c.toNat) && decide (c.toNat ≤ 57)
def blank (c : UInt8) : Bool := decide (c.toNat = 32) || decide (c.toNat = 9) || decide (c.toNat = 13) || decide (c.toNat = 10)
def wordish (c : UInt8) : Bool := letter c || digit c
def notLf (c : UInt8) : Bool := !decide (c.toNat = 10)
def span (p : UInt8 → Bool) (s : List UInt8) : Nat := (s.takeWhile p).length
def keywords : List (List UInt8) := [[105, 110, 116], [97, 114, 114, 97, 121], [115, 116, 97, 99, 107], [112, 114, 111, 99], [109, 97, 105, 110], [112, 117, 115, 104], [112, 111, 112], [114, 101, 97, 100], [117, 110, 114, 101, 97, 100], [119, 114, 105, 116, 101], [117, 110, 119, 114, 105, 116, 101], [99, 97, 108, 108], [117, 110, 99, 97, 108, 108], [105, 102], [101, 108, 115, 101], [102, 105], [102, 114, 111, 109], [108, 111, 111, 112], [117, 110, 116, 105, 108], [108, 111, 99, 97, 108], [100, 101, 108, 111, 99, 97, 108], [116, 111, 112], [115, 105, 122, 101]]
def keyword (s : List UInt8) : Bool := keywords.contains s
def pairs : List (List UInt8) := [[58, 61], [43, 61], [45, 61], [94, 61], [61, 61], [33, 61], [60, 61], [62, 61], [38, 38], [124, 124]]
def singles : List UInt8 := [43, 45, 42, 47, 37, 38, 124, 94, 33, 61, 60, 62, 40, 41, 123, 125, 91, 93, 59, 44]
def signLen (s : List UInt8) : Nat :=
 if List.isPrefixOf [60, 61, 62] s then 3 else if pairs.contains (s.take 2) then 2 else if (s.head?.map (singles.contains ·)).getD false then 1 else 0
def firstTok : List UInt8 → Nat × Nat
 | [] => (3, 0)
 | c :: r => if letter c then (1, span wordish (c :: r)) else if digit c then (2, span digit (c :: r)) else if blank c then (4, span blank (c :: r)) else if c = 35 then (5, span notLf (c :: r)) else (3, signLen (c :: r))
def isName (s : List UInt8) : Bool := !s.isEmpty && decide (s.length ≤ 16) && ((firstTok s).1 == 1) && ((firstTok s).2 == s.length) && !keyword s
def level (k : Int) : Int :=
 if k = 23 then 1 else if k = 22 then 2 else if k = 14 then 3 else if k = 15 then 4 else if k = 13 then 5
 else if 16 ≤ k ∧ k ≤ 21 then 6 else if k = 8 ∨ k = 9 then 7 else if 10 ≤ k ∧ k ≤ 12 then 8 else if k = 6 ∨ k = 7 then 9 else 0
def symbols : List (List UInt8) := [[], [], [], [], [], [], [45], [33], [43], [45], [42], [47], [37], [38], [124], [94], [61, 61], [33, 61], [60], [60, 61], [62], [62, 61], [38, 38], [124, 124], [], [], [], [], [], [], [], [], [], [], [], [], [], [], [], [], [43, 61], [45, 61], [94, 61]]
def symbol (k : Int) : List UInt8 := symbols.getD k.toNat []
def isBin (k : Int) : Bool := decide (8 ≤ k) && decide (k ≤ 23)
def named (n : Int) (s : List UInt8) : Bool := n == 0 && isName s
def plain (n : Int) (s : List UInt8) : Bool := n == 0 && s.isEmpty
def Nd.isExpr : Nd → Bool
 | .mk k n s l =>
  if k = 1 then decide (0 ≤ n) && s.isEmpty && l.isEmpty
  else if k = 2 ∨ k = 4 ∨ k = 5 then named n s && l.isEmpty
  else if k = 3 then named n s && match l with | [x] => x.isExpr | _ => false
  else if k = 6 ∨ k = 7 then plain n s && match l with | [x] => x.isExpr | _ => false
  else if 8 ≤ k ∧ k ≤ 23 then plain n s && match l with | [x, y] => x.isExpr && y.isExpr | _ => false
  else false
def Nd.isPlace (t : Nd) : Bool := (t.kind == 2 || t.kind == 3) && t.isExpr
def Nd.isVar (t : Nd) : Bool := t.kind == 2 && t.isExpr
mutual
def Nd.isStmt : Nd → Bool
 | .mk k n s l =>
  if k = 40 ∨ k = 41 ∨ k = 42 ∨ k = 56 then plain n s && match l with | [x, y] => x.isPlace && y.isExpr | _ => false
  else if k = 43 then plain n s && match l with | [x, y] => x.isPlace && y.isPlace | _ => false
  else if k = 44 ∨ k = 45 then named n s && match l with | [x] => x.isPlace | _ => false
  else if 46 ≤ k ∧ k ≤ 49 then plain n s && match l with | [x] => x.isPlace | _ => false
  else if k = 50 ∨ k = 51 then named n s && decide (l.length ≤ 8) && l.all Nd.isVar
  else if k = 52 ∨ k = 53 then plain n s && match l with | [x, y, z, u] => x.isExpr && y.isBlock && z.isBlock && u.isExpr | _ => false
  else if k = 54 then named n s && match l with | [x, y, z] => x.isExpr && y.isBlock && z.isExpr | _ => false
  else if k = 55 then named n s && match l with | [x] => x.isBlock | _ => false
  else false
def Nd.isBlock : Nd → Bool
 | .mk k n s l => k == 57 && plain n s && rowStmt l
def rowStmt : List Nd → Bool
 | [] => true
 | t :: r => t.isStmt && rowStmt r
end
def parenL (a k : Int) : Bool := isBin a && decide (level a < level k)
def parenR (a k : Int) : Bool := isBin a && decide (level a ≤ level k)
def wrap (s : List UInt8) (b : Bool) : List UInt8 := if b then [40] ++ s ++ [41] else s
def Nd.text : Nd → List UInt8
 | .mk k n s l =>
  if k = 1 then Lib.itoa n else if k = 2 then s
  else if k = 3 then match l with | [x] => s ++ [91] ++ x.text ++ [93] | _ => []
  else if k = 4 then [116, 111, 112, 40] ++ s ++ [41] else if k = 5 then [115, 105, 122, 101, 40] ++ s ++ [41]
  else if k = 6 ∨ k = 7 then match l with | [x] => symbol k ++ wrap x.text (isBin x.kind) | _ => []
  else match l with
   | [x, y] => wrap x.text (parenL x.kind k) ++ [32] ++ symbol k ++ [32] ++ wrap y.text (parenR y.kind k)
   | _ => []
end Bk
namespace Bk
open Go
def kword (k : Int) : List UInt8 :=
 if k = 44 then [112, 117, 115, 104, 32] else if k = 45 then [112, 111, 112, 32] else if k = 46 then [114, 101, 97, 100, 32] else if k = 47 then [117, 110, 114, 101, 97, 100, 32] else if k = 48 then [119, 114, 105, 116, 101, 32] else if k = 49 then [117, 110, 119, 114, 105, 116, 101, 32]
 else if k = 50 then [99, 97, 108, 108, 32] else if k = 51 then [117, 110, 99, 97, 108, 108, 32] else if k = 52 then [105, 102, 32] else if k = 53 then [102, 114, 111, 109, 32] else if k = 54 then [108, 111, 99, 97, 108, 32] else if k = 55 then [108, 111, 99, 97, 108, 32, 115, 116, 97, 99, 107, 32] else []
def updSign (k : Int) : List UInt8 := if k = 56 then [58, 61] else if k = 43 then [60, 61, 62] else symbol k
def tabT (d : Nat) : List UInt8 := List.replicate d 9
def argsT : Bool → List Nd → List UInt8
 | _, [] => []
 | first, t :: r => (if first then [] else [44, 32]) ++ t.text ++ argsT false r
mutual
def Nd.stmtT : Nd → Nat → List UInt8
 | .mk k _ s l, d =>
  if k = 40 ∨ k = 41 ∨ k = 42 ∨ k = 56 ∨ k = 43 then match l with | [x, y] => x.text ++ [32] ++ updSign k ++ [32] ++ y.text | _ => []
  else if k = 44 ∨ k = 45 then match l with | [x] => kword k ++ x.text ++ [44, 32] ++ s | _ => []
  else if 46 ≤ k ∧ k ≤ 49 then match l with | [x] => kword k ++ x.text | _ => []
  else if k = 50 ∨ k = 51 then kword k ++ s ++ [40] ++ argsT true l ++ [41]
  else if k = 52 then match l with | [x, y, z, u] => kword k ++ x.text ++ ([32, 123, 10] ++ y.linesT (d + 1) ++ tabT d ++ [125]) ++ [32, 101, 108, 115, 101] ++ ([32, 123, 10] ++ z.linesT (d + 1) ++ tabT d ++ [125]) ++ [32, 102, 105, 32] ++ u.text | _ => []
  else if k = 53 then match l with | [x, y, z, u] => kword k ++ x.text ++ ([32, 123, 10] ++ y.linesT (d + 1) ++ tabT d ++ [125]) ++ [32, 108, 111, 111, 112] ++ ([32, 123, 10] ++ z.linesT (d + 1) ++ tabT d ++ [125]) ++ [32, 117, 110, 116, 105, 108, 32] ++ u.text | _ => []
  else if k = 54 then match l with | [x, y, z] => kword k ++ s ++ [32, 61, 32] ++ x.text ++ ([32, 123, 10] ++ y.linesT (d + 1) ++ tabT d ++ [125]) ++ [32, 100, 101, 108, 111, 99, 97, 108, 32] ++ z.text | _ => []
  else if k = 55 then match l with | [x] => kword k ++ s ++ ([32, 123, 10] ++ x.linesT (d + 1) ++ tabT d ++ [125]) | _ => []
  else []
def Nd.linesT : Nd → Nat → List UInt8
 | .mk _ _ _ l, d => rowLines l d
def rowLines : List Nd → Nat → List UInt8
 | [], _ => []
 | t :: r, d => tabT d ++ t.stmtT d ++ [59, 10] ++ rowLines r d
end
def bracesT (t : Nd) (d : Nat) : List UInt8 := [32, 123, 10] ++ t.linesT (d + 1) ++ tabT d ++ [125]
end Bk
namespace Go.Proofs
open Go.Shelf
def Tryz.lays169_ren : Go.Shelf.Ren := ⟨fun | 169 => 30 | n => n, fun | 70 => 52 | 9 => 9 | 0 => 0 | 72 => 55 | 37 => 53 | 127 => 89 | 3 => 3 | 5 => 5 | n => n, fun | n => n⟩
theorem Tryz.lays169 : Go.Proofs.Lays.n169 Tryz.prog Tryz.lays169_ren := {
 mixed := by kernel_rfl
 f169 := Tryz.func30.trans (congrArg some (by kernel_rfl))
 t0 := Tryz.underlying0
 a0 := Tryz.isAgg0
 z0 := Tryz.sizeOf0
 v0 := Tryz.zeroValue0
 t3 := Tryz.underlying3
 a3 := Tryz.isAgg3
 z3 := Tryz.sizeOf3
 v3 := Tryz.zeroValue3
 t9 := Tryz.underlying9
 a9 := Tryz.isAgg9
 z9 := Tryz.sizeOf9
 v9 := Tryz.zeroValue9
 t37 := Tryz.underlying53
 a37 := Tryz.isAgg53
 z37 := Tryz.sizeOf53
 v37 := Tryz.zeroValue53
 t70 := Tryz.underlying52
 a70 := Tryz.isAgg52
 z70 := Tryz.sizeOf52
 v70 := Tryz.zeroValue52
 t72 := Tryz.underlying55
 a72 := Tryz.isAgg55
 z72 := Tryz.sizeOf55
 v72 := Tryz.zeroValue55
 t127 := Tryz.underlying89
 a127 := Tryz.isAgg89
 z127 := Tryz.sizeOf89
 v127 := Tryz.zeroValue89 }
theorem Tryz.Builder_Extra_169 : Builder.Extra Tryz.prog Tryz.lays169_ren := {
 sizeBuilder := by kernel_rfl
 liesBuilder := by kernel_rfl
 t5 := Tryz.underlying5
 a5 := Tryz.isAgg5
 z5 := Tryz.sizeOf5
 v5 := Tryz.zeroValue5
 infoByte := by kernel_rfl
 cellsByte := by kernel_rfl
 sizeByte := by kernel_rfl
 neB5 := by decide }
open Go.RowKit in
theorem Tryz.Builder_String (B b : Nat) (l : List UInt8) (w : World) (h : Lib.IsBuilder 55 5 B b (Lib.byteCells l) w) (h0 : l ≠ []) :
 Calls Tryz.prog 30 #[.pointer (some ⟨b, 0, none⟩)] w fun e w' => e = .returned (.string ⟨l.toArray⟩) ∧ Below B w w' := Any.Builder_String Tryz.lays169 Tryz.Builder_Extra_169 B b l w h h0
open Go.RowKit in
theorem Tryz.Builder_String_empty (B b : Nat) (w : World) (h : Lib.IsBuilder 55 5 B b [] w) (hBw : B ≤ w.heap.size) :
 Calls Tryz.prog 30 #[.pointer (some ⟨b, 0, none⟩)] w fun e w' => e = .returned (.string ⟨#[]⟩) ∧ Below B w w' := Any.Builder_String_empty Tryz.lays169 Tryz.Builder_Extra_169 B b w h hBw
open Go.RowKit in
theorem Tryz.Builder_String_any (B b : Nat) (l : List UInt8) (w : World) (h : Lib.IsBuilder 55 5 B b (Lib.byteCells l) w) (hBw : B ≤ w.heap.size) :
 Calls Tryz.prog 30 #[.pointer (some ⟨b, 0, none⟩)] w fun e w' => e = .returned (.string ⟨l.toArray⟩) ∧ Below B w w' := Any.Builder_String_any Tryz.lays169 Tryz.Builder_Extra_169 B b l w h hBw
def Tryz.lays137_ren : Go.Shelf.Ren := ⟨fun | 137 => 108 | 217 => 116 | 266 => 124 | n => n, fun | 9 => 9 | 5 => 5 | 3 => 3 | n => n, fun | n => n⟩
theorem Tryz.lays137 : Go.Proofs.Lays.n137 Tryz.prog Tryz.lays137_ren := {
 mixed := by kernel_rfl
 f137 := Tryz.func108.trans (congrArg some (by kernel_rfl))
 f217 := Tryz.func116.trans (congrArg some (by kernel_rfl))
 f266 := Tryz.func124.trans (congrArg some (by kernel_rfl))
 t3 := Tryz.underlying3
 a3 := Tryz.isAgg3
 z3 := Tryz.sizeOf3
 v3 := Tryz.zeroValue3
 t5 := Tryz.underlying5
 a5 := Tryz.isAgg5
 z5 := Tryz.sizeOf5
 v5 := Tryz.zeroValue5
 t9 := Tryz.underlying9
 a9 := Tryz.isAgg9
 z9 := Tryz.sizeOf9
 v9 := Tryz.zeroValue9 }
open Go.RowKit in
theorem Tryz.strings_IndexByte (s : ByteArray) (c : Int) (w : World) :
 Calls Tryz.prog 108 #[.string s, .int .u8 c] w fun e w' => e = .returned (.int .i64 (Lib.indexByte s.data.toList c.toNat.toUInt8)) ∧ w' = w := Any.strings_IndexByte Tryz.lays137 s c w
open Go.RowKit in
theorem Tryz.Builder_String_f (B b : Nat) (l : List UInt8) (w : World) (h : Lib.IsBuilderF 55 5 B b (Lib.byteCells l) w) (h0 : l ≠ []) :
 Calls Tryz.prog 30 #[.pointer (some ⟨b, 0, none⟩)] w fun e w' => e = .returned (.string ⟨l.toArray⟩) ∧ (Lib.IsBuilderF 55 5 B b (Lib.byteCells l) w' ∧ Below B w w') := Any.Builder_String_f Tryz.lays169 Tryz.Builder_Extra_169 B b l w h h0
open Go.RowKit in
theorem Tryz.Builder_String_empty_f (B b : Nat) (w : World) (h : Lib.IsBuilderF 55 5 B b [] w) (hBw : B ≤ w.heap.size) :
 Calls Tryz.prog 30 #[.pointer (some ⟨b, 0, none⟩)] w fun e w' => e = .returned (.string ⟨#[]⟩) ∧ (Lib.IsBuilderF 55 5 B b [] w' ∧ Below B w w') := Any.Builder_String_empty_f Tryz.lays169 Tryz.Builder_Extra_169 B b w h hBw
open Go.RowKit in
theorem Tryz.Builder_String_any_f (B b : Nat) (l : List UInt8) (w : World) (h : Lib.IsBuilderF 55 5 B b (Lib.byteCells l) w) (hBw : B ≤ w.heap.size) :
 Calls Tryz.prog 30 #[.pointer (some ⟨b, 0, none⟩)] w fun e w' => e = .returned (.string ⟨l.toArray⟩) ∧ (Lib.IsBuilderF 55 5 B b (Lib.byteCells l) w' ∧ Below B w w') := Any.Builder_String_any_f Tryz.lays169 Tryz.Builder_Extra_169 B b l w h hBw
open Go.RowKit in
theorem Tryz.Builder_String_k (B b : Nat) (l : List UInt8) (w : World) (h : Lib.IsBuilderF 55 5 B b (Lib.byteCells l) w) (h0 : l ≠ []) :
 Calls Tryz.prog 30 #[.pointer (some ⟨b, 0, none⟩)] w fun e w' => e = .returned (.string ⟨l.toArray⟩) ∧ (Lib.IsBuilderF 55 5 B b (Lib.byteCells l) w' ∧ Below B w w' ∧ Lib.OthersKept 5 (some b) w w') := Any.Builder_String_k Tryz.lays169 Tryz.Builder_Extra_169 B b l w h h0
open Go.RowKit in
theorem Tryz.Builder_String_empty_k (B b : Nat) (w : World) (h : Lib.IsBuilderF 55 5 B b [] w) (hBw : B ≤ w.heap.size) :
 Calls Tryz.prog 30 #[.pointer (some ⟨b, 0, none⟩)] w fun e w' => e = .returned (.string ⟨#[]⟩) ∧ (Lib.IsBuilderF 55 5 B b [] w' ∧ Below B w w' ∧ Lib.OthersKept 5 (some b) w w') := Any.Builder_String_empty_k Tryz.lays169 Tryz.Builder_Extra_169 B b w h hBw
open Go.RowKit in
theorem Tryz.Builder_String_any_k (B b : Nat) (l : List UInt8) (w : World) (h : Lib.IsBuilderF 55 5 B b (Lib.byteCells l) w) (hBw : B ≤ w.heap.size) :
 Calls Tryz.prog 30 #[.pointer (some ⟨b, 0, none⟩)] w fun e w' => e = .returned (.string ⟨l.toArray⟩) ∧ (Lib.IsBuilderF 55 5 B b (Lib.byteCells l) w' ∧ Below B w w' ∧ Lib.OthersKept 5 (some b) w w') := Any.Builder_String_any_k Tryz.lays169 Tryz.Builder_Extra_169 B b l w h hBw
def Tryz.lays244_ren : Go.Shelf.Ren := ⟨fun | 244 => 117 | 247 => 125 | 287 => 132 | 321 => 135 | 322 => 136 | n => n, fun | 9 => 9 | 3 => 3 | 75 => 105 | 4 => 4 | 5 => 5 | 167 => 141 | 37 => 53 | 0 => 0 | 85 => 142 | 2 => 2 | 53 => 127 | 175 => 148 | 46 => 139 | 21 => 21 | 80 => 59 | n => n, fun | n => n⟩
theorem Tryz.lays244 : Go.Proofs.Lays.n244 Tryz.prog Tryz.lays244_ren := {
 mixed := by kernel_rfl
 f244 := Tryz.func117.trans (congrArg some (by kernel_rfl))
 f247 := Tryz.func125.trans (congrArg some (by kernel_rfl))
 f287 := Tryz.func132.trans (congrArg some (by kernel_rfl))
 f321 := Tryz.func135.trans (congrArg some (by kernel_rfl))
 f322 := Tryz.func136.trans (congrArg some (by kernel_rfl))
 t0 := Tryz.underlying0
 a0 := Tryz.isAgg0
 z0 := Tryz.sizeOf0
 v0 := Tryz.zeroValue0
 t2 := Tryz.underlying2
 a2 := Tryz.isAgg2
 z2 := Tryz.sizeOf2
 v2 := Tryz.zeroValue2
 t3 := Tryz.underlying3
 a3 := Tryz.isAgg3
 z3 := Tryz.sizeOf3
 v3 := Tryz.zeroValue3
 t4 := Tryz.underlying4
 a4 := Tryz.isAgg4
 z4 := Tryz.sizeOf4
 v4 := Tryz.zeroValue4
 t5 := Tryz.underlying5
 a5 := Tryz.isAgg5
 z5 := Tryz.sizeOf5
 v5 := Tryz.zeroValue5
 t9 := Tryz.underlying9
 a9 := Tryz.isAgg9
 z9 := Tryz.sizeOf9
 v9 := Tryz.zeroValue9
 t21 := Tryz.underlying21
 a21 := Tryz.isAgg21
 z21 := Tryz.sizeOf21
 v21 := Tryz.zeroValue21
 t37 := Tryz.underlying53
 a37 := Tryz.isAgg53
 z37 := Tryz.sizeOf53
 v37 := Tryz.zeroValue53
 t46 := Tryz.underlying139
 a46 := Tryz.isAgg139
 z46 := Tryz.sizeOf139
 v46 := Tryz.zeroValue139
 t53 := Tryz.underlying127
 a53 := Tryz.isAgg127
 z53 := Tryz.sizeOf127
 v53 := Tryz.zeroValue127
 t75 := Tryz.underlying105
 a75 := Tryz.isAgg105
 z75 := Tryz.sizeOf105
 v75 := Tryz.zeroValue105
 t85 := Tryz.underlying142
 a85 := Tryz.isAgg142
 z85 := Tryz.sizeOf142
 v85 := Tryz.zeroValue142
 t167 := Tryz.underlying141
 a167 := Tryz.isAgg141
 z167 := Tryz.sizeOf141
 v167 := Tryz.zeroValue141
 t175 := Tryz.underlying148
 a175 := Tryz.isAgg148
 z175 := Tryz.sizeOf148
 v175 := Tryz.zeroValue148 }
open Go.RowKit in
theorem Tryz.internal_strconv_Atoi (s : ByteArray) (n : Int) (hl : s.size ≤ 18) (h : Lib.atoi s.data.toList = some n) (w : World) :
 Calls Tryz.prog 117 #[.string s] w fun e w' => e = .returned (.tuple #[.int .i64 n, .nilIface]) ∧ ∃ t, w' = Lib.bytesWorld w 5 t := Any.internal_strconv_Atoi Tryz.lays244 s n hl h w
def Tryz.lays172_ren : Go.Shelf.Ren := ⟨fun | 172 => 110 | 244 => 117 | 245 => 118 | 247 => 125 | 279 => 126 | 280 => 127 | 281 => 128 | 282 => 129 | 287 => 132 | 316 => 133 | 171 => 51 | 205 => 134 | 321 => 135 | 322 => 136 | 243 => 83 | 246 => 105 | 283 => 111 | 284 => 112 | 285 => 113 | 286 => 114 | 129 => 120 | 317 => 119 | 318 => 121 | 319 => 122 | 320 => 123 | 337 => 130 | 338 => 131 | n => n, fun | 9 => 9 | 3 => 3 | 75 => 105 | 76 => 106 | 4 => 4 | 5 => 5 | 167 => 141 | 37 => 53 | 0 => 0 | 85 => 142 | 2 => 2 | 168 => 144 | 53 => 127 | 175 => 148 | 46 => 139 | 210 => 152 | 127 => 89 | 145 => 159 | 143 => 157 | 21 => 21 | 171 => 126 | 173 => 130 | 212 => 135 | 51 => 136 | 20 => 20 | 213 => 137 | 232 => 154 | 233 => 155 | 80 => 59 | n => n, fun | 15 => 3 | 16 => 4 | 17 => 1 | 18 => 5 | 19 => 6 | n => n⟩
theorem Tryz.lays172 : Go.Proofs.Lays.n172 Tryz.prog Tryz.lays172_ren := {
 mixed := by kernel_rfl
 f129 := Tryz.func120.trans (congrArg some (by kernel_rfl))
 f171 := Tryz.func51.trans (congrArg some (by kernel_rfl))
 f172 := Tryz.func110.trans (congrArg some (by kernel_rfl))
 f205 := Tryz.func134.trans (congrArg some (by kernel_rfl))
 f243 := Tryz.func83.trans (congrArg some (by kernel_rfl))
 f244 := Tryz.func117.trans (congrArg some (by kernel_rfl))
 f245 := Tryz.func118.trans (congrArg some (by kernel_rfl))
 f246 := Tryz.func105.trans (congrArg some (by kernel_rfl))
 f247 := Tryz.func125.trans (congrArg some (by kernel_rfl))
 f279 := Tryz.func126.trans (congrArg some (by kernel_rfl))
 f280 := Tryz.func127.trans (congrArg some (by kernel_rfl))
 f281 := Tryz.func128.trans (congrArg some (by kernel_rfl))
 f282 := Tryz.func129.trans (congrArg some (by kernel_rfl))
 f283 := Tryz.func111.trans (congrArg some (by kernel_rfl))
 f284 := Tryz.func112.trans (congrArg some (by kernel_rfl))
 f285 := Tryz.func113.trans (congrArg some (by kernel_rfl))
 f286 := Tryz.func114.trans (congrArg some (by kernel_rfl))
 f287 := Tryz.func132.trans (congrArg some (by kernel_rfl))
 f316 := Tryz.func133.trans (congrArg some (by kernel_rfl))
 f317 := Tryz.func119.trans (congrArg some (by kernel_rfl))
 f318 := Tryz.func121.trans (congrArg some (by kernel_rfl))
 f319 := Tryz.func122.trans (congrArg some (by kernel_rfl))
 f320 := Tryz.func123.trans (congrArg some (by kernel_rfl))
 f321 := Tryz.func135.trans (congrArg some (by kernel_rfl))
 f322 := Tryz.func136.trans (congrArg some (by kernel_rfl))
 f337 := Tryz.func130.trans (congrArg some (by kernel_rfl))
 f338 := Tryz.func131.trans (congrArg some (by kernel_rfl))
 t0 := Tryz.underlying0
 a0 := Tryz.isAgg0
 z0 := Tryz.sizeOf0
 v0 := Tryz.zeroValue0
 t2 := Tryz.underlying2
 a2 := Tryz.isAgg2
 z2 := Tryz.sizeOf2
 v2 := Tryz.zeroValue2
 t3 := Tryz.underlying3
 a3 := Tryz.isAgg3
 z3 := Tryz.sizeOf3
 v3 := Tryz.zeroValue3
 t4 := Tryz.underlying4
 a4 := Tryz.isAgg4
 z4 := Tryz.sizeOf4
 v4 := Tryz.zeroValue4
 t5 := Tryz.underlying5
 a5 := Tryz.isAgg5
 z5 := Tryz.sizeOf5
 v5 := Tryz.zeroValue5
 t9 := Tryz.underlying9
 a9 := Tryz.isAgg9
 z9 := Tryz.sizeOf9
 v9 := Tryz.zeroValue9
 t20 := Tryz.underlying20
 a20 := Tryz.isAgg20
 z20 := Tryz.sizeOf20
 v20 := Tryz.zeroValue20
 t21 := Tryz.underlying21
 a21 := Tryz.isAgg21
 z21 := Tryz.sizeOf21
 v21 := Tryz.zeroValue21
 t37 := Tryz.underlying53
 a37 := Tryz.isAgg53
 z37 := Tryz.sizeOf53
 v37 := Tryz.zeroValue53
 t46 := Tryz.underlying139
 a46 := Tryz.isAgg139
 z46 := Tryz.sizeOf139
 v46 := Tryz.zeroValue139
 t51 := Tryz.underlying136
 a51 := Tryz.isAgg136
 z51 := Tryz.sizeOf136
 v51 := Tryz.zeroValue136
 t53 := Tryz.underlying127
 a53 := Tryz.isAgg127
 z53 := Tryz.sizeOf127
 v53 := Tryz.zeroValue127
 t75 := Tryz.underlying105
 a75 := Tryz.isAgg105
 z75 := Tryz.sizeOf105
 v75 := Tryz.zeroValue105
 t76 := Tryz.underlying106
 a76 := Tryz.isAgg106
 z76 := Tryz.sizeOf106
 v76 := Tryz.zeroValue106
 t85 := Tryz.underlying142
 a85 := Tryz.isAgg142
 z85 := Tryz.sizeOf142
 v85 := Tryz.zeroValue142
 t127 := Tryz.underlying89
 a127 := Tryz.isAgg89
 z127 := Tryz.sizeOf89
 v127 := Tryz.zeroValue89
 t143 := Tryz.underlying157
 a143 := Tryz.isAgg157
 z143 := Tryz.sizeOf157
 v143 := Tryz.zeroValue157
 t145 := Tryz.underlying159
 a145 := Tryz.isAgg159
 z145 := Tryz.sizeOf159
 v145 := Tryz.zeroValue159
 t167 := Tryz.underlying141
 a167 := Tryz.isAgg141
 z167 := Tryz.sizeOf141
 v167 := Tryz.zeroValue141
 t168 := Tryz.underlying144
 a168 := Tryz.isAgg144
 z168 := Tryz.sizeOf144
 v168 := Tryz.zeroValue144
 t171 := Tryz.underlying126
 a171 := Tryz.isAgg126
 z171 := Tryz.sizeOf126
 v171 := Tryz.zeroValue126
 t173 := Tryz.underlying130
 a173 := Tryz.isAgg130
 z173 := Tryz.sizeOf130
 v173 := Tryz.zeroValue130
 t175 := Tryz.underlying148
 a175 := Tryz.isAgg148
 z175 := Tryz.sizeOf148
 v175 := Tryz.zeroValue148
 t210 := Tryz.underlying152
 a210 := Tryz.isAgg152
 z210 := Tryz.sizeOf152
 v210 := Tryz.zeroValue152
 t212 := Tryz.underlying135
 a212 := Tryz.isAgg135
 z212 := Tryz.sizeOf135
 v212 := Tryz.zeroValue135
 t213 := Tryz.underlying137
 a213 := Tryz.isAgg137
 z213 := Tryz.sizeOf137
 t232 := Tryz.underlying154
 a232 := Tryz.isAgg154
 z232 := Tryz.sizeOf154
 v232 := Tryz.zeroValue154
 t233 := Tryz.underlying155
 a233 := Tryz.isAgg155
 z233 := Tryz.sizeOf155
 v233 := Tryz.zeroValue155
 g15 := by kernel_rfl
 g16 := by kernel_rfl
 g17 := by kernel_rfl
 g18 := by kernel_rfl
 g19 := by kernel_rfl }
open Go.RowKit in
theorem Tryz.strconv_Atoi (s : ByteArray) (n : Int) (hl : s.size ≤ 18) (h : Lib.atoi s.data.toList = some n) (w : World) :
 Calls Tryz.prog 110 #[.string s] w fun e w' => e = .returned (.tuple #[.int .i64 n, .nilIface]) ∧ ∃ t, w' = Lib.bytesWorld w 5 t := Any.strconv_Atoi Tryz.lays172 s n hl h w
def Tryz.lays129_ren : Go.Shelf.Ren := ⟨fun | 129 => 120 | n => n, fun | 53 => 127 | 3 => 3 | 4 => 4 | 46 => 139 | 5 => 5 | 9 => 9 | n => n, fun | n => n⟩
def Tryz.lays317_ren : Go.Shelf.Ren := ⟨fun | 317 => 119 | n => n, fun | 3 => 3 | 46 => 139 | n => n, fun | n => n⟩
theorem Tryz.lays317 : Go.Proofs.Lays.n317 Tryz.prog Tryz.lays317_ren := {
 mixed := by kernel_rfl
 f317 := Tryz.func119.trans (congrArg some (by kernel_rfl))
 t3 := Tryz.underlying3
 a3 := Tryz.isAgg3
 z3 := Tryz.sizeOf3
 v3 := Tryz.zeroValue3
 t46 := Tryz.underlying139
 a46 := Tryz.isAgg139
 z46 := Tryz.sizeOf139
 v46 := Tryz.zeroValue139 }
open Go.Lib in
theorem Tryz.internal_strconv_log10Pow2 (x : Nat) (h : x ≤ 64) (w : World) :
 Calls Tryz.prog 119 #[.int .i64 x] w fun e w' => e = .returned (.int .i64 (Lib.l10 x)) ∧ w' = w := Any.internal_strconv_log10Pow2 Tryz.lays317 x h w
def Tryz.lays318_ren : Go.Shelf.Ren := ⟨fun | 318 => 121 | n => n, fun | 3 => 3 | 4 => 4 | n => n, fun | n => n⟩
theorem Tryz.lays318 : Go.Proofs.Lays.n318 Tryz.prog Tryz.lays318_ren := {
 mixed := by kernel_rfl
 f318 := Tryz.func121.trans (congrArg some (by kernel_rfl))
 t3 := Tryz.underlying3
 a3 := Tryz.isAgg3
 z3 := Tryz.sizeOf3
 v3 := Tryz.zeroValue3
 t4 := Tryz.underlying4
 a4 := Tryz.isAgg4
 z4 := Tryz.sizeOf4
 v4 := Tryz.zeroValue4 }
open Go.Lib in
theorem Tryz.internal_strconv_bool2_int (b : Bool) (w : World) :
 Calls Tryz.prog 121 #[.bool b] w fun e w' => e = .returned (.int .i64 (if b then 1 else 0)) ∧ w' = w := Any.internal_strconv_bool2_int Tryz.lays318 b w
def Tryz.lays283_ren : Go.Shelf.Ren := ⟨fun | 283 => 111 | n => n, fun | 3 => 3 | 9 => 9 | 4 => 4 | n => n, fun | n => n⟩
theorem Tryz.lays283 : Go.Proofs.Lays.n283 Tryz.prog Tryz.lays283_ren := {
 mixed := by kernel_rfl
 f283 := Tryz.func111.trans (congrArg some (by kernel_rfl))
 t3 := Tryz.underlying3
 a3 := Tryz.isAgg3
 z3 := Tryz.sizeOf3
 v3 := Tryz.zeroValue3
 t4 := Tryz.underlying4
 a4 := Tryz.isAgg4
 z4 := Tryz.sizeOf4
 v4 := Tryz.zeroValue4
 t9 := Tryz.underlying9
 a9 := Tryz.isAgg9
 z9 := Tryz.sizeOf9
 v9 := Tryz.zeroValue9 }
open Go.Lib in
theorem Tryz.internal_strconv_small (i : Nat) (h : i < 100) (w : World) :
 Calls Tryz.prog 111 #[.int .i64 i] w fun e w' => e = .returned (.string ⟨(Lib.decDigits i).toArray⟩) ∧ w' = w := Any.internal_strconv_small Tryz.lays283 i h w
def Tryz.laysM284_ren : Go.Shelf.Ren := ⟨fun | 284 => 112 | 129 => 120 | 317 => 119 | 318 => 121 | n => n, fun | 53 => 127 | 3 => 3 | 212 => 135 | 0 => 0 | 4 => 4 | 46 => 139 | 5 => 5 | 9 => 9 | n => n, fun | 17 => 1 | n => n⟩
theorem Tryz.laysM284 : Go.Proofs.LaysM.n284 Tryz.prog Tryz.laysM284_ren := {
 mixed := by kernel_rfl
 f129 := Tryz.func120.trans (congrArg some (by kernel_rfl))
 f284 := Tryz.func112.trans (congrArg some (by kernel_rfl))
 f317 := Tryz.func119.trans (congrArg some (by kernel_rfl))
 f318 := Tryz.func121.trans (congrArg some (by kernel_rfl))
 t0 := Tryz.underlying0
 a0 := Tryz.isAgg0
 z0 := Tryz.sizeOf0
 v0 := Tryz.zeroValue0
 t3 := Tryz.underlying3
 a3 := Tryz.isAgg3
 z3 := Tryz.sizeOf3
 v3 := Tryz.zeroValue3
 t4 := Tryz.underlying4
 a4 := Tryz.isAgg4
 z4 := Tryz.sizeOf4
 v4 := Tryz.zeroValue4
 t5 := Tryz.underlying5
 a5 := Tryz.isAgg5
 z5 := Tryz.sizeOf5
 v5 := Tryz.zeroValue5
 t9 := Tryz.underlying9
 a9 := Tryz.isAgg9
 z9 := Tryz.sizeOf9
 v9 := Tryz.zeroValue9
 t46 := Tryz.underlying139
 a46 := Tryz.isAgg139
 z46 := Tryz.sizeOf139
 v46 := Tryz.zeroValue139
 t53 := Tryz.underlying127
 a53 := Tryz.isAgg127
 z53 := Tryz.sizeOf127
 v53 := Tryz.zeroValue127
 t212 := Tryz.underlying135
 a212 := Tryz.isAgg135
 z212 := Tryz.sizeOf135
 v212 := Tryz.zeroValue135
 g17 := by kernel_rfl
 i0 := by kernel_rfl
 i3 := by kernel_rfl
 i4 := by kernel_rfl
 i5 := by kernel_rfl
 i9 := by kernel_rfl
 i46 := by kernel_rfl
 i53 := by kernel_rfl
 i212 := by kernel_rfl
 m17 := by kernel_rfl }
open Go.Lib in
theorem Tryz.internal_strconv_numDigits (u : Nat) (h1 : 1 ≤ u) (h2 : u < 18446744073709551616) (w : World) (htab : Lib.TabIs Tryz.prog w "internal/strconv.uint64pow10" .u64 Lib.pow10Tab) :
 Calls Tryz.prog 112 #[.int .u64 u] w fun e w' => e = .returned (.int .i64 (Lib.nDigits u)) ∧ w' = w := Any.internal_strconv_numDigits Tryz.laysM284 u h1 h2 w htab
def Tryz.lays285_ren : Go.Shelf.Ren := ⟨fun | 285 => 113 | n => n, fun | 37 => 53 | 53 => 127 | 3 => 3 | 4 => 4 | 51 => 136 | 9 => 9 | 5 => 5 | 0 => 0 | n => n, fun | n => n⟩
theorem Tryz.lays285 : Go.Proofs.Lays.n285 Tryz.prog Tryz.lays285_ren := {
 mixed := by kernel_rfl
 f285 := Tryz.func113.trans (congrArg some (by kernel_rfl))
 t0 := Tryz.underlying0
 a0 := Tryz.isAgg0
 z0 := Tryz.sizeOf0
 v0 := Tryz.zeroValue0
 t3 := Tryz.underlying3
 a3 := Tryz.isAgg3
 z3 := Tryz.sizeOf3
 v3 := Tryz.zeroValue3
 t4 := Tryz.underlying4
 a4 := Tryz.isAgg4
 z4 := Tryz.sizeOf4
 v4 := Tryz.zeroValue4
 t5 := Tryz.underlying5
 a5 := Tryz.isAgg5
 z5 := Tryz.sizeOf5
 v5 := Tryz.zeroValue5
 t9 := Tryz.underlying9
 a9 := Tryz.isAgg9
 z9 := Tryz.sizeOf9
 v9 := Tryz.zeroValue9
 t37 := Tryz.underlying53
 a37 := Tryz.isAgg53
 z37 := Tryz.sizeOf53
 v37 := Tryz.zeroValue53
 t51 := Tryz.underlying136
 a51 := Tryz.isAgg136
 z51 := Tryz.sizeOf136
 v51 := Tryz.zeroValue136
 t53 := Tryz.underlying127
 a53 := Tryz.isAgg127
 z53 := Tryz.sizeOf127
 v53 := Tryz.zeroValue127 }
open Go.RowKit Go.Sort Go.Lib in
theorem Tryz.internal_strconv_formatBase10 (blk off cap : Nat) (u : Nat) (d : Array UInt8) (w : World) (hH : Holds (fun (b : UInt8) => Value.int .u8 (b.toNat : Int)) w blk off d) (hu : u < 10 ^ d.size) (hu64 : u < 18446744073709551616) (hsz : d.size < 4611686018427387904) :
 Calls Tryz.prog 113 #[.slice (some ⟨blk, off, none⟩) d.size cap, .int .u64 u] w fun e w' =>
  e = .returned (.tuple #[]) ∧ ∃ (n v' : Nat) (dk : Array UInt8), w' = (putRow (fun (b : UInt8) => Value.int .u8 (b.toNat : Int)) w blk off dk).drewN n ∧ FmtInv d.size u 0 v' dk := Any.internal_strconv_formatBase10 Tryz.lays285 blk off cap u d w hH hu hu64 hsz
def Tryz.laysM246_ren : Go.Shelf.Ren := ⟨fun | 246 => 105 | 283 => 111 | 284 => 112 | 285 => 113 | 286 => 114 | 129 => 120 | 317 => 119 | 318 => 121 | 319 => 122 | 320 => 123 | 337 => 130 | 338 => 131 | n => n, fun | 2 => 2 | 3 => 3 | 9 => 9 | 4 => 4 | 171 => 126 | 0 => 0 | 53 => 127 | 37 => 53 | 5 => 5 | 173 => 130 | 212 => 135 | 51 => 136 | 20 => 20 | 213 => 137 | 46 => 139 | 232 => 154 | 233 => 155 | n => n, fun | 17 => 1 | 18 => 5 | 19 => 6 | n => n⟩
theorem Tryz.laysM246 : Go.Proofs.LaysM.n246 Tryz.prog Tryz.laysM246_ren := {
 mixed := by kernel_rfl
 f129 := Tryz.func120.trans (congrArg some (by kernel_rfl))
 f246 := Tryz.func105.trans (congrArg some (by kernel_rfl))
 f283 := Tryz.func111.trans (congrArg some (by kernel_rfl))
 f284 := Tryz.func112.trans (congrArg some (by kernel_rfl))
 f285 := Tryz.func113.trans (congrArg some (by kernel_rfl))
 f286 := Tryz.func114.trans (congrArg some (by kernel_rfl))
 f317 := Tryz.func119.trans (congrArg some (by kernel_rfl))
 f318 := Tryz.func121.trans (congrArg some (by kernel_rfl))
 f319 := Tryz.func122.trans (congrArg some (by kernel_rfl))
 f320 := Tryz.func123.trans (congrArg some (by kernel_rfl))
 f337 := Tryz.func130.trans (congrArg some (by kernel_rfl))
 f338 := Tryz.func131.trans (congrArg some (by kernel_rfl))
 t0 := Tryz.underlying0
 a0 := Tryz.isAgg0
 z0 := Tryz.sizeOf0
 v0 := Tryz.zeroValue0
 t2 := Tryz.underlying2
 a2 := Tryz.isAgg2
 z2 := Tryz.sizeOf2
 v2 := Tryz.zeroValue2
 t3 := Tryz.underlying3
 a3 := Tryz.isAgg3
 z3 := Tryz.sizeOf3
 v3 := Tryz.zeroValue3
 t4 := Tryz.underlying4
 a4 := Tryz.isAgg4
 z4 := Tryz.sizeOf4
 v4 := Tryz.zeroValue4
 t5 := Tryz.underlying5
 a5 := Tryz.isAgg5
 z5 := Tryz.sizeOf5
 v5 := Tryz.zeroValue5
 t9 := Tryz.underlying9
 a9 := Tryz.isAgg9
 z9 := Tryz.sizeOf9
 v9 := Tryz.zeroValue9
 t20 := Tryz.underlying20
 a20 := Tryz.isAgg20
 z20 := Tryz.sizeOf20
 v20 := Tryz.zeroValue20
 t37 := Tryz.underlying53
 a37 := Tryz.isAgg53
 z37 := Tryz.sizeOf53
 v37 := Tryz.zeroValue53
 t46 := Tryz.underlying139
 a46 := Tryz.isAgg139
 z46 := Tryz.sizeOf139
 v46 := Tryz.zeroValue139
 t51 := Tryz.underlying136
 a51 := Tryz.isAgg136
 z51 := Tryz.sizeOf136
 v51 := Tryz.zeroValue136
 t53 := Tryz.underlying127
 a53 := Tryz.isAgg127
 z53 := Tryz.sizeOf127
 v53 := Tryz.zeroValue127
 t171 := Tryz.underlying126
 a171 := Tryz.isAgg126
 z171 := Tryz.sizeOf126
 v171 := Tryz.zeroValue126
 t173 := Tryz.underlying130
 a173 := Tryz.isAgg130
 z173 := Tryz.sizeOf130
 v173 := Tryz.zeroValue130
 t212 := Tryz.underlying135
 a212 := Tryz.isAgg135
 z212 := Tryz.sizeOf135
 v212 := Tryz.zeroValue135
 t213 := Tryz.underlying137
 a213 := Tryz.isAgg137
 z213 := Tryz.sizeOf137
 t232 := Tryz.underlying154
 a232 := Tryz.isAgg154
 z232 := Tryz.sizeOf154
 v232 := Tryz.zeroValue154
 t233 := Tryz.underlying155
 a233 := Tryz.isAgg155
 z233 := Tryz.sizeOf155
 v233 := Tryz.zeroValue155
 g17 := by kernel_rfl
 g18 := by kernel_rfl
 g19 := by kernel_rfl
 i0 := by kernel_rfl
 i2 := by kernel_rfl
 i3 := by kernel_rfl
 i4 := by kernel_rfl
 i5 := by kernel_rfl
 i9 := by kernel_rfl
 i20 := by kernel_rfl
 i37 := by kernel_rfl
 i46 := by kernel_rfl
 i51 := by kernel_rfl
 i53 := by kernel_rfl
 i171 := by kernel_rfl
 i173 := by kernel_rfl
 i212 := by kernel_rfl
 i232 := by kernel_rfl
 i233 := by kernel_rfl
 m17 := by kernel_rfl
 m18 := by kernel_rfl
 m19 := by kernel_rfl }
open Go.RowKit Go.Sort Go.Lib in
theorem Tryz.internal_strconv_FormatInt_10 (n : Int) (h0 : -9223372036854775808 ≤ n) (h1 : n ≤ 9223372036854775807) (w : World) (htab : Lib.TabIs Tryz.prog w "internal/strconv.uint64pow10" .u64 Lib.pow10Tab) :
 Calls Tryz.prog 105 #[.int .i64 n, .int .i64 10] w fun e w' => e = .returned (.string ⟨(Lib.itoa n).toArray⟩) ∧ ∃ k os, w' = grow (w.drewN k) os := Any.internal_strconv_FormatInt_10 Tryz.laysM246 n h0 h1 w htab
def Tryz.lays246_ren : Go.Shelf.Ren := ⟨fun | 246 => 105 | 283 => 111 | 284 => 112 | 285 => 113 | 286 => 114 | 129 => 120 | 317 => 119 | 318 => 121 | 319 => 122 | 320 => 123 | 337 => 130 | 338 => 131 | n => n, fun | 2 => 2 | 3 => 3 | 9 => 9 | 4 => 4 | 171 => 126 | 0 => 0 | 53 => 127 | 37 => 53 | 5 => 5 | 173 => 130 | 212 => 135 | 51 => 136 | 20 => 20 | 213 => 137 | 46 => 139 | 232 => 154 | 233 => 155 | n => n, fun | 17 => 1 | 18 => 5 | 19 => 6 | n => n⟩
theorem Tryz.lays246 : Go.Proofs.Lays.n246 Tryz.prog Tryz.lays246_ren := {
 mixed := by kernel_rfl
 f129 := Tryz.func120.trans (congrArg some (by kernel_rfl))
 f246 := Tryz.func105.trans (congrArg some (by kernel_rfl))
 f283 := Tryz.func111.trans (congrArg some (by kernel_rfl))
 f284 := Tryz.func112.trans (congrArg some (by kernel_rfl))
 f285 := Tryz.func113.trans (congrArg some (by kernel_rfl))
 f286 := Tryz.func114.trans (congrArg some (by kernel_rfl))
 f317 := Tryz.func119.trans (congrArg some (by kernel_rfl))
 f318 := Tryz.func121.trans (congrArg some (by kernel_rfl))
 f319 := Tryz.func122.trans (congrArg some (by kernel_rfl))
 f320 := Tryz.func123.trans (congrArg some (by kernel_rfl))
 f337 := Tryz.func130.trans (congrArg some (by kernel_rfl))
 f338 := Tryz.func131.trans (congrArg some (by kernel_rfl))
 t0 := Tryz.underlying0
 a0 := Tryz.isAgg0
 z0 := Tryz.sizeOf0
 v0 := Tryz.zeroValue0
 t2 := Tryz.underlying2
 a2 := Tryz.isAgg2
 z2 := Tryz.sizeOf2
 v2 := Tryz.zeroValue2
 t3 := Tryz.underlying3
 a3 := Tryz.isAgg3
 z3 := Tryz.sizeOf3
 v3 := Tryz.zeroValue3
 t4 := Tryz.underlying4
 a4 := Tryz.isAgg4
 z4 := Tryz.sizeOf4
 v4 := Tryz.zeroValue4
 t5 := Tryz.underlying5
 a5 := Tryz.isAgg5
 z5 := Tryz.sizeOf5
 v5 := Tryz.zeroValue5
 t9 := Tryz.underlying9
 a9 := Tryz.isAgg9
 z9 := Tryz.sizeOf9
 v9 := Tryz.zeroValue9
 t20 := Tryz.underlying20
 a20 := Tryz.isAgg20
 z20 := Tryz.sizeOf20
 v20 := Tryz.zeroValue20
 t37 := Tryz.underlying53
 a37 := Tryz.isAgg53
 z37 := Tryz.sizeOf53
 v37 := Tryz.zeroValue53
 t46 := Tryz.underlying139
 a46 := Tryz.isAgg139
 z46 := Tryz.sizeOf139
 v46 := Tryz.zeroValue139
 t51 := Tryz.underlying136
 a51 := Tryz.isAgg136
 z51 := Tryz.sizeOf136
 v51 := Tryz.zeroValue136
 t53 := Tryz.underlying127
 a53 := Tryz.isAgg127
 z53 := Tryz.sizeOf127
 v53 := Tryz.zeroValue127
 t171 := Tryz.underlying126
 a171 := Tryz.isAgg126
 z171 := Tryz.sizeOf126
 v171 := Tryz.zeroValue126
 t173 := Tryz.underlying130
 a173 := Tryz.isAgg130
 z173 := Tryz.sizeOf130
 v173 := Tryz.zeroValue130
 t212 := Tryz.underlying135
 a212 := Tryz.isAgg135
 z212 := Tryz.sizeOf135
 v212 := Tryz.zeroValue135
 t213 := Tryz.underlying137
 a213 := Tryz.isAgg137
 z213 := Tryz.sizeOf137
 t232 := Tryz.underlying154
 a232 := Tryz.isAgg154
 z232 := Tryz.sizeOf154
 v232 := Tryz.zeroValue154
 t233 := Tryz.underlying155
 a233 := Tryz.isAgg155
 z233 := Tryz.sizeOf155
 v233 := Tryz.zeroValue155
 g17 := by kernel_rfl
 g18 := by kernel_rfl
 g19 := by kernel_rfl }
open Go.RowKit Go.Sort Go.Lib in
theorem Tryz.internal_strconv_FormatInt_10_small (i : Nat) (hi : i < 100) (w : World) :
 Calls Tryz.prog 105 #[.int .i64 i, .int .i64 10] w fun e w' => e = .returned (.string ⟨(Lib.decDigits i).toArray⟩) ∧ w' = w := Any.internal_strconv_FormatInt_10_small Tryz.lays246 i hi w
def Tryz.laysM243_ren : Go.Shelf.Ren := ⟨fun | 243 => 83 | 246 => 105 | 283 => 111 | 284 => 112 | 285 => 113 | 286 => 114 | 129 => 120 | 317 => 119 | 318 => 121 | 319 => 122 | 320 => 123 | 337 => 130 | 338 => 131 | n => n, fun | 3 => 3 | 9 => 9 | 2 => 2 | 4 => 4 | 171 => 126 | 0 => 0 | 53 => 127 | 37 => 53 | 5 => 5 | 173 => 130 | 212 => 135 | 51 => 136 | 20 => 20 | 213 => 137 | 46 => 139 | 232 => 154 | 233 => 155 | n => n, fun | 17 => 1 | 18 => 5 | 19 => 6 | n => n⟩
theorem Tryz.laysM243 : Go.Proofs.LaysM.n243 Tryz.prog Tryz.laysM243_ren := {
 mixed := by kernel_rfl
 f129 := Tryz.func120.trans (congrArg some (by kernel_rfl))
 f243 := Tryz.func83.trans (congrArg some (by kernel_rfl))
 f246 := Tryz.func105.trans (congrArg some (by kernel_rfl))
 f283 := Tryz.func111.trans (congrArg some (by kernel_rfl))
 f284 := Tryz.func112.trans (congrArg some (by kernel_rfl))
 f285 := Tryz.func113.trans (congrArg some (by kernel_rfl))
 f286 := Tryz.func114.trans (congrArg some (by kernel_rfl))
 f317 := Tryz.func119.trans (congrArg some (by kernel_rfl))
 f318 := Tryz.func121.trans (congrArg some (by kernel_rfl))
 f319 := Tryz.func122.trans (congrArg some (by kernel_rfl))
 f320 := Tryz.func123.trans (congrArg some (by kernel_rfl))
 f337 := Tryz.func130.trans (congrArg some (by kernel_rfl))
 f338 := Tryz.func131.trans (congrArg some (by kernel_rfl))
 t0 := Tryz.underlying0
 a0 := Tryz.isAgg0
 z0 := Tryz.sizeOf0
 v0 := Tryz.zeroValue0
 t2 := Tryz.underlying2
 a2 := Tryz.isAgg2
 z2 := Tryz.sizeOf2
 v2 := Tryz.zeroValue2
 t3 := Tryz.underlying3
 a3 := Tryz.isAgg3
 z3 := Tryz.sizeOf3
 v3 := Tryz.zeroValue3
 t4 := Tryz.underlying4
 a4 := Tryz.isAgg4
 z4 := Tryz.sizeOf4
 v4 := Tryz.zeroValue4
 t5 := Tryz.underlying5
 a5 := Tryz.isAgg5
 z5 := Tryz.sizeOf5
 v5 := Tryz.zeroValue5
 t9 := Tryz.underlying9
 a9 := Tryz.isAgg9
 z9 := Tryz.sizeOf9
 v9 := Tryz.zeroValue9
 t20 := Tryz.underlying20
 a20 := Tryz.isAgg20
 z20 := Tryz.sizeOf20
 v20 := Tryz.zeroValue20
 t37 := Tryz.underlying53
 a37 := Tryz.isAgg53
 z37 := Tryz.sizeOf53
 v37 := Tryz.zeroValue53
 t46 := Tryz.underlying139
 a46 := Tryz.isAgg139
 z46 := Tryz.sizeOf139
 v46 := Tryz.zeroValue139
 t51 := Tryz.underlying136
 a51 := Tryz.isAgg136
 z51 := Tryz.sizeOf136
 v51 := Tryz.zeroValue136
 t53 := Tryz.underlying127
 a53 := Tryz.isAgg127
 z53 := Tryz.sizeOf127
 v53 := Tryz.zeroValue127
 t171 := Tryz.underlying126
 a171 := Tryz.isAgg126
 z171 := Tryz.sizeOf126
 v171 := Tryz.zeroValue126
 t173 := Tryz.underlying130
 a173 := Tryz.isAgg130
 z173 := Tryz.sizeOf130
 v173 := Tryz.zeroValue130
 t212 := Tryz.underlying135
 a212 := Tryz.isAgg135
 z212 := Tryz.sizeOf135
 v212 := Tryz.zeroValue135
 t213 := Tryz.underlying137
 a213 := Tryz.isAgg137
 z213 := Tryz.sizeOf137
 t232 := Tryz.underlying154
 a232 := Tryz.isAgg154
 z232 := Tryz.sizeOf154
 v232 := Tryz.zeroValue154
 t233 := Tryz.underlying155
 a233 := Tryz.isAgg155
 z233 := Tryz.sizeOf155
 v233 := Tryz.zeroValue155
 g17 := by kernel_rfl
 g18 := by kernel_rfl
 g19 := by kernel_rfl
 i0 := by kernel_rfl
 i2 := by kernel_rfl
 i3 := by kernel_rfl
 i4 := by kernel_rfl
 i5 := by kernel_rfl
 i9 := by kernel_rfl
 i20 := by kernel_rfl
 i37 := by kernel_rfl
 i46 := by kernel_rfl
 i51 := by kernel_rfl
 i53 := by kernel_rfl
 i171 := by kernel_rfl
 i173 := by kernel_rfl
 i212 := by kernel_rfl
 i232 := by kernel_rfl
 i233 := by kernel_rfl
 m17 := by kernel_rfl
 m18 := by kernel_rfl
 m19 := by kernel_rfl }
open Go.RowKit Go.Sort Go.Lib in
theorem Tryz.internal_strconv_Itoa (n : Int) (h0 : -9223372036854775808 ≤ n) (h1 : n ≤ 9223372036854775807) (w : World) (htab : Lib.TabIs Tryz.prog w "internal/strconv.uint64pow10" .u64 Lib.pow10Tab) :
 Calls Tryz.prog 83 #[.int .i64 n] w fun e w' => e = .returned (.string ⟨(Lib.itoa n).toArray⟩) ∧ ∃ k os, w' = grow (w.drewN k) os := Any.internal_strconv_Itoa Tryz.laysM243 n h0 h1 w htab
def Tryz.lays243_ren : Go.Shelf.Ren := ⟨fun | 243 => 83 | 246 => 105 | 283 => 111 | 284 => 112 | 285 => 113 | 286 => 114 | 129 => 120 | 317 => 119 | 318 => 121 | 319 => 122 | 320 => 123 | 337 => 130 | 338 => 131 | n => n, fun | 3 => 3 | 9 => 9 | 2 => 2 | 4 => 4 | 171 => 126 | 0 => 0 | 53 => 127 | 37 => 53 | 5 => 5 | 173 => 130 | 212 => 135 | 51 => 136 | 20 => 20 | 213 => 137 | 46 => 139 | 232 => 154 | 233 => 155 | n => n, fun | 17 => 1 | 18 => 5 | 19 => 6 | n => n⟩
theorem Tryz.lays243 : Go.Proofs.Lays.n243 Tryz.prog Tryz.lays243_ren := {
 mixed := by kernel_rfl
 f129 := Tryz.func120.trans (congrArg some (by kernel_rfl))
 f243 := Tryz.func83.trans (congrArg some (by kernel_rfl))
 f246 := Tryz.func105.trans (congrArg some (by kernel_rfl))
 f283 := Tryz.func111.trans (congrArg some (by kernel_rfl))
 f284 := Tryz.func112.trans (congrArg some (by kernel_rfl))
 f285 := Tryz.func113.trans (congrArg some (by kernel_rfl))
 f286 := Tryz.func114.trans (congrArg some (by kernel_rfl))
 f317 := Tryz.func119.trans (congrArg some (by kernel_rfl))
 f318 := Tryz.func121.trans (congrArg some (by kernel_rfl))
 f319 := Tryz.func122.trans (congrArg some (by kernel_rfl))
 f320 := Tryz.func123.trans (congrArg some (by kernel_rfl))
 f337 := Tryz.func130.trans (congrArg some (by kernel_rfl))
 f338 := Tryz.func131.trans (congrArg some (by kernel_rfl))
 t0 := Tryz.underlying0
 a0 := Tryz.isAgg0
 z0 := Tryz.sizeOf0
 v0 := Tryz.zeroValue0
 t2 := Tryz.underlying2
 a2 := Tryz.isAgg2
 z2 := Tryz.sizeOf2
 v2 := Tryz.zeroValue2
 t3 := Tryz.underlying3
 a3 := Tryz.isAgg3
 z3 := Tryz.sizeOf3
 v3 := Tryz.zeroValue3
 t4 := Tryz.underlying4
 a4 := Tryz.isAgg4
 z4 := Tryz.sizeOf4
 v4 := Tryz.zeroValue4
 t5 := Tryz.underlying5
 a5 := Tryz.isAgg5
 z5 := Tryz.sizeOf5
 v5 := Tryz.zeroValue5
 t9 := Tryz.underlying9
 a9 := Tryz.isAgg9
 z9 := Tryz.sizeOf9
 v9 := Tryz.zeroValue9
 t20 := Tryz.underlying20
 a20 := Tryz.isAgg20
 z20 := Tryz.sizeOf20
 v20 := Tryz.zeroValue20
 t37 := Tryz.underlying53
 a37 := Tryz.isAgg53
 z37 := Tryz.sizeOf53
 v37 := Tryz.zeroValue53
 t46 := Tryz.underlying139
 a46 := Tryz.isAgg139
 z46 := Tryz.sizeOf139
 v46 := Tryz.zeroValue139
 t51 := Tryz.underlying136
 a51 := Tryz.isAgg136
 z51 := Tryz.sizeOf136
 v51 := Tryz.zeroValue136
 t53 := Tryz.underlying127
 a53 := Tryz.isAgg127
 z53 := Tryz.sizeOf127
 v53 := Tryz.zeroValue127
 t171 := Tryz.underlying126
 a171 := Tryz.isAgg126
 z171 := Tryz.sizeOf126
 v171 := Tryz.zeroValue126
 t173 := Tryz.underlying130
 a173 := Tryz.isAgg130
 z173 := Tryz.sizeOf130
 v173 := Tryz.zeroValue130
 t212 := Tryz.underlying135
 a212 := Tryz.isAgg135
 z212 := Tryz.sizeOf135
 v212 := Tryz.zeroValue135
 t213 := Tryz.underlying137
 a213 := Tryz.isAgg137
 z213 := Tryz.sizeOf137
 t232 := Tryz.underlying154
 a232 := Tryz.isAgg154
 z232 := Tryz.sizeOf154
 v232 := Tryz.zeroValue154
 t233 := Tryz.underlying155
 a233 := Tryz.isAgg155
 z233 := Tryz.sizeOf155
 v233 := Tryz.zeroValue155
 g17 := by kernel_rfl
 g18 := by kernel_rfl
 g19 := by kernel_rfl }
open Go.RowKit Go.Sort Go.Lib in
theorem Tryz.internal_strconv_Itoa_small (i : Nat) (hi : i < 100) (w : World) :
 Calls Tryz.prog 83 #[.int .i64 i] w fun e w' => e = .returned (.string ⟨(Lib.decDigits i).toArray⟩) ∧ w' = w := Any.internal_strconv_Itoa_small Tryz.lays243 i hi w
def Tryz.laysM171_ren : Go.Shelf.Ren := ⟨fun | 171 => 51 | 243 => 83 | 246 => 105 | 283 => 111 | 284 => 112 | 285 => 113 | 286 => 114 | 129 => 120 | 317 => 119 | 318 => 121 | 319 => 122 | 320 => 123 | 337 => 130 | 338 => 131 | n => n, fun | 3 => 3 | 9 => 9 | 2 => 2 | 4 => 4 | 171 => 126 | 0 => 0 | 53 => 127 | 37 => 53 | 5 => 5 | 173 => 130 | 212 => 135 | 51 => 136 | 20 => 20 | 213 => 137 | 46 => 139 | 232 => 154 | 233 => 155 | n => n, fun | 17 => 1 | 18 => 5 | 19 => 6 | n => n⟩
theorem Tryz.laysM171 : Go.Proofs.LaysM.n171 Tryz.prog Tryz.laysM171_ren := {
 mixed := by kernel_rfl
 f129 := Tryz.func120.trans (congrArg some (by kernel_rfl))
 f171 := Tryz.func51.trans (congrArg some (by kernel_rfl))
 f243 := Tryz.func83.trans (congrArg some (by kernel_rfl))
 f246 := Tryz.func105.trans (congrArg some (by kernel_rfl))
 f283 := Tryz.func111.trans (congrArg some (by kernel_rfl))
 f284 := Tryz.func112.trans (congrArg some (by kernel_rfl))
 f285 := Tryz.func113.trans (congrArg some (by kernel_rfl))
 f286 := Tryz.func114.trans (congrArg some (by kernel_rfl))
 f317 := Tryz.func119.trans (congrArg some (by kernel_rfl))
 f318 := Tryz.func121.trans (congrArg some (by kernel_rfl))
 f319 := Tryz.func122.trans (congrArg some (by kernel_rfl))
 f320 := Tryz.func123.trans (congrArg some (by kernel_rfl))
 f337 := Tryz.func130.trans (congrArg some (by kernel_rfl))
 f338 := Tryz.func131.trans (congrArg some (by kernel_rfl))
 t0 := Tryz.underlying0
 a0 := Tryz.isAgg0
 z0 := Tryz.sizeOf0
 v0 := Tryz.zeroValue0
 t2 := Tryz.underlying2
 a2 := Tryz.isAgg2
 z2 := Tryz.sizeOf2
 v2 := Tryz.zeroValue2
 t3 := Tryz.underlying3
 a3 := Tryz.isAgg3
 z3 := Tryz.sizeOf3
 v3 := Tryz.zeroValue3
 t4 := Tryz.underlying4
 a4 := Tryz.isAgg4
 z4 := Tryz.sizeOf4
 v4 := Tryz.zeroValue4
 t5 := Tryz.underlying5
 a5 := Tryz.isAgg5
 z5 := Tryz.sizeOf5
 v5 := Tryz.zeroValue5
 t9 := Tryz.underlying9
 a9 := Tryz.isAgg9
 z9 := Tryz.sizeOf9
 v9 := Tryz.zeroValue9
 t20 := Tryz.underlying20
 a20 := Tryz.isAgg20
 z20 := Tryz.sizeOf20
 v20 := Tryz.zeroValue20
 t37 := Tryz.underlying53
 a37 := Tryz.isAgg53
 z37 := Tryz.sizeOf53
 v37 := Tryz.zeroValue53
 t46 := Tryz.underlying139
 a46 := Tryz.isAgg139
 z46 := Tryz.sizeOf139
 v46 := Tryz.zeroValue139
 t51 := Tryz.underlying136
 a51 := Tryz.isAgg136
 z51 := Tryz.sizeOf136
 v51 := Tryz.zeroValue136
 t53 := Tryz.underlying127
 a53 := Tryz.isAgg127
 z53 := Tryz.sizeOf127
 v53 := Tryz.zeroValue127
 t171 := Tryz.underlying126
 a171 := Tryz.isAgg126
 z171 := Tryz.sizeOf126
 v171 := Tryz.zeroValue126
 t173 := Tryz.underlying130
 a173 := Tryz.isAgg130
 z173 := Tryz.sizeOf130
 v173 := Tryz.zeroValue130
 t212 := Tryz.underlying135
 a212 := Tryz.isAgg135
 z212 := Tryz.sizeOf135
 v212 := Tryz.zeroValue135
 t213 := Tryz.underlying137
 a213 := Tryz.isAgg137
 z213 := Tryz.sizeOf137
 t232 := Tryz.underlying154
 a232 := Tryz.isAgg154
 z232 := Tryz.sizeOf154
 v232 := Tryz.zeroValue154
 t233 := Tryz.underlying155
 a233 := Tryz.isAgg155
 z233 := Tryz.sizeOf155
 v233 := Tryz.zeroValue155
 g17 := by kernel_rfl
 g18 := by kernel_rfl
 g19 := by kernel_rfl
 i0 := by kernel_rfl
 i2 := by kernel_rfl
 i3 := by kernel_rfl
 i4 := by kernel_rfl
 i5 := by kernel_rfl
 i9 := by kernel_rfl
 i20 := by kernel_rfl
 i37 := by kernel_rfl
 i46 := by kernel_rfl
 i51 := by kernel_rfl
 i53 := by kernel_rfl
 i171 := by kernel_rfl
 i173 := by kernel_rfl
 i212 := by kernel_rfl
 i232 := by kernel_rfl
 i233 := by kernel_rfl
 m17 := by kernel_rfl
 m18 := by kernel_rfl
 m19 := by kernel_rfl }
open Go.RowKit Go.Sort Go.Lib in
theorem Tryz.strconv_Itoa (n : Int) (h0 : -9223372036854775808 ≤ n) (h1 : n ≤ 9223372036854775807) (w : World) (htab : Lib.TabIs Tryz.prog w "internal/strconv.uint64pow10" .u64 Lib.pow10Tab) :
 Calls Tryz.prog 51 #[.int .i64 n] w fun e w' => e = .returned (.string ⟨(Lib.itoa n).toArray⟩) ∧ ∃ k os, w' = grow (w.drewN k) os := Any.strconv_Itoa Tryz.laysM171 n h0 h1 w htab
def Tryz.lays171_ren : Go.Shelf.Ren := ⟨fun | 171 => 51 | 243 => 83 | 246 => 105 | 283 => 111 | 284 => 112 | 285 => 113 | 286 => 114 | 129 => 120 | 317 => 119 | 318 => 121 | 319 => 122 | 320 => 123 | 337 => 130 | 338 => 131 | n => n, fun | 3 => 3 | 9 => 9 | 2 => 2 | 4 => 4 | 171 => 126 | 0 => 0 | 53 => 127 | 37 => 53 | 5 => 5 | 173 => 130 | 212 => 135 | 51 => 136 | 20 => 20 | 213 => 137 | 46 => 139 | 232 => 154 | 233 => 155 | n => n, fun | 17 => 1 | 18 => 5 | 19 => 6 | n => n⟩
theorem Tryz.lays171 : Go.Proofs.Lays.n171 Tryz.prog Tryz.lays171_ren := {
 mixed := by kernel_rfl
 f129 := Tryz.func120.trans (congrArg some (by kernel_rfl))
 f171 := Tryz.func51.trans (congrArg some (by kernel_rfl))
 f243 := Tryz.func83.trans (congrArg some (by kernel_rfl))
 f246 := Tryz.func105.trans (congrArg some (by kernel_rfl))
 f283 := Tryz.func111.trans (congrArg some (by kernel_rfl))
 f284 := Tryz.func112.trans (congrArg some (by kernel_rfl))
 f285 := Tryz.func113.trans (congrArg some (by kernel_rfl))
 f286 := Tryz.func114.trans (congrArg some (by kernel_rfl))
 f317 := Tryz.func119.trans (congrArg some (by kernel_rfl))
 f318 := Tryz.func121.trans (congrArg some (by kernel_rfl))
 f319 := Tryz.func122.trans (congrArg some (by kernel_rfl))
 f320 := Tryz.func123.trans (congrArg some (by kernel_rfl))
 f337 := Tryz.func130.trans (congrArg some (by kernel_rfl))
 f338 := Tryz.func131.trans (congrArg some (by kernel_rfl))
 t0 := Tryz.underlying0
 a0 := Tryz.isAgg0
 z0 := Tryz.sizeOf0
 v0 := Tryz.zeroValue0
 t2 := Tryz.underlying2
 a2 := Tryz.isAgg2
 z2 := Tryz.sizeOf2
 v2 := Tryz.zeroValue2
 t3 := Tryz.underlying3
 a3 := Tryz.isAgg3
 z3 := Tryz.sizeOf3
 v3 := Tryz.zeroValue3
 t4 := Tryz.underlying4
 a4 := Tryz.isAgg4
 z4 := Tryz.sizeOf4
 v4 := Tryz.zeroValue4
 t5 := Tryz.underlying5
 a5 := Tryz.isAgg5
 z5 := Tryz.sizeOf5
 v5 := Tryz.zeroValue5
 t9 := Tryz.underlying9
 a9 := Tryz.isAgg9
 z9 := Tryz.sizeOf9
 v9 := Tryz.zeroValue9
 t20 := Tryz.underlying20
 a20 := Tryz.isAgg20
 z20 := Tryz.sizeOf20
 v20 := Tryz.zeroValue20
 t37 := Tryz.underlying53
 a37 := Tryz.isAgg53
 z37 := Tryz.sizeOf53
 v37 := Tryz.zeroValue53
 t46 := Tryz.underlying139
 a46 := Tryz.isAgg139
 z46 := Tryz.sizeOf139
 v46 := Tryz.zeroValue139
 t51 := Tryz.underlying136
 a51 := Tryz.isAgg136
 z51 := Tryz.sizeOf136
 v51 := Tryz.zeroValue136
 t53 := Tryz.underlying127
 a53 := Tryz.isAgg127
 z53 := Tryz.sizeOf127
 v53 := Tryz.zeroValue127
 t171 := Tryz.underlying126
 a171 := Tryz.isAgg126
 z171 := Tryz.sizeOf126
 v171 := Tryz.zeroValue126
 t173 := Tryz.underlying130
 a173 := Tryz.isAgg130
 z173 := Tryz.sizeOf130
 v173 := Tryz.zeroValue130
 t212 := Tryz.underlying135
 a212 := Tryz.isAgg135
 z212 := Tryz.sizeOf135
 v212 := Tryz.zeroValue135
 t213 := Tryz.underlying137
 a213 := Tryz.isAgg137
 z213 := Tryz.sizeOf137
 t232 := Tryz.underlying154
 a232 := Tryz.isAgg154
 z232 := Tryz.sizeOf154
 v232 := Tryz.zeroValue154
 t233 := Tryz.underlying155
 a233 := Tryz.isAgg155
 z233 := Tryz.sizeOf155
 v233 := Tryz.zeroValue155
 g17 := by kernel_rfl
 g18 := by kernel_rfl
 g19 := by kernel_rfl }
open Go.RowKit Go.Sort Go.Lib in
theorem Tryz.strconv_Itoa_small (i : Nat) (hi : i < 100) (w : World) :
 Calls Tryz.prog 51 #[.int .i64 i] w fun e w' => e = .returned (.string ⟨(Lib.decDigits i).toArray⟩) ∧ w' = w := Any.strconv_Itoa_small Tryz.lays171 i hi w
open Go.RowKit in
theorem Tryz.internal_strconv_Atoi_err (s : ByteArray) (hl0 : 1 ≤ s.size) (hl : s.size ≤ 18) (h : Lib.atoi s.data.toList = none) (w : World) :
 Calls Tryz.prog 117 #[.string s] w fun e w' => e = .returned (.tuple #[.int .i64 0, (.iface 141 (.int .i64 2))]) ∧ (w' = w ∨ ∃ t, w' = Lib.bytesWorld w 5 t) := Any.internal_strconv_Atoi_err Tryz.lays244 s hl0 hl h w
def Tryz.lays247_ren : Go.Shelf.Ren := ⟨fun | 247 => 125 | 287 => 132 | 321 => 135 | 322 => 136 | n => n, fun | 9 => 9 | 3 => 3 | 2 => 2 | 75 => 105 | 4 => 4 | 167 => 141 | 5 => 5 | 53 => 127 | 175 => 148 | 46 => 139 | 37 => 53 | 0 => 0 | 21 => 21 | 80 => 59 | n => n, fun | n => n⟩
theorem Tryz.lays247 : Go.Proofs.Lays.n247 Tryz.prog Tryz.lays247_ren := {
 mixed := by kernel_rfl
 f247 := Tryz.func125.trans (congrArg some (by kernel_rfl))
 f287 := Tryz.func132.trans (congrArg some (by kernel_rfl))
 f321 := Tryz.func135.trans (congrArg some (by kernel_rfl))
 f322 := Tryz.func136.trans (congrArg some (by kernel_rfl))
 t0 := Tryz.underlying0
 a0 := Tryz.isAgg0
 z0 := Tryz.sizeOf0
 v0 := Tryz.zeroValue0
 t2 := Tryz.underlying2
 a2 := Tryz.isAgg2
 z2 := Tryz.sizeOf2
 v2 := Tryz.zeroValue2
 t3 := Tryz.underlying3
 a3 := Tryz.isAgg3
 z3 := Tryz.sizeOf3
 v3 := Tryz.zeroValue3
 t4 := Tryz.underlying4
 a4 := Tryz.isAgg4
 z4 := Tryz.sizeOf4
 v4 := Tryz.zeroValue4
 t5 := Tryz.underlying5
 a5 := Tryz.isAgg5
 z5 := Tryz.sizeOf5
 v5 := Tryz.zeroValue5
 t9 := Tryz.underlying9
 a9 := Tryz.isAgg9
 z9 := Tryz.sizeOf9
 v9 := Tryz.zeroValue9
 t21 := Tryz.underlying21
 a21 := Tryz.isAgg21
 z21 := Tryz.sizeOf21
 v21 := Tryz.zeroValue21
 t37 := Tryz.underlying53
 a37 := Tryz.isAgg53
 z37 := Tryz.sizeOf53
 v37 := Tryz.zeroValue53
 t46 := Tryz.underlying139
 a46 := Tryz.isAgg139
 z46 := Tryz.sizeOf139
 v46 := Tryz.zeroValue139
 t53 := Tryz.underlying127
 a53 := Tryz.isAgg127
 z53 := Tryz.sizeOf127
 v53 := Tryz.zeroValue127
 t75 := Tryz.underlying105
 a75 := Tryz.isAgg105
 z75 := Tryz.sizeOf105
 v75 := Tryz.zeroValue105
 t167 := Tryz.underlying141
 a167 := Tryz.isAgg141
 z167 := Tryz.sizeOf141
 v167 := Tryz.zeroValue141
 t175 := Tryz.underlying148
 a175 := Tryz.isAgg148
 z175 := Tryz.sizeOf148
 v175 := Tryz.zeroValue148 }
open Go.RowKit in
theorem Tryz.internal_strconv_ParseInt_empty (base bits : Int) (w : World) :
 Calls Tryz.prog 125 #[.string ⟨#[]⟩, .int .i64 base, .int .i64 bits] w fun e w' => e = .returned (.tuple #[.int .i64 0, (.iface 141 (.int .i64 2))]) ∧ w' = w := Any.internal_strconv_ParseInt_empty Tryz.lays247 base bits w
open Go.RowKit in
theorem Tryz.internal_strconv_Atoi_empty (w : World) :
 Calls Tryz.prog 117 #[.string ⟨#[]⟩] w fun e w' => e = .returned (.tuple #[.int .i64 0, (.iface 141 (.int .i64 2))]) ∧ w' = w := Any.internal_strconv_Atoi_empty Tryz.lays244 w
open Go.RowKit in
theorem Tryz.internal_strconv_Atoi_fail (s : ByteArray) (hl : s.size ≤ 18) (h : Lib.atoi s.data.toList = none) (w : World) :
 Calls Tryz.prog 117 #[.string s] w fun e w' => e = .returned (.tuple #[.int .i64 0, (.iface 141 (.int .i64 2))]) ∧ (w' = w ∨ ∃ t, w' = Lib.bytesWorld w 5 t) := Any.internal_strconv_Atoi_fail Tryz.lays244 s hl h w
def Tryz.laysM316_ren : Go.Shelf.Ren := ⟨fun | 316 => 133 | n => n, fun | 9 => 9 | 3 => 3 | 4 => 4 | 37 => 53 | 0 => 0 | 127 => 89 | 5 => 5 | n => n, fun | n => n⟩
theorem Tryz.laysM316 : Go.Proofs.LaysM.n316 Tryz.prog Tryz.laysM316_ren := {
 mixed := by kernel_rfl
 f316 := Tryz.func133.trans (congrArg some (by kernel_rfl))
 t0 := Tryz.underlying0
 a0 := Tryz.isAgg0
 z0 := Tryz.sizeOf0
 v0 := Tryz.zeroValue0
 t3 := Tryz.underlying3
 a3 := Tryz.isAgg3
 z3 := Tryz.sizeOf3
 v3 := Tryz.zeroValue3
 t4 := Tryz.underlying4
 a4 := Tryz.isAgg4
 z4 := Tryz.sizeOf4
 v4 := Tryz.zeroValue4
 t9 := Tryz.underlying9
 a9 := Tryz.isAgg9
 z9 := Tryz.sizeOf9
 v9 := Tryz.zeroValue9
 t37 := Tryz.underlying53
 a37 := Tryz.isAgg53
 z37 := Tryz.sizeOf53
 v37 := Tryz.zeroValue53
 t127 := Tryz.underlying89
 a127 := Tryz.isAgg89
 z127 := Tryz.sizeOf89
 v127 := Tryz.zeroValue89
 t5 := Tryz.underlying5
 a5 := Tryz.isAgg5
 z5 := Tryz.sizeOf5
 v5 := Tryz.zeroValue5
 i0 := by kernel_rfl
 i3 := by kernel_rfl
 i4 := by kernel_rfl
 i5 := by kernel_rfl
 i9 := by kernel_rfl
 i37 := by kernel_rfl
 i127 := by kernel_rfl }
open Go.RowKit in
theorem Tryz.stringslite_Clone (s : ByteArray) (w : World) (hlim : s.size ≤ 281474976710656) :
 Calls Tryz.prog 133 #[.string s] w fun e w' => e = .returned (.string s) ∧ Below w.heap.size w w' := Any.stringslite_Clone Tryz.laysM316 s w hlim
def Tryz.laysM279_ren : Go.Shelf.Ren := ⟨fun | 279 => 126 | 316 => 133 | n => n, fun | 9 => 9 | 168 => 144 | 75 => 105 | 210 => 152 | 3 => 3 | 4 => 4 | 37 => 53 | 0 => 0 | 127 => 89 | 80 => 59 | 5 => 5 | n => n, fun | 15 => 3 | n => n⟩
theorem Tryz.laysM279 : Go.Proofs.LaysM.n279 Tryz.prog Tryz.laysM279_ren := {
 mixed := by kernel_rfl
 f279 := Tryz.func126.trans (congrArg some (by kernel_rfl))
 f316 := Tryz.func133.trans (congrArg some (by kernel_rfl))
 t0 := Tryz.underlying0
 a0 := Tryz.isAgg0
 z0 := Tryz.sizeOf0
 v0 := Tryz.zeroValue0
 t3 := Tryz.underlying3
 a3 := Tryz.isAgg3
 z3 := Tryz.sizeOf3
 v3 := Tryz.zeroValue3
 t4 := Tryz.underlying4
 a4 := Tryz.isAgg4
 z4 := Tryz.sizeOf4
 v4 := Tryz.zeroValue4
 t9 := Tryz.underlying9
 a9 := Tryz.isAgg9
 z9 := Tryz.sizeOf9
 v9 := Tryz.zeroValue9
 t37 := Tryz.underlying53
 a37 := Tryz.isAgg53
 z37 := Tryz.sizeOf53
 v37 := Tryz.zeroValue53
 t75 := Tryz.underlying105
 a75 := Tryz.isAgg105
 z75 := Tryz.sizeOf105
 v75 := Tryz.zeroValue105
 t127 := Tryz.underlying89
 a127 := Tryz.isAgg89
 z127 := Tryz.sizeOf89
 v127 := Tryz.zeroValue89
 t168 := Tryz.underlying144
 a168 := Tryz.isAgg144
 z168 := Tryz.sizeOf144
 v168 := Tryz.zeroValue144
 t210 := Tryz.underlying152
 a210 := Tryz.isAgg152
 z210 := Tryz.sizeOf152
 v210 := Tryz.zeroValue152
 g15 := by kernel_rfl
 t5 := Tryz.underlying5
 a5 := Tryz.isAgg5
 z5 := Tryz.sizeOf5
 v5 := Tryz.zeroValue5
 t80 := Tryz.underlying59
 a80 := Tryz.isAgg59
 z80 := Tryz.sizeOf59
 v80 := Tryz.zeroValue59
 i0 := by kernel_rfl
 i3 := by kernel_rfl
 i4 := by kernel_rfl
 i5 := by kernel_rfl
 i9 := by kernel_rfl
 i37 := by kernel_rfl
 i75 := by kernel_rfl
 i80 := by kernel_rfl
 i127 := by kernel_rfl
 i168 := by kernel_rfl
 i210 := by kernel_rfl
 m15 := by kernel_rfl }
open Go.RowKit in
theorem Tryz.strconv_syntaxError (fn s : ByteArray) (ev : Value) (w : World) (hlim : s.size ≤ 281474976710656) (hv : w.cell? ⟨3, 0, none⟩ = some ev) (hev : ev = .nilIface ∨ ∃ te pe, ev = .iface te pe) :
 Calls Tryz.prog 126 #[.string fn, .string s] w fun e w' => ∃ N, e = .returned (.pointer (some ⟨N, 0, none⟩)) ∧ w.heap.size ≤ N ∧ w'.heap[N]? = some (.cells #[.string fn, .string s, ev] 152 (0, 0)) ∧ Below w.heap.size w w' := Any.strconv_syntaxError Tryz.laysM279 fn s ev w hlim hv hev
def Tryz.laysC245_ren : Go.Shelf.Ren := ⟨fun | 245 => 118 | 279 => 126 | 280 => 127 | 281 => 128 | 282 => 129 | 316 => 133 | 171 => 51 | 205 => 134 | 243 => 83 | 246 => 105 | 283 => 111 | 284 => 112 | 285 => 113 | 286 => 114 | 129 => 120 | 317 => 119 | 318 => 121 | 319 => 122 | 320 => 123 | 337 => 130 | 338 => 131 | n => n, fun | 9 => 9 | 3 => 3 | 75 => 105 | 167 => 141 | 4 => 4 | 168 => 144 | 210 => 152 | 37 => 53 | 0 => 0 | 127 => 89 | 145 => 159 | 143 => 157 | 2 => 2 | 171 => 126 | 53 => 127 | 5 => 5 | 173 => 130 | 212 => 135 | 51 => 136 | 20 => 20 | 213 => 137 | 46 => 139 | 232 => 154 | 233 => 155 | 80 => 59 | n => n, fun | 15 => 3 | 16 => 4 | 17 => 1 | 18 => 5 | 19 => 6 | n => n⟩
theorem Tryz.laysC245 : Go.Proofs.LaysC.n245 Tryz.prog Tryz.laysC245_ren := {
 mixed := by kernel_rfl
 f129 := Tryz.func120.trans (congrArg some (by kernel_rfl))
 f171 := Tryz.func51.trans (congrArg some (by kernel_rfl))
 f205 := Tryz.func134.trans (congrArg some (by kernel_rfl))
 f243 := Tryz.func83.trans (congrArg some (by kernel_rfl))
 f245 := Tryz.func118.trans (congrArg some (by kernel_rfl))
 f246 := Tryz.func105.trans (congrArg some (by kernel_rfl))
 f279 := Tryz.func126.trans (congrArg some (by kernel_rfl))
 f280 := Tryz.func127.trans (congrArg some (by kernel_rfl))
 f281 := Tryz.func128.trans (congrArg some (by kernel_rfl))
 f282 := Tryz.func129.trans (congrArg some (by kernel_rfl))
 f283 := Tryz.func111.trans (congrArg some (by kernel_rfl))
 f284 := Tryz.func112.trans (congrArg some (by kernel_rfl))
 f285 := Tryz.func113.trans (congrArg some (by kernel_rfl))
 f286 := Tryz.func114.trans (congrArg some (by kernel_rfl))
 f316 := Tryz.func133.trans (congrArg some (by kernel_rfl))
 f317 := Tryz.func119.trans (congrArg some (by kernel_rfl))
 f318 := Tryz.func121.trans (congrArg some (by kernel_rfl))
 f319 := Tryz.func122.trans (congrArg some (by kernel_rfl))
 f320 := Tryz.func123.trans (congrArg some (by kernel_rfl))
 f337 := Tryz.func130.trans (congrArg some (by kernel_rfl))
 f338 := Tryz.func131.trans (congrArg some (by kernel_rfl))
 t0 := Tryz.underlying0
 a0 := Tryz.isAgg0
 z0 := Tryz.sizeOf0
 v0 := Tryz.zeroValue0
 t2 := Tryz.underlying2
 a2 := Tryz.isAgg2
 z2 := Tryz.sizeOf2
 v2 := Tryz.zeroValue2
 t3 := Tryz.underlying3
 a3 := Tryz.isAgg3
 z3 := Tryz.sizeOf3
 v3 := Tryz.zeroValue3
 t4 := Tryz.underlying4
 a4 := Tryz.isAgg4
 z4 := Tryz.sizeOf4
 v4 := Tryz.zeroValue4
 t5 := Tryz.underlying5
 a5 := Tryz.isAgg5
 z5 := Tryz.sizeOf5
 v5 := Tryz.zeroValue5
 t9 := Tryz.underlying9
 a9 := Tryz.isAgg9
 z9 := Tryz.sizeOf9
 v9 := Tryz.zeroValue9
 t20 := Tryz.underlying20
 a20 := Tryz.isAgg20
 z20 := Tryz.sizeOf20
 v20 := Tryz.zeroValue20
 t37 := Tryz.underlying53
 a37 := Tryz.isAgg53
 z37 := Tryz.sizeOf53
 v37 := Tryz.zeroValue53
 t46 := Tryz.underlying139
 a46 := Tryz.isAgg139
 z46 := Tryz.sizeOf139
 v46 := Tryz.zeroValue139
 t51 := Tryz.underlying136
 a51 := Tryz.isAgg136
 z51 := Tryz.sizeOf136
 v51 := Tryz.zeroValue136
 t53 := Tryz.underlying127
 a53 := Tryz.isAgg127
 z53 := Tryz.sizeOf127
 v53 := Tryz.zeroValue127
 t75 := Tryz.underlying105
 a75 := Tryz.isAgg105
 z75 := Tryz.sizeOf105
 v75 := Tryz.zeroValue105
 t127 := Tryz.underlying89
 a127 := Tryz.isAgg89
 z127 := Tryz.sizeOf89
 v127 := Tryz.zeroValue89
 t143 := Tryz.underlying157
 a143 := Tryz.isAgg157
 z143 := Tryz.sizeOf157
 v143 := Tryz.zeroValue157
 t145 := Tryz.underlying159
 a145 := Tryz.isAgg159
 z145 := Tryz.sizeOf159
 v145 := Tryz.zeroValue159
 t167 := Tryz.underlying141
 a167 := Tryz.isAgg141
 z167 := Tryz.sizeOf141
 v167 := Tryz.zeroValue141
 t168 := Tryz.underlying144
 a168 := Tryz.isAgg144
 z168 := Tryz.sizeOf144
 v168 := Tryz.zeroValue144
 t171 := Tryz.underlying126
 a171 := Tryz.isAgg126
 z171 := Tryz.sizeOf126
 v171 := Tryz.zeroValue126
 t173 := Tryz.underlying130
 a173 := Tryz.isAgg130
 z173 := Tryz.sizeOf130
 v173 := Tryz.zeroValue130
 t210 := Tryz.underlying152
 a210 := Tryz.isAgg152
 z210 := Tryz.sizeOf152
 v210 := Tryz.zeroValue152
 t212 := Tryz.underlying135
 a212 := Tryz.isAgg135
 z212 := Tryz.sizeOf135
 v212 := Tryz.zeroValue135
 t213 := Tryz.underlying137
 a213 := Tryz.isAgg137
 z213 := Tryz.sizeOf137
 t232 := Tryz.underlying154
 a232 := Tryz.isAgg154
 z232 := Tryz.sizeOf154
 v232 := Tryz.zeroValue154
 t233 := Tryz.underlying155
 a233 := Tryz.isAgg155
 z233 := Tryz.sizeOf155
 v233 := Tryz.zeroValue155
 g15 := by kernel_rfl
 g16 := by kernel_rfl
 g17 := by kernel_rfl
 g18 := by kernel_rfl
 g19 := by kernel_rfl
 t80 := Tryz.underlying59
 a80 := Tryz.isAgg59
 z80 := Tryz.sizeOf59
 v80 := Tryz.zeroValue59
 i0 := by kernel_rfl
 i2 := by kernel_rfl
 i3 := by kernel_rfl
 i4 := by kernel_rfl
 i5 := by kernel_rfl
 i9 := by kernel_rfl
 i20 := by kernel_rfl
 i37 := by kernel_rfl
 i46 := by kernel_rfl
 i51 := by kernel_rfl
 i53 := by kernel_rfl
 i75 := by kernel_rfl
 i80 := by kernel_rfl
 i127 := by kernel_rfl
 i143 := by kernel_rfl
 i145 := by kernel_rfl
 i167 := by kernel_rfl
 i168 := by kernel_rfl
 i171 := by kernel_rfl
 i173 := by kernel_rfl
 i210 := by kernel_rfl
 i212 := by kernel_rfl
 i232 := by kernel_rfl
 i233 := by kernel_rfl
 m15 := by kernel_rfl
 m16 := by kernel_rfl
 m17 := by kernel_rfl
 m18 := by kernel_rfl
 m19 := by kernel_rfl
 c0 := by kernel_rfl
 c2 := by kernel_rfl
 c3 := by kernel_rfl
 c4 := by kernel_rfl
 c5 := by kernel_rfl
 c9 := by kernel_rfl
 c20 := by kernel_rfl
 c37 := by kernel_rfl
 c46 := by kernel_rfl
 c51 := by kernel_rfl
 c53 := by kernel_rfl
 c75 := by kernel_rfl
 c80 := by kernel_rfl
 c127 := by kernel_rfl
 c143 := by kernel_rfl
 c145 := by kernel_rfl
 c167 := by kernel_rfl
 c168 := by kernel_rfl
 c171 := by kernel_rfl
 c173 := by kernel_rfl
 c210 := by kernel_rfl
 c212 := by kernel_rfl
 c213 := by kernel_rfl
 c232 := by kernel_rfl
 c233 := by kernel_rfl }
open Go.RowKit in
theorem Tryz.strconv_toError_syntax (fn s : ByteArray) (base bits : Int) (ev : Value) (w : World) (hlim : s.size ≤ 281474976710656) (hv : w.cell? ⟨3, 0, none⟩ = some ev) (hev : ev = .nilIface ∨ ∃ te pe, ev = .iface te pe) :
 Calls Tryz.prog 118 #[.string fn, .string s, .int .i64 base, .int .i64 bits, .iface 141 (.int .i64 2)] w fun e w' => ∃ N, e = .returned (.iface 144 (.pointer (some ⟨N, 0, none⟩))) ∧ w.heap.size ≤ N ∧ w'.heap[N]? = some (.cells #[.string fn, .string s, ev] 152 (0, 0)) ∧ Below w.heap.size w w' := Any.strconv_toError_syntax Tryz.laysC245 fn s base bits ev w hlim hv hev
def Tryz.lays321_ren : Go.Shelf.Ren := ⟨fun | 321 => 135 | n => n, fun | 5 => 5 | n => n, fun | n => n⟩
theorem Tryz.lays321 : Go.Proofs.Lays.n321 Tryz.prog Tryz.lays321_ren := {
 mixed := by kernel_rfl
 f321 := Tryz.func135.trans (congrArg some (by kernel_rfl))
 t5 := Tryz.underlying5
 a5 := Tryz.isAgg5
 z5 := Tryz.sizeOf5
 v5 := Tryz.zeroValue5 }
open Go.RowKit in
theorem Tryz.internal_strconv_lower (c : Int) (w : World) :
 Calls Tryz.prog 135 #[.int .u8 c] w fun e w' => e = .returned (.int .u8 (bits .or .u8 c 32)) ∧ w' = w := Any.internal_strconv_lower Tryz.lays321 c w
def Tryz.lays287_ren : Go.Shelf.Ren := ⟨fun | 287 => 132 | 321 => 135 | 322 => 136 | n => n, fun | 9 => 9 | 3 => 3 | 53 => 127 | 75 => 105 | 4 => 4 | 167 => 141 | 5 => 5 | 46 => 139 | 37 => 53 | 0 => 0 | 21 => 21 | 80 => 59 | n => n, fun | n => n⟩
theorem Tryz.lays287 : Go.Proofs.Lays.n287 Tryz.prog Tryz.lays287_ren := {
 mixed := by kernel_rfl
 f287 := Tryz.func132.trans (congrArg some (by kernel_rfl))
 f321 := Tryz.func135.trans (congrArg some (by kernel_rfl))
 f322 := Tryz.func136.trans (congrArg some (by kernel_rfl))
 t0 := Tryz.underlying0
 a0 := Tryz.isAgg0
 z0 := Tryz.sizeOf0
 v0 := Tryz.zeroValue0
 t3 := Tryz.underlying3
 a3 := Tryz.isAgg3
 z3 := Tryz.sizeOf3
 v3 := Tryz.zeroValue3
 t4 := Tryz.underlying4
 a4 := Tryz.isAgg4
 z4 := Tryz.sizeOf4
 v4 := Tryz.zeroValue4
 t5 := Tryz.underlying5
 a5 := Tryz.isAgg5
 z5 := Tryz.sizeOf5
 v5 := Tryz.zeroValue5
 t9 := Tryz.underlying9
 a9 := Tryz.isAgg9
 z9 := Tryz.sizeOf9
 v9 := Tryz.zeroValue9
 t21 := Tryz.underlying21
 a21 := Tryz.isAgg21
 z21 := Tryz.sizeOf21
 v21 := Tryz.zeroValue21
 t37 := Tryz.underlying53
 a37 := Tryz.isAgg53
 z37 := Tryz.sizeOf53
 v37 := Tryz.zeroValue53
 t46 := Tryz.underlying139
 a46 := Tryz.isAgg139
 z46 := Tryz.sizeOf139
 v46 := Tryz.zeroValue139
 t53 := Tryz.underlying127
 a53 := Tryz.isAgg127
 z53 := Tryz.sizeOf127
 v53 := Tryz.zeroValue127
 t75 := Tryz.underlying105
 a75 := Tryz.isAgg105
 z75 := Tryz.sizeOf105
 v75 := Tryz.zeroValue105
 t167 := Tryz.underlying141
 a167 := Tryz.isAgg141
 z167 := Tryz.sizeOf141
 v167 := Tryz.zeroValue141 }
open Go.RowKit in
theorem Tryz.internal_strconv_ParseUint_10 (t : ByteArray) (hne : t.size ≠ 0) (hmax : t.size ≤ 9223372036854775806) (w : World) :
 Calls Tryz.prog 132 #[.string t, .int .i64 10, .int .i64 0] w fun e w' => e = .returned (Lib.uintTuple 141 (Lib.parseUint10 0 t.data.toList)) ∧ w' = Lib.bytesWorld w 5 t := Any.internal_strconv_ParseUint_10 Tryz.lays287 t hne hmax w
open Go.RowKit in
theorem Tryz.internal_strconv_ParseUint_10_empty (w : World) :
 Calls Tryz.prog 132 #[.string ⟨#[]⟩, .int .i64 10, .int .i64 0] w fun e w' => e = .returned (Lib.uintTuple 141 .syntax) ∧ w' = w := Any.internal_strconv_ParseUint_10_empty Tryz.lays287 w
open Go.RowKit in
theorem Tryz.internal_strconv_ParseUint_10_any (t : ByteArray) (hmax : t.size ≤ 9223372036854775806) (w : World) :
 Calls Tryz.prog 132 #[.string t, .int .i64 10, .int .i64 0] w fun e w' => e = .returned (Lib.uintTuple 141 (Lib.parseMag t.data.toList)) ∧ (w' = w ∨ w' = Lib.bytesWorld w 5 t) := Any.internal_strconv_ParseUint_10_any Tryz.lays287 t hmax w
def Tryz.laysC247_ren : Go.Shelf.Ren := ⟨fun | 247 => 125 | 287 => 132 | 321 => 135 | 322 => 136 | n => n, fun | 9 => 9 | 3 => 3 | 2 => 2 | 75 => 105 | 4 => 4 | 167 => 141 | 5 => 5 | 53 => 127 | 175 => 148 | 46 => 139 | 37 => 53 | 0 => 0 | 21 => 21 | 80 => 59 | n => n, fun | n => n⟩
theorem Tryz.laysC247 : Go.Proofs.LaysC.n247 Tryz.prog Tryz.laysC247_ren := {
 mixed := by kernel_rfl
 f247 := Tryz.func125.trans (congrArg some (by kernel_rfl))
 f287 := Tryz.func132.trans (congrArg some (by kernel_rfl))
 f321 := Tryz.func135.trans (congrArg some (by kernel_rfl))
 f322 := Tryz.func136.trans (congrArg some (by kernel_rfl))
 t0 := Tryz.underlying0
 a0 := Tryz.isAgg0
 z0 := Tryz.sizeOf0
 v0 := Tryz.zeroValue0
 t2 := Tryz.underlying2
 a2 := Tryz.isAgg2
 z2 := Tryz.sizeOf2
 v2 := Tryz.zeroValue2
 t3 := Tryz.underlying3
 a3 := Tryz.isAgg3
 z3 := Tryz.sizeOf3
 v3 := Tryz.zeroValue3
 t4 := Tryz.underlying4
 a4 := Tryz.isAgg4
 z4 := Tryz.sizeOf4
 v4 := Tryz.zeroValue4
 t5 := Tryz.underlying5
 a5 := Tryz.isAgg5
 z5 := Tryz.sizeOf5
 v5 := Tryz.zeroValue5
 t9 := Tryz.underlying9
 a9 := Tryz.isAgg9
 z9 := Tryz.sizeOf9
 v9 := Tryz.zeroValue9
 t21 := Tryz.underlying21
 a21 := Tryz.isAgg21
 z21 := Tryz.sizeOf21
 v21 := Tryz.zeroValue21
 t37 := Tryz.underlying53
 a37 := Tryz.isAgg53
 z37 := Tryz.sizeOf53
 v37 := Tryz.zeroValue53
 t46 := Tryz.underlying139
 a46 := Tryz.isAgg139
 z46 := Tryz.sizeOf139
 v46 := Tryz.zeroValue139
 t53 := Tryz.underlying127
 a53 := Tryz.isAgg127
 z53 := Tryz.sizeOf127
 v53 := Tryz.zeroValue127
 t75 := Tryz.underlying105
 a75 := Tryz.isAgg105
 z75 := Tryz.sizeOf105
 v75 := Tryz.zeroValue105
 t167 := Tryz.underlying141
 a167 := Tryz.isAgg141
 z167 := Tryz.sizeOf141
 v167 := Tryz.zeroValue141
 t175 := Tryz.underlying148
 a175 := Tryz.isAgg148
 z175 := Tryz.sizeOf148
 v175 := Tryz.zeroValue148
 t80 := Tryz.underlying59
 a80 := Tryz.isAgg59
 z80 := Tryz.sizeOf59
 v80 := Tryz.zeroValue59
 i0 := by kernel_rfl
 i2 := by kernel_rfl
 i3 := by kernel_rfl
 i4 := by kernel_rfl
 i5 := by kernel_rfl
 i9 := by kernel_rfl
 i21 := by kernel_rfl
 i37 := by kernel_rfl
 i46 := by kernel_rfl
 i53 := by kernel_rfl
 i75 := by kernel_rfl
 i80 := by kernel_rfl
 i167 := by kernel_rfl
 i175 := by kernel_rfl
 c0 := by kernel_rfl
 c2 := by kernel_rfl
 c3 := by kernel_rfl
 c4 := by kernel_rfl
 c5 := by kernel_rfl
 c9 := by kernel_rfl
 c21 := by kernel_rfl
 c37 := by kernel_rfl
 c46 := by kernel_rfl
 c53 := by kernel_rfl
 c75 := by kernel_rfl
 c80 := by kernel_rfl
 c167 := by kernel_rfl
 c175 := by kernel_rfl }
open Go.RowKit in
theorem Tryz.internal_strconv_ParseInt_10 (s : ByteArray) (hne : s.size ≠ 0) (hmax : s.size ≤ 9223372036854775806) (w : World) :
 Calls Tryz.prog 125 #[.string s, .int .i64 10, .int .i64 0] w fun e w' => e = .returned (Lib.intTuple 141 (Lib.atoiSat s.data.toList) (Lib.atoiAll s.data.toList)) ∧ (w' = w ∨ ∃ t, w' = Lib.bytesWorld w 5 t) := Any.internal_strconv_ParseInt_10 Tryz.laysC247 s hne hmax w
def Tryz.laysC244_ren : Go.Shelf.Ren := ⟨fun | 244 => 117 | 247 => 125 | 287 => 132 | 321 => 135 | 322 => 136 | n => n, fun | 9 => 9 | 3 => 3 | 75 => 105 | 4 => 4 | 5 => 5 | 167 => 141 | 37 => 53 | 0 => 0 | 85 => 142 | 2 => 2 | 53 => 127 | 175 => 148 | 46 => 139 | 21 => 21 | 80 => 59 | n => n, fun | n => n⟩
theorem Tryz.laysC244 : Go.Proofs.LaysC.n244 Tryz.prog Tryz.laysC244_ren := {
 mixed := by kernel_rfl
 f244 := Tryz.func117.trans (congrArg some (by kernel_rfl))
 f247 := Tryz.func125.trans (congrArg some (by kernel_rfl))
 f287 := Tryz.func132.trans (congrArg some (by kernel_rfl))
 f321 := Tryz.func135.trans (congrArg some (by kernel_rfl))
 f322 := Tryz.func136.trans (congrArg some (by kernel_rfl))
 t0 := Tryz.underlying0
 a0 := Tryz.isAgg0
 z0 := Tryz.sizeOf0
 v0 := Tryz.zeroValue0
 t2 := Tryz.underlying2
 a2 := Tryz.isAgg2
 z2 := Tryz.sizeOf2
 v2 := Tryz.zeroValue2
 t3 := Tryz.underlying3
 a3 := Tryz.isAgg3
 z3 := Tryz.sizeOf3
 v3 := Tryz.zeroValue3
 t4 := Tryz.underlying4
 a4 := Tryz.isAgg4
 z4 := Tryz.sizeOf4
 v4 := Tryz.zeroValue4
 t5 := Tryz.underlying5
 a5 := Tryz.isAgg5
 z5 := Tryz.sizeOf5
 v5 := Tryz.zeroValue5
 t9 := Tryz.underlying9
 a9 := Tryz.isAgg9
 z9 := Tryz.sizeOf9
 v9 := Tryz.zeroValue9
 t21 := Tryz.underlying21
 a21 := Tryz.isAgg21
 z21 := Tryz.sizeOf21
 v21 := Tryz.zeroValue21
 t37 := Tryz.underlying53
 a37 := Tryz.isAgg53
 z37 := Tryz.sizeOf53
 v37 := Tryz.zeroValue53
 t46 := Tryz.underlying139
 a46 := Tryz.isAgg139
 z46 := Tryz.sizeOf139
 v46 := Tryz.zeroValue139
 t53 := Tryz.underlying127
 a53 := Tryz.isAgg127
 z53 := Tryz.sizeOf127
 v53 := Tryz.zeroValue127
 t75 := Tryz.underlying105
 a75 := Tryz.isAgg105
 z75 := Tryz.sizeOf105
 v75 := Tryz.zeroValue105
 t85 := Tryz.underlying142
 a85 := Tryz.isAgg142
 z85 := Tryz.sizeOf142
 v85 := Tryz.zeroValue142
 t167 := Tryz.underlying141
 a167 := Tryz.isAgg141
 z167 := Tryz.sizeOf141
 v167 := Tryz.zeroValue141
 t175 := Tryz.underlying148
 a175 := Tryz.isAgg148
 z175 := Tryz.sizeOf148
 v175 := Tryz.zeroValue148
 t80 := Tryz.underlying59
 a80 := Tryz.isAgg59
 z80 := Tryz.sizeOf59
 v80 := Tryz.zeroValue59
 i0 := by kernel_rfl
 i2 := by kernel_rfl
 i3 := by kernel_rfl
 i4 := by kernel_rfl
 i5 := by kernel_rfl
 i9 := by kernel_rfl
 i21 := by kernel_rfl
 i37 := by kernel_rfl
 i46 := by kernel_rfl
 i53 := by kernel_rfl
 i75 := by kernel_rfl
 i80 := by kernel_rfl
 i85 := by kernel_rfl
 i167 := by kernel_rfl
 i175 := by kernel_rfl
 c0 := by kernel_rfl
 c2 := by kernel_rfl
 c3 := by kernel_rfl
 c4 := by kernel_rfl
 c5 := by kernel_rfl
 c9 := by kernel_rfl
 c21 := by kernel_rfl
 c37 := by kernel_rfl
 c46 := by kernel_rfl
 c53 := by kernel_rfl
 c75 := by kernel_rfl
 c80 := by kernel_rfl
 c85 := by kernel_rfl
 c167 := by kernel_rfl
 c175 := by kernel_rfl }
open Go.RowKit in
theorem Tryz.internal_strconv_Atoi_long (s : ByteArray) (h19 : 19 ≤ s.size) (hmax : s.size ≤ 9223372036854775806) (w : World) :
 Calls Tryz.prog 117 #[.string s] w fun e w' => e = .returned (Lib.intTuple 141 (Lib.atoiSat s.data.toList) (Lib.atoiAll s.data.toList)) ∧ (w' = w ∨ ∃ t, w' = Lib.bytesWorld w 5 t) := Any.internal_strconv_Atoi_long Tryz.laysC244 s h19 hmax w
open Go.RowKit in
theorem Tryz.internal_strconv_Atoi_all (s : ByteArray) (hmax : s.size ≤ 9223372036854775806) (w : World) :
 Calls Tryz.prog 117 #[.string s] w fun e w' => e = .returned (Lib.intTuple 141 (Lib.atoiSat s.data.toList) (Lib.atoiAll s.data.toList)) ∧ (w' = w ∨ ∃ t, w' = Lib.bytesWorld w 5 t) := Any.internal_strconv_Atoi_all Tryz.laysC244 s hmax w
def Tryz.laysM280_ren : Go.Shelf.Ren := ⟨fun | 280 => 127 | 316 => 133 | n => n, fun | 9 => 9 | 168 => 144 | 75 => 105 | 210 => 152 | 3 => 3 | 4 => 4 | 37 => 53 | 0 => 0 | 127 => 89 | 80 => 59 | 5 => 5 | n => n, fun | 16 => 4 | n => n⟩
theorem Tryz.laysM280 : Go.Proofs.LaysM.n280 Tryz.prog Tryz.laysM280_ren := {
 mixed := by kernel_rfl
 f280 := Tryz.func127.trans (congrArg some (by kernel_rfl))
 f316 := Tryz.func133.trans (congrArg some (by kernel_rfl))
 t0 := Tryz.underlying0
 a0 := Tryz.isAgg0
 z0 := Tryz.sizeOf0
 v0 := Tryz.zeroValue0
 t3 := Tryz.underlying3
 a3 := Tryz.isAgg3
 z3 := Tryz.sizeOf3
 v3 := Tryz.zeroValue3
 t4 := Tryz.underlying4
 a4 := Tryz.isAgg4
 z4 := Tryz.sizeOf4
 v4 := Tryz.zeroValue4
 t9 := Tryz.underlying9
 a9 := Tryz.isAgg9
 z9 := Tryz.sizeOf9
 v9 := Tryz.zeroValue9
 t37 := Tryz.underlying53
 a37 := Tryz.isAgg53
 z37 := Tryz.sizeOf53
 v37 := Tryz.zeroValue53
 t75 := Tryz.underlying105
 a75 := Tryz.isAgg105
 z75 := Tryz.sizeOf105
 v75 := Tryz.zeroValue105
 t127 := Tryz.underlying89
 a127 := Tryz.isAgg89
 z127 := Tryz.sizeOf89
 v127 := Tryz.zeroValue89
 t168 := Tryz.underlying144
 a168 := Tryz.isAgg144
 z168 := Tryz.sizeOf144
 v168 := Tryz.zeroValue144
 t210 := Tryz.underlying152
 a210 := Tryz.isAgg152
 z210 := Tryz.sizeOf152
 v210 := Tryz.zeroValue152
 g16 := by kernel_rfl
 t5 := Tryz.underlying5
 a5 := Tryz.isAgg5
 z5 := Tryz.sizeOf5
 v5 := Tryz.zeroValue5
 t80 := Tryz.underlying59
 a80 := Tryz.isAgg59
 z80 := Tryz.sizeOf59
 v80 := Tryz.zeroValue59
 i0 := by kernel_rfl
 i3 := by kernel_rfl
 i4 := by kernel_rfl
 i5 := by kernel_rfl
 i9 := by kernel_rfl
 i37 := by kernel_rfl
 i75 := by kernel_rfl
 i80 := by kernel_rfl
 i127 := by kernel_rfl
 i168 := by kernel_rfl
 i210 := by kernel_rfl
 m16 := by kernel_rfl }
open Go.RowKit in
theorem Tryz.strconv_rangeError (fn s : ByteArray) (ev : Value) (w : World) (hlim : s.size ≤ 281474976710656) (hv : w.cell? ⟨4, 0, none⟩ = some ev) (hev : ev = .nilIface ∨ ∃ te pe, ev = .iface te pe) :
 Calls Tryz.prog 127 #[.string fn, .string s] w fun e w' => ∃ N, e = .returned (.pointer (some ⟨N, 0, none⟩)) ∧ w.heap.size ≤ N ∧ w'.heap[N]? = some (.cells #[.string fn, .string s, ev] 152 (0, 0)) ∧ Below w.heap.size w w' := Any.strconv_rangeError Tryz.laysM280 fn s ev w hlim hv hev
open Go.RowKit in
theorem Tryz.strconv_toError_range (fn s : ByteArray) (base bits : Int) (ev : Value) (w : World) (hlim : s.size ≤ 281474976710656) (hv : w.cell? ⟨4, 0, none⟩ = some ev) (hev : ev = .nilIface ∨ ∃ te pe, ev = .iface te pe) :
 Calls Tryz.prog 118 #[.string fn, .string s, .int .i64 base, .int .i64 bits, .iface 141 (.int .i64 1)] w fun e w' => ∃ N, e = .returned (.iface 144 (.pointer (some ⟨N, 0, none⟩))) ∧ w.heap.size ≤ N ∧ w'.heap[N]? = some (.cells #[.string fn, .string s, ev] 152 (0, 0)) ∧ Below w.heap.size w w' := Any.strconv_toError_range Tryz.laysC245 fn s base bits ev w hlim hv hev
def Tryz.laysC172_ren : Go.Shelf.Ren := ⟨fun | 172 => 110 | 244 => 117 | 245 => 118 | 247 => 125 | 279 => 126 | 280 => 127 | 281 => 128 | 282 => 129 | 287 => 132 | 316 => 133 | 171 => 51 | 205 => 134 | 321 => 135 | 322 => 136 | 243 => 83 | 246 => 105 | 283 => 111 | 284 => 112 | 285 => 113 | 286 => 114 | 129 => 120 | 317 => 119 | 318 => 121 | 319 => 122 | 320 => 123 | 337 => 130 | 338 => 131 | n => n, fun | 9 => 9 | 3 => 3 | 75 => 105 | 76 => 106 | 4 => 4 | 5 => 5 | 167 => 141 | 37 => 53 | 0 => 0 | 85 => 142 | 2 => 2 | 168 => 144 | 53 => 127 | 175 => 148 | 46 => 139 | 210 => 152 | 127 => 89 | 145 => 159 | 143 => 157 | 21 => 21 | 171 => 126 | 173 => 130 | 212 => 135 | 51 => 136 | 20 => 20 | 213 => 137 | 232 => 154 | 233 => 155 | 80 => 59 | n => n, fun | 15 => 3 | 16 => 4 | 17 => 1 | 18 => 5 | 19 => 6 | n => n⟩
theorem Tryz.laysC172 : Go.Proofs.LaysC.n172 Tryz.prog Tryz.laysC172_ren := {
 mixed := by kernel_rfl
 f129 := Tryz.func120.trans (congrArg some (by kernel_rfl))
 f171 := Tryz.func51.trans (congrArg some (by kernel_rfl))
 f172 := Tryz.func110.trans (congrArg some (by kernel_rfl))
 f205 := Tryz.func134.trans (congrArg some (by kernel_rfl))
 f243 := Tryz.func83.trans (congrArg some (by kernel_rfl))
 f244 := Tryz.func117.trans (congrArg some (by kernel_rfl))
 f245 := Tryz.func118.trans (congrArg some (by kernel_rfl))
 f246 := Tryz.func105.trans (congrArg some (by kernel_rfl))
 f247 := Tryz.func125.trans (congrArg some (by kernel_rfl))
 f279 := Tryz.func126.trans (congrArg some (by kernel_rfl))
 f280 := Tryz.func127.trans (congrArg some (by kernel_rfl))
 f281 := Tryz.func128.trans (congrArg some (by kernel_rfl))
 f282 := Tryz.func129.trans (congrArg some (by kernel_rfl))
 f283 := Tryz.func111.trans (congrArg some (by kernel_rfl))
 f284 := Tryz.func112.trans (congrArg some (by kernel_rfl))
 f285 := Tryz.func113.trans (congrArg some (by kernel_rfl))
 f286 := Tryz.func114.trans (congrArg some (by kernel_rfl))
 f287 := Tryz.func132.trans (congrArg some (by kernel_rfl))
 f316 := Tryz.func133.trans (congrArg some (by kernel_rfl))
 f317 := Tryz.func119.trans (congrArg some (by kernel_rfl))
 f318 := Tryz.func121.trans (congrArg some (by kernel_rfl))
 f319 := Tryz.func122.trans (congrArg some (by kernel_rfl))
 f320 := Tryz.func123.trans (congrArg some (by kernel_rfl))
 f321 := Tryz.func135.trans (congrArg some (by kernel_rfl))
 f322 := Tryz.func136.trans (congrArg some (by kernel_rfl))
 f337 := Tryz.func130.trans (congrArg some (by kernel_rfl))
 f338 := Tryz.func131.trans (congrArg some (by kernel_rfl))
 t0 := Tryz.underlying0
 a0 := Tryz.isAgg0
 z0 := Tryz.sizeOf0
 v0 := Tryz.zeroValue0
 t2 := Tryz.underlying2
 a2 := Tryz.isAgg2
 z2 := Tryz.sizeOf2
 v2 := Tryz.zeroValue2
 t3 := Tryz.underlying3
 a3 := Tryz.isAgg3
 z3 := Tryz.sizeOf3
 v3 := Tryz.zeroValue3
 t4 := Tryz.underlying4
 a4 := Tryz.isAgg4
 z4 := Tryz.sizeOf4
 v4 := Tryz.zeroValue4
 t5 := Tryz.underlying5
 a5 := Tryz.isAgg5
 z5 := Tryz.sizeOf5
 v5 := Tryz.zeroValue5
 t9 := Tryz.underlying9
 a9 := Tryz.isAgg9
 z9 := Tryz.sizeOf9
 v9 := Tryz.zeroValue9
 t20 := Tryz.underlying20
 a20 := Tryz.isAgg20
 z20 := Tryz.sizeOf20
 v20 := Tryz.zeroValue20
 t21 := Tryz.underlying21
 a21 := Tryz.isAgg21
 z21 := Tryz.sizeOf21
 v21 := Tryz.zeroValue21
 t37 := Tryz.underlying53
 a37 := Tryz.isAgg53
 z37 := Tryz.sizeOf53
 v37 := Tryz.zeroValue53
 t46 := Tryz.underlying139
 a46 := Tryz.isAgg139
 z46 := Tryz.sizeOf139
 v46 := Tryz.zeroValue139
 t51 := Tryz.underlying136
 a51 := Tryz.isAgg136
 z51 := Tryz.sizeOf136
 v51 := Tryz.zeroValue136
 t53 := Tryz.underlying127
 a53 := Tryz.isAgg127
 z53 := Tryz.sizeOf127
 v53 := Tryz.zeroValue127
 t75 := Tryz.underlying105
 a75 := Tryz.isAgg105
 z75 := Tryz.sizeOf105
 v75 := Tryz.zeroValue105
 t76 := Tryz.underlying106
 a76 := Tryz.isAgg106
 z76 := Tryz.sizeOf106
 v76 := Tryz.zeroValue106
 t85 := Tryz.underlying142
 a85 := Tryz.isAgg142
 z85 := Tryz.sizeOf142
 v85 := Tryz.zeroValue142
 t127 := Tryz.underlying89
 a127 := Tryz.isAgg89
 z127 := Tryz.sizeOf89
 v127 := Tryz.zeroValue89
 t143 := Tryz.underlying157
 a143 := Tryz.isAgg157
 z143 := Tryz.sizeOf157
 v143 := Tryz.zeroValue157
 t145 := Tryz.underlying159
 a145 := Tryz.isAgg159
 z145 := Tryz.sizeOf159
 v145 := Tryz.zeroValue159
 t167 := Tryz.underlying141
 a167 := Tryz.isAgg141
 z167 := Tryz.sizeOf141
 v167 := Tryz.zeroValue141
 t168 := Tryz.underlying144
 a168 := Tryz.isAgg144
 z168 := Tryz.sizeOf144
 v168 := Tryz.zeroValue144
 t171 := Tryz.underlying126
 a171 := Tryz.isAgg126
 z171 := Tryz.sizeOf126
 v171 := Tryz.zeroValue126
 t173 := Tryz.underlying130
 a173 := Tryz.isAgg130
 z173 := Tryz.sizeOf130
 v173 := Tryz.zeroValue130
 t175 := Tryz.underlying148
 a175 := Tryz.isAgg148
 z175 := Tryz.sizeOf148
 v175 := Tryz.zeroValue148
 t210 := Tryz.underlying152
 a210 := Tryz.isAgg152
 z210 := Tryz.sizeOf152
 v210 := Tryz.zeroValue152
 t212 := Tryz.underlying135
 a212 := Tryz.isAgg135
 z212 := Tryz.sizeOf135
 v212 := Tryz.zeroValue135
 t213 := Tryz.underlying137
 a213 := Tryz.isAgg137
 z213 := Tryz.sizeOf137
 t232 := Tryz.underlying154
 a232 := Tryz.isAgg154
 z232 := Tryz.sizeOf154
 v232 := Tryz.zeroValue154
 t233 := Tryz.underlying155
 a233 := Tryz.isAgg155
 z233 := Tryz.sizeOf155
 v233 := Tryz.zeroValue155
 g15 := by kernel_rfl
 g16 := by kernel_rfl
 g17 := by kernel_rfl
 g18 := by kernel_rfl
 g19 := by kernel_rfl
 t80 := Tryz.underlying59
 a80 := Tryz.isAgg59
 z80 := Tryz.sizeOf59
 v80 := Tryz.zeroValue59
 i0 := by kernel_rfl
 i2 := by kernel_rfl
 i3 := by kernel_rfl
 i4 := by kernel_rfl
 i5 := by kernel_rfl
 i9 := by kernel_rfl
 i20 := by kernel_rfl
 i21 := by kernel_rfl
 i37 := by kernel_rfl
 i46 := by kernel_rfl
 i51 := by kernel_rfl
 i53 := by kernel_rfl
 i75 := by kernel_rfl
 i76 := by kernel_rfl
 i80 := by kernel_rfl
 i85 := by kernel_rfl
 i127 := by kernel_rfl
 i143 := by kernel_rfl
 i145 := by kernel_rfl
 i167 := by kernel_rfl
 i168 := by kernel_rfl
 i171 := by kernel_rfl
 i173 := by kernel_rfl
 i175 := by kernel_rfl
 i210 := by kernel_rfl
 i212 := by kernel_rfl
 i232 := by kernel_rfl
 i233 := by kernel_rfl
 m15 := by kernel_rfl
 m16 := by kernel_rfl
 m17 := by kernel_rfl
 m18 := by kernel_rfl
 m19 := by kernel_rfl
 c0 := by kernel_rfl
 c2 := by kernel_rfl
 c3 := by kernel_rfl
 c4 := by kernel_rfl
 c5 := by kernel_rfl
 c9 := by kernel_rfl
 c20 := by kernel_rfl
 c21 := by kernel_rfl
 c37 := by kernel_rfl
 c46 := by kernel_rfl
 c51 := by kernel_rfl
 c53 := by kernel_rfl
 c75 := by kernel_rfl
 c76 := by kernel_rfl
 c80 := by kernel_rfl
 c85 := by kernel_rfl
 c127 := by kernel_rfl
 c143 := by kernel_rfl
 c145 := by kernel_rfl
 c167 := by kernel_rfl
 c168 := by kernel_rfl
 c171 := by kernel_rfl
 c173 := by kernel_rfl
 c175 := by kernel_rfl
 c210 := by kernel_rfl
 c212 := by kernel_rfl
 c213 := by kernel_rfl
 c232 := by kernel_rfl
 c233 := by kernel_rfl }
open Go.RowKit in
theorem Tryz.strconv_Atoi_ok (s : ByteArray) (hmax : s.size ≤ 9223372036854775806) (v : Int) (h : Lib.atoiAll s.data.toList = .ok v) (w : World) :
 Calls Tryz.prog 110 #[.string s] w fun e w' => e = .returned (.tuple #[.int .i64 v, .nilIface]) ∧ (w' = w ∨ ∃ t, w' = Lib.bytesWorld w 5 t) := Any.strconv_Atoi_ok Tryz.laysC172 s hmax v h w
open Go.RowKit in
theorem Tryz.strconv_Atoi_syntax (s : ByteArray) (hlim : s.size ≤ 281474976710656) (h : Lib.atoiAll s.data.toList = .«syntax») (ev : Value) (w : World) (hv : w.cell? ⟨3, 0, none⟩ = some ev) (hev : ev = .nilIface ∨ ∃ te pe, ev = .iface te pe) :
 Calls Tryz.prog 110 #[.string s] w fun e w' => ∃ N, e = .returned (.tuple #[.int .i64 (0), .iface 144 (.pointer (some ⟨N, 0, none⟩))]) ∧ w.heap.size ≤ N ∧ w'.heap[N]? = some (.cells #[.string ⟨#[65, 116, 111, 105]⟩, .string s, ev] 152 (0, 0)) ∧ Below w.heap.size w w' := Any.strconv_Atoi_syntax Tryz.laysC172 s hlim h ev w hv hev
open Go.RowKit in
theorem Tryz.strconv_Atoi_range (s : ByteArray) (hlim : s.size ≤ 281474976710656) (h : Lib.atoiAll s.data.toList = .range) (ev : Value) (w : World) (hv : w.cell? ⟨4, 0, none⟩ = some ev) (hev : ev = .nilIface ∨ ∃ te pe, ev = .iface te pe) :
 Calls Tryz.prog 110 #[.string s] w fun e w' => ∃ N, e = .returned (.tuple #[.int .i64 (Lib.atoiSat s.data.toList), .iface 144 (.pointer (some ⟨N, 0, none⟩))]) ∧ w.heap.size ≤ N ∧ w'.heap[N]? = some (.cells #[.string ⟨#[65, 116, 111, 105]⟩, .string s, ev] 152 (0, 0)) ∧ Below w.heap.size w w' := Any.strconv_Atoi_range Tryz.laysC172 s hlim h ev w hv hev
open Go.RowKit in
theorem Tryz.strconv_Atoi_syntax_var (s : ByteArray) (hlim : s.size ≤ 281474976710656) (h : Lib.atoiAll s.data.toList = .«syntax») (tp : TypeId) (p : Value) (w : World) (hvar : w.var? Tryz.prog "strconv.ErrSyntax" = some #[.iface tp p]) :
 Calls Tryz.prog 110 #[.string s] w fun e w' => ∃ N, e = .returned (.tuple #[.int .i64 0, .iface 144 (.pointer (some ⟨N, 0, none⟩))]) ∧ w.heap.size ≤ N ∧ w'.heap[N]? = some (.cells #[.string ⟨#[65, 116, 111, 105]⟩, .string s, .iface tp p] 152 (0, 0)) ∧ Below w.heap.size w w' := Any.strconv_Atoi_syntax_var Tryz.laysC172 s hlim h tp p w hvar
open Go.RowKit in
theorem Tryz.strconv_Atoi_range_var (s : ByteArray) (hlim : s.size ≤ 281474976710656) (h : Lib.atoiAll s.data.toList = .range) (tp : TypeId) (p : Value) (w : World) (hvar : w.var? Tryz.prog "strconv.ErrRange" = some #[.iface tp p]) :
 Calls Tryz.prog 110 #[.string s] w fun e w' => ∃ N, e = .returned (.tuple #[.int .i64 (Lib.atoiSat s.data.toList), .iface 144 (.pointer (some ⟨N, 0, none⟩))]) ∧ w.heap.size ≤ N ∧ w'.heap[N]? = some (.cells #[.string ⟨#[65, 116, 111, 105]⟩, .string s, .iface tp p] 152 (0, 0)) ∧ Below w.heap.size w w' := Any.strconv_Atoi_range_var Tryz.laysC172 s hlim h tp p w hvar
def Tryz.lays217_ren : Go.Shelf.Ren := ⟨fun | 217 => 116 | 266 => 124 | n => n, fun | 9 => 9 | 5 => 5 | 3 => 3 | n => n, fun | n => n⟩
theorem Tryz.lays217 : Go.Proofs.Lays.n217 Tryz.prog Tryz.lays217_ren := {
 mixed := by kernel_rfl
 f217 := Tryz.func116.trans (congrArg some (by kernel_rfl))
 f266 := Tryz.func124.trans (congrArg some (by kernel_rfl))
 t3 := Tryz.underlying3
 a3 := Tryz.isAgg3
 z3 := Tryz.sizeOf3
 v3 := Tryz.zeroValue3
 t5 := Tryz.underlying5
 a5 := Tryz.isAgg5
 z5 := Tryz.sizeOf5
 v5 := Tryz.zeroValue5
 t9 := Tryz.underlying9
 a9 := Tryz.isAgg9
 z9 := Tryz.sizeOf9
 v9 := Tryz.zeroValue9 }
open Go.RowKit Go.Lib in
theorem Tryz.stringslite_IndexByte (s : ByteArray) (c : Int) (w : World) :
 Calls Tryz.prog 116 #[.string s, .int .u8 c] w fun e w' => e = .returned (.int .i64 (Lib.indexByte s.data.toList c.toNat.toUInt8)) ∧ w' = w := Any.stringslite_IndexByte Tryz.lays217 s c w
def Tryz.lays206_ren : Go.Shelf.Ren := ⟨fun | 206 => 115 | n => n, fun | 9 => 9 | 4 => 4 | 3 => 3 | n => n, fun | n => n⟩
theorem Tryz.lays206 : Go.Proofs.Lays.n206 Tryz.prog Tryz.lays206_ren := {
 mixed := by kernel_rfl
 f206 := Tryz.func115.trans (congrArg some (by kernel_rfl))
 t3 := Tryz.underlying3
 a3 := Tryz.isAgg3
 z3 := Tryz.sizeOf3
 v3 := Tryz.zeroValue3
 t4 := Tryz.underlying4
 a4 := Tryz.isAgg4
 z4 := Tryz.sizeOf4
 v4 := Tryz.zeroValue4
 t9 := Tryz.underlying9
 a9 := Tryz.isAgg9
 z9 := Tryz.sizeOf9
 v9 := Tryz.zeroValue9 }
open Go.RowKit Go.Lib in
theorem Tryz.stringslite_HasPrefix (s p : ByteArray) (w : World) :
 Calls Tryz.prog 115 #[.string s, .string p] w fun e w' => e = .returned (.bool (Lib.hasPrefix s.data.toList p.data.toList)) ∧ w' = w := Any.stringslite_HasPrefix Tryz.lays206 s p w
def Tryz.lays99_ren : Go.Shelf.Ren := ⟨fun | 99 => 107 | 206 => 115 | n => n, fun | 9 => 9 | 4 => 4 | 3 => 3 | n => n, fun | n => n⟩
theorem Tryz.lays99 : Go.Proofs.Lays.n99 Tryz.prog Tryz.lays99_ren := {
 mixed := by kernel_rfl
 f99 := Tryz.func107.trans (congrArg some (by kernel_rfl))
 f206 := Tryz.func115.trans (congrArg some (by kernel_rfl))
 t3 := Tryz.underlying3
 a3 := Tryz.isAgg3
 z3 := Tryz.sizeOf3
 v3 := Tryz.zeroValue3
 t4 := Tryz.underlying4
 a4 := Tryz.isAgg4
 z4 := Tryz.sizeOf4
 v4 := Tryz.zeroValue4
 t9 := Tryz.underlying9
 a9 := Tryz.isAgg9
 z9 := Tryz.sizeOf9
 v9 := Tryz.zeroValue9 }
open Go.RowKit Go.Lib in
theorem Tryz.strings_HasPrefix (s p : ByteArray) (w : World) :
 Calls Tryz.prog 107 #[.string s, .string p] w fun e w' => e = .returned (.bool (Lib.hasPrefix s.data.toList p.data.toList)) ∧ w' = w := Any.strings_HasPrefix Tryz.lays99 s p w
end Go.Proofs
namespace Bk
open Go Go.RowKit Go.Proofs
theorem ret_int {k : IntKind} {a b : Int} (h : a = b) : Ending.returned (.int k a) = .returned (.int k b) := by rw [h]
theorem ret_str {a b : List UInt8} (h : a = b) : Ending.returned (str a) = .returned (str b) := by rw [h]
theorem ret_bool {a b : Bool} (h : a = b) : Ending.returned (.bool a) = .returned (.bool b) := by rw [h]
theorem arith_Level_c (k : Int) (w : World) (h0 : 0 ≤ k) (h1 : k ≤ 255) : Calls Tryz.prog 55 #[.int .u8 k] w fun e w' => e = .returned (.int .i64 (level k)) ∧ w = w' := by
 go_enter Tryz.func55, Tryz.ntmps55
 go_wp2_with fail
 all_goals go_ret
 all_goals (refine ⟨ret_int ?_, rfl⟩; (try simp only [beq_iff_eq, beq_eq_false_iff_ne, ne_eq, bne_iff_ne, decide_eq_true_eq, decide_eq_false_iff_not] at *); first | (subst k; rfl) | (unfold level; (repeat' split) <;> omega))
structure Syms (w : World) : Prop where
 sym : ∀ i, i < 43 → w.cell? ⟨0, i, none⟩ = some (str (symbols.getD i []))
theorem Syms.ext {w w' : World} (h : Syms w) (x : Ext w w') : Syms w' := ⟨fun i hi => x.keep (h.sym i hi)⟩
theorem Syms.fr {S : Nat → Prop} {w w' : World} (h : Syms w) (x : Fr S w w') (hs : ∀ k, S k → 0 < k) : Syms w' := ⟨fun i hi => x.keep (fun e => by have := hs _ e; omega) (h.sym i hi)⟩
theorem symbol_out (k : Int) (h : 43 ≤ k) : symbol k = [] := by
 unfold symbol
 rw [List.getD_eq_getElem?_getD, List.getElem?_eq_none (show 43 ≤ k.toNat by omega)]
 rfl
theorem arith_Symbol_s (k : Int) (w : World) (h0 : 0 ≤ k) (h1 : k ≤ 255) (ht : Syms w) : Calls Tryz.prog 52 #[.int .u8 k] w fun e w' => e = .returned (str (symbol k)) ∧ w = w' := by
 by_cases hk : k < 43
 · have g := ht.sym k.toNat (by omega)
   have G : Hid (symbols.getD k.toNat [] = symbol k) := Lib.hid rfl
   clear ht
   go_enter Tryz.func52, Tryz.ntmps52
   go_wp2_with fail
   go_ret
   rw [← G.out]
   exact ⟨by simp [go_sem], rfl⟩
 · have hn := symbol_out k (by omega)
   have HN := Lib.hid hn; clear hn ht
   go_enter Tryz.func52, Tryz.ntmps52
   go_wp2_with fail
   go_ret
   rw [HN.out]
   exact ⟨rfl, rfl⟩
end Bk
namespace Bk
open Go Go.RowKit Go.Proofs
theorem letter_c (c : UInt8) (w : World) : Calls Tryz.prog 95 #[.int .u8 c.toNat] w fun e w' => e = .returned (.bool (letter c)) ∧ w = w' := by
 go_enter Tryz.func95, Tryz.ntmps95
 go_wp2_with fail
 all_goals go_ret
 all_goals (refine ⟨ret_bool ?_, rfl⟩; unfold letter; rw [Bool.eq_iff_iff]; simp; try omega)
theorem digit_c (c : UInt8) (w : World) : Calls Tryz.prog 98 #[.int .u8 c.toNat] w fun e w' => e = .returned (.bool (digit c)) ∧ w = w' := by
 go_enter Tryz.func98, Tryz.ntmps98
 go_wp2_with fail
 all_goals go_ret
 all_goals (refine ⟨ret_bool ?_, rfl⟩; unfold digit; rw [Bool.eq_iff_iff]; simp; try omega)
theorem blank_c (c : UInt8) (w : World) : Calls Tryz.prog 99 #[.int .u8 c.toNat] w fun e w' => e = .returned (.bool (blank c)) ∧ w = w' := by
 go_enter Tryz.func99, Tryz.ntmps99
 go_wp2_with fail
 all_goals go_ret
 all_goals (refine ⟨ret_bool ?_, rfl⟩; unfold blank; rw [Bool.eq_iff_iff]; simp; try omega)
theorem notLf_c (c : UInt8) (w : World) : Calls Tryz.prog 100 #[.int .u8 c.toNat] w fun e w' => e = .returned (.bool (notLf c)) ∧ w = w' := by
 go_enter Tryz.func100, Tryz.ntmps100
 go_wp2_with fail
 all_goals go_ret
 all_goals (refine ⟨ret_bool ?_, rfl⟩; unfold notLf; rw [Bool.eq_iff_iff]; simp; try omega)
theorem wordish_c (c : UInt8) (w : World) : Calls Tryz.prog 97 #[.int .u8 c.toNat] w fun e w' => e = .returned (.bool (wordish c)) ∧ w = w' := by
 go_enter Tryz.func97, Tryz.ntmps97
 cases hl : letter c
 all_goals have HL := Lib.hid hl; clear hl
 all_goals go_wp2_with (first | (go_at_call 95; refine (letter_c c _).mono ?_; rintro e w' ⟨rfl, rfl⟩; rw [HL.out]) | (go_at_call 98; refine (digit_c c _).mono ?_; rintro e w' ⟨rfl, rfl⟩))
 all_goals go_ret
 all_goals (refine ⟨ret_bool ?_, rfl⟩; unfold wordish; rw [HL.out]; simp)
theorem span_c (f : FuncId) (p : UInt8 → Bool) (hp : ∀ (c : UInt8) (w : World), Calls Tryz.prog f #[.int .u8 c.toNat] w fun e w' => e = .returned (.bool (p c)) ∧ w = w')
 (he : ∀ args w, (callFunc f args).run Tryz.prog w = .ok (.enter f args) w) (s : List UInt8) (w : World) (hs : s.length ≤ 9223372036854775807) :
 Calls Tryz.prog 96 #[str s, .func (.func f) #[] #[]] w fun e w' => e = .returned (.int .i64 (span p s)) ∧ w = w' := by
 have HP := Lib.hid hp; clear hp
 go_enter Tryz.func96, Tryz.ntmps96
 go_wp2_with fail
 go_loop [8] (fun i => ∃ j : Nat, j ≤ s.length ∧ i = .int .i64 j ∧ Hid (span p s = j + span p (s.drop j))) (fun i => s.length - (intOf i).toNat)
 case atStart => exact ⟨0, Nat.zero_le _, rfl, Lib.hid (by simp)⟩
 case round =>
  obtain ⟨j, hj, rfl, HJ⟩ := hrel
  by_cases hlt : j < s.length
  · go_wp2_with fail
    refine (HP.out s[j] _).mono ?_
    rintro e w' ⟨rfl, rfl⟩
    have hd := List.drop_eq_getElem_cons hlt
    have hsp : span p (s.drop j) = if p s[j] then 1 + span p (s.drop (j + 1)) else 0 := by
     rw [hd]; unfold span; rw [List.takeWhile_cons]; split <;> simp; omega
    have HSP := Lib.hid hsp; clear hsp hd
    cases hb : p s[j]
    · have HB := Lib.hid hb; clear hb
      go_wp2_with fail
      go_ret
      refine ⟨ret_int ?_, rfl⟩
      rw [HJ.out, HSP.out, HB.out]; simp
    · have HB := Lib.hid hb; clear hb
      go_wp2_with fail
      go_round
      case rel => exact ⟨j + 1, by omega, by go_num, Lib.hid (by rw [HJ.out, HSP.out, HB.out]; simp; omega)⟩
      case measure => simp [intOf]; omega
  · go_wp2_with fail
    go_ret
    refine ⟨ret_int ?_, rfl⟩
    rw [HJ.out, List.drop_eq_nil_of_le (by omega)]; simp [span]; omega
end Bk
namespace Bk
open Go Go.RowKit Go.Proofs
theorem take2_eq (s : List UInt8) (n : Int) (hn : n.toNat = min 2 s.length) : (⟨s.toArray⟩ : ByteArray).extract 0 n.toNat = ⟨(s.take 2).toArray⟩ := by
 apply ByteArray.ext
 rw [hn]
 simp only [ByteArray.data_extract]
 apply Array.ext'
 simp only [List.extract_toArray, List.extract_eq_take_drop, Nat.sub_zero, List.drop_zero]
 rcases Nat.le_total 2 s.length with h | h
 · rw [Nat.min_eq_left h]
 · rw [Nat.min_eq_right h, List.take_of_length_le h, List.take_length]
theorem indexByte_ge : ∀ (l : List UInt8) (c : UInt8), -1 ≤ Lib.indexByte l c
 | [], c => by simp [Lib.indexByte]
 | b :: l, c => by
  have := indexByte_ge l c
  unfold Lib.indexByte
  split
  · omega
  · split <;> omega
theorem indexByte_contains : ∀ (l : List UInt8) (c : UInt8), (0 ≤ Lib.indexByte l c) ↔ l.contains c = true
 | [], c => by simp [Lib.indexByte]
 | b :: l, c => by
  have ih := indexByte_contains l c
  have hg := indexByte_ge l c
  unfold Lib.indexByte
  rw [List.contains_cons]
  by_cases hb : b = c
  · simp [hb]
  · have hb' : ¬ c = b := fun e => hb e.symm
    simp only [beq_iff_eq, hb, hb', if_false, Bool.or_eq_true, false_or, ← ih]
    split <;> omega
theorem sign_c (c : UInt8) (r : List UInt8) (w : World) (hs : (c :: r).length ≤ 9223372036854775807) :
 Calls Tryz.prog 101 #[str (c :: r)] w fun e w' => e = .returned (.int .i64 (signLen (c :: r))) ∧ w = w' := by
 simp only [List.length_cons] at hs
 have hx := take2_eq (c :: r) (min 2 ((r.length : Int) + 1)) (by simp only [List.length_cons]; omega)
 have hsl : signLen (c :: r) = if List.isPrefixOf [60, 61, 62] (c :: r) then 3 else if pairs.contains ((c :: r).take 2) then 2 else if singles.contains c then 1 else 0 := rfl
 have HSL := Lib.hid hsl; clear hsl
 generalize (c :: r).take 2 = t at *
 cases h3 : List.isPrefixOf [60, 61, 62] (c :: r)
 · have H3 := Lib.hid h3; clear h3
   cases hp : pairs.contains t
   · have HP := Lib.hid hp
     simp only [pairs, List.contains_cons, List.contains_nil, Bool.or_eq_false_iff, Bool.or_false] at hp
     obtain ⟨p0, p1, p2, p3, p4, p5, p6, p7, p8, p9⟩ := hp
     go_enter Tryz.func101, Tryz.ntmps101
     go_wp2_with (go_at_call 107; refine (Tryz.strings_HasPrefix _ _ _).mono ?_; rintro e w' ⟨rfl, rfl⟩; rw [show Lib.hasPrefix (⟨(c :: r).toArray⟩ : ByteArray).data.toList (⟨#[60, 61, 62]⟩ : ByteArray).data.toList = false from H3.out])
     refine (Tryz.strings_IndexByte _ _ _).mono ?_
     rintro e w2 ⟨rfl, rfl⟩
     have e0 : (((c.toNat : Nat) : Int)).toNat.toUInt8 = c := by simp
     have e1 : ∀ h, (((((⟨(c :: r).toArray⟩ : ByteArray)[0]'h).toNat : Nat) : Int)).toNat.toUInt8 = c := fun _ => e0
     rw [e1]
     have hi := indexByte_contains singles c
     rw [show Lib.indexByte (⟨#[43, 45, 42, 47, 37, 38, 124, 94, 33, 61, 60, 62, 40, 41, 123, 125, 91, 93, 59, 44]⟩ : ByteArray).data.toList c = Lib.indexByte singles c from rfl]
     generalize Lib.indexByte singles c = ix at *
     cases hc : singles.contains c
     · have hlt : ix < 0 := by rw [hc] at hi; simp at hi; omega
       have HC := Lib.hid hc; clear hc hi
       simp only
       go_wp2_with fail
       go_ret
       rw [HSL.out, H3.out, HP.out, HC.out]; exact ⟨rfl, rfl⟩
     · have hge : 0 ≤ ix := hi.2 hc
       have HC := Lib.hid hc; clear hc hi
       simp only
       go_wp2_with fail
       go_ret
       rw [HSL.out, H3.out, HP.out, HC.out]; exact ⟨rfl, rfl⟩
   · go_enter Tryz.func101, Tryz.ntmps101
     go_wp2_with (go_at_call 107; refine (Tryz.strings_HasPrefix _ _ _).mono ?_; rintro e w' ⟨rfl, rfl⟩; rw [show Lib.hasPrefix (⟨(c :: r).toArray⟩ : ByteArray).data.toList (⟨#[60, 61, 62]⟩ : ByteArray).data.toList = false from H3.out])
     all_goals first | (go_ret; rw [HSL.out, H3.out, hp]; exact ⟨rfl, rfl⟩) | (exfalso; simp_all [pairs]; done)
 · have H3 := Lib.hid h3; clear h3
   go_enter Tryz.func101, Tryz.ntmps101
   go_wp2_with (go_at_call 107; refine (Tryz.strings_HasPrefix _ _ _).mono ?_; rintro e w' ⟨rfl, rfl⟩; rw [show Lib.hasPrefix (⟨(c :: r).toArray⟩ : ByteArray).data.toList (⟨#[60, 61, 62]⟩ : ByteArray).data.toList = true from H3.out])
   go_ret
   rw [HSL.out, H3.out]; exact ⟨rfl, rfl⟩
end Bk
namespace Bk
open Go Go.RowKit Go.Proofs
def kwEntries : List (List UInt8) → Nat → List MapEntry
 | [], _ => []
 | k :: r, i => { key := str k, val := .bool true, born := i } :: kwEntries r (i + 1)
def kwMap (ks : List (List UInt8)) : Obj := .map (kwEntries ks 0).toArray ks.length
theorem kwEntries_snoc (ks : List (List UInt8)) (k : List UInt8) : ∀ i, kwEntries (ks ++ [k]) i = kwEntries ks i ++ [{ key := str k, val := .bool true, born := i + ks.length }] := by
 induction ks with
 | nil => intro i; simp [kwEntries]
 | cons x r ih => intro i; simp [kwEntries, ih, Nat.add_assoc, Nat.add_comm 1]
theorem ba_beq (b : ByteArray) (x : List UInt8) : (b == (⟨x.toArray⟩ : ByteArray)) = (b.data.toList == x) := by
 show (b.data == x.toArray) = _
 rw [Bool.eq_iff_iff]; simp
 constructor
 · intro h; rw [h]
 · intro h; rw [← h]
theorem findNow_kw (b : ByteArray) (ks : List (List UInt8)) : ∀ i j, (ks.contains b.data.toList = false → Instr.findNow .string (.string b) (kwEntries ks i) j = some none) ∧
 (ks.contains b.data.toList = true → ∃ n, Instr.findNow .string (.string b) (kwEntries ks i) j = some (some (n, .bool true))) := by
 induction ks with
 | nil => intro i j; simp [kwEntries, Instr.findNow]
 | cons x r ih =>
  intro i j
  simp only [kwEntries, Instr.findNow, Instr.sameNow, ba_beq, List.contains_cons]
  cases h : b.data.toList == x
  · simpa using ih (i + 1) (j + 1)
  · simp
theorem push_set (h : Array Obj) (a b : Obj) : (h.push a).setIfInBounds h.size b = h.push b := by
 apply Array.ext'
 simp
theorem underMap : Tryz.prog.underlying 118 = some (.map 9 4) := by kernel_rfl
theorem underStr : Tryz.prog.underlying 9 = some .string := by kernel_rfl
theorem run_kw_ins (w : World) (ks : List (List UInt8)) (b : ByteArray) (h : ks.contains b.data.toList = false) :
 (Instr.mapUpdate 118 (.map (some w.heap.size)) (.string b) (.bool true)).run Tryz.prog (w.alloc (kwMap ks)) = .ok () (w.alloc (kwMap (ks ++ [b.data.toList]))) := by
 have hb : (w.alloc (kwMap ks)).heap[w.heap.size]? = some (.map (kwEntries ks 0).toArray ks.length) := by show (w.heap.push (kwMap ks))[w.heap.size]? = _; simp [kwMap]
 have hf : Instr.findNow .string (.string b) (kwEntries ks 0) 0 = some none := (findNow_kw b ks 0 0).1 h
 have hc : (Instr.checkKey false 10000 9 (.string b)).run Tryz.prog (w.alloc (kwMap ks)) = .ok () (w.alloc (kwMap ks)) := MapKept.run_checkKey (k := .string b) underStr (by simp [MapKept.IsKey]) false 9999
 simp [Instr.mapUpdate, run_underlying underMap, MapKept.run_getObj_map hb, hc, MapKept.run_findKey underStr hf, MapKept.run_setObj_map _ hb, Result.andThen]
 show ({ w with heap := (w.heap.push (kwMap ks)).setIfInBounds w.heap.size _ } : World) = { w with heap := w.heap.push _ }
 rw [push_set]
 unfold kwMap
 rw [kwEntries_snoc]
 simp
theorem run_kw_look (w : World) (ks : List (List UInt8)) (b : ByteArray) :
 (Instr.lookup 118 (.map (some w.heap.size)) (.string b) false).run Tryz.prog (w.alloc (kwMap ks)) = .ok (.bool (ks.contains b.data.toList)) (w.alloc (kwMap ks)) := by
 have hb : (w.alloc (kwMap ks)).heap[w.heap.size]? = some (.map (kwEntries ks 0).toArray ks.length) := by show (w.heap.push (kwMap ks))[w.heap.size]? = _; simp [kwMap]
 have hc : ∀ q, (Instr.checkKey q 10000 9 (.string b)).run Tryz.prog (w.alloc (kwMap ks)) = .ok () (w.alloc (kwMap ks)) := fun q => MapKept.run_checkKey (k := .string b) underStr (by simp [MapKept.IsKey]) q 9999
 have hz : (zeroValue 4).run Tryz.prog (w.alloc (kwMap ks)) = .ok (.bool false) (w.alloc (kwMap ks)) := by kernel_rfl
 cases hk : ks.contains b.data.toList
 · have hf := (findNow_kw b ks 0 0).1 hk
   simp [Instr.lookup, run_underlying underMap, MapKept.run_getObj_map hb, hc, MapKept.run_findKey underStr hf, hz, Result.andThen]
 · obtain ⟨n, hf⟩ := (findNow_kw b ks 0 0).2 hk
   simp [Instr.lookup, run_underlying underMap, MapKept.run_getObj_map hb, hc, MapKept.run_findKey underStr hf, Result.andThen]
theorem run_kw_make (w : World) : (Instr.makeMap 118 none).run Tryz.prog w = .ok (.map (some w.heap.size)) (w.alloc (kwMap [])) := run_makeMap _ w
theorem keyword_len (s : List UInt8) (h : keyword s = true) : 2 ≤ s.length ∧ s.length ≤ 7 := by
 have key : ∀ k ∈ keywords, 2 ≤ k.length ∧ k.length ≤ 7 := by decide
 exact key s (by simpa [keyword] using h)
set_option maxRecDepth 100000 in
theorem Keyword_c (s : List UInt8) (w : World) (hs : s.length ≤ 9223372036854775807) :
 Calls Tryz.prog 75 #[str s] w fun e w' => e = .returned (.bool (keyword s)) ∧ Ext w w' := by
 by_cases h2 : s.length < 2 ∨ 7 < s.length
 · have hk : keyword s = false := by
    cases h : keyword s
    · rfl
    · have := keyword_len s h; omega
   have HK := Lib.hid hk; clear hk
   by_cases h3 : s.length < 2
   · have d1 : decide ((s.length : Int) < 2) = true := by simp; omega
     clear h2
     go_enter Tryz.func75, Tryz.ntmps75
     go_wp2_with fail
     go_ret
     rw [HK.out]; exact ⟨rfl, Ext.refl _⟩
   · have d1 : decide ((s.length : Int) < 2) = false := by simp; omega
     have d2 : decide ((7 : Int) < s.length) = true := by simp; omega
     clear h2
     go_enter Tryz.func75, Tryz.ntmps75
     go_wp2_with fail
     go_ret
     rw [HK.out]; exact ⟨rfl, Ext.refl _⟩
 · have d1 : decide ((s.length : Int) < 2) = false := by simp; omega
   have d2 : decide ((7 : Int) < s.length) = false := by simp; omega
   have r1 := run_kw_make
   have r2 := run_kw_ins w
   have r3 := run_kw_look w
   go_enter Tryz.func75, Tryz.ntmps75
   go_wp2_with fail
   go_ret
   exact ⟨ret_bool (by simp [keyword, keywords]), (by refine Ext.alloc ?_ _; exact Ext.refl _)⟩
end Bk
namespace Bk
open Go Go.RowKit Go.Proofs
theorem en_digit : ∀ args w, (callFunc 98 args).run Tryz.prog w = .ok (.enter 98 args) w := enters_of Tryz.func98 (by kernel_rfl) rfl
theorem en_blank : ∀ args w, (callFunc 99 args).run Tryz.prog w = .ok (.enter 99 args) w := enters_of Tryz.func99 (by kernel_rfl) rfl
theorem en_first1 : ∀ args w, (callFunc 97 args).run Tryz.prog w = .ok (.enter 97 args) w := enters_of Tryz.func97 (by kernel_rfl) rfl
theorem en_first2 : ∀ args w, (callFunc 100 args).run Tryz.prog w = .ok (.enter 100 args) w := enters_of Tryz.func100 (by kernel_rfl) rfl
theorem first_c (c : UInt8) (r : List UInt8) (w : World) (hs : (c :: r).length ≤ 9223372036854775807) :
 Calls Tryz.prog 74 #[str (c :: r)] w fun e w' => e = .returned (.tuple #[.int .u8 (firstTok (c :: r)).1, .int .i64 (firstTok (c :: r)).2]) ∧ w = w' := by
 have hf : firstTok (c :: r) = if letter c then (1, span wordish (c :: r)) else if digit c then (2, span digit (c :: r)) else if blank c then (4, span blank (c :: r)) else if c = 35 then (5, span notLf (c :: r)) else (3, signLen (c :: r)) := rfl
 have HF := Lib.hid hf; clear hf
 have HS := Lib.hid hs
 simp only [List.length_cons] at hs
 go_enter Tryz.func74, Tryz.ntmps74
 go_wp2_with fail
 refine (letter_c c _).mono ?_
 rintro e w1 ⟨rfl, rfl⟩
 cases hl : letter c
 · have HL := Lib.hid hl; clear hl
   simp only
   go_wp2_with fail
   refine (digit_c c _).mono ?_
   rintro e w1 ⟨rfl, rfl⟩
   cases hd : digit c
   · have HD := Lib.hid hd; clear hd
     simp only
     go_wp2_with fail
     refine (blank_c c _).mono ?_
     rintro e w1 ⟨rfl, rfl⟩
     cases hb : blank c
     · have HB := Lib.hid hb; clear hb
       simp only
       by_cases h35 : c = 35
       · have H35 := Lib.hid h35
         have e35 : (({ data := (c :: r).toArray } : ByteArray)[0]'(by simp [ByteArray.size])).toNat = 35 := by show c.toNat = 35; rw [h35]; rfl
         clear h35
         go_wp2_with fail
         refine (span_c 100 notLf notLf_c en_first2 _ _ HS.out).mono ?_
         rintro e w1 ⟨rfl, rfl⟩
         simp only
         go_wp2_with fail
         go_ret2
         rw [HF.out, HL.out, HD.out, HB.out, if_pos H35.out]; exact ⟨rfl, rfl⟩
       · have H35 := Lib.hid h35
         have e35 : ((({ data := (c :: r).toArray } : ByteArray)[0]'(by simp [ByteArray.size])).toNat : Int) ≠ 35 := by
          show (c.toNat : Int) ≠ 35
          intro h; apply h35; apply UInt8.toNat_inj.1; show c.toNat = 35; omega
         clear h35
         go_wp2_with fail
         refine (sign_c c r _ HS.out).mono ?_
         rintro e w1 ⟨rfl, rfl⟩
         simp only
         go_wp2_with fail
         go_ret2
         rw [HF.out, HL.out, HD.out, HB.out, if_neg H35.out]; exact ⟨rfl, rfl⟩
     · have HB := Lib.hid hb; clear hb
       simp only
       go_wp2_with fail
       refine (span_c 99 blank blank_c en_blank _ _ HS.out).mono ?_
       rintro e w1 ⟨rfl, rfl⟩
       simp only
       go_wp2_with fail
       go_ret2
       rw [HF.out, HL.out, HD.out, HB.out]; exact ⟨rfl, rfl⟩
   · have HD := Lib.hid hd; clear hd
     simp only
     go_wp2_with fail
     refine (span_c 98 digit digit_c en_digit _ _ HS.out).mono ?_
     rintro e w1 ⟨rfl, rfl⟩
     simp only
     go_wp2_with fail
     go_ret2
     rw [HF.out, HL.out, HD.out]; exact ⟨rfl, rfl⟩
 · have HL := Lib.hid hl; clear hl
   simp only
   go_wp2_with fail
   refine (span_c 97 wordish wordish_c en_first1 _ _ HS.out).mono ?_
   rintro e w1 ⟨rfl, rfl⟩
   simp only
   go_wp2_with fail
   go_ret2
   rw [HF.out, HL.out]; exact ⟨rfl, rfl⟩
theorem Name_c (s : List UInt8) (w : World) (hs : s.length ≤ 9223372036854775807) :
 Calls Tryz.prog 42 #[str s] w fun e w' => e = .returned (.bool (isName s)) ∧ Ext w w' := by
 cases s with
 | nil =>
  go_enter Tryz.func42, Tryz.ntmps42
  go_wp2_with fail
  go_ret
  exact ⟨rfl, Ext.refl _⟩
 | cons c r =>
  have hn : isName (c :: r) = (decide ((c :: r).length ≤ 16) && ((firstTok (c :: r)).1 == 1) && ((firstTok (c :: r)).2 == (c :: r).length) && !keyword (c :: r)) := by simp [isName]
  have HN := Lib.hid hn; clear hn
  have HS := Lib.hid hs
  simp only [List.length_cons] at hs
  by_cases h16 : 16 < (c :: r).length
  · simp only [List.length_cons] at h16
    have d1 : decide ((16 : Int) < (r.length : Int) + 1) = true := by simp; omega
    have H16 := Lib.hid h16; clear h16
    go_enter Tryz.func42, Tryz.ntmps42
    go_wp2_with fail
    go_ret
    rw [HN.out]
    exact ⟨ret_bool (by have := H16.out; simp; omega), Ext.refl _⟩
  · simp only [List.length_cons] at h16
    have d1 : decide ((16 : Int) < (r.length : Int) + 1) = false := by simp; omega
    go_enter Tryz.func42, Tryz.ntmps42
    go_wp2_with fail
    refine (first_c c r _ HS.out).mono ?_
    rintro e w1 ⟨rfl, rfl⟩
    generalize firstTok (c :: r) = ft at *
    obtain ⟨k, n⟩ := ft
    by_cases hk : k = 1
    · by_cases hl : n = (c :: r).length
      · subst hk hl
        simp only [List.length_cons]
        go_wp2_with fail
        refine (Keyword_c _ _ HS.out).mono ?_
        rintro e w2 ⟨rfl, hx⟩
        simp only
        go_wp2_with fail
        go_ret
        rw [HN.out]
        exact ⟨ret_bool (by simp; omega), hx⟩
      · subst hk
        have dl : ((n : Int) == (r.length : Int) + 1) = false := by simp only [List.length_cons] at hl; rw [beq_eq_false_iff_ne]; omega
        have HL := Lib.hid hl; clear hl
        simp only
        go_wp2_with fail
        go_ret
        rw [HN.out]
        exact ⟨ret_bool (by have := HL.out; simp at this ⊢; simp [this]), Ext.refl _⟩
    · have dk : ((k : Int) == 1) = false := by rw [beq_eq_false_iff_ne]; omega
      have HK := Lib.hid hk; clear hk
      simp only
      go_wp2_with fail
      go_ret
      rw [HN.out]
      exact ⟨ret_bool (by have := HK.out; simp [this]), Ext.refl _⟩
theorem plain_c (k n : Int) (s : List UInt8) (a : Option Addr) (l c : Nat) (w : World) :
 Calls Tryz.prog 28 #[.agg #[.int .u8 k, .int .i64 n, str s, .slice a l c]] w fun e w' => e = .returned (.bool (plain n s)) ∧ Ext w w' := by
 go_enter Tryz.func28, Tryz.ntmps28
 go_wp2_with fail
 all_goals go_ret
 all_goals exact ⟨ret_bool (by unfold plain; simp [*]), (by repeat (first | exact Ext.refl _ | assumption | refine Ext.alloc ?_ _ | refine Ext.drew ?_ | refine Ext.trans ?_ (by assumption)))⟩
theorem named_c (k n : Int) (s : List UInt8) (a : Option Addr) (l c : Nat) (w : World) (hs : s.length ≤ 9223372036854775807) :
 Calls Tryz.prog 26 #[.agg #[.int .u8 k, .int .i64 n, str s, .slice a l c]] w fun e w' => e = .returned (.bool (named n s)) ∧ Ext w w' := by
 by_cases h0 : n = 0
 · subst h0
   go_enter Tryz.func26, Tryz.ntmps26
   go_wp2_with (go_at_call 42; refine (Name_c _ _ hs).mono ?_; rintro e w2 ⟨rfl, hx⟩)
   go_ret
   exact ⟨ret_bool (by simp [named]), (by refine Ext.trans ?_ (by assumption); refine Ext.alloc ?_ _; exact Ext.refl _)⟩
 · have d0 : (n == 0) = false := by simp [h0]
   go_enter Tryz.func26, Tryz.ntmps26
   go_wp2_with fail
   go_ret
   exact ⟨ret_bool (by simp [named, h0]), (by refine Ext.alloc ?_ _; exact Ext.refl _)⟩
end Bk
namespace Bk
open Go Go.RowKit Go.Proofs
structure BT (T : TypeId) : Prop where
 lies : liesAt Tryz.prog Tryz.prog.depth T (2 / Tryz.prog.cellsOf T) 0 55 1 = true
 ne : T ≠ 5
theorem bSize : (Tryz.prog.info? 55).map (·.size) = some 2 := by kernel_rfl
theorem infoByte : (Tryz.prog.info? 5).map (fun i => (i.zero, i.size, i.bytes)) = some (some (.int .u8 0), 1, 1) := by kernel_rfl
theorem uPtrB : Tryz.prog.underlying 52 = some (.pointer 55) := by kernel_rfl
theorem uUnsafe : Tryz.prog.underlying 124 = some .unsafePointer := by kernel_rfl
theorem uBytes : Tryz.prog.underlying 53 = some (.slice 5) := by kernel_rfl
theorem uByte : Tryz.prog.underlying 5 = some (.int .u8) := by kernel_rfl
set_option maxRecDepth 100000 in
theorem copyCheck_fresh (T : TypeId) (hT : BT T) (b : Nat) (w : World) (h0 : w.cell? ⟨b, 0, none⟩ = some (.pointer none)) (hsh : w.shape? b = some (T, 2)) (hfz : w.frozen? ⟨b, 0, none⟩ = false) :
 Calls Tryz.prog 102 #[.pointer (some ⟨b, 0, none⟩)] w fun e w' => e = .returned (.tuple #[]) ∧ w' = w.setCell ⟨b, 0, none⟩ (.pointer (some ⟨b, 0, none⟩)) := by
 obtain ⟨j, hj, hjs⟩ := Option.map_eq_some_iff.1 bSize
 go_enter Tryz.func102, Tryz.ntmps102
 go_wp2
 rw [Lib.run_to_unsafe w ⟨b, 0, none⟩ uPtrB uUnsafe hj (by rw [hjs]; decide) hsh (Nat.zero_lt_succ 1)]
 simp only [Result.andThen]
 rw [Oper.upon_value]
 go_wp2
 rw [run_callFunc_extern Tryz.func109 (by kernel_rfl) (by kernel_rfl) (by kernel_rfl) (e := Extern.AbiNoEscape.same) (by kernel_rfl)]
 rw [Lib.run_noEscape]
 simp only [Result.andThen]
 rw [Oper.upon_value]
 go_wp2
 rw [Lib.run_from_unsafe w ⟨b, 0, none⟩ uUnsafe uPtrB hj hsh hT.lies]
 simp only [Result.andThen]
 rw [Oper.upon_value]
 go_wp2
 go_end0
 exact ⟨rfl, rfl⟩
set_option maxRecDepth 100000 in
theorem copyCheck_used (b : Nat) (w : World) (h0 : w.cell? ⟨b, 0, none⟩ = some (.pointer (some ⟨b, 0, none⟩))) :
 Calls Tryz.prog 102 #[.pointer (some ⟨b, 0, none⟩)] w fun e w' => e = .returned (.tuple #[]) ∧ w' = w := by
 obtain ⟨j, hj, hjs⟩ := Option.map_eq_some_iff.1 bSize
 go_enter Tryz.func102, Tryz.ntmps102
 go_wp2
 rw [Lib.run_neq_ptr_same w _ uPtrB hj]
 go_wp2
 go_end0
 exact ⟨rfl, rfl⟩
structure Fb (B b : Nat) (w w' : World) : Prop where
 below : Below B w w'
 kept : Lib.OthersKept 5 (some b) w w'
theorem Fb.refl (B b : Nat) (w : World) : Fb B b w w := ⟨Below.refl _ _, Lib.OthersKept.refl _ _ _⟩
theorem Fb.trans {B b : Nat} {u v w : World} (h : Fb B b u v) (k : Fb B b v w) : Fb B b u w := ⟨h.below.trans k.below, h.kept.trans k.kept⟩
theorem copyCheck_c (T : TypeId) (hT : BT T) (B b : Nat) (bs : List Value) (w : World) (h : Lib.IsBuilderF T 5 B b bs w) :
 Calls Tryz.prog 102 #[.pointer (some ⟨b, 0, none⟩)] w fun e w' => e = .returned (.tuple #[]) ∧ (Lib.BuilderAtF T 5 B b (.pointer (some ⟨b, 0, none⟩)) bs w' ∧ Fb B b w w') := by
 rcases h with h | h
 · refine (copyCheck_fresh T hT b w h.cell0 h.shape h.frozen0).mono ?_
   rintro e w' ⟨rfl, rfl⟩
   exact ⟨rfl, h.used _, (Below.refl B w).setCell (p := ⟨b, 0, none⟩) h.1 _, (Lib.OthersKept.refl _ _ w).setCell ⟨b, 0, none⟩ rfl _⟩
 · refine (copyCheck_used b w h.cell0).mono ?_
   rintro e w' ⟨rfl, rfl⟩
   exact ⟨rfl, h, Below.refl B _, Lib.OthersKept.refl _ _ _⟩
set_option maxHeartbeats 2000000 in
set_option maxRecDepth 100000 in
theorem WriteByte_c (T : TypeId) (hT : BT T) (B b : Nat) (bs : List Value) (c : Int) (w : World) (h : Lib.IsBuilderF T 5 B b bs w) (hlen : bs.length + 1 ≤ 140737488355328) (hBw : B ≤ w.heap.size) :
 Calls Tryz.prog 87 #[.pointer (some ⟨b, 0, none⟩), .int .u8 c] w fun e w' => e = .returned .nilIface ∧ (Lib.IsBuilderF T 5 B b (bs ++ [.int .u8 c]) w' ∧ Fb B b w w') := by
 obtain ⟨i0, hi, hz0, hz1, hz2⟩ := info_parts infoByte
 go_enter Tryz.func87, Tryz.ntmps87
 go_wp2_with (go_at_call 102; refine (copyCheck_c T hT B b bs _ h).mono ?_)
 rintro e w1 ⟨rfl, h1, hb1, hk1⟩
 obtain ⟨hB, v, hbk, hown, hne⟩ := h1
 have c0 : w1.cell? ⟨b, 0, none⟩ = some (.pointer (some ⟨b, 0, none⟩)) := by rw [Lib.cell_of_heap hbk]; rfl
 have c1 : w1.cell? ⟨b, 1, none⟩ = some v := by rw [Lib.cell_of_heap hbk]; rfl
 go_wp2_with (at_builtin; refine wpList_append_ownF _ rfl _ _ 53 rfl B 5 i0 (.int .u8 0) 1 1 uBytes hi hz0 hz1 hz2 rfl (by decide) _ _ _ rfl (hown.alloc _) ⟨w1.heap.size, 0, none⟩ 1 1 [.int .u8 c] rfl rfl ?c1 ?c2 ?c3 ?c4 ?c5 ?_)
 case c1 =>
  intro j u hj
  match j, hj with
  | 0, hj => simp at hj; subst hj; simp [Addr.add]
 case c2 => intro u hu; simp at hu; subst hu; rfl
 case c3 => unfold maxLen; omega
 case c4 => omega
 case c5 => have := hb1.size; simp; omega
 intro v' w2 hown' hgrow _
 have hlt : b < w1.heap.size := by
  rcases Nat.lt_or_ge b w1.heap.size with h' | h'
  · exact h'
  · simp [Array.getElem?_eq_none h'] at hbk
 have hb2 : w2.heap[b]? = some (.cells #[.pointer (some ⟨b, 0, none⟩), v] T (0, 0)) := by
  rw [hgrow.block b (by simp; omega) (fun e => hne e.symm), Lib.alloc_old w1 _ b hlt]
  exact hbk
 have d0 : w2.cell? ⟨b, 0, none⟩ = some (.pointer (some ⟨b, 0, none⟩)) := by rw [Lib.cell_of_heap hb2]; rfl
 have d1 : w2.cell? ⟨b, 1, none⟩ = some v := by rw [Lib.cell_of_heap hb2]; rfl
 have f1 : w2.frozen? ⟨b, 1, none⟩ = false := Lib.frozen_of_heap hb2 1
 obtain ⟨g, cap, rfl⟩ : ∃ g cap, v' = .slice (some ⟨g, 0, none⟩) (bs.length + 1) cap := by
  rcases hown'.2 with ⟨_, h0⟩ | ⟨g, cap, cur, fz, hv, _⟩
  · omega
  · exact ⟨g, cap, hv⟩
 go_wp2
 go_ret
 refine ⟨rfl, .inr ?_, ?_, ((hk1.alloc _).grown hgrow (Lib.ownsRowF_kind (hown.alloc _))).setCell ⟨b, 1, none⟩ rfl _⟩
 · exact Lib.BuilderAtF.put (T := T) (e := 5) hB hb2 (bs' := bs ++ [.int .u8 c]) (by simpa using hown') hT.ne
 · exact ((hb1.alloc (by have := hb1.size; omega) _).grown hgrow (by have := hb1.size; simp; omega) (fun k hk => (hown.lt k hk).1)).setCell (p := ⟨b, 1, none⟩) hB _
set_option maxHeartbeats 2000000 in
set_option maxRecDepth 100000 in
theorem WriteString_c (T : TypeId) (hT : BT T) (B b : Nat) (bs : List Value) (s : ByteArray) (w : World) (h : Lib.IsBuilderF T 5 B b bs w) (hlen : bs.length + s.size ≤ 140737488355328) (hBw : B ≤ w.heap.size) :
 Calls Tryz.prog 77 #[.pointer (some ⟨b, 0, none⟩), .string s] w fun e w' => e = .returned (.tuple #[.int .i64 s.size, .nilIface]) ∧ (Lib.IsBuilderF T 5 B b (bs ++ Lib.strCells s) w' ∧ Fb B b w w') := by
 obtain ⟨i0, hi, hz0, hz1, hz2⟩ := info_parts infoByte
 go_enter Tryz.func77, Tryz.ntmps77
 go_wp2_with (go_at_call 102; refine (copyCheck_c T hT B b bs _ h).mono ?_)
 rintro e w1 ⟨rfl, h1, hb1, hk1⟩
 obtain ⟨hB, v, hbk, hown, hne⟩ := h1
 have c0 : w1.cell? ⟨b, 0, none⟩ = some (.pointer (some ⟨b, 0, none⟩)) := by rw [Lib.cell_of_heap hbk]; rfl
 have c1 : w1.cell? ⟨b, 1, none⟩ = some v := by rw [Lib.cell_of_heap hbk]; rfl
 go_wp2_with (at_builtin; refine Lib.wpList_append_own_stringF _ rfl _ _ 53 9 rfl B 5 i0 uBytes underStr hi hz0 hz1 hz2 _ _ _ rfl hown s rfl ?c3 ?c4 ?c5 ?_)
 case c3 => unfold maxLen; omega
 case c4 => omega
 case c5 => have := hb1.size; omega
 intro v' w2 hown' hgrow _
 have hlt : b < w1.heap.size := by
  rcases Nat.lt_or_ge b w1.heap.size with h' | h'
  · exact h'
  · simp [Array.getElem?_eq_none h'] at hbk
 have hb2 : w2.heap[b]? = some (.cells #[.pointer (some ⟨b, 0, none⟩), v] T (0, 0)) := by
  rw [hgrow.block b hlt (fun e => hne e.symm)]
  exact hbk
 have d0 : w2.cell? ⟨b, 0, none⟩ = some (.pointer (some ⟨b, 0, none⟩)) := by rw [Lib.cell_of_heap hb2]; rfl
 have d1 : w2.cell? ⟨b, 1, none⟩ = some v := by rw [Lib.cell_of_heap hb2]; rfl
 have f1 : w2.frozen? ⟨b, 1, none⟩ = false := Lib.frozen_of_heap hb2 1
 obtain ⟨ao, n', cap, rfl⟩ : ∃ ao n' cap, v' = .slice ao n' cap := by
  rcases hown'.2 with ⟨hv, _⟩ | ⟨g, cap, cur, fz, hv, _⟩
  · exact ⟨_, _, _, hv⟩
  · exact ⟨_, _, _, hv⟩
 go_wp2
 go_ret2
 refine ⟨rfl, .inr ?_, ?_, (hk1.grown hgrow (Lib.ownsRowF_kind hown)).setCell ⟨b, 1, none⟩ rfl _⟩
 · exact Lib.BuilderAtF.put (T := T) (e := 5) hB hb2 (bs' := bs ++ Lib.strCells s) (by simpa [Lib.strCells_length] using hown') hT.ne
 · exact (hb1.grown hgrow (by have := hb1.size; omega) (fun k hk => (hown.lt k hk).1)).setCell (p := ⟨b, 1, none⟩) hB _
theorem uPtrByte : Tryz.prog.underlying 89 = some (.pointer 5) := by kernel_rfl
theorem cellsByte : Tryz.prog.cellsOf 5 = 1 := by kernel_rfl
theorem unsafeString_none' (W : World) (q : Option Addr) : (Builtin.unsafeString_ #[89, 3] 9 #[.pointer q, .int .i64 0]).run Tryz.prog W = .ok (.string .empty) W :=
 Lib.run_unsafeString_none W _ _ _ q
set_option maxHeartbeats 1000000 in
set_option maxRecDepth 100000 in
theorem String_some (T : TypeId) (B b : Nat) (l : List UInt8) (w : World) (h : Lib.IsBuilderF T 5 B b (Lib.byteCells l) w) (h0 : l ≠ []) :
 Calls Tryz.prog 30 #[.pointer (some ⟨b, 0, none⟩)] w fun e w' => e = .returned (.string ⟨l.toArray⟩) ∧ (Lib.IsBuilderF T 5 B b (Lib.byteCells l) w' ∧ Fb B b w w') := by
 obtain ⟨p, hp, hAt⟩ : ∃ p, (p = .pointer none ∨ p = .pointer (some ⟨b, 0, none⟩)) ∧ Lib.BuilderAtF T 5 B b p (Lib.byteCells l) w := by
  rcases h with h | h
  · exact ⟨_, .inl rfl, h⟩
  · exact ⟨_, .inr rfl, h⟩
 obtain ⟨hB, v, hbk, hown, hne⟩ := hAt
 have hl0 : l.length ≠ 0 := by simpa using h0
 rw [Lib.byteCells_length] at hown
 obtain ⟨g, cap, cur, fz, rfl, hbg, hg, hfz, hnc, hcm, hcs, htake⟩ : ∃ g cap cur fz, v = .slice (some ⟨g, 0, none⟩) l.length cap ∧ B ≤ g ∧ w.heap[g]? = some (.cells cur 5 fz) ∧ fz.2 ≤ l.length * 1 ∧ l.length ≤ cap ∧ cap ≤ maxLen ∧ cur.size = cap * 1 ∧ cur.toList.take (l.length * 1) = Lib.byteCells l := by
  rcases hown.2 with ⟨_, hz⟩ | ⟨g, cap, cur, fz, hv, r⟩
  · exact absurd hz hl0
  · exact ⟨g, cap, cur, fz, hv, r⟩
 have c1 : w.drew.cell? ⟨b, 1, none⟩ = some (.slice (some ⟨g, 0, none⟩) l.length cap) := by
  have : w.drew.heap[b]? = some (.cells #[p, .slice (some ⟨g, 0, none⟩) l.length cap] T (0, 0)) := hbk
  rw [Lib.cell_of_heap this]; rfl
 have hSD : (Builtin.unsafeSliceData_ #[53] 89 #[.slice (some ⟨g, 0, none⟩) l.length cap]).run Tryz.prog w.drew = .ok (.pointer (some ⟨g, 0, none⟩)) w.drew :=
  Lib.run_unsafeSliceData_row _ _ _ _ _ _ (by omega)
 have hUS : (Builtin.unsafeString_ #[89, 3] 9 #[.pointer (some ⟨g, 0, none⟩), .int .i64 l.length]).run Tryz.prog w.drew = .ok (.string ⟨l.toArray⟩) (w.drew.freeze ⟨g, 0, none⟩ l.length) := by
  refine Lib.run_unsafeString_row w.drew 89 3 9 5 uPtrByte cellsByte g cur.size (by have hg' : w.drew.heap[g]? = some (.cells cur 5 fz) := hg; simp [World.shape?, hg']) l h0 (by omega) (by unfold maxLen at hcm; omega) ?_
  intro j x hx
  have := hown.cells (g := g) rfl j (.int .u8 x.toNat) (by simp [Lib.byteCells, hx])
  exact this
 have hkeep : Lib.IsBuilderF T 5 B b (Lib.byteCells l) (w.drew.freeze ⟨g, 0, none⟩ l.length) := by
  have hA : Lib.BuilderAtF T 5 B b p (Lib.byteCells l) w.drew := ⟨hB, _, hbk, by rw [Lib.byteCells_length]; exact hown, hne⟩
  have hF := hA.froze (g := g) (cap := cap) (by rw [Lib.byteCells_length]; exact c1)
  rw [Lib.byteCells_length] at hF
  rcases hp with rfl | rfl
  · exact .inl hF
  · exact .inr hF
 go_enter Tryz.func30, Tryz.ntmps30
 go_wp2
 go_region
 all_goals (go_wp2; go_ret; exact ⟨rfl, hkeep, Lib.below_freeze (Below.drew (Below.refl B w)) (p := ⟨g, 0, none⟩) hbg _, ((Lib.OthersKept.refl _ _ w).drew).freeze ⟨g, 0, none⟩ _ ⟨cur, fz, hg⟩⟩)
set_option maxHeartbeats 2000000 in
set_option maxRecDepth 100000 in
theorem String_nil (T : TypeId) (B b : Nat) (p : Value) (w : World) (hbk : w.heap[b]? = some (.cells #[p, .slice none 0 0] T (0, 0))) (hA : Lib.BuilderAtF T 5 B b p [] w) :
 Calls Tryz.prog 30 #[.pointer (some ⟨b, 0, none⟩)] w fun e w' => e = .returned (.string ⟨#[]⟩) ∧ (Lib.BuilderAtF T 5 B b p [] w' ∧ Fb B b w w') := by
 have hUS := unsafeString_none'
 have c1 : w.drew.cell? ⟨b, 1, none⟩ = some (.slice none 0 0) := by
  have : w.drew.heap[b]? = some (.cells #[p, .slice none 0 0] T (0, 0)) := hbk
  rw [Lib.cell_of_heap this]; rfl
 have hSD : (Builtin.unsafeSliceData_ #[53] 89 #[.slice none 0 0]).run Tryz.prog w.drew = .ok (.pointer none) w.drew := rfl
 go_enter Tryz.func30, Tryz.ntmps30
 go_wp2
 go_region
 all_goals (go_wp2; go_ret; exact ⟨rfl, hA.drew, Below.drew (Below.refl B w), (Lib.OthersKept.refl _ _ w).drew⟩)
set_option maxHeartbeats 2000000 in
set_option maxRecDepth 100000 in
theorem String_noroom (T : TypeId) (B b g : Nat) (p : Value) (cur : Array Value) (w : World) (hBw : B ≤ w.heap.size) (hbk : w.heap[b]? = some (.cells #[p, .slice (some ⟨g, 0, none⟩) 0 0] T (0, 0))) (fz : Nat × Nat) (hg : w.heap[g]? = some (.cells cur 5 fz)) (hA : Lib.BuilderAtF T 5 B b p [] w) :
 Calls Tryz.prog 30 #[.pointer (some ⟨b, 0, none⟩)] w fun e w' => e = .returned (.string ⟨#[]⟩) ∧ (Lib.BuilderAtF T 5 B b p [] w' ∧ Fb B b w w') := by
 have hUS := unsafeString_none'
 have hlt : b < w.heap.size := by
  rcases Nat.lt_or_ge b w.heap.size with h' | h'
  · exact h'
  · simp [Array.getElem?_eq_none h'] at hbk
 have c1 : w.drew.cell? ⟨b, 1, none⟩ = some (.slice (some ⟨g, 0, none⟩) 0 0) := by
  have : w.drew.heap[b]? = some (.cells #[p, .slice (some ⟨g, 0, none⟩) 0 0] T (0, 0)) := hbk
  rw [Lib.cell_of_heap this]; rfl
 have hSD : (Builtin.unsafeSliceData_ #[53] 89 #[.slice (some ⟨g, 0, none⟩) 0 0]).run Tryz.prog w.drew = .ok (.pointer (some ⟨w.drew.heap.size, 0, none⟩)) (w.drew.alloc (.view ⟨g, 0, none⟩ 5)) :=
  Lib.run_unsafeSliceData_zero w.drew _ _ 5 uPtrByte ⟨g, 0, none⟩ 0 (5, cur.size) (by have hg' : w.drew.heap[g]? = some (.cells cur 5 fz) := hg; simp [World.shape?, hg'])
 have c2 : (w.drew.alloc (.view ⟨g, 0, none⟩ 5)).cell? ⟨b, 1, none⟩ = some (.slice (some ⟨g, 0, none⟩) 0 0) := by
  have : (w.drew.alloc (.view ⟨g, 0, none⟩ 5)).heap[b]? = _ := (Lib.alloc_old w.drew _ b hlt).trans hbk
  rw [Lib.cell_of_heap this]; rfl
 have c3 : (w.alloc (.view ⟨g, 0, none⟩ 5)).drew.cell? ⟨b, 1, none⟩ = some (.slice (some ⟨g, 0, none⟩) 0 0) := c2
 have c0 : w.cell? ⟨b, 1, none⟩ = some (.slice (some ⟨g, 0, none⟩) 0 0) := c1
 go_enter Tryz.func30, Tryz.ntmps30
 go_wp2
 go_region
 all_goals (go_wp2; go_ret; exact ⟨rfl, hA.drew.alloc _, (Below.drew (Below.refl B w)).alloc hBw _, ((Lib.OthersKept.refl _ _ w).drew).alloc _⟩)
set_option maxHeartbeats 2000000 in
set_option maxRecDepth 100000 in
theorem String_room (T : TypeId) (B b g cap : Nat) (p : Value) (w : World) (hc0 : cap ≠ 0) (hbk : w.heap[b]? = some (.cells #[p, .slice (some ⟨g, 0, none⟩) 0 cap] T (0, 0))) (hA : Lib.BuilderAtF T 5 B b p [] w) :
 Calls Tryz.prog 30 #[.pointer (some ⟨b, 0, none⟩)] w fun e w' => e = .returned (.string ⟨#[]⟩) ∧ (Lib.BuilderAtF T 5 B b p [] w' ∧ Fb B b w w') := by
 have hUS := unsafeString_none'
 have c1 : w.drew.cell? ⟨b, 1, none⟩ = some (.slice (some ⟨g, 0, none⟩) 0 cap) := by
  have : w.drew.heap[b]? = some (.cells #[p, .slice (some ⟨g, 0, none⟩) 0 cap] T (0, 0)) := hbk
  rw [Lib.cell_of_heap this]; rfl
 have hSD : (Builtin.unsafeSliceData_ #[53] 89 #[.slice (some ⟨g, 0, none⟩) 0 cap]).run Tryz.prog w.drew = .ok (.pointer (some ⟨g, 0, none⟩)) w.drew :=
  Lib.run_unsafeSliceData_row _ _ _ _ _ _ hc0
 clear hc0
 go_enter Tryz.func30, Tryz.ntmps30
 go_wp2
 go_region
 all_goals (go_wp2; go_ret; exact ⟨rfl, hA.drew, Below.drew (Below.refl B w), (Lib.OthersKept.refl _ _ w).drew⟩)
theorem String_empty (T : TypeId) (B b : Nat) (w : World) (h : Lib.IsBuilderF T 5 B b [] w) (hBw : B ≤ w.heap.size) :
 Calls Tryz.prog 30 #[.pointer (some ⟨b, 0, none⟩)] w fun e w' => e = .returned (.string ⟨#[]⟩) ∧ (Lib.IsBuilderF T 5 B b [] w' ∧ Fb B b w w') := by
 obtain ⟨p, hp, hA⟩ : ∃ p, (p = .pointer none ∨ p = .pointer (some ⟨b, 0, none⟩)) ∧ Lib.BuilderAtF T 5 B b p [] w := by
  rcases h with h | h
  · exact ⟨_, .inl rfl, h⟩
  · exact ⟨_, .inr rfl, h⟩
 have fin : ∀ (e : Ending) (w' : World), (e = .returned (.string ⟨#[]⟩) ∧ (Lib.BuilderAtF T 5 B b p [] w' ∧ Fb B b w w')) → e = .returned (.string ⟨#[]⟩) ∧ (Lib.IsBuilderF T 5 B b [] w' ∧ Fb B b w w') := by
  rintro e w' ⟨he, hk, hb⟩
  rcases hp with rfl | rfl
  · exact ⟨he, .inl hk, hb⟩
  · exact ⟨he, .inr hk, hb⟩
 have hA' := hA
 obtain ⟨hB, v, hbk, hown, hne⟩ := hA
 rcases hown.2 with ⟨rfl, _⟩ | ⟨g, cap, cur, fz, rfl, hbg, hg, _, _, _, _, _⟩
 · exact (String_nil T B b p w hbk hA').mono fin
 · by_cases hc0 : cap = 0
   · subst hc0
     exact (String_noroom T B b g p cur w hBw hbk fz hg hA').mono fin
   · exact (String_room T B b g cap p w hc0 hbk hA').mono fin
theorem String_any (T : TypeId) (B b : Nat) (l : List UInt8) (w : World) (h : Lib.IsBuilderF T 5 B b (Lib.byteCells l) w) (hBw : B ≤ w.heap.size) :
 Calls Tryz.prog 30 #[.pointer (some ⟨b, 0, none⟩)] w fun e w' => e = .returned (.string ⟨l.toArray⟩) ∧ (Lib.IsBuilderF T 5 B b (Lib.byteCells l) w' ∧ Fb B b w w') := by
 cases l with
 | nil => exact String_empty T B b w h hBw
 | cons x r => exact String_some T B b (x :: r) w h (by simp)
end Bk
namespace Bk
open Go Go.RowKit Go.Proofs
structure Tabs (w : World) : Prop where
 sym : ∀ i, i < 43 → w.cell? ⟨0, i, none⟩ = some (str (symbols.getD i []))
 pow : Lib.TabIs Tryz.prog w "internal/strconv.uint64pow10" .u64 Lib.pow10Tab
theorem arith_Symbol_c (k : Int) (w : World) (h0 : 0 ≤ k) (h1 : k ≤ 255) (ht : Tabs w) : Calls Tryz.prog 52 #[.int .u8 k] w fun e w' => e = .returned (str (symbol k)) ∧ w = w' := arith_Symbol_s k w h0 h1 ⟨ht.sym⟩
end Bk
namespace Bk
open Go Go.RowKit Go.Proofs
theorem btPrinter : BT 57 := ⟨by kernel_rfl, by decide⟩
structure Bld (B b : Nat) (l : List UInt8) (w : World) : Prop where
 is : Lib.IsBuilderF 57 5 B b (Lib.byteCells l) w
 le : B ≤ w.heap.size
theorem builderAtF_ext {T e : TypeId} {B b : Nat} {p : Value} {bs : List Value} {w w' : World} (h : Lib.BuilderAtF T e B b p bs w) (x : Ext w w') : Lib.BuilderAtF T e B b p bs w' := by
 have hlt := h.lt
 obtain ⟨hB, v, hb, hown, hne⟩ := h
 exact ⟨hB, v, (x.block hlt).trans hb, hown.kept (row := none) ⟨Below.os x, Below.tape x, Below.output x, Below.size x, fun k hk _ => x.block hk⟩ (by cases hv : v.ownBlock <;> simp), hne⟩
theorem Bld.ext {B b : Nat} {l : List UInt8} {w w' : World} (h : Bld B b l w) (x : Ext w w') : Bld B b l w' :=
 ⟨h.is.elim (fun a => .inl (builderAtF_ext a x)) (fun a => .inr (builderAtF_ext a x)), Nat.le_trans h.le x.size⟩
theorem Bld.alloc {B b : Nat} {l : List UInt8} {w : World} (h : Bld B b l w) (o : Obj) : Bld B b l (w.alloc o) := h.ext ((Ext.refl _).alloc o)
theorem Bld.drew {B b : Nat} {l : List UInt8} {w : World} (h : Bld B b l w) : Bld B b l w.drew := h.ext (Ext.refl _).drew
theorem Bld.lt {B b : Nat} {l : List UInt8} {w : World} (h : Bld B b l w) : b < w.heap.size := h.is.elim (fun a => a.lt) (fun a => a.lt)
theorem Bld.base {B b : Nat} {l : List UInt8} {w : World} (h : Bld B b l w) : B ≤ b := h.is.elim (fun a => a.1) (fun a => a.1)
theorem Fb.of_ext {B b : Nat} {w w' : World} (x : Ext w w') (h : B ≤ w.heap.size) : Fb B b w w' :=
 ⟨Below.mono x h, fun k o hk _ _ => (x.block (Array.getElem?_eq_some_iff.1 hk).1).trans hk⟩
theorem Fb.alloc {B b : Nat} {u w : World} (h : Fb B b u w) (hB : B ≤ u.heap.size) (o : Obj) : Fb B b u (w.alloc o) :=
 h.trans (.of_ext ((Ext.refl _).alloc o) (Nat.le_trans hB h.below.size))
theorem Fb.drew {B b : Nat} {u w : World} (h : Fb B b u w) (hB : B ≤ u.heap.size) : Fb B b u w.drew :=
 h.trans (.of_ext (Ext.refl _).drew (Nat.le_trans hB h.below.size))
theorem Fb.ext {B b : Nat} {u v w : World} (h : Fb B b u v) (hB : B ≤ u.heap.size) (x : Ext v w) : Fb B b u w :=
 h.trans (.of_ext x (Nat.le_trans hB h.below.size))
structure Box (k : Nat) (cs : Array Value) (T : TypeId) (w : World) : Prop where
 heap : w.heap[k]? = some (.cells cs T (0, 0))
theorem Box.new (w : World) (cs : Array Value) (T : TypeId) : Box w.heap.size cs T (w.alloc (.cells cs T)) := ⟨by show (w.heap.push _)[w.heap.size]? = _; simp⟩
theorem Box.new' {k : Nat} {w : World} (cs : Array Value) (T : TypeId) (hk : k = w.heap.size) : Box k cs T (w.alloc (.cells cs T)) := by subst hk; exact Box.new w cs T
theorem Box.lt {k : Nat} {cs : Array Value} {T : TypeId} {w : World} (h : Box k cs T w) : k < w.heap.size := (Array.getElem?_eq_some_iff.1 h.heap).1
theorem Box.ext {k : Nat} {cs : Array Value} {T : TypeId} {w w' : World} (h : Box k cs T w) (x : Ext w w') : Box k cs T w' := ⟨(x.block h.lt).trans h.heap⟩
theorem Box.alloc {k : Nat} {cs : Array Value} {T : TypeId} {w : World} (h : Box k cs T w) (o : Obj) : Box k cs T (w.alloc o) := h.ext ((Ext.refl _).alloc o)
theorem Box.drew {k : Nat} {cs : Array Value} {T : TypeId} {w : World} (h : Box k cs T w) : Box k cs T w.drew := h.ext (Ext.refl _).drew
theorem Box.fb {k B b : Nat} {cs : Array Value} {T : TypeId} {w w' : World} (h : Box k cs T w) (x : Fb B b w w') (hb : k ≠ b) (hT : T ≠ 5) : Box k cs T w' :=
 ⟨x.kept k _ h.heap (by simpa using hb) (fun c fz e => hT (by injection e))⟩
theorem Box.cell {k : Nat} {cs : Array Value} {T : TypeId} {w : World} (h : Box k cs T w) (o : Nat) : w.cell? ⟨k, o, none⟩ = cs[o]? := by rw [Lib.cell_of_heap h.heap]
theorem Box.node {k : Nat} {v0 v1 v2 v3 : Value} {T : TypeId} {w : World} (h : Box k #[v0, v1, v2, v3] T w) :
 w.cell? ⟨k, 0, none⟩ = some v0 ∧ w.cell? ⟨k, 1, none⟩ = some v1 ∧ w.cell? ⟨k, 2, none⟩ = some v2 ∧ w.cell? ⟨k, 3, none⟩ = some v3 := ⟨h.cell 0, h.cell 1, h.cell 2, h.cell 3⟩
theorem rowSits.fb {B b : Nat} {w w' : World} {l : List Nd} {a : Option Addr} (h : rowSits (· < B) w l a) (x : Fb B b w w') : rowSits (· < B) w' l a :=
 rowSits_mono (fun _ h => h) (fun k o _ hb hc => (Below.cell (p := ⟨k, o, none⟩) x.below hb).trans hc) l a h
theorem tabIs_below {P : Program} {B : Nat} {w w' : World} {name : String} {k : IntKind} {zs : List Int} (h : Lib.TabIs P w name k zs) (hb : Below B w w') (hg : ∀ g, P.globalNamed name = some g → g < B) : Lib.TabIs P w' name k zs := by
 unfold Lib.TabIs World.var? at *
 cases hn : P.globalNamed name with
 | none => rw [hn] at h; simp at h
 | some g => rw [hn] at h; simp only [Option.bind_some] at h ⊢; rw [hb.block g (hg g hn)]; exact h
theorem Tabs.below {B : Nat} {w w' : World} (h : Tabs w) (hb : Below B w w') (hB : Tryz.prog.globals.size ≤ B) : Tabs w' := by
 have h1 : 0 < Tryz.prog.globals.size := of_decide_eq_true (by kernel_rfl)
 have h2 : 1 < Tryz.prog.globals.size := of_decide_eq_true (by kernel_rfl)
 refine ⟨fun i hi => (Below.cell (p := ⟨0, i, none⟩) hb (by show 0 < B; omega)).trans (h.sym i hi), tabIs_below h.pow hb fun g hg => ?_⟩
 have hp : Tryz.prog.globalNamed "internal/strconv.uint64pow10" = some 1 := by kernel_rfl
 rw [hp] at hg
 injection hg with hg
 omega
theorem Tabs.ext {w w' : World} (h : Tabs w) (x : Ext w w') (hB : Tryz.prog.globals.size ≤ w.heap.size) : Tabs w' := h.below x hB
theorem write_c (B b tb tc : Nat) (l : List UInt8) (ss : List (List UInt8)) (w : World) (h : Bld B b l w) (ht : Box tb (ss.map str).toArray 9 w) (hn : ss.length ≤ 100) (hlen : (l ++ ss.flatten).length ≤ 140737488355328) :
 Calls Tryz.prog 45 #[.pointer (some ⟨b, 0, none⟩), .slice (some ⟨tb, 0, none⟩) ss.length tc] w fun e w' => e = .returned (.tuple #[]) ∧ Bld B b (l ++ ss.flatten) w' ∧ Fb B b w w' := by
 have hle := h.le
 have htb : tb ≠ b := by
  intro e
  have h1 := ht.heap
  rw [e] at h1
  rcases h.is with h' | h' <;> (obtain ⟨_, v, hb, _⟩ := h'; rw [hb] at h1; injection h1 with h1; injection h1 with _ h1 _; exact absurd h1 (by decide))
 have HB := Lib.hid h; clear h
 have HT := Lib.hid ht; clear ht
 go_enter Tryz.func45, Tryz.ntmps45
 go_wp2_with fail
 go_loopw [8] (fun i wr => ∃ j : Nat, j ≤ ss.length ∧ i = .int .i64 j ∧ Bld B b (l ++ (ss.take j).flatten) wr ∧ Fb B b w wr) (fun i _ => ss.length - (intOf i).toNat)
 case atStart => exact ⟨0, Nat.zero_le _, rfl, by simpa using HB.out, Fb.refl _ _ _⟩
 case round =>
  obtain ⟨j, hj, rfl, hbl, hfb⟩ := hrel
  by_cases hlt : j < ss.length
  · have hc := (HT.out.fb hfb htb (by decide)).cell j
    have hg : (ss.map str).toArray[j]? = some (str ss[j]) := by simp [hlt]
    rw [hg] at hc
    have htk : (ss.take (j + 1)).flatten = (ss.take j).flatten ++ ss[j] := by rw [List.take_succ_eq_append_getElem hlt, List.flatten_append]; simp
    have hpre : (ss.take (j + 1)).flatten.length ≤ ss.flatten.length := by
     have e : ss = ss.take (j + 1) ++ ss.drop (j + 1) := (List.take_append_drop _ _).symm
     have e2 : ss.flatten.length = (ss.take (j + 1)).flatten.length + (ss.drop (j + 1)).flatten.length := by rw [← List.length_append, ← List.flatten_append, ← e]
     omega
    generalize ss[j] = sj at *
    have HTK := Lib.hid htk; clear hg
    rw [htk] at hpre
    simp only [List.length_append] at hlen hpre
    clear htk
    have hll : (Lib.byteCells (l ++ (ss.take j).flatten)).length + (⟨sj.toArray⟩ : ByteArray).size ≤ 140737488355328 := by
     rw [Lib.byteCells_length, List.length_append]; show _ + sj.length ≤ _; omega
    have HLL := Lib.hid hll; clear hll
    go_wp2_with fail
    refine (WriteString_c 57 btPrinter B b _ _ _ hbl.is HLL.out hbl.le).mono ?_
    rintro e w1 ⟨rfl, hi1, hf1⟩
    simp only
    have hbl1 : Bld B b (l ++ (ss.take (j + 1)).flatten) w1 := by
     refine ⟨?_, Nat.le_trans hbl.le hf1.below.size⟩
     rw [HTK.out, ← List.append_assoc]
     have : Lib.byteCells (l ++ (ss.take j).flatten ++ sj) = Lib.byteCells (l ++ (ss.take j).flatten) ++ Lib.strCells ⟨sj.toArray⟩ := by
      rw [Lib.strCells_toArray]; simp [Lib.byteCells]
     rw [this]; exact hi1
    clear hbl hc hi1
    go_wp2_with fail
    go_roundw
    case rel => exact ⟨j + 1, by omega, by go_num, hbl1, hfb.trans hf1⟩
    case measure => simp [intOf]; omega
  · go_wp2_with fail
    go_end0
    refine ⟨rfl, ?_, hfb⟩
    rw [List.take_of_length_le (by omega)] at hbl
    exact hbl
theorem tabs_c (B b : Nat) (l : List UInt8) (n : Nat) (w : World) (h : Bld B b l w) (hn : n ≤ 1000000) (hlen : l.length + n ≤ 140737488355328) :
 Calls Tryz.prog 65 #[.pointer (some ⟨b, 0, none⟩), .int .i64 n] w fun e w' => e = .returned (.tuple #[]) ∧ Bld B b (l ++ List.replicate n 9) w' ∧ Fb B b w w' := by
 have HB := Lib.hid h; clear h
 go_enter Tryz.func65, Tryz.ntmps65
 go_wp2_with fail
 go_loopw [5] (fun i wr => ∃ j : Nat, j ≤ n ∧ i = .int .i64 j ∧ Bld B b (l ++ List.replicate j 9) wr ∧ Fb B b w wr) (fun i _ => n - (intOf i).toNat)
 case atStart => exact ⟨0, Nat.zero_le _, rfl, by simpa using HB.out, Fb.refl _ _ _⟩
 case round =>
  obtain ⟨j, hj, rfl, hbl, hfb⟩ := hrel
  by_cases hlt : j < n
  · go_wp2_with fail
    refine (WriteByte_c 57 btPrinter B b _ _ _ hbl.is (by rw [Lib.byteCells_length]; simp; omega) hbl.le).mono ?_
    rintro e w1 ⟨rfl, hi1, hf1⟩
    simp only
    have hbl1 : Bld B b (l ++ List.replicate (j + 1) 9) w1 := by
     refine ⟨?_, Nat.le_trans hbl.le hf1.below.size⟩
     have : Lib.byteCells (l ++ List.replicate (j + 1) 9) = Lib.byteCells (l ++ List.replicate j 9) ++ [Value.int .u8 9] := by
      rw [List.replicate_succ', ← List.append_assoc]; simp [Lib.byteCells]
     rw [this]; exact hi1
    clear hbl hi1
    go_wp2_with fail
    go_roundw
    case rel => exact ⟨j + 1, by omega, by go_num, hbl1, hfb.trans hf1⟩
    case measure => simp [intOf]; omega
  · go_wp2_with fail
    go_end0
    refine ⟨rfl, ?_, hfb⟩
    have : j = n := by omega
    subst this; exact hbl
end Bk
namespace Bk
open Go Go.RowKit Go.Proofs
def Tests (S : Nat → Prop) (f : FuncId) (p : Nd → Bool) (t : Nd) : Prop :=
 ∀ (a : Option Addr) (c : Nat) (w : World), t.sits S w a → Calls Tryz.prog f #[t.val a c] w fun e w' => e = .returned (.bool (p t)) ∧ Ext w w'
def Enters (f : FuncId) : Prop := ∀ args w, (callFunc f args).run Tryz.prog w = .ok (.enter f args) w
theorem every_c (f : FuncId) (p : Nd → Bool) (he : Enters f) (l : List Nd) (a : Option Addr) (c : Nat) (S : Nat → Prop) (w : World) (hl : l.length ≤ 9223372036854775807) (hs : rowSits S w l a) (ht : ∀ t ∈ l, Tests S f p t) :
 Calls Tryz.prog 36 #[.slice a l.length c, .func (.func f) #[] #[]] w fun e w' => e = .returned (.bool (l.all p)) ∧ Ext w w' := by
 have HT := Lib.hid ht; clear ht
 unfold Enters at he
 go_enter Tryz.func36, Tryz.ntmps36
 go_wp2_with fail
 go_loopw [9] (fun i wr => ∃ j : Nat, j ≤ l.length ∧ i = .int .i64 j ∧ Hid (l.all p = (l.drop j).all p) ∧ Ext w wr) (fun i _ => l.length - (intOf i).toNat)
 case atStart => exact ⟨0, Nat.zero_le _, rfl, Lib.hid rfl, Ext.refl _⟩
 case round =>
  obtain ⟨j, hj, rfl, HJ, hx⟩ := hrel
  by_cases hlt : j < l.length
  · have hg : l[j]? = some l[j] := List.getElem?_eq_getElem hlt
    have hmem : l[j] ∈ l := List.getElem_mem hlt
    have hdrop := List.drop_eq_getElem_cons hlt
    generalize l[j] = t at *
    obtain ⟨b, o, a', c', rfl, hSb, g0, g1, g2, g3, hsk⟩ := rowSits_get (hs.ext hx) hg
    have HG := Lib.hid hg; clear hg
    have hall : l.all p = (p t && (l.drop (j + 1)).all p) := by rw [HJ.out, hdrop, List.all_cons]
    have HA := Lib.hid hall; clear hdrop hall
    go_wp2_with fail
    refine (HT.out t hmem a' c' _ (hsk.ext ((Ext.refl _).alloc _))).mono ?_
    rintro e w1 ⟨rfl, hx1⟩
    cases hp : p t
    · have HP := Lib.hid hp; clear hp
      simp only
      go_wp2_with fail
      go_ret
      rw [HA.out, HP.out]
      exact ⟨rfl, (by refine Ext.trans ?_ (by assumption); refine Ext.alloc ?_ _; assumption)⟩
    · have HP := Lib.hid hp; clear hp
      simp only
      go_wp2_with fail
      go_roundw
      case rel => exact ⟨j + 1, by omega, by go_num, Lib.hid (by rw [HA.out, HP.out]; simp), (by refine Ext.trans ?_ (by assumption); refine Ext.alloc ?_ _; assumption)⟩
      case measure => simp [intOf]; omega
  · go_wp2_with fail
    go_ret
    rw [HJ.out, List.drop_eq_nil_of_le (by omega)]
    exact ⟨rfl, hx⟩
def kidsOk : List Nd → List (FuncId × (Nd → Bool)) → Bool
 | [], [] => true
 | t :: r, f :: fs => f.2 t && kidsOk r fs
 | _, _ => false
theorem kidsOk_len : ∀ (l : List Nd) (fs : List (FuncId × (Nd → Bool))), l.length ≠ fs.length → kidsOk l fs = false
 | [], [], h => absurd rfl h
 | [], _ :: _, _ => rfl
 | _ :: _, [], _ => rfl
 | t :: r, f :: fs, h => by simp only [kidsOk]; rw [kidsOk_len r fs (by simpa using h)]; simp
theorem kids_c (k n : Int) (s : List UInt8) (l : List Nd) (a : Option Addr) (c : Nat) (fs : List (FuncId × (Nd → Bool))) (tb tc : Nat) (S : Nat → Prop) (w : World)
 (hl : l.length ≤ 9223372036854775807) (hfl : fs.length ≤ 100) (hs : rowSits S w l a)
 (htb : ∀ i f, fs[i]? = some f → w.cell? ⟨tb, i, none⟩ = some (.func (.func f.1) #[] #[])) (he : ∀ f ∈ fs, Enters f.1) (ht : ∀ f ∈ fs, ∀ t ∈ l, Tests S f.1 f.2 t) :
 Calls Tryz.prog 27 #[.agg #[.int .u8 k, .int .i64 n, str s, .slice a l.length c], .slice (some ⟨tb, 0, none⟩) fs.length tc] w fun e w' => e = .returned (.bool (kidsOk l fs)) ∧ Ext w w' := by
 have HT := Lib.hid ht; clear ht
 have HE := Lib.hid he; clear he
 have HB := Lib.hid htb; clear htb
 by_cases hlen : l.length = fs.length
 · have dn : ((l.length : Int) != (fs.length : Int)) = false := by rw [hlen]; simp
   have HL := Lib.hid hlen
   have hlen1 : l.length ≤ fs.length := by omega
   have hlen2 : fs.length ≤ l.length := by omega
   clear hlen
   go_enter Tryz.func27, Tryz.ntmps27
   go_wp2_with fail
   go_loopw [15] (fun i wr => ∃ j : Nat, j ≤ fs.length ∧ i = .int .i64 j ∧ Hid (kidsOk l fs = kidsOk (l.drop j) (fs.drop j)) ∧ Ext (w.alloc (.cells #[.int .u8 k, .int .i64 n, str s, .slice a l.length c] 24)) wr) (fun i _ => fs.length - (intOf i).toNat)
   case atStart => exact ⟨0, Nat.zero_le _, rfl, Lib.hid rfl, Ext.refl _⟩
   case round =>
    obtain ⟨j, hj, rfl, HJ, hx⟩ := hrel
    have hcs := hx.cells
    by_cases hlt : j < fs.length
    · have hlt' : j < l.length := by omega
      have hg : l[j]? = some l[j] := List.getElem?_eq_getElem hlt'
      have hmem : l[j] ∈ l := List.getElem_mem hlt'
      have hdrop := List.drop_eq_getElem_cons hlt'
      have hgf : fs[j]? = some fs[j] := List.getElem?_eq_getElem hlt
      have hmemf : fs[j] ∈ fs := List.getElem_mem hlt
      have hdropf := List.drop_eq_getElem_cons hlt
      generalize l[j] = t at *
      generalize fs[j] = f at *
      have hxx : Ext w wr := Ext.trans ((Ext.refl _).alloc _) hx
      obtain ⟨b, o, a', c', rfl, hSb, g0, g1, g2, g3, hsk⟩ := rowSits_get (hs.ext hxx) hg
      have HG := Lib.hid hg; clear hg
      have ht0 := hxx.keep (HB.out j f hgf)
      have HGF := Lib.hid hgf; clear hgf
      have hall : kidsOk l fs = (f.2 t && kidsOk (l.drop (j + 1)) (fs.drop (j + 1))) := by rw [HJ.out, hdrop, hdropf]; rfl
      have HA := Lib.hid hall; clear hdrop hall hdropf
      have hen := HE.out f hmemf
      unfold Enters at hen
      go_wp2_with fail
      refine (HT.out f hmemf t hmem a' c' _ hsk).mono ?_
      rintro e w1 ⟨rfl, hx1⟩
      cases hp : f.2 t
      · have HP := Lib.hid hp; clear hp
        simp only
        go_wp2_with fail
        go_ret
        rw [HA.out, HP.out]
        exact ⟨rfl, (by refine Ext.trans ?_ (by assumption); assumption)⟩
      · have HP := Lib.hid hp; clear hp
        simp only
        go_wp2_with fail
        go_roundw
        case rel => exact ⟨j + 1, by omega, by go_num, Lib.hid (by rw [HA.out, HP.out]; simp), (by refine Ext.trans ?_ (by assumption); assumption)⟩
        case measure => simp [intOf]; omega
    · go_wp2_with fail
      go_ret
      rw [HJ.out, List.drop_eq_nil_of_le (by omega), List.drop_eq_nil_of_le (by omega)]
      exact ⟨rfl, (by refine Ext.trans ?_ (by assumption); refine Ext.alloc ?_ _; exact Ext.refl _)⟩
 · have dn : ((l.length : Int) != (fs.length : Int)) = true := by rw [bne_iff_ne]; omega
   have hk := kidsOk_len l fs hlen
   have HK := Lib.hid hk; clear hk hlen
   go_enter Tryz.func27, Tryz.ntmps27
   go_wp2_with fail
   go_ret
   rw [HK.out]
   exact ⟨rfl, (by refine Ext.alloc ?_ _; exact Ext.refl _)⟩
end Bk
namespace Bk
open Go Go.RowKit Go.Proofs
theorem get1 {α : Type} {Q : Nat → α → Prop} {x : α} (h : Q 0 x) : ∀ i f, [x][i]? = some f → Q i f := by
 intro i f hf
 rcases i with _ | i
 · simp at hf; exact hf ▸ h
 · simp at hf
theorem get2 {α : Type} {Q : Nat → α → Prop} {x y : α} (h : Q 0 x) (h1 : Q 1 y) : ∀ i f, [x, y][i]? = some f → Q i f := by
 intro i f hf
 rcases i with _ | _ | i
 · simp at hf; exact hf ▸ h
 · simp at hf; exact hf ▸ h1
 · simp at hf
theorem get3 {α : Type} {Q : Nat → α → Prop} {x y z : α} (h : Q 0 x) (h1 : Q 1 y) (h2 : Q 2 z) : ∀ i f, [x, y, z][i]? = some f → Q i f := by
 intro i f hf
 rcases i with _ | _ | _ | i
 · simp at hf; exact hf ▸ h
 · simp at hf; exact hf ▸ h1
 · simp at hf; exact hf ▸ h2
 · simp at hf
theorem get4 {α : Type} {Q : Nat → α → Prop} {x y z u : α} (h : Q 0 x) (h1 : Q 1 y) (h2 : Q 2 z) (h3 : Q 3 u) : ∀ i f, [x, y, z, u][i]? = some f → Q i f := by
 intro i f hf
 rcases i with _ | _ | _ | _ | i
 · simp at hf; exact hf ▸ h
 · simp at hf; exact hf ▸ h1
 · simp at hf; exact hf ▸ h2
 · simp at hf; exact hf ▸ h3
 · simp at hf
theorem mem1 {α : Type} {Q : α → Prop} {x : α} (h : Q x) : ∀ f ∈ [x], Q f := by intro f hf; simp at hf; exact hf ▸ h
theorem mem2 {α : Type} {Q : α → Prop} {x y : α} (h : Q x) (h1 : Q y) : ∀ f ∈ [x, y], Q f := by
 intro f hf; simp at hf; rcases hf with rfl | rfl <;> assumption
theorem mem3 {α : Type} {Q : α → Prop} {x y z : α} (h : Q x) (h1 : Q y) (h2 : Q z) : ∀ f ∈ [x, y, z], Q f := by
 intro f hf; simp at hf; rcases hf with rfl | rfl | rfl <;> assumption
theorem mem4 {α : Type} {Q : α → Prop} {x y z u : α} (h : Q x) (h1 : Q y) (h2 : Q z) (h3 : Q u) : ∀ f ∈ [x, y, z, u], Q f := by
 intro f hf; simp at hf; rcases hf with rfl | rfl | rfl | rfl <;> assumption
theorem en_IsExpr : Enters 10 := enters_of Tryz.func10 (by kernel_rfl) rfl
theorem isExpr_leaf (n : Int) (s : List UInt8) (l : List Nd) : (Nd.mk 1 n s l).isExpr = (decide (0 ≤ n) && s.isEmpty && l.isEmpty) := by rw [Nd.isExpr.eq_def]; simp
theorem isExpr_name (k n : Int) (s : List UInt8) (l : List Nd) (h : k = 2 ∨ k = 4 ∨ k = 5) : (Nd.mk k n s l).isExpr = (named n s && l.isEmpty) := by
 rcases h with rfl | rfl | rfl <;> rw [Nd.isExpr.eq_def] <;> simp
theorem isExpr_item (f : FuncId) (n : Int) (s : List UInt8) (l : List Nd) : (Nd.mk 3 n s l).isExpr = (named n s && kidsOk l [(f, Nd.isExpr)]) := by
 rcases l with _ | ⟨x, _ | ⟨y, l⟩⟩ <;> rw [Nd.isExpr.eq_def] <;> simp [kidsOk]
theorem isExpr_un (f : FuncId) (k n : Int) (s : List UInt8) (l : List Nd) (h : k = 6 ∨ k = 7) : (Nd.mk k n s l).isExpr = (plain n s && kidsOk l [(f, Nd.isExpr)]) := by
 rcases l with _ | ⟨x, _ | ⟨y, l⟩⟩ <;> rcases h with rfl | rfl <;> rw [Nd.isExpr.eq_def] <;> simp [kidsOk]
theorem isExpr_bin (f : FuncId) (k n : Int) (s : List UInt8) (l : List Nd) (h : 8 ≤ k) (h' : k ≤ 23) : (Nd.mk k n s l).isExpr = (plain n s && kidsOk l [(f, Nd.isExpr), (f, Nd.isExpr)]) := by
 have e1 : ¬ k = 1 := by omega
 have e2 : ¬ (k = 2 ∨ k = 4 ∨ k = 5) := by omega
 have e3 : ¬ k = 3 := by omega
 have e4 : ¬ (k = 6 ∨ k = 7) := by omega
 rcases l with _ | ⟨x, _ | ⟨y, _ | ⟨z, l⟩⟩⟩ <;> rw [Nd.isExpr.eq_def] <;> simp [kidsOk, e1, e2, e3, e4, h, h']
theorem isExpr_else (k n : Int) (s : List UInt8) (l : List Nd) (h : k < 1 ∨ 23 < k) : (Nd.mk k n s l).isExpr = false := by
 have e1 : ¬ k = 1 := by omega
 have e2 : ¬ (k = 2 ∨ k = 4 ∨ k = 5) := by omega
 have e3 : ¬ k = 3 := by omega
 have e4 : ¬ (k = 6 ∨ k = 7) := by omega
 have e5 : ¬ (8 ≤ k ∧ k ≤ 23) := by omega
 rw [Nd.isExpr.eq_def]; simp [e1, e2, e3, e4, e5]
set_option maxHeartbeats 2000000 in
theorem IsExpr_c (S : Nat → Prop) (N : Nat) : ∀ t : Nd, t.size < N → t.wf → Tests S 10 Nd.isExpr t := by
 induction N with
 | zero => intro t h; omega
 | succ N ih =>
  rintro ⟨k, n, s, l⟩ hN hwf a c w hs
  simp only [Nd.wf, Nd.size, Nd.sits, Nd.kind, Nd.num, Nd.name, Nd.kids, Nd.val] at *
  obtain ⟨hk0, hk1, hn0, hn1, hsl, hll, hrw⟩ := hwf
  have hkid : ∀ t ∈ l, Tests S 10 Nd.isExpr t := fun t ht => ih t (by have := size_mem ht; omega) (rowWf_get hrw t ht)
  have HKID := Lib.hid hkid; clear hkid ih hrw
  have HSL := Lib.hid hsl; clear hsl
  by_cases c1 : k = 1
  · subst c1
    have hr := isExpr_leaf n s l
    have HR := Lib.hid hr; clear hr
    go_enter Tryz.func10, Tryz.ntmps10
    go_wp2_with fail
    all_goals go_ret
    all_goals rw [HR.out]
    all_goals exact ⟨ret_bool (by rw [Bool.eq_iff_iff]; first | (simp [*]; done) | (simp [*]; intros; omega)), (by repeat (first | exact Ext.refl _ | assumption | refine Ext.alloc ?_ _ | refine Ext.drew ?_ | refine Ext.trans ?_ (by assumption)))⟩
  by_cases c2 : k = 2 ∨ k = 4 ∨ k = 5
  · have hr := isExpr_name k n s l c2
    have HR := Lib.hid hr; clear hr
    cases hnm : named n s
    all_goals have HNM := Lib.hid hnm; clear hnm
    all_goals rcases c2 with rfl | rfl | rfl
    all_goals go_enter Tryz.func10, Tryz.ntmps10
    all_goals go_wp2_with (go_at_call 26; refine (named_c _ _ _ _ _ _ _ HSL.out).mono ?_; rintro e w1 ⟨rfl, hx1⟩; have hc1 := hx1.cells; rw [HNM.out])
    all_goals go_ret
    all_goals rw [HR.out, HNM.out]
    all_goals exact ⟨ret_bool (by first | rfl | (rw [Bool.eq_iff_iff]; simp)), (by repeat (first | exact Ext.refl _ | assumption | refine Ext.alloc ?_ _ | refine Ext.drew ?_ | refine Ext.trans ?_ (by assumption)))⟩
  by_cases c3 : k = 3
  · subst c3
    have hr := isExpr_item 10 n s l
    have HR := Lib.hid hr; clear hr
    cases hnm : named n s
    all_goals have HNM := Lib.hid hnm; clear hnm
    all_goals go_enter Tryz.func10, Tryz.ntmps10
    all_goals go_wp2_with (first | (go_at_call 26; refine (named_c _ _ _ _ _ _ _ HSL.out).mono ?_; rintro e w1 ⟨rfl, hx1⟩; have hc1 := hx1.cells; rw [HNM.out]) | (go_at_call 27; refine (kids_c _ _ _ l a c [(10, Nd.isExpr)] _ _ S _ hll (by decide) (hs.ext (by refine Ext.alloc ?_ _; refine Ext.trans ?_ (by assumption); refine Ext.alloc ?_ _; exact Ext.refl _)) (get1 (by go_simp)) (mem1 en_IsExpr) (mem1 HKID.out)).mono ?_; rintro e w2 ⟨rfl, hx2⟩))
    all_goals go_ret
    all_goals rw [HR.out, HNM.out]
    all_goals exact ⟨ret_bool (by simp), (by repeat (first | exact Ext.refl _ | assumption | refine Ext.alloc ?_ _ | refine Ext.drew ?_ | refine Ext.trans ?_ (by assumption)))⟩
  by_cases c4 : k = 6 ∨ k = 7
  · have hr := isExpr_un 10 k n s l c4
    have HR := Lib.hid hr; clear hr
    cases hnm : plain n s
    all_goals have HNM := Lib.hid hnm; clear hnm
    all_goals rcases c4 with rfl | rfl
    all_goals go_enter Tryz.func10, Tryz.ntmps10
    all_goals go_wp2_with (first | (go_at_call 28; refine (plain_c _ _ _ _ _ _ _).mono ?_; rintro e w1 ⟨rfl, hx1⟩; have hc1 := hx1.cells; rw [HNM.out]) | (go_at_call 27; refine (kids_c _ _ _ l a c [(10, Nd.isExpr)] _ _ S _ hll (by decide) (hs.ext (by repeat (first | exact Ext.refl _ | assumption | refine Ext.alloc ?_ _ | refine Ext.drew ?_ | refine Ext.trans ?_ (by assumption)))) (get1 (by go_simp)) (mem1 en_IsExpr) (mem1 HKID.out)).mono ?_; rintro e w2 ⟨rfl, hx2⟩))
    all_goals go_ret
    all_goals rw [HR.out, HNM.out]
    all_goals exact ⟨ret_bool (by simp), (by repeat (first | exact Ext.refl _ | assumption | refine Ext.alloc ?_ _ | refine Ext.drew ?_ | refine Ext.trans ?_ (by assumption)))⟩
  by_cases c5 : 8 ≤ k ∧ k ≤ 23
  · obtain ⟨c5a, c5b⟩ := c5
    have d1 : (k == 1) = false := by rw [beq_eq_false_iff_ne]; omega
    have d2 : (k == 2) = false := by rw [beq_eq_false_iff_ne]; omega
    have d3 : (k == 3) = false := by rw [beq_eq_false_iff_ne]; omega
    have d4 : (k == 4) = false := by rw [beq_eq_false_iff_ne]; omega
    have d5 : (k == 5) = false := by rw [beq_eq_false_iff_ne]; omega
    have d6 : (k == 6) = false := by rw [beq_eq_false_iff_ne]; omega
    have d7 : (k == 7) = false := by rw [beq_eq_false_iff_ne]; omega
    clear c1 c2 c3 c4
    have hr := isExpr_bin 10 k n s l c5a c5b
    have HR := Lib.hid hr; clear hr
    cases hnm : plain n s
    all_goals have HNM := Lib.hid hnm; clear hnm
    all_goals go_enter Tryz.func10, Tryz.ntmps10
    all_goals go_wp2_with (first | (go_at_call 28; refine (plain_c _ _ _ _ _ _ _).mono ?_; rintro e w1 ⟨rfl, hx1⟩; have hc1 := hx1.cells; rw [HNM.out]) | (go_at_call 27; refine (kids_c _ _ _ l a c [(10, Nd.isExpr), (10, Nd.isExpr)] _ _ S _ hll (by decide) (hs.ext (by refine Ext.alloc ?_ _; refine Ext.trans ?_ (by assumption); refine Ext.alloc ?_ _; exact Ext.refl _)) (get2 (by go_simp) (by go_simp)) (mem2 en_IsExpr en_IsExpr) (mem2 HKID.out HKID.out)).mono ?_; rintro e w2 ⟨rfl, hx2⟩))
    all_goals go_ret
    all_goals rw [HR.out, HNM.out]
    all_goals exact ⟨ret_bool (by simp), (by repeat (first | exact Ext.refl _ | assumption | refine Ext.alloc ?_ _ | refine Ext.drew ?_ | refine Ext.trans ?_ (by assumption)))⟩
  · have hr := isExpr_else k n s l (by omega)
    have HR := Lib.hid hr; clear hr
    have d1 : (k == 1) = false := by rw [beq_eq_false_iff_ne]; omega
    have d2 : (k == 2) = false := by rw [beq_eq_false_iff_ne]; omega
    have d3 : (k == 3) = false := by rw [beq_eq_false_iff_ne]; omega
    have d4 : (k == 4) = false := by rw [beq_eq_false_iff_ne]; omega
    have d5 : (k == 5) = false := by rw [beq_eq_false_iff_ne]; omega
    have d6 : (k == 6) = false := by rw [beq_eq_false_iff_ne]; omega
    have d7 : (k == 7) = false := by rw [beq_eq_false_iff_ne]; omega
    clear c1 c2 c3 c4
    go_enter Tryz.func10, Tryz.ntmps10
    go_wp2_with fail
    all_goals go_ret
    all_goals rw [HR.out]
    all_goals exact ⟨ret_bool (by first | rfl | (simp; omega)), (by repeat (first | exact Ext.refl _ | assumption | refine Ext.alloc ?_ _ | refine Ext.drew ?_ | refine Ext.trans ?_ (by assumption)))⟩
end Bk
namespace Bk
open Go Go.RowKit Go.Proofs
theorem en_IsPlace : Enters 63 := enters_of Tryz.func63 (by kernel_rfl) rfl
theorem en_isVar : Enters 64 := enters_of Tryz.func64 (by kernel_rfl) rfl
theorem en_IsStmt : Enters 37 := enters_of Tryz.func37 (by kernel_rfl) rfl
theorem en_IsBlock : Enters 14 := enters_of Tryz.func14 (by kernel_rfl) rfl
theorem IsExpr_t (S : Nat → Prop) (t : Nd) (h : t.wf) : Tests S 10 Nd.isExpr t := IsExpr_c S (t.size + 1) t (by omega) h
theorem IsPlace_t (S : Nat → Prop) (t : Nd) (h : t.wf) : Tests S 63 Nd.isPlace t := by
 have HE := Lib.hid (IsExpr_t S t h)
 intro a c w hs
 obtain ⟨k, n, s, l⟩ := t
 have hr : (Nd.mk k n s l).isPlace = ((k == 2 || k == 3) && (Nd.mk k n s l).isExpr) := rfl
 have HR := Lib.hid hr; clear hr
 have HSI := Lib.hid hs; clear hs h
 simp only [Nd.kind, Nd.num, Nd.name, Nd.kids, Nd.val]
 by_cases h2 : k = 2 ∨ k = 3
 · rcases h2 with rfl | rfl
   all_goals go_enter Tryz.func63, Tryz.ntmps63
   all_goals go_wp2_with (go_at_call 10; refine (HE.out a c _ (HSI.out.ext (by repeat (first | exact Ext.refl _ | assumption | refine Ext.alloc ?_ _ | refine Ext.drew ?_ | refine Ext.trans ?_ (by assumption))))).mono ?_; rintro e w1 ⟨rfl, hx1⟩)
   all_goals go_ret
   all_goals rw [HR.out]
   all_goals exact ⟨ret_bool (by simp), (by repeat (first | exact Ext.refl _ | assumption | refine Ext.alloc ?_ _ | refine Ext.drew ?_ | refine Ext.trans ?_ (by assumption)))⟩
 · have d2 : (k == 2) = false := by rw [beq_eq_false_iff_ne]; omega
   have d3 : (k == 3) = false := by rw [beq_eq_false_iff_ne]; omega
   clear h2
   go_enter Tryz.func63, Tryz.ntmps63
   go_wp2_with fail
   go_ret
   rw [HR.out]
   exact ⟨ret_bool (by simp [d2, d3]), (by refine Ext.alloc ?_ _; exact Ext.refl _)⟩
theorem isVar_t (S : Nat → Prop) (t : Nd) (h : t.wf) : Tests S 64 Nd.isVar t := by
 have HE := Lib.hid (IsExpr_t S t h)
 intro a c w hs
 obtain ⟨k, n, s, l⟩ := t
 have hr : (Nd.mk k n s l).isVar = (k == 2 && (Nd.mk k n s l).isExpr) := rfl
 have HR := Lib.hid hr; clear hr
 have HSI := Lib.hid hs; clear hs h
 simp only [Nd.kind, Nd.num, Nd.name, Nd.kids, Nd.val]
 by_cases h2 : k = 2
 · subst h2
   go_enter Tryz.func64, Tryz.ntmps64
   go_wp2_with (go_at_call 10; refine (HE.out a c _ (HSI.out.ext (by refine Ext.alloc ?_ _; exact Ext.refl _))).mono ?_; rintro e w1 ⟨rfl, hx1⟩)
   go_ret
   rw [HR.out]
   exact ⟨ret_bool (by simp), (by refine Ext.trans ?_ (by assumption); refine Ext.alloc ?_ _; exact Ext.refl _)⟩
 · have d2 : (k == 2) = false := by rw [beq_eq_false_iff_ne]; omega
   clear h2
   go_enter Tryz.func64, Tryz.ntmps64
   go_wp2_with fail
   go_ret
   rw [HR.out]
   exact ⟨ret_bool (by simp [d2]), (by refine Ext.alloc ?_ _; exact Ext.refl _)⟩
theorem isStmt_40 (n : Int) (s : List UInt8) (l : List Nd) : (Nd.mk 40 n s l).isStmt = (plain n s && kidsOk l [(63, Nd.isPlace), (10, Nd.isExpr)]) := by
 rcases l with _ | ⟨x, _ | ⟨y, _ | ⟨z, _ | ⟨u, _ | ⟨v, l⟩⟩⟩⟩⟩ <;> rw [Nd.isStmt.eq_def] <;> simp [kidsOk, Bool.and_assoc]
theorem IsStmt_40 (n : Int) (s : List UInt8) (l : List Nd) (a : Option Addr) (c : Nat) (S : Nat → Prop) (w : World)
 (hs : rowSits S w l a) (hsl : s.length ≤ 9223372036854775807) (hll : l.length ≤ 9223372036854775807) (hrw : rowWf l) (hb : ∀ t ∈ l, Tests S 14 Nd.isBlock t) :
 Calls Tryz.prog 37 #[.agg #[.int .u8 40, .int .i64 n, str s, .slice a l.length c]] w fun e w' => e = .returned (.bool (Nd.mk 40 n s l).isStmt) ∧ Ext w w' := by
 have HEX : Hid (∀ t ∈ l, Tests S 10 Nd.isExpr t) := Lib.hid fun t ht => IsExpr_t S t (rowWf_get hrw t ht)
 have HPL : Hid (∀ t ∈ l, Tests S 63 Nd.isPlace t) := Lib.hid fun t ht => IsPlace_t S t (rowWf_get hrw t ht)
 have HVA : Hid (∀ t ∈ l, Tests S 64 Nd.isVar t) := Lib.hid fun t ht => isVar_t S t (rowWf_get hrw t ht)
 have HBL := Lib.hid hb; clear hb
 have HSL := Lib.hid hsl; clear hsl hrw
 have hr := isStmt_40 n s l
 have HR := Lib.hid hr; clear hr
 cases hnm : plain n s
 all_goals have HNM := Lib.hid hnm; clear hnm
 all_goals go_enter Tryz.func37, Tryz.ntmps37
 all_goals go_wp2_with (first | (go_at_call 28; refine (plain_c _ _ _ _ _ _ _).mono ?_; rintro e w1 ⟨rfl, hx1⟩; have hc1 := hx1.cells; rw [HNM.out]) | (go_at_call 27; refine (kids_c _ _ _ l a c [(63, Nd.isPlace), (10, Nd.isExpr)] _ _ S _ hll (by decide) (hs.ext (by refine Ext.alloc ?_ _; refine Ext.trans ?_ (by assumption); refine Ext.alloc ?_ _; exact Ext.refl _)) (get2 (by go_simp) (by go_simp)) (mem2 en_IsPlace en_IsExpr) (mem2 HPL.out HEX.out)).mono ?_; rintro e w2 ⟨rfl, hx2⟩))
 all_goals go_ret
 all_goals rw [HR.out, HNM.out]
 all_goals exact ⟨ret_bool (by simp), (by repeat (first | exact Ext.refl _ | assumption | refine Ext.alloc ?_ _ | refine Ext.drew ?_ | refine Ext.trans ?_ (by assumption)))⟩
theorem isStmt_41 (n : Int) (s : List UInt8) (l : List Nd) : (Nd.mk 41 n s l).isStmt = (plain n s && kidsOk l [(63, Nd.isPlace), (10, Nd.isExpr)]) := by
 rcases l with _ | ⟨x, _ | ⟨y, _ | ⟨z, _ | ⟨u, _ | ⟨v, l⟩⟩⟩⟩⟩ <;> rw [Nd.isStmt.eq_def] <;> simp [kidsOk, Bool.and_assoc]
theorem IsStmt_41 (n : Int) (s : List UInt8) (l : List Nd) (a : Option Addr) (c : Nat) (S : Nat → Prop) (w : World)
 (hs : rowSits S w l a) (hsl : s.length ≤ 9223372036854775807) (hll : l.length ≤ 9223372036854775807) (hrw : rowWf l) (hb : ∀ t ∈ l, Tests S 14 Nd.isBlock t) :
 Calls Tryz.prog 37 #[.agg #[.int .u8 41, .int .i64 n, str s, .slice a l.length c]] w fun e w' => e = .returned (.bool (Nd.mk 41 n s l).isStmt) ∧ Ext w w' := by
 have HEX : Hid (∀ t ∈ l, Tests S 10 Nd.isExpr t) := Lib.hid fun t ht => IsExpr_t S t (rowWf_get hrw t ht)
 have HPL : Hid (∀ t ∈ l, Tests S 63 Nd.isPlace t) := Lib.hid fun t ht => IsPlace_t S t (rowWf_get hrw t ht)
 have HVA : Hid (∀ t ∈ l, Tests S 64 Nd.isVar t) := Lib.hid fun t ht => isVar_t S t (rowWf_get hrw t ht)
 have HBL := Lib.hid hb; clear hb
 have HSL := Lib.hid hsl; clear hsl hrw
 have hr := isStmt_41 n s l
 have HR := Lib.hid hr; clear hr
 cases hnm : plain n s
 all_goals have HNM := Lib.hid hnm; clear hnm
 all_goals go_enter Tryz.func37, Tryz.ntmps37
 all_goals go_wp2_with (first | (go_at_call 28; refine (plain_c _ _ _ _ _ _ _).mono ?_; rintro e w1 ⟨rfl, hx1⟩; have hc1 := hx1.cells; rw [HNM.out]) | (go_at_call 27; refine (kids_c _ _ _ l a c [(63, Nd.isPlace), (10, Nd.isExpr)] _ _ S _ hll (by decide) (hs.ext (by refine Ext.alloc ?_ _; refine Ext.trans ?_ (by assumption); refine Ext.alloc ?_ _; exact Ext.refl _)) (get2 (by go_simp) (by go_simp)) (mem2 en_IsPlace en_IsExpr) (mem2 HPL.out HEX.out)).mono ?_; rintro e w2 ⟨rfl, hx2⟩))
 all_goals go_ret
 all_goals rw [HR.out, HNM.out]
 all_goals exact ⟨ret_bool (by simp), (by repeat (first | exact Ext.refl _ | assumption | refine Ext.alloc ?_ _ | refine Ext.drew ?_ | refine Ext.trans ?_ (by assumption)))⟩
theorem isStmt_42 (n : Int) (s : List UInt8) (l : List Nd) : (Nd.mk 42 n s l).isStmt = (plain n s && kidsOk l [(63, Nd.isPlace), (10, Nd.isExpr)]) := by
 rcases l with _ | ⟨x, _ | ⟨y, _ | ⟨z, _ | ⟨u, _ | ⟨v, l⟩⟩⟩⟩⟩ <;> rw [Nd.isStmt.eq_def] <;> simp [kidsOk, Bool.and_assoc]
theorem IsStmt_42 (n : Int) (s : List UInt8) (l : List Nd) (a : Option Addr) (c : Nat) (S : Nat → Prop) (w : World)
 (hs : rowSits S w l a) (hsl : s.length ≤ 9223372036854775807) (hll : l.length ≤ 9223372036854775807) (hrw : rowWf l) (hb : ∀ t ∈ l, Tests S 14 Nd.isBlock t) :
 Calls Tryz.prog 37 #[.agg #[.int .u8 42, .int .i64 n, str s, .slice a l.length c]] w fun e w' => e = .returned (.bool (Nd.mk 42 n s l).isStmt) ∧ Ext w w' := by
 have HEX : Hid (∀ t ∈ l, Tests S 10 Nd.isExpr t) := Lib.hid fun t ht => IsExpr_t S t (rowWf_get hrw t ht)
 have HPL : Hid (∀ t ∈ l, Tests S 63 Nd.isPlace t) := Lib.hid fun t ht => IsPlace_t S t (rowWf_get hrw t ht)
 have HVA : Hid (∀ t ∈ l, Tests S 64 Nd.isVar t) := Lib.hid fun t ht => isVar_t S t (rowWf_get hrw t ht)
 have HBL := Lib.hid hb; clear hb
 have HSL := Lib.hid hsl; clear hsl hrw
 have hr := isStmt_42 n s l
 have HR := Lib.hid hr; clear hr
 cases hnm : plain n s
 all_goals have HNM := Lib.hid hnm; clear hnm
 all_goals go_enter Tryz.func37, Tryz.ntmps37
 all_goals go_wp2_with (first | (go_at_call 28; refine (plain_c _ _ _ _ _ _ _).mono ?_; rintro e w1 ⟨rfl, hx1⟩; have hc1 := hx1.cells; rw [HNM.out]) | (go_at_call 27; refine (kids_c _ _ _ l a c [(63, Nd.isPlace), (10, Nd.isExpr)] _ _ S _ hll (by decide) (hs.ext (by refine Ext.alloc ?_ _; refine Ext.trans ?_ (by assumption); refine Ext.alloc ?_ _; exact Ext.refl _)) (get2 (by go_simp) (by go_simp)) (mem2 en_IsPlace en_IsExpr) (mem2 HPL.out HEX.out)).mono ?_; rintro e w2 ⟨rfl, hx2⟩))
 all_goals go_ret
 all_goals rw [HR.out, HNM.out]
 all_goals exact ⟨ret_bool (by simp), (by repeat (first | exact Ext.refl _ | assumption | refine Ext.alloc ?_ _ | refine Ext.drew ?_ | refine Ext.trans ?_ (by assumption)))⟩
theorem isStmt_56 (n : Int) (s : List UInt8) (l : List Nd) : (Nd.mk 56 n s l).isStmt = (plain n s && kidsOk l [(63, Nd.isPlace), (10, Nd.isExpr)]) := by
 rcases l with _ | ⟨x, _ | ⟨y, _ | ⟨z, _ | ⟨u, _ | ⟨v, l⟩⟩⟩⟩⟩ <;> rw [Nd.isStmt.eq_def] <;> simp [kidsOk, Bool.and_assoc]
theorem IsStmt_56 (n : Int) (s : List UInt8) (l : List Nd) (a : Option Addr) (c : Nat) (S : Nat → Prop) (w : World)
 (hs : rowSits S w l a) (hsl : s.length ≤ 9223372036854775807) (hll : l.length ≤ 9223372036854775807) (hrw : rowWf l) (hb : ∀ t ∈ l, Tests S 14 Nd.isBlock t) :
 Calls Tryz.prog 37 #[.agg #[.int .u8 56, .int .i64 n, str s, .slice a l.length c]] w fun e w' => e = .returned (.bool (Nd.mk 56 n s l).isStmt) ∧ Ext w w' := by
 have HEX : Hid (∀ t ∈ l, Tests S 10 Nd.isExpr t) := Lib.hid fun t ht => IsExpr_t S t (rowWf_get hrw t ht)
 have HPL : Hid (∀ t ∈ l, Tests S 63 Nd.isPlace t) := Lib.hid fun t ht => IsPlace_t S t (rowWf_get hrw t ht)
 have HVA : Hid (∀ t ∈ l, Tests S 64 Nd.isVar t) := Lib.hid fun t ht => isVar_t S t (rowWf_get hrw t ht)
 have HBL := Lib.hid hb; clear hb
 have HSL := Lib.hid hsl; clear hsl hrw
 have hr := isStmt_56 n s l
 have HR := Lib.hid hr; clear hr
 cases hnm : plain n s
 all_goals have HNM := Lib.hid hnm; clear hnm
 all_goals go_enter Tryz.func37, Tryz.ntmps37
 all_goals go_wp2_with (first | (go_at_call 28; refine (plain_c _ _ _ _ _ _ _).mono ?_; rintro e w1 ⟨rfl, hx1⟩; have hc1 := hx1.cells; rw [HNM.out]) | (go_at_call 27; refine (kids_c _ _ _ l a c [(63, Nd.isPlace), (10, Nd.isExpr)] _ _ S _ hll (by decide) (hs.ext (by refine Ext.alloc ?_ _; refine Ext.trans ?_ (by assumption); refine Ext.alloc ?_ _; exact Ext.refl _)) (get2 (by go_simp) (by go_simp)) (mem2 en_IsPlace en_IsExpr) (mem2 HPL.out HEX.out)).mono ?_; rintro e w2 ⟨rfl, hx2⟩))
 all_goals go_ret
 all_goals rw [HR.out, HNM.out]
 all_goals exact ⟨ret_bool (by simp), (by repeat (first | exact Ext.refl _ | assumption | refine Ext.alloc ?_ _ | refine Ext.drew ?_ | refine Ext.trans ?_ (by assumption)))⟩
theorem isStmt_43 (n : Int) (s : List UInt8) (l : List Nd) : (Nd.mk 43 n s l).isStmt = (plain n s && kidsOk l [(63, Nd.isPlace), (63, Nd.isPlace)]) := by
 rcases l with _ | ⟨x, _ | ⟨y, _ | ⟨z, _ | ⟨u, _ | ⟨v, l⟩⟩⟩⟩⟩ <;> rw [Nd.isStmt.eq_def] <;> simp [kidsOk, Bool.and_assoc]
theorem IsStmt_43 (n : Int) (s : List UInt8) (l : List Nd) (a : Option Addr) (c : Nat) (S : Nat → Prop) (w : World)
 (hs : rowSits S w l a) (hsl : s.length ≤ 9223372036854775807) (hll : l.length ≤ 9223372036854775807) (hrw : rowWf l) (hb : ∀ t ∈ l, Tests S 14 Nd.isBlock t) :
 Calls Tryz.prog 37 #[.agg #[.int .u8 43, .int .i64 n, str s, .slice a l.length c]] w fun e w' => e = .returned (.bool (Nd.mk 43 n s l).isStmt) ∧ Ext w w' := by
 have HEX : Hid (∀ t ∈ l, Tests S 10 Nd.isExpr t) := Lib.hid fun t ht => IsExpr_t S t (rowWf_get hrw t ht)
 have HPL : Hid (∀ t ∈ l, Tests S 63 Nd.isPlace t) := Lib.hid fun t ht => IsPlace_t S t (rowWf_get hrw t ht)
 have HVA : Hid (∀ t ∈ l, Tests S 64 Nd.isVar t) := Lib.hid fun t ht => isVar_t S t (rowWf_get hrw t ht)
 have HBL := Lib.hid hb; clear hb
 have HSL := Lib.hid hsl; clear hsl hrw
 have hr := isStmt_43 n s l
 have HR := Lib.hid hr; clear hr
 cases hnm : plain n s
 all_goals have HNM := Lib.hid hnm; clear hnm
 all_goals go_enter Tryz.func37, Tryz.ntmps37
 all_goals go_wp2_with (first | (go_at_call 28; refine (plain_c _ _ _ _ _ _ _).mono ?_; rintro e w1 ⟨rfl, hx1⟩; have hc1 := hx1.cells; rw [HNM.out]) | (go_at_call 27; refine (kids_c _ _ _ l a c [(63, Nd.isPlace), (63, Nd.isPlace)] _ _ S _ hll (by decide) (hs.ext (by refine Ext.alloc ?_ _; refine Ext.trans ?_ (by assumption); refine Ext.alloc ?_ _; exact Ext.refl _)) (get2 (by go_simp) (by go_simp)) (mem2 en_IsPlace en_IsPlace) (mem2 HPL.out HPL.out)).mono ?_; rintro e w2 ⟨rfl, hx2⟩))
 all_goals go_ret
 all_goals rw [HR.out, HNM.out]
 all_goals exact ⟨ret_bool (by simp), (by repeat (first | exact Ext.refl _ | assumption | refine Ext.alloc ?_ _ | refine Ext.drew ?_ | refine Ext.trans ?_ (by assumption)))⟩
theorem isStmt_44 (n : Int) (s : List UInt8) (l : List Nd) : (Nd.mk 44 n s l).isStmt = (named n s && kidsOk l [(63, Nd.isPlace)]) := by
 rcases l with _ | ⟨x, _ | ⟨y, _ | ⟨z, _ | ⟨u, _ | ⟨v, l⟩⟩⟩⟩⟩ <;> rw [Nd.isStmt.eq_def] <;> simp [kidsOk, Bool.and_assoc]
theorem IsStmt_44 (n : Int) (s : List UInt8) (l : List Nd) (a : Option Addr) (c : Nat) (S : Nat → Prop) (w : World)
 (hs : rowSits S w l a) (hsl : s.length ≤ 9223372036854775807) (hll : l.length ≤ 9223372036854775807) (hrw : rowWf l) (hb : ∀ t ∈ l, Tests S 14 Nd.isBlock t) :
 Calls Tryz.prog 37 #[.agg #[.int .u8 44, .int .i64 n, str s, .slice a l.length c]] w fun e w' => e = .returned (.bool (Nd.mk 44 n s l).isStmt) ∧ Ext w w' := by
 have HEX : Hid (∀ t ∈ l, Tests S 10 Nd.isExpr t) := Lib.hid fun t ht => IsExpr_t S t (rowWf_get hrw t ht)
 have HPL : Hid (∀ t ∈ l, Tests S 63 Nd.isPlace t) := Lib.hid fun t ht => IsPlace_t S t (rowWf_get hrw t ht)
 have HVA : Hid (∀ t ∈ l, Tests S 64 Nd.isVar t) := Lib.hid fun t ht => isVar_t S t (rowWf_get hrw t ht)
 have HBL := Lib.hid hb; clear hb
 have HSL := Lib.hid hsl; clear hsl hrw
 have hr := isStmt_44 n s l
 have HR := Lib.hid hr; clear hr
 cases hnm : named n s
 all_goals have HNM := Lib.hid hnm; clear hnm
 all_goals go_enter Tryz.func37, Tryz.ntmps37
 all_goals go_wp2_with (first | (go_at_call 26; refine (named_c _ _ _ _ _ _ _ HSL.out).mono ?_; rintro e w1 ⟨rfl, hx1⟩; have hc1 := hx1.cells; rw [HNM.out]) | (go_at_call 27; refine (kids_c _ _ _ l a c [(63, Nd.isPlace)] _ _ S _ hll (by decide) (hs.ext (by refine Ext.alloc ?_ _; refine Ext.trans ?_ (by assumption); refine Ext.alloc ?_ _; exact Ext.refl _)) (get1 (by go_simp)) (mem1 en_IsPlace) (mem1 HPL.out)).mono ?_; rintro e w2 ⟨rfl, hx2⟩))
 all_goals go_ret
 all_goals rw [HR.out, HNM.out]
 all_goals exact ⟨ret_bool (by simp), (by repeat (first | exact Ext.refl _ | assumption | refine Ext.alloc ?_ _ | refine Ext.drew ?_ | refine Ext.trans ?_ (by assumption)))⟩
theorem isStmt_45 (n : Int) (s : List UInt8) (l : List Nd) : (Nd.mk 45 n s l).isStmt = (named n s && kidsOk l [(63, Nd.isPlace)]) := by
 rcases l with _ | ⟨x, _ | ⟨y, _ | ⟨z, _ | ⟨u, _ | ⟨v, l⟩⟩⟩⟩⟩ <;> rw [Nd.isStmt.eq_def] <;> simp [kidsOk, Bool.and_assoc]
theorem IsStmt_45 (n : Int) (s : List UInt8) (l : List Nd) (a : Option Addr) (c : Nat) (S : Nat → Prop) (w : World)
 (hs : rowSits S w l a) (hsl : s.length ≤ 9223372036854775807) (hll : l.length ≤ 9223372036854775807) (hrw : rowWf l) (hb : ∀ t ∈ l, Tests S 14 Nd.isBlock t) :
 Calls Tryz.prog 37 #[.agg #[.int .u8 45, .int .i64 n, str s, .slice a l.length c]] w fun e w' => e = .returned (.bool (Nd.mk 45 n s l).isStmt) ∧ Ext w w' := by
 have HEX : Hid (∀ t ∈ l, Tests S 10 Nd.isExpr t) := Lib.hid fun t ht => IsExpr_t S t (rowWf_get hrw t ht)
 have HPL : Hid (∀ t ∈ l, Tests S 63 Nd.isPlace t) := Lib.hid fun t ht => IsPlace_t S t (rowWf_get hrw t ht)
 have HVA : Hid (∀ t ∈ l, Tests S 64 Nd.isVar t) := Lib.hid fun t ht => isVar_t S t (rowWf_get hrw t ht)
 have HBL := Lib.hid hb; clear hb
 have HSL := Lib.hid hsl; clear hsl hrw
 have hr := isStmt_45 n s l
 have HR := Lib.hid hr; clear hr
 cases hnm : named n s
 all_goals have HNM := Lib.hid hnm; clear hnm
 all_goals go_enter Tryz.func37, Tryz.ntmps37
 all_goals go_wp2_with (first | (go_at_call 26; refine (named_c _ _ _ _ _ _ _ HSL.out).mono ?_; rintro e w1 ⟨rfl, hx1⟩; have hc1 := hx1.cells; rw [HNM.out]) | (go_at_call 27; refine (kids_c _ _ _ l a c [(63, Nd.isPlace)] _ _ S _ hll (by decide) (hs.ext (by refine Ext.alloc ?_ _; refine Ext.trans ?_ (by assumption); refine Ext.alloc ?_ _; exact Ext.refl _)) (get1 (by go_simp)) (mem1 en_IsPlace) (mem1 HPL.out)).mono ?_; rintro e w2 ⟨rfl, hx2⟩))
 all_goals go_ret
 all_goals rw [HR.out, HNM.out]
 all_goals exact ⟨ret_bool (by simp), (by repeat (first | exact Ext.refl _ | assumption | refine Ext.alloc ?_ _ | refine Ext.drew ?_ | refine Ext.trans ?_ (by assumption)))⟩
theorem isStmt_46 (n : Int) (s : List UInt8) (l : List Nd) : (Nd.mk 46 n s l).isStmt = (plain n s && kidsOk l [(63, Nd.isPlace)]) := by
 rcases l with _ | ⟨x, _ | ⟨y, _ | ⟨z, _ | ⟨u, _ | ⟨v, l⟩⟩⟩⟩⟩ <;> rw [Nd.isStmt.eq_def] <;> simp [kidsOk, Bool.and_assoc]
theorem IsStmt_46 (n : Int) (s : List UInt8) (l : List Nd) (a : Option Addr) (c : Nat) (S : Nat → Prop) (w : World)
 (hs : rowSits S w l a) (hsl : s.length ≤ 9223372036854775807) (hll : l.length ≤ 9223372036854775807) (hrw : rowWf l) (hb : ∀ t ∈ l, Tests S 14 Nd.isBlock t) :
 Calls Tryz.prog 37 #[.agg #[.int .u8 46, .int .i64 n, str s, .slice a l.length c]] w fun e w' => e = .returned (.bool (Nd.mk 46 n s l).isStmt) ∧ Ext w w' := by
 have HEX : Hid (∀ t ∈ l, Tests S 10 Nd.isExpr t) := Lib.hid fun t ht => IsExpr_t S t (rowWf_get hrw t ht)
 have HPL : Hid (∀ t ∈ l, Tests S 63 Nd.isPlace t) := Lib.hid fun t ht => IsPlace_t S t (rowWf_get hrw t ht)
 have HVA : Hid (∀ t ∈ l, Tests S 64 Nd.isVar t) := Lib.hid fun t ht => isVar_t S t (rowWf_get hrw t ht)
 have HBL := Lib.hid hb; clear hb
 have HSL := Lib.hid hsl; clear hsl hrw
 have hr := isStmt_46 n s l
 have HR := Lib.hid hr; clear hr
 cases hnm : plain n s
 all_goals have HNM := Lib.hid hnm; clear hnm
 all_goals go_enter Tryz.func37, Tryz.ntmps37
 all_goals go_wp2_with (first | (go_at_call 28; refine (plain_c _ _ _ _ _ _ _).mono ?_; rintro e w1 ⟨rfl, hx1⟩; have hc1 := hx1.cells; rw [HNM.out]) | (go_at_call 27; refine (kids_c _ _ _ l a c [(63, Nd.isPlace)] _ _ S _ hll (by decide) (hs.ext (by refine Ext.alloc ?_ _; refine Ext.trans ?_ (by assumption); refine Ext.alloc ?_ _; exact Ext.refl _)) (get1 (by go_simp)) (mem1 en_IsPlace) (mem1 HPL.out)).mono ?_; rintro e w2 ⟨rfl, hx2⟩))
 all_goals go_ret
 all_goals rw [HR.out, HNM.out]
 all_goals exact ⟨ret_bool (by simp), (by repeat (first | exact Ext.refl _ | assumption | refine Ext.alloc ?_ _ | refine Ext.drew ?_ | refine Ext.trans ?_ (by assumption)))⟩
theorem isStmt_47 (n : Int) (s : List UInt8) (l : List Nd) : (Nd.mk 47 n s l).isStmt = (plain n s && kidsOk l [(63, Nd.isPlace)]) := by
 rcases l with _ | ⟨x, _ | ⟨y, _ | ⟨z, _ | ⟨u, _ | ⟨v, l⟩⟩⟩⟩⟩ <;> rw [Nd.isStmt.eq_def] <;> simp [kidsOk, Bool.and_assoc]
theorem IsStmt_47 (n : Int) (s : List UInt8) (l : List Nd) (a : Option Addr) (c : Nat) (S : Nat → Prop) (w : World)
 (hs : rowSits S w l a) (hsl : s.length ≤ 9223372036854775807) (hll : l.length ≤ 9223372036854775807) (hrw : rowWf l) (hb : ∀ t ∈ l, Tests S 14 Nd.isBlock t) :
 Calls Tryz.prog 37 #[.agg #[.int .u8 47, .int .i64 n, str s, .slice a l.length c]] w fun e w' => e = .returned (.bool (Nd.mk 47 n s l).isStmt) ∧ Ext w w' := by
 have HEX : Hid (∀ t ∈ l, Tests S 10 Nd.isExpr t) := Lib.hid fun t ht => IsExpr_t S t (rowWf_get hrw t ht)
 have HPL : Hid (∀ t ∈ l, Tests S 63 Nd.isPlace t) := Lib.hid fun t ht => IsPlace_t S t (rowWf_get hrw t ht)
 have HVA : Hid (∀ t ∈ l, Tests S 64 Nd.isVar t) := Lib.hid fun t ht => isVar_t S t (rowWf_get hrw t ht)
 have HBL := Lib.hid hb; clear hb
 have HSL := Lib.hid hsl; clear hsl hrw
 have hr := isStmt_47 n s l
 have HR := Lib.hid hr; clear hr
 cases hnm : plain n s
 all_goals have HNM := Lib.hid hnm; clear hnm
 all_goals go_enter Tryz.func37, Tryz.ntmps37
 all_goals go_wp2_with (first | (go_at_call 28; refine (plain_c _ _ _ _ _ _ _).mono ?_; rintro e w1 ⟨rfl, hx1⟩; have hc1 := hx1.cells; rw [HNM.out]) | (go_at_call 27; refine (kids_c _ _ _ l a c [(63, Nd.isPlace)] _ _ S _ hll (by decide) (hs.ext (by refine Ext.alloc ?_ _; refine Ext.trans ?_ (by assumption); refine Ext.alloc ?_ _; exact Ext.refl _)) (get1 (by go_simp)) (mem1 en_IsPlace) (mem1 HPL.out)).mono ?_; rintro e w2 ⟨rfl, hx2⟩))
 all_goals go_ret
 all_goals rw [HR.out, HNM.out]
 all_goals exact ⟨ret_bool (by simp), (by repeat (first | exact Ext.refl _ | assumption | refine Ext.alloc ?_ _ | refine Ext.drew ?_ | refine Ext.trans ?_ (by assumption)))⟩
theorem isStmt_48 (n : Int) (s : List UInt8) (l : List Nd) : (Nd.mk 48 n s l).isStmt = (plain n s && kidsOk l [(63, Nd.isPlace)]) := by
 rcases l with _ | ⟨x, _ | ⟨y, _ | ⟨z, _ | ⟨u, _ | ⟨v, l⟩⟩⟩⟩⟩ <;> rw [Nd.isStmt.eq_def] <;> simp [kidsOk, Bool.and_assoc]
theorem IsStmt_48 (n : Int) (s : List UInt8) (l : List Nd) (a : Option Addr) (c : Nat) (S : Nat → Prop) (w : World)
 (hs : rowSits S w l a) (hsl : s.length ≤ 9223372036854775807) (hll : l.length ≤ 9223372036854775807) (hrw : rowWf l) (hb : ∀ t ∈ l, Tests S 14 Nd.isBlock t) :
 Calls Tryz.prog 37 #[.agg #[.int .u8 48, .int .i64 n, str s, .slice a l.length c]] w fun e w' => e = .returned (.bool (Nd.mk 48 n s l).isStmt) ∧ Ext w w' := by
 have HEX : Hid (∀ t ∈ l, Tests S 10 Nd.isExpr t) := Lib.hid fun t ht => IsExpr_t S t (rowWf_get hrw t ht)
 have HPL : Hid (∀ t ∈ l, Tests S 63 Nd.isPlace t) := Lib.hid fun t ht => IsPlace_t S t (rowWf_get hrw t ht)
 have HVA : Hid (∀ t ∈ l, Tests S 64 Nd.isVar t) := Lib.hid fun t ht => isVar_t S t (rowWf_get hrw t ht)
 have HBL := Lib.hid hb; clear hb
 have HSL := Lib.hid hsl; clear hsl hrw
 have hr := isStmt_48 n s l
 have HR := Lib.hid hr; clear hr
 cases hnm : plain n s
 all_goals have HNM := Lib.hid hnm; clear hnm
 all_goals go_enter Tryz.func37, Tryz.ntmps37
 all_goals go_wp2_with (first | (go_at_call 28; refine (plain_c _ _ _ _ _ _ _).mono ?_; rintro e w1 ⟨rfl, hx1⟩; have hc1 := hx1.cells; rw [HNM.out]) | (go_at_call 27; refine (kids_c _ _ _ l a c [(63, Nd.isPlace)] _ _ S _ hll (by decide) (hs.ext (by refine Ext.alloc ?_ _; refine Ext.trans ?_ (by assumption); refine Ext.alloc ?_ _; exact Ext.refl _)) (get1 (by go_simp)) (mem1 en_IsPlace) (mem1 HPL.out)).mono ?_; rintro e w2 ⟨rfl, hx2⟩))
 all_goals go_ret
 all_goals rw [HR.out, HNM.out]
 all_goals exact ⟨ret_bool (by simp), (by repeat (first | exact Ext.refl _ | assumption | refine Ext.alloc ?_ _ | refine Ext.drew ?_ | refine Ext.trans ?_ (by assumption)))⟩
theorem isStmt_49 (n : Int) (s : List UInt8) (l : List Nd) : (Nd.mk 49 n s l).isStmt = (plain n s && kidsOk l [(63, Nd.isPlace)]) := by
 rcases l with _ | ⟨x, _ | ⟨y, _ | ⟨z, _ | ⟨u, _ | ⟨v, l⟩⟩⟩⟩⟩ <;> rw [Nd.isStmt.eq_def] <;> simp [kidsOk, Bool.and_assoc]
theorem IsStmt_49 (n : Int) (s : List UInt8) (l : List Nd) (a : Option Addr) (c : Nat) (S : Nat → Prop) (w : World)
 (hs : rowSits S w l a) (hsl : s.length ≤ 9223372036854775807) (hll : l.length ≤ 9223372036854775807) (hrw : rowWf l) (hb : ∀ t ∈ l, Tests S 14 Nd.isBlock t) :
 Calls Tryz.prog 37 #[.agg #[.int .u8 49, .int .i64 n, str s, .slice a l.length c]] w fun e w' => e = .returned (.bool (Nd.mk 49 n s l).isStmt) ∧ Ext w w' := by
 have HEX : Hid (∀ t ∈ l, Tests S 10 Nd.isExpr t) := Lib.hid fun t ht => IsExpr_t S t (rowWf_get hrw t ht)
 have HPL : Hid (∀ t ∈ l, Tests S 63 Nd.isPlace t) := Lib.hid fun t ht => IsPlace_t S t (rowWf_get hrw t ht)
 have HVA : Hid (∀ t ∈ l, Tests S 64 Nd.isVar t) := Lib.hid fun t ht => isVar_t S t (rowWf_get hrw t ht)
 have HBL := Lib.hid hb; clear hb
 have HSL := Lib.hid hsl; clear hsl hrw
 have hr := isStmt_49 n s l
 have HR := Lib.hid hr; clear hr
 cases hnm : plain n s
 all_goals have HNM := Lib.hid hnm; clear hnm
 all_goals go_enter Tryz.func37, Tryz.ntmps37
 all_goals go_wp2_with (first | (go_at_call 28; refine (plain_c _ _ _ _ _ _ _).mono ?_; rintro e w1 ⟨rfl, hx1⟩; have hc1 := hx1.cells; rw [HNM.out]) | (go_at_call 27; refine (kids_c _ _ _ l a c [(63, Nd.isPlace)] _ _ S _ hll (by decide) (hs.ext (by refine Ext.alloc ?_ _; refine Ext.trans ?_ (by assumption); refine Ext.alloc ?_ _; exact Ext.refl _)) (get1 (by go_simp)) (mem1 en_IsPlace) (mem1 HPL.out)).mono ?_; rintro e w2 ⟨rfl, hx2⟩))
 all_goals go_ret
 all_goals rw [HR.out, HNM.out]
 all_goals exact ⟨ret_bool (by simp), (by repeat (first | exact Ext.refl _ | assumption | refine Ext.alloc ?_ _ | refine Ext.drew ?_ | refine Ext.trans ?_ (by assumption)))⟩
theorem isStmt_52 (n : Int) (s : List UInt8) (l : List Nd) : (Nd.mk 52 n s l).isStmt = (plain n s && kidsOk l [(10, Nd.isExpr), (14, Nd.isBlock), (14, Nd.isBlock), (10, Nd.isExpr)]) := by
 rcases l with _ | ⟨x, _ | ⟨y, _ | ⟨z, _ | ⟨u, _ | ⟨v, l⟩⟩⟩⟩⟩ <;> rw [Nd.isStmt.eq_def] <;> simp [kidsOk, Bool.and_assoc]
theorem IsStmt_52 (n : Int) (s : List UInt8) (l : List Nd) (a : Option Addr) (c : Nat) (S : Nat → Prop) (w : World)
 (hs : rowSits S w l a) (hsl : s.length ≤ 9223372036854775807) (hll : l.length ≤ 9223372036854775807) (hrw : rowWf l) (hb : ∀ t ∈ l, Tests S 14 Nd.isBlock t) :
 Calls Tryz.prog 37 #[.agg #[.int .u8 52, .int .i64 n, str s, .slice a l.length c]] w fun e w' => e = .returned (.bool (Nd.mk 52 n s l).isStmt) ∧ Ext w w' := by
 have HEX : Hid (∀ t ∈ l, Tests S 10 Nd.isExpr t) := Lib.hid fun t ht => IsExpr_t S t (rowWf_get hrw t ht)
 have HPL : Hid (∀ t ∈ l, Tests S 63 Nd.isPlace t) := Lib.hid fun t ht => IsPlace_t S t (rowWf_get hrw t ht)
 have HVA : Hid (∀ t ∈ l, Tests S 64 Nd.isVar t) := Lib.hid fun t ht => isVar_t S t (rowWf_get hrw t ht)
 have HBL := Lib.hid hb; clear hb
 have HSL := Lib.hid hsl; clear hsl hrw
 have hr := isStmt_52 n s l
 have HR := Lib.hid hr; clear hr
 cases hnm : plain n s
 all_goals have HNM := Lib.hid hnm; clear hnm
 all_goals go_enter Tryz.func37, Tryz.ntmps37
 all_goals go_wp2_with (first | (go_at_call 28; refine (plain_c _ _ _ _ _ _ _).mono ?_; rintro e w1 ⟨rfl, hx1⟩; have hc1 := hx1.cells; rw [HNM.out]) | (go_at_call 27; refine (kids_c _ _ _ l a c [(10, Nd.isExpr), (14, Nd.isBlock), (14, Nd.isBlock), (10, Nd.isExpr)] _ _ S _ hll (by decide) (hs.ext (by refine Ext.alloc ?_ _; refine Ext.trans ?_ (by assumption); refine Ext.alloc ?_ _; exact Ext.refl _)) (get4 (by go_simp) (by go_simp) (by go_simp) (by go_simp)) (mem4 en_IsExpr en_IsBlock en_IsBlock en_IsExpr) (mem4 HEX.out HBL.out HBL.out HEX.out)).mono ?_; rintro e w2 ⟨rfl, hx2⟩))
 all_goals go_ret
 all_goals rw [HR.out, HNM.out]
 all_goals exact ⟨ret_bool (by simp), (by repeat (first | exact Ext.refl _ | assumption | refine Ext.alloc ?_ _ | refine Ext.drew ?_ | refine Ext.trans ?_ (by assumption)))⟩
theorem isStmt_53 (n : Int) (s : List UInt8) (l : List Nd) : (Nd.mk 53 n s l).isStmt = (plain n s && kidsOk l [(10, Nd.isExpr), (14, Nd.isBlock), (14, Nd.isBlock), (10, Nd.isExpr)]) := by
 rcases l with _ | ⟨x, _ | ⟨y, _ | ⟨z, _ | ⟨u, _ | ⟨v, l⟩⟩⟩⟩⟩ <;> rw [Nd.isStmt.eq_def] <;> simp [kidsOk, Bool.and_assoc]
theorem IsStmt_53 (n : Int) (s : List UInt8) (l : List Nd) (a : Option Addr) (c : Nat) (S : Nat → Prop) (w : World)
 (hs : rowSits S w l a) (hsl : s.length ≤ 9223372036854775807) (hll : l.length ≤ 9223372036854775807) (hrw : rowWf l) (hb : ∀ t ∈ l, Tests S 14 Nd.isBlock t) :
 Calls Tryz.prog 37 #[.agg #[.int .u8 53, .int .i64 n, str s, .slice a l.length c]] w fun e w' => e = .returned (.bool (Nd.mk 53 n s l).isStmt) ∧ Ext w w' := by
 have HEX : Hid (∀ t ∈ l, Tests S 10 Nd.isExpr t) := Lib.hid fun t ht => IsExpr_t S t (rowWf_get hrw t ht)
 have HPL : Hid (∀ t ∈ l, Tests S 63 Nd.isPlace t) := Lib.hid fun t ht => IsPlace_t S t (rowWf_get hrw t ht)
 have HVA : Hid (∀ t ∈ l, Tests S 64 Nd.isVar t) := Lib.hid fun t ht => isVar_t S t (rowWf_get hrw t ht)
 have HBL := Lib.hid hb; clear hb
 have HSL := Lib.hid hsl; clear hsl hrw
 have hr := isStmt_53 n s l
 have HR := Lib.hid hr; clear hr
 cases hnm : plain n s
 all_goals have HNM := Lib.hid hnm; clear hnm
 all_goals go_enter Tryz.func37, Tryz.ntmps37
 all_goals go_wp2_with (first | (go_at_call 28; refine (plain_c _ _ _ _ _ _ _).mono ?_; rintro e w1 ⟨rfl, hx1⟩; have hc1 := hx1.cells; rw [HNM.out]) | (go_at_call 27; refine (kids_c _ _ _ l a c [(10, Nd.isExpr), (14, Nd.isBlock), (14, Nd.isBlock), (10, Nd.isExpr)] _ _ S _ hll (by decide) (hs.ext (by refine Ext.alloc ?_ _; refine Ext.trans ?_ (by assumption); refine Ext.alloc ?_ _; exact Ext.refl _)) (get4 (by go_simp) (by go_simp) (by go_simp) (by go_simp)) (mem4 en_IsExpr en_IsBlock en_IsBlock en_IsExpr) (mem4 HEX.out HBL.out HBL.out HEX.out)).mono ?_; rintro e w2 ⟨rfl, hx2⟩))
 all_goals go_ret
 all_goals rw [HR.out, HNM.out]
 all_goals exact ⟨ret_bool (by simp), (by repeat (first | exact Ext.refl _ | assumption | refine Ext.alloc ?_ _ | refine Ext.drew ?_ | refine Ext.trans ?_ (by assumption)))⟩
theorem isStmt_54 (n : Int) (s : List UInt8) (l : List Nd) : (Nd.mk 54 n s l).isStmt = (named n s && kidsOk l [(10, Nd.isExpr), (14, Nd.isBlock), (10, Nd.isExpr)]) := by
 rcases l with _ | ⟨x, _ | ⟨y, _ | ⟨z, _ | ⟨u, _ | ⟨v, l⟩⟩⟩⟩⟩ <;> rw [Nd.isStmt.eq_def] <;> simp [kidsOk, Bool.and_assoc]
theorem IsStmt_54 (n : Int) (s : List UInt8) (l : List Nd) (a : Option Addr) (c : Nat) (S : Nat → Prop) (w : World)
 (hs : rowSits S w l a) (hsl : s.length ≤ 9223372036854775807) (hll : l.length ≤ 9223372036854775807) (hrw : rowWf l) (hb : ∀ t ∈ l, Tests S 14 Nd.isBlock t) :
 Calls Tryz.prog 37 #[.agg #[.int .u8 54, .int .i64 n, str s, .slice a l.length c]] w fun e w' => e = .returned (.bool (Nd.mk 54 n s l).isStmt) ∧ Ext w w' := by
 have HEX : Hid (∀ t ∈ l, Tests S 10 Nd.isExpr t) := Lib.hid fun t ht => IsExpr_t S t (rowWf_get hrw t ht)
 have HPL : Hid (∀ t ∈ l, Tests S 63 Nd.isPlace t) := Lib.hid fun t ht => IsPlace_t S t (rowWf_get hrw t ht)
 have HVA : Hid (∀ t ∈ l, Tests S 64 Nd.isVar t) := Lib.hid fun t ht => isVar_t S t (rowWf_get hrw t ht)
 have HBL := Lib.hid hb; clear hb
 have HSL := Lib.hid hsl; clear hsl hrw
 have hr := isStmt_54 n s l
 have HR := Lib.hid hr; clear hr
 cases hnm : named n s
 all_goals have HNM := Lib.hid hnm; clear hnm
 all_goals go_enter Tryz.func37, Tryz.ntmps37
 all_goals go_wp2_with (first | (go_at_call 26; refine (named_c _ _ _ _ _ _ _ HSL.out).mono ?_; rintro e w1 ⟨rfl, hx1⟩; have hc1 := hx1.cells; rw [HNM.out]) | (go_at_call 27; refine (kids_c _ _ _ l a c [(10, Nd.isExpr), (14, Nd.isBlock), (10, Nd.isExpr)] _ _ S _ hll (by decide) (hs.ext (by refine Ext.alloc ?_ _; refine Ext.trans ?_ (by assumption); refine Ext.alloc ?_ _; exact Ext.refl _)) (get3 (by go_simp) (by go_simp) (by go_simp)) (mem3 en_IsExpr en_IsBlock en_IsExpr) (mem3 HEX.out HBL.out HEX.out)).mono ?_; rintro e w2 ⟨rfl, hx2⟩))
 all_goals go_ret
 all_goals rw [HR.out, HNM.out]
 all_goals exact ⟨ret_bool (by simp), (by repeat (first | exact Ext.refl _ | assumption | refine Ext.alloc ?_ _ | refine Ext.drew ?_ | refine Ext.trans ?_ (by assumption)))⟩
theorem isStmt_55 (n : Int) (s : List UInt8) (l : List Nd) : (Nd.mk 55 n s l).isStmt = (named n s && kidsOk l [(14, Nd.isBlock)]) := by
 rcases l with _ | ⟨x, _ | ⟨y, _ | ⟨z, _ | ⟨u, _ | ⟨v, l⟩⟩⟩⟩⟩ <;> rw [Nd.isStmt.eq_def] <;> simp [kidsOk, Bool.and_assoc]
theorem IsStmt_55 (n : Int) (s : List UInt8) (l : List Nd) (a : Option Addr) (c : Nat) (S : Nat → Prop) (w : World)
 (hs : rowSits S w l a) (hsl : s.length ≤ 9223372036854775807) (hll : l.length ≤ 9223372036854775807) (hrw : rowWf l) (hb : ∀ t ∈ l, Tests S 14 Nd.isBlock t) :
 Calls Tryz.prog 37 #[.agg #[.int .u8 55, .int .i64 n, str s, .slice a l.length c]] w fun e w' => e = .returned (.bool (Nd.mk 55 n s l).isStmt) ∧ Ext w w' := by
 have HEX : Hid (∀ t ∈ l, Tests S 10 Nd.isExpr t) := Lib.hid fun t ht => IsExpr_t S t (rowWf_get hrw t ht)
 have HPL : Hid (∀ t ∈ l, Tests S 63 Nd.isPlace t) := Lib.hid fun t ht => IsPlace_t S t (rowWf_get hrw t ht)
 have HVA : Hid (∀ t ∈ l, Tests S 64 Nd.isVar t) := Lib.hid fun t ht => isVar_t S t (rowWf_get hrw t ht)
 have HBL := Lib.hid hb; clear hb
 have HSL := Lib.hid hsl; clear hsl hrw
 have hr := isStmt_55 n s l
 have HR := Lib.hid hr; clear hr
 cases hnm : named n s
 all_goals have HNM := Lib.hid hnm; clear hnm
 all_goals go_enter Tryz.func37, Tryz.ntmps37
 all_goals go_wp2_with (first | (go_at_call 26; refine (named_c _ _ _ _ _ _ _ HSL.out).mono ?_; rintro e w1 ⟨rfl, hx1⟩; have hc1 := hx1.cells; rw [HNM.out]) | (go_at_call 27; refine (kids_c _ _ _ l a c [(14, Nd.isBlock)] _ _ S _ hll (by decide) (hs.ext (by refine Ext.alloc ?_ _; refine Ext.trans ?_ (by assumption); refine Ext.alloc ?_ _; exact Ext.refl _)) (get1 (by go_simp)) (mem1 en_IsBlock) (mem1 HBL.out)).mono ?_; rintro e w2 ⟨rfl, hx2⟩))
 all_goals go_ret
 all_goals rw [HR.out, HNM.out]
 all_goals exact ⟨ret_bool (by simp), (by repeat (first | exact Ext.refl _ | assumption | refine Ext.alloc ?_ _ | refine Ext.drew ?_ | refine Ext.trans ?_ (by assumption)))⟩
theorem isStmt_50 (n : Int) (s : List UInt8) (l : List Nd) : (Nd.mk 50 n s l).isStmt = (named n s && decide (l.length ≤ 8) && l.all Nd.isVar) := by
 rw [Nd.isStmt.eq_def]; simp
theorem IsStmt_50 (n : Int) (s : List UInt8) (l : List Nd) (a : Option Addr) (c : Nat) (S : Nat → Prop) (w : World)
 (hs : rowSits S w l a) (hsl : s.length ≤ 9223372036854775807) (hll : l.length ≤ 9223372036854775807) (hrw : rowWf l) (hb : ∀ t ∈ l, Tests S 14 Nd.isBlock t) :
 Calls Tryz.prog 37 #[.agg #[.int .u8 50, .int .i64 n, str s, .slice a l.length c]] w fun e w' => e = .returned (.bool (Nd.mk 50 n s l).isStmt) ∧ Ext w w' := by
 have HEX : Hid (∀ t ∈ l, Tests S 10 Nd.isExpr t) := Lib.hid fun t ht => IsExpr_t S t (rowWf_get hrw t ht)
 have HPL : Hid (∀ t ∈ l, Tests S 63 Nd.isPlace t) := Lib.hid fun t ht => IsPlace_t S t (rowWf_get hrw t ht)
 have HVA : Hid (∀ t ∈ l, Tests S 64 Nd.isVar t) := Lib.hid fun t ht => isVar_t S t (rowWf_get hrw t ht)
 have HBL := Lib.hid hb; clear hb
 have HSL := Lib.hid hsl; clear hsl hrw
 have hr := isStmt_50 n s l
 have HR := Lib.hid hr; clear hr
 cases hnm : named n s
 · have HNM := Lib.hid hnm; clear hnm
   go_enter Tryz.func37, Tryz.ntmps37
   go_wp2_with (first | (go_at_call 26; refine (named_c _ _ _ _ _ _ _ HSL.out).mono ?_; rintro e w1 ⟨rfl, hx1⟩; have hc1 := hx1.cells; rw [HNM.out]))
   go_ret
   rw [HR.out, HNM.out]
   exact ⟨ret_bool (by simp), (by refine Ext.trans ?_ (by assumption); refine Ext.alloc ?_ _; exact Ext.refl _)⟩
 · have HNM := Lib.hid hnm; clear hnm
   by_cases h8 : l.length ≤ 8
   · have d8 : decide ((l.length : Int) ≤ 8) = true := by simp; omega
     have H8 := Lib.hid h8; clear h8
     go_enter Tryz.func37, Tryz.ntmps37
     go_wp2_with (first | (go_at_call 26; refine (named_c _ _ _ _ _ _ _ HSL.out).mono ?_; rintro e w1 ⟨rfl, hx1⟩; have hc1 := hx1.cells; rw [HNM.out]) | (go_at_call 36; refine (every_c 64 Nd.isVar en_isVar l a c S _ hll (hs.ext (by refine Ext.trans ?_ (by assumption); refine Ext.alloc ?_ _; exact Ext.refl _)) HVA.out).mono ?_; rintro e w2 ⟨rfl, hx2⟩))
     go_ret
     rw [HR.out, HNM.out]
     exact ⟨ret_bool (by simp [H8.out]), (by refine Ext.trans ?_ (by assumption); refine Ext.trans ?_ (by assumption); refine Ext.alloc ?_ _; exact Ext.refl _)⟩
   · have d8 : decide ((l.length : Int) ≤ 8) = false := by simp; omega
     have H8 := Lib.hid h8; clear h8
     go_enter Tryz.func37, Tryz.ntmps37
     go_wp2_with (first | (go_at_call 26; refine (named_c _ _ _ _ _ _ _ HSL.out).mono ?_; rintro e w1 ⟨rfl, hx1⟩; have hc1 := hx1.cells; rw [HNM.out]))
     go_ret
     rw [HR.out, HNM.out]
     exact ⟨ret_bool (by simp [H8.out]), (by refine Ext.trans ?_ (by assumption); refine Ext.alloc ?_ _; exact Ext.refl _)⟩
theorem isStmt_51 (n : Int) (s : List UInt8) (l : List Nd) : (Nd.mk 51 n s l).isStmt = (named n s && decide (l.length ≤ 8) && l.all Nd.isVar) := by
 rw [Nd.isStmt.eq_def]; simp
theorem IsStmt_51 (n : Int) (s : List UInt8) (l : List Nd) (a : Option Addr) (c : Nat) (S : Nat → Prop) (w : World)
 (hs : rowSits S w l a) (hsl : s.length ≤ 9223372036854775807) (hll : l.length ≤ 9223372036854775807) (hrw : rowWf l) (hb : ∀ t ∈ l, Tests S 14 Nd.isBlock t) :
 Calls Tryz.prog 37 #[.agg #[.int .u8 51, .int .i64 n, str s, .slice a l.length c]] w fun e w' => e = .returned (.bool (Nd.mk 51 n s l).isStmt) ∧ Ext w w' := by
 have HEX : Hid (∀ t ∈ l, Tests S 10 Nd.isExpr t) := Lib.hid fun t ht => IsExpr_t S t (rowWf_get hrw t ht)
 have HPL : Hid (∀ t ∈ l, Tests S 63 Nd.isPlace t) := Lib.hid fun t ht => IsPlace_t S t (rowWf_get hrw t ht)
 have HVA : Hid (∀ t ∈ l, Tests S 64 Nd.isVar t) := Lib.hid fun t ht => isVar_t S t (rowWf_get hrw t ht)
 have HBL := Lib.hid hb; clear hb
 have HSL := Lib.hid hsl; clear hsl hrw
 have hr := isStmt_51 n s l
 have HR := Lib.hid hr; clear hr
 cases hnm : named n s
 · have HNM := Lib.hid hnm; clear hnm
   go_enter Tryz.func37, Tryz.ntmps37
   go_wp2_with (first | (go_at_call 26; refine (named_c _ _ _ _ _ _ _ HSL.out).mono ?_; rintro e w1 ⟨rfl, hx1⟩; have hc1 := hx1.cells; rw [HNM.out]))
   go_ret
   rw [HR.out, HNM.out]
   exact ⟨ret_bool (by simp), (by refine Ext.trans ?_ (by assumption); refine Ext.alloc ?_ _; exact Ext.refl _)⟩
 · have HNM := Lib.hid hnm; clear hnm
   by_cases h8 : l.length ≤ 8
   · have d8 : decide ((l.length : Int) ≤ 8) = true := by simp; omega
     have H8 := Lib.hid h8; clear h8
     go_enter Tryz.func37, Tryz.ntmps37
     go_wp2_with (first | (go_at_call 26; refine (named_c _ _ _ _ _ _ _ HSL.out).mono ?_; rintro e w1 ⟨rfl, hx1⟩; have hc1 := hx1.cells; rw [HNM.out]) | (go_at_call 36; refine (every_c 64 Nd.isVar en_isVar l a c S _ hll (hs.ext (by refine Ext.trans ?_ (by assumption); refine Ext.alloc ?_ _; exact Ext.refl _)) HVA.out).mono ?_; rintro e w2 ⟨rfl, hx2⟩))
     go_ret
     rw [HR.out, HNM.out]
     exact ⟨ret_bool (by simp [H8.out]), (by refine Ext.trans ?_ (by assumption); refine Ext.trans ?_ (by assumption); refine Ext.alloc ?_ _; exact Ext.refl _)⟩
   · have d8 : decide ((l.length : Int) ≤ 8) = false := by simp; omega
     have H8 := Lib.hid h8; clear h8
     go_enter Tryz.func37, Tryz.ntmps37
     go_wp2_with (first | (go_at_call 26; refine (named_c _ _ _ _ _ _ _ HSL.out).mono ?_; rintro e w1 ⟨rfl, hx1⟩; have hc1 := hx1.cells; rw [HNM.out]))
     go_ret
     rw [HR.out, HNM.out]
     exact ⟨ret_bool (by simp [H8.out]), (by refine Ext.trans ?_ (by assumption); refine Ext.alloc ?_ _; exact Ext.refl _)⟩
theorem isStmt_else (k n : Int) (s : List UInt8) (l : List Nd) (h : k < 40 ∨ 56 < k) : (Nd.mk k n s l).isStmt = false := by
 rw [Nd.isStmt.eq_def]
 simp only []
 rw [if_neg (by omega), if_neg (by omega), if_neg (by omega), if_neg (by omega), if_neg (by omega), if_neg (by omega), if_neg (by omega), if_neg (by omega)]
theorem IsStmt_else (k n : Int) (s : List UInt8) (l : List Nd) (a : Option Addr) (c : Nat) (w : World) (h : k < 40 ∨ 56 < k) :
 Calls Tryz.prog 37 #[.agg #[.int .u8 k, .int .i64 n, str s, .slice a l.length c]] w fun e w' => e = .returned (.bool (Nd.mk k n s l).isStmt) ∧ Ext w w' := by
 have hr := isStmt_else k n s l h
 have HR := Lib.hid hr; clear hr
 have d40 : (k == 40) = false := by rw [beq_eq_false_iff_ne]; omega
 have d41 : (k == 41) = false := by rw [beq_eq_false_iff_ne]; omega
 have d42 : (k == 42) = false := by rw [beq_eq_false_iff_ne]; omega
 have d43 : (k == 43) = false := by rw [beq_eq_false_iff_ne]; omega
 have d44 : (k == 44) = false := by rw [beq_eq_false_iff_ne]; omega
 have d45 : (k == 45) = false := by rw [beq_eq_false_iff_ne]; omega
 have d46 : (k == 46) = false := by rw [beq_eq_false_iff_ne]; omega
 have d47 : (k == 47) = false := by rw [beq_eq_false_iff_ne]; omega
 have d48 : (k == 48) = false := by rw [beq_eq_false_iff_ne]; omega
 have d49 : (k == 49) = false := by rw [beq_eq_false_iff_ne]; omega
 have d50 : (k == 50) = false := by rw [beq_eq_false_iff_ne]; omega
 have d51 : (k == 51) = false := by rw [beq_eq_false_iff_ne]; omega
 have d52 : (k == 52) = false := by rw [beq_eq_false_iff_ne]; omega
 have d53 : (k == 53) = false := by rw [beq_eq_false_iff_ne]; omega
 have d54 : (k == 54) = false := by rw [beq_eq_false_iff_ne]; omega
 have d55 : (k == 55) = false := by rw [beq_eq_false_iff_ne]; omega
 have d56 : (k == 56) = false := by rw [beq_eq_false_iff_ne]; omega
 clear h
 go_enter Tryz.func37, Tryz.ntmps37
 go_wp2_with fail
 go_ret
 rw [HR.out]
 exact ⟨rfl, (by refine Ext.alloc ?_ _; exact Ext.refl _)⟩
theorem IsStmt_any (k n : Int) (s : List UInt8) (l : List Nd) (a : Option Addr) (c : Nat) (S : Nat → Prop) (w : World)
 (hs : rowSits S w l a) (hsl : s.length ≤ 9223372036854775807) (hll : l.length ≤ 9223372036854775807) (hrw : rowWf l) (hb : ∀ t ∈ l, Tests S 14 Nd.isBlock t) :
 Calls Tryz.prog 37 #[.agg #[.int .u8 k, .int .i64 n, str s, .slice a l.length c]] w fun e w' => e = .returned (.bool (Nd.mk k n s l).isStmt) ∧ Ext w w' := by
 by_cases h : k < 40 ∨ 56 < k
 · exact IsStmt_else k n s l a c w h
 by_cases h40 : k = 40
 · subst h40; exact IsStmt_40 n s l a c S w hs hsl hll hrw hb
 by_cases h41 : k = 41
 · subst h41; exact IsStmt_41 n s l a c S w hs hsl hll hrw hb
 by_cases h42 : k = 42
 · subst h42; exact IsStmt_42 n s l a c S w hs hsl hll hrw hb
 by_cases h43 : k = 43
 · subst h43; exact IsStmt_43 n s l a c S w hs hsl hll hrw hb
 by_cases h44 : k = 44
 · subst h44; exact IsStmt_44 n s l a c S w hs hsl hll hrw hb
 by_cases h45 : k = 45
 · subst h45; exact IsStmt_45 n s l a c S w hs hsl hll hrw hb
 by_cases h46 : k = 46
 · subst h46; exact IsStmt_46 n s l a c S w hs hsl hll hrw hb
 by_cases h47 : k = 47
 · subst h47; exact IsStmt_47 n s l a c S w hs hsl hll hrw hb
 by_cases h48 : k = 48
 · subst h48; exact IsStmt_48 n s l a c S w hs hsl hll hrw hb
 by_cases h49 : k = 49
 · subst h49; exact IsStmt_49 n s l a c S w hs hsl hll hrw hb
 by_cases h50 : k = 50
 · subst h50; exact IsStmt_50 n s l a c S w hs hsl hll hrw hb
 by_cases h51 : k = 51
 · subst h51; exact IsStmt_51 n s l a c S w hs hsl hll hrw hb
 by_cases h52 : k = 52
 · subst h52; exact IsStmt_52 n s l a c S w hs hsl hll hrw hb
 by_cases h53 : k = 53
 · subst h53; exact IsStmt_53 n s l a c S w hs hsl hll hrw hb
 by_cases h54 : k = 54
 · subst h54; exact IsStmt_54 n s l a c S w hs hsl hll hrw hb
 by_cases h55 : k = 55
 · subst h55; exact IsStmt_55 n s l a c S w hs hsl hll hrw hb
 by_cases h56 : k = 56
 · subst h56; exact IsStmt_56 n s l a c S w hs hsl hll hrw hb
 omega
theorem IsBlock_any (k n : Int) (s : List UInt8) (l : List Nd) (a : Option Addr) (c : Nat) (S : Nat → Prop) (w : World)
 (hs : rowSits S w l a) (hll : l.length ≤ 9223372036854775807) (ht : ∀ t ∈ l, Tests S 37 Nd.isStmt t) :
 Calls Tryz.prog 14 #[.agg #[.int .u8 k, .int .i64 n, str s, .slice a l.length c]] w fun e w' => e = .returned (.bool (Nd.mk k n s l).isBlock) ∧ Ext w w' := by
 have hall : ∀ r : List Nd, rowStmt r = r.all Nd.isStmt := by
  intro r
  induction r with
  | nil => rfl
  | cons x r ih => simp [rowStmt, ih]
 have hr : (Nd.mk k n s l).isBlock = (k == 57 && plain n s && l.all Nd.isStmt) := by rw [Nd.isBlock, hall]
 have HR := Lib.hid hr; clear hr hall
 have HT := Lib.hid ht; clear ht
 by_cases h57 : k = 57
 · subst h57
   cases hnm : plain n s
   all_goals have HNM := Lib.hid hnm; clear hnm
   all_goals go_enter Tryz.func14, Tryz.ntmps14
   all_goals go_wp2_with (first | (go_at_call 28; refine (plain_c _ _ _ _ _ _ _).mono ?_; rintro e w1 ⟨rfl, hx1⟩; have hc1 := hx1.cells; rw [HNM.out]) | (go_at_call 36; refine (every_c 37 Nd.isStmt en_IsStmt l a c S _ hll (hs.ext (by refine Ext.trans ?_ (by assumption); refine Ext.alloc ?_ _; exact Ext.refl _)) HT.out).mono ?_; rintro e w2 ⟨rfl, hx2⟩))
   all_goals go_ret
   all_goals rw [HR.out, HNM.out]
   all_goals exact ⟨ret_bool (by simp), (by repeat (first | exact Ext.refl _ | assumption | refine Ext.alloc ?_ _ | refine Ext.drew ?_ | refine Ext.trans ?_ (by assumption)))⟩
 · have d57 : (k == 57) = false := by rw [beq_eq_false_iff_ne]; omega
   clear h57
   go_enter Tryz.func14, Tryz.ntmps14
   go_wp2_with fail
   go_ret
   rw [HR.out]
   exact ⟨ret_bool (by simp [d57]), (by refine Ext.alloc ?_ _; exact Ext.refl _)⟩
theorem IsStmtBlock_c (S : Nat → Prop) (N : Nat) : (∀ t : Nd, t.size < N → t.wf → Tests S 37 Nd.isStmt t) ∧ (∀ t : Nd, t.size < N → t.wf → Tests S 14 Nd.isBlock t) := by
 induction N with
 | zero => exact ⟨fun t h => absurd h (Nat.not_lt_zero _), fun t h => absurd h (Nat.not_lt_zero _)⟩
 | succ N ih =>
  refine ⟨?_, ?_⟩
  · rintro ⟨k, n, s, l⟩ hN hwf a c w hs
    simp only [Nd.wf, Nd.size, Nd.sits] at *
    exact IsStmt_any k n s l a c S w hs hwf.2.2.2.2.1 hwf.2.2.2.2.2.1 hwf.2.2.2.2.2.2 (fun t ht => ih.2 t (by have := size_mem ht; omega) (rowWf_get hwf.2.2.2.2.2.2 t ht))
  · rintro ⟨k, n, s, l⟩ hN hwf a c w hs
    simp only [Nd.wf, Nd.size, Nd.sits] at *
    exact IsBlock_any k n s l a c S w hs hwf.2.2.2.2.2.1 (fun t ht => ih.1 t (by have := size_mem ht; omega) (rowWf_get hwf.2.2.2.2.2.2 t ht))
theorem IsBlock_t (S : Nat → Prop) (t : Nd) (h : t.wf) : Tests S 14 Nd.isBlock t := (IsStmtBlock_c S (t.size + 1)).2 t (by omega) h
end Bk
