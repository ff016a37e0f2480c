/- Base: syntax trees as plain data, how they sit in memory, and the frame relation 'Ext' (old memory unchanged). No condition. -/
import Derived.WalkKit
import Derived.Lib.Hide
namespace Bk
open Go Go.RowKit

/-- w' extends w: every block of w is as it was. -/
def Ext (w w' : World) : Prop := Below w.heap.size w w'
theorem Ext.refl (w : World) : Ext w w := Below.refl _ _
theorem Ext.trans {a b c : World} (h : Ext a b) (k : Ext b c) : Ext a c := Below.trans h (Below.mono k h.size)
theorem Ext.alloc {a w : World} (h : Ext a w) (o : Obj) : Ext a (w.alloc o) := Below.alloc h h.size o
theorem Ext.drew {a w : World} (h : Ext a w) : Ext a w.drew := Below.drew h
theorem Ext.setCell {a w : World} (h : Ext a w) (p : Addr) (v : Value) (hp : a.heap.size ≤ p.block) : Ext a (w.setCell p v) := Below.setCell h hp v
theorem Ext.size {a w : World} (h : Ext a w) : a.heap.size ≤ w.heap.size := Below.size h
theorem Ext.block {a w : World} (h : Ext a w) {k : Nat} (hk : k < a.heap.size) : w.heap[k]? = a.heap[k]? := Below.block h k hk
theorem Ext.cells {a w : World} (h : Ext a w) : ∀ b o, b < a.heap.size → w.cell? ⟨b, o, none⟩ = a.cell? ⟨b, o, none⟩ := fun b o hb => Below.cell (p := ⟨b, o, none⟩) h hb
theorem Ext.frz {a w : World} (h : Ext a w) : ∀ b o, b < a.heap.size → w.frozen? ⟨b, o, none⟩ = a.frozen? ⟨b, o, none⟩ := fun b o hb => Below.frozen (p := ⟨b, o, none⟩) h hb

theorem cell_lt {w : World} {p : Addr} {v : Value} (h : w.cell? p = some v) : p.block < w.heap.size := by
  unfold World.cell? at h
  rcases Nat.lt_or_ge p.block w.heap.size with h' | h'
  · exact h'
  · simp [Array.getElem?_eq_none h'] at h
theorem Ext.keep {a w : World} (h : Ext a w) {b o : Nat} {v : Value} (hc : a.cell? ⟨b, o, none⟩ = some v) : w.cell? ⟨b, o, none⟩ = some v :=
  (h.cells b o (cell_lt hc)).trans hc

/-- A tree: kind, number, name, children. -/
inductive Nd where
  | mk (kind num : Int) (name : List UInt8) (kids : List Nd)
def Nd.kind : Nd → Int | .mk k _ _ _ => k
def Nd.num : Nd → Int | .mk _ n _ _ => n
def Nd.name : Nd → List UInt8 | .mk _ _ s _ => s
def Nd.kids : Nd → List Nd | .mk _ _ _ l => l

/-- The bytes of a string value. -/
abbrev str (l : List UInt8) : Value := .string ⟨l.toArray⟩

mutual
/-- The children of t lie at a, in blocks that S admits. -/
def Nd.sits (S : Nat → Prop) (w : World) : Nd → Option Addr → Prop
  | .mk _ _ _ l, a => rowSits S w l a
def rowSits (S : Nat → Prop) (w : World) : List Nd → Option Addr → Prop
  | [], _ => True
  | t :: r, a => ∃ b o a' c, a = some ⟨b, o, none⟩ ∧ S b ∧ w.cell? ⟨b, o, none⟩ = some (.int .u8 t.kind) ∧ w.cell? ⟨b, o + 1, none⟩ = some (.int .i64 t.num) ∧
      w.cell? ⟨b, o + 2, none⟩ = some (str t.name) ∧ w.cell? ⟨b, o + 3, none⟩ = some (.slice a' t.kids.length c) ∧ t.sits S w a' ∧ rowSits S w r (some ⟨b, o + 4, none⟩)
end

mutual
/-- Every number fits its Go type, and every length is one that memory can hold. -/
def Nd.wf : Nd → Prop
  | .mk k n s l => 0 ≤ k ∧ k ≤ 255 ∧ -9223372036854775808 ≤ n ∧ n ≤ 9223372036854775807 ∧ s.length ≤ 9223372036854775807 ∧ l.length ≤ 9223372036854775807 ∧ rowWf l
def rowWf : List Nd → Prop
  | [] => True
  | t :: r => t.wf ∧ rowWf r
end

mutual
def Nd.size : Nd → Nat
  | .mk _ _ _ l => 1 + rowSize l
def rowSize : List Nd → Nat
  | [] => 0
  | t :: r => t.size + rowSize r
end

theorem rowWf_get {l : List Nd} (h : rowWf l) : ∀ t ∈ l, t.wf := by
  induction l with
  | nil => simp
  | cons x r ih =>
    simp only [rowWf] at h
    intro t ht
    rcases List.mem_cons.1 ht with rfl | ht
    · exact h.1
    · exact ih h.2 t ht
theorem size_mem {l : List Nd} {t : Nd} (h : t ∈ l) : t.size ≤ rowSize l := by
  induction l with
  | nil => cases h
  | cons x r ih =>
    simp only [rowSize]
    rcases List.mem_cons.1 h with rfl | h
    · omega
    · have := ih h; omega
theorem Nd.size_pos (t : Nd) : 1 ≤ t.size := by cases t; simp [Nd.size]

/-- The i-th of a row. -/
theorem rowSits_get {S : Nat → Prop} {w : World} {l : List Nd} {a : Option Addr} (h : rowSits S w l a) {i : Nat} {t : Nd} (ht : l[i]? = some t) :
    ∃ b o a' c, a = some ⟨b, o, none⟩ ∧ S b ∧ w.cell? ⟨b, o + i * 4, none⟩ = some (.int .u8 t.kind) ∧ w.cell? ⟨b, o + i * 4 + 1, none⟩ = some (.int .i64 t.num) ∧
      w.cell? ⟨b, o + i * 4 + 2, none⟩ = some (str t.name) ∧ w.cell? ⟨b, o + i * 4 + 3, none⟩ = some (.slice a' t.kids.length c) ∧ t.sits S w a' := by
  induction l generalizing i a with
  | nil => simp at ht
  | cons x r ih =>
    simp only [rowSits] at h
    obtain ⟨b, o, a', c, rfl, hS, h0, h1, h2, h3, hs, hr⟩ := h
    cases i with
    | zero =>
      simp at ht
      subst ht
      exact ⟨b, o, a', c, rfl, hS, h0, h1, h2, h3, hs⟩
    | succ i =>
      obtain ⟨b', o', a'', c', he, r⟩ := ih hr (by simpa using ht)
      simp only [Option.some.injEq, Addr.mk.injEq] at he
      obtain ⟨rfl, rfl, -⟩ := he
      refine ⟨b, o, a'', c', rfl, r.1, ?_⟩
      rw [show o + (i + 1) * 4 = o + 4 + i * 4 from by omega]
      exact r.2

mutual
theorem Nd.sits_mono {S S' : Nat → Prop} {w w' : World} (hS : ∀ b, S b → S' b) (hc : ∀ b o v, S b → w.cell? ⟨b, o, none⟩ = some v → w'.cell? ⟨b, o, none⟩ = some v) :
    ∀ (t : Nd) (a : Option Addr), t.sits S w a → t.sits S' w' a
  | .mk _ _ _ l, a, h => by
    simp only [Nd.sits] at h ⊢
    exact rowSits_mono hS hc l a h
theorem rowSits_mono {S S' : Nat → Prop} {w w' : World} (hS : ∀ b, S b → S' b) (hc : ∀ b o v, S b → w.cell? ⟨b, o, none⟩ = some v → w'.cell? ⟨b, o, none⟩ = some v) :
    ∀ (l : List Nd) (a : Option Addr), rowSits S w l a → rowSits S' w' l a
  | [], _, _ => by simp [rowSits]
  | t :: r, a, h => by
    simp only [rowSits] at h ⊢
    obtain ⟨b, o, a', c, rfl, hb, h0, h1, h2, h3, hs, hr⟩ := h
    exact ⟨b, o, a', c, rfl, hS b hb, hc _ _ _ hb h0, hc _ _ _ hb h1, hc _ _ _ hb h2, hc _ _ _ hb h3, Nd.sits_mono hS hc t a' hs, rowSits_mono hS hc r _ hr⟩
end
theorem rowSits.ext {S : Nat → Prop} {w w' : World} {l : List Nd} {a : Option Addr} (h : rowSits S w l a) (e : Ext w w') : rowSits S w' l a :=
  rowSits_mono (fun _ h => h) (fun _ _ _ _ hc => e.keep hc) l a h
theorem Nd.sits.ext {S : Nat → Prop} {w w' : World} {t : Nd} {a : Option Addr} (h : t.sits S w a) (e : Ext w w') : t.sits S w' a :=
  Nd.sits_mono (fun _ h => h) (fun _ _ _ _ hc => e.keep hc) t a h
/-- Of the blocks of w those that S admits may have been written; the others are as they were. -/
structure Fr (S : Nat → Prop) (w w' : World) : Prop where
  os : w'.os = w.os
  tape : w'.tape = w.tape
  output : w'.output = w.output
  size : w.heap.size ≤ w'.heap.size
  block : ∀ k, k < w.heap.size → ¬ S k → w'.heap[k]? = w.heap[k]?
theorem Fr.refl (S : Nat → Prop) (w : World) : Fr S w w := ⟨rfl, rfl, rfl, Nat.le_refl _, fun _ _ _ => rfl⟩
theorem Fr.trans {S : Nat → Prop} {a b c : World} (h : Fr S a b) (k : Fr S b c) : Fr S a c :=
  ⟨k.os.trans h.os, k.tape.trans h.tape, k.output.trans h.output, Nat.le_trans h.size k.size, fun i hi hs => (k.block i (Nat.lt_of_lt_of_le hi h.size) hs).trans (h.block i hi hs)⟩
theorem Fr.of_ext {S : Nat → Prop} {a b : World} (h : Ext a b) : Fr S a b := ⟨Below.os h, Below.tape h, Below.output h, Below.size h, fun k hk _ => Below.block h k hk⟩
theorem Fr.alloc {S : Nat → Prop} {a w : World} (h : Fr S a w) (o : Obj) : Fr S a (w.alloc o) := h.trans (.of_ext ((Ext.refl w).alloc o))
theorem Fr.drew {S : Nat → Prop} {a w : World} (h : Fr S a w) : Fr S a w.drew := h.trans (.of_ext (Ext.refl w).drew)
theorem Fr.setCell {S : Nat → Prop} {a w : World} (h : Fr S a w) (p : Addr) (v : Value) (hp : S p.block ∨ a.heap.size ≤ p.block) : Fr S a (w.setCell p v) := by
  refine ⟨h.os, h.tape, h.output, ?_, fun k hk hs => ?_⟩
  · have : (w.setCell p v).heap.size = w.heap.size := by simp [World.setCell]
    rw [this]; exact h.size
  · rw [Below.heap_setCell _ _ _ _ (by rintro rfl; rcases hp with hp | hp; exact hs hp; omega)]
    exact h.block k hk hs
theorem Fr.cells {S : Nat → Prop} {a w : World} (h : Fr S a w) : ∀ b o, b < a.heap.size → ¬ S b → w.cell? ⟨b, o, none⟩ = a.cell? ⟨b, o, none⟩ :=
  fun b _ hb hs => World.cell?_of_block (w := a) (h.block b hb hs)
theorem Fr.frz {S : Nat → Prop} {a w : World} (h : Fr S a w) : ∀ b o, b < a.heap.size → ¬ S b → w.frozen? ⟨b, o, none⟩ = a.frozen? ⟨b, o, none⟩ :=
  fun b _ hb hs => World.frozen?_of_block (w := a) (h.block b hb hs)
theorem Fr.keep {S : Nat → Prop} {a w : World} (h : Fr S a w) {b o : Nat} {v : Value} (hs : ¬ S b) (hc : a.cell? ⟨b, o, none⟩ = some v) : w.cell? ⟨b, o, none⟩ = some v :=
  (h.cells b o (cell_lt hc) hs).trans hc
theorem rowSits.fr {S T : Nat → Prop} {w w' : World} {l : List Nd} {a : Option Addr} (h : rowSits S w l a) (e : Fr T w w') (hd : ∀ b, S b → ¬ T b) : rowSits S w' l a :=
  rowSits_mono (fun _ h => h) (fun b _ _ hb hc => e.keep (hd b hb) hc) l a h
theorem Nd.sits.fr {S T : Nat → Prop} {w w' : World} {t : Nd} {a : Option Addr} (h : t.sits S w a) (e : Fr T w w') (hd : ∀ b, S b → ¬ T b) : t.sits S w' a :=
  Nd.sits_mono (fun _ h => h) (fun b _ _ hb hc => e.keep (hd b hb) hc) t a h

theorem ret_eq {a b : Value} (h : a = b) : Ending.returned a = .returned b := by rw [h]
end Bk
