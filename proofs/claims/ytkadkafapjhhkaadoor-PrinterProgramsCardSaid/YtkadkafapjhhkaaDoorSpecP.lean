/- The printed text of declarations and programs; texts joined. Plain. -/
import Derived.Test.YtkadkafapjhhkaaDoorValid
import Derived.Test.YtkadkafapjhhkaaDoorPBlock3
namespace Bk
open Go Go.RowKit Go.Proofs
/-- Texts one behind the other. -/
def cat {α : Type} (f : α → List UInt8) (l : List α) : List UInt8 := (l.map f).flatten
theorem cat_snoc {α : Type} (f : α → List UInt8) (l : List α) (j : Nat) (h : j < l.length) : cat f (l.take (j + 1)) = cat f (l.take j) ++ f l[j] := by
  unfold cat
  rw [List.take_succ_eq_append_getElem h]
  simp only [List.map_append, List.flatten_append, List.map_cons, List.map_nil, List.flatten_cons, List.flatten_nil, List.append_nil]
theorem cat_le {α : Type} (f : α → List UInt8) (l : List α) (j : Nat) : (cat f (l.take j)).length ≤ (cat f l).length := by
  have e : cat f l = cat f (l.take j) ++ cat f (l.drop j) := by unfold cat; rw [← List.flatten_append, ← List.map_append, List.take_append_drop]
  rw [e, List.length_append]; omega
/-- The same with a comma and a space between; q: nothing stands before. -/
def commas {α : Type} (f : α → List UInt8) : Bool → List α → List UInt8
  | _, [] => []
  | q, x :: r => (if q then [] else [44, 32]) ++ f x ++ commas f false r
theorem commas_app {α : Type} (f : α → List UInt8) : ∀ (l m : List α) (q : Bool), commas f q (l ++ m) = commas f q l ++ commas f (q && l.isEmpty) m
  | [], m, q => by simp [commas]
  | x :: r, m, q => by simp [commas, commas_app f r m false]
theorem commas_snoc {α : Type} (f : α → List UInt8) (l : List α) (j : Nat) (h : j < l.length) : commas f true (l.take (j + 1)) = commas f true (l.take j) ++ ((if j = 0 then [] else [44, 32]) ++ f l[j]) := by
  rw [List.take_succ_eq_append_getElem h, commas_app]
  congr 1
  cases j with
  | zero => simp [commas]
  | succ j => cases l with
    | nil => simp at h
    | cons x r => simp [commas]
theorem commas_le {α : Type} (f : α → List UInt8) (l : List α) (j : Nat) : (commas f true (l.take j)).length ≤ (commas f true l).length := by
  have e : commas f true l = commas f true (l.take j) ++ commas f (true && (l.take j).isEmpty) (l.drop j) := by rw [← commas_app, List.take_append_drop]
  rw [e, List.length_append]; omega
def VD.text (v : VD) : List UInt8 := if v.kind = 1 then [105, 110, 116, 32] ++ v.name else if v.kind = 2 then [97, 114, 114, 97, 121, 32] ++ v.name ++ [91] ++ Lib.itoa v.len ++ [93] else [115, 116, 97, 99, 107, 32] ++ v.name
def VD.line (v : VD) : List UInt8 := v.text ++ [10]
def PD.text (p : PD) : List UInt8 := [112, 114, 111, 99, 32] ++ p.name ++ [40] ++ commas VD.text true p.params ++ [41, 32, 123, 10] ++ p.body.linesT 1 ++ [125, 10]
def PG.text (g : PG) : List UInt8 := cat VD.line g.vars ++ cat PD.text g.procs ++ [109, 97, 105, 110, 32, 123, 10] ++ g.main.linesT 1 ++ [125, 10]
theorem itoa_len16 (n : Int) (h0 : 1 ≤ n) (h1 : n ≤ 16) : (Lib.itoa n).length ≤ 21 := Lib.itoa_length_le n (by omega) (by omega)
theorem VD.text_len (v : VD) (h : v.ok = true) : v.text.length ≤ 60 := by
  simp only [VD.ok, Bool.and_eq_true] at h
  have h1 := isName_len h.1
  have h2 := h.2
  unfold VD.text
  split
  · simp only [List.length_append, List.length_cons, List.length_nil]; omega
  · split
    · rename_i c1 c2
      rw [if_neg (by omega), if_pos c2] at h2
      simp only [Bool.and_eq_true, decide_eq_true_eq] at h2
      have := itoa_len16 v.len h2.1 h2.2
      simp only [List.length_append, List.length_cons, List.length_nil]; omega
    · simp only [List.length_append, List.length_cons, List.length_nil]; omega
theorem cat_len {α : Type} (f : α → List UInt8) (B : Nat) : ∀ (l : List α), (∀ x ∈ l, (f x).length ≤ B) → (cat f l).length ≤ l.length * B
  | [], _ => by simp [cat]
  | x :: r, h => by
    have h1 := h x List.mem_cons_self
    have h2 := cat_len f B r (fun y hy => h y (List.mem_cons_of_mem _ hy))
    have e : cat f (x :: r) = f x ++ cat f r := by simp [cat]
    rw [e, List.length_append, List.length_cons, Nat.add_mul, Nat.one_mul]; omega
theorem commas_len {α : Type} (f : α → List UInt8) (B : Nat) : ∀ (l : List α) (q : Bool), (∀ x ∈ l, (f x).length ≤ B) → (commas f q l).length ≤ l.length * (B + 2)
  | [], q, _ => by simp [commas]
  | x :: r, q, h => by
    have h1 := h x List.mem_cons_self
    have h2 := commas_len f B r false (fun y hy => h y (List.mem_cons_of_mem _ hy))
    simp only [commas, List.length_append, List.length_cons, Nat.add_mul, Nat.one_mul]
    split <;> simp <;> omega
mutual
theorem lim_size : ∀ (t : Nd) (d m : Int), 0 ≤ m → (t.lim d m).1 = true → (t.size : Int) + (t.lim d m).2 ≤ m
  | .mk _ _ s l, d, m, hm, h => by
    simp only [Nd.lim] at h ⊢
    split at h
    · simp at h
    · rename_i hn
      rw [if_neg hn]
      have := rowLim_size l (d - 1) (m - 1) (by omega) h
      simp only [Nd.size]; omega
theorem rowLim_size : ∀ (l : List Nd) (d m : Int), 0 ≤ m → (rowLim l d m).1 = true → (rowSize l : Int) + (rowLim l d m).2 ≤ m
  | [], d, m, hm, _ => by simp only [rowLim, rowSize]; omega
  | t :: r, d, m, hm, h => by
    simp only [rowLim] at h ⊢
    split at h
    · rename_i ht
      rw [if_pos ht]
      have h1 := lim_size t d m hm ht
      have h0 := lim_le t d m hm
      have h2 := rowLim_size r d (t.lim d m).2 h0.1 h
      simp only [rowSize]; omega
    · simp at h
end
theorem body_len (t : Nd) (hwf : t.wf) (h : bodyOk t = true) : t.size ≤ 2000 ∧ t.isBlock = true ∧ (t.linesT 1).length ≤ 8001000000 := by
  simp only [bodyOk, Bool.and_eq_true] at h
  have h1 := lim_size t 80 2000 (by omega) h.1
  have h2 := lim_le t 80 2000 (by omega)
  have hsz : t.size ≤ 2000 := by omega
  have := linesLen t 1 hwf h.2 (by omega)
  exact ⟨hsz, h.2, by omega⟩
theorem PD.text_len (p : PD) (hwf : p.wf) (h : p.ok = true) : p.text.length ≤ 8002000000 := by
  simp only [PD.ok, Bool.and_eq_true, decide_eq_true_eq] at h
  have h1 := isName_len h.1.1.1
  have h2 := body_len p.body hwf.body h.2
  have h3 := commas_len VD.text 60 p.params true (fun v hv => VD.text_len v (by have := h.1.2; unfold allOk at this; exact List.all_eq_true.1 this v hv))
  have h4 := h.1.1.2
  unfold PD.text
  simp only [List.length_append, List.length_cons, List.length_nil]
  have : p.params.length * 62 ≤ 8 * 62 := Nat.mul_le_mul_right _ h4
  omega
theorem PG.text_len (g : PG) (hwf : g.wf) (h : g.ok = true) : g.text.length ≤ 1000000000000 := by
  simp only [PG.ok, Bool.and_eq_true, decide_eq_true_eq] at h
  obtain ⟨⟨⟨⟨h1, h2⟩, h3⟩, h4⟩, h5⟩ := h
  have a1 := cat_len VD.line 61 g.vars (fun v hv => by
    have := VD.text_len v (by unfold allOk at h3; exact List.all_eq_true.1 h3 v hv)
    simp only [VD.line, List.length_append, List.length_cons, List.length_nil]; omega)
  have a2 := cat_len PD.text 8002000000 g.procs (fun p hp => PD.text_len p (hwf.procs p hp) (List.all_eq_true.1 h4 p hp))
  have a3 := body_len g.main hwf.main h5
  have b1 : g.vars.length * 61 ≤ 32 * 61 := Nat.mul_le_mul_right _ h1
  have b2 : g.procs.length * 8002000000 ≤ 64 * 8002000000 := Nat.mul_le_mul_right _ h2
  unfold PG.text
  simp only [List.length_append, List.length_cons, List.length_nil]
  omega
end Bk
