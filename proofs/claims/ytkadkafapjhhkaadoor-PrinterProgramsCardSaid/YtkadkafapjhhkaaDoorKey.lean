/- Contract of lexer.Keyword. -/
import Derived.Test.YtkadkafapjhhkaaDoorLex2
namespace Bk
open Go Go.RowKit Go.Proofs
def kwEntries : List (List UInt8) → Nat → List MapEntry
  | [], _ => []
  | k :: r, i => { key := str k, val := .bool true, born := i } :: kwEntries r (i + 1)
def kwMap (ks : List (List UInt8)) : Obj := .map (kwEntries ks 0).toArray ks.length
theorem kwEntries_snoc (ks : List (List UInt8)) (k : List UInt8) : ∀ i, kwEntries (ks ++ [k]) i = kwEntries ks i ++ [{ key := str k, val := .bool true, born := i + ks.length }] := by
  induction ks with
  | nil => intro i; simp [kwEntries]
  | cons x r ih => intro i; simp [kwEntries, ih, Nat.add_assoc, Nat.add_comm 1]
theorem ba_beq (b : ByteArray) (x : List UInt8) : (b == (⟨x.toArray⟩ : ByteArray)) = (b.data.toList == x) := by
  show (b.data == x.toArray) = _
  rw [Bool.eq_iff_iff]; simp
  constructor
  · intro h; rw [h]
  · intro h; rw [← h]
theorem findNow_kw (b : ByteArray) (ks : List (List UInt8)) : ∀ i j, (ks.contains b.data.toList = false → Instr.findNow .string (.string b) (kwEntries ks i) j = some none) ∧
    (ks.contains b.data.toList = true → ∃ n, Instr.findNow .string (.string b) (kwEntries ks i) j = some (some (n, .bool true))) := by
  induction ks with
  | nil => intro i j; simp [kwEntries, Instr.findNow]
  | cons x r ih =>
    intro i j
    simp only [kwEntries, Instr.findNow, Instr.sameNow, ba_beq, List.contains_cons]
    cases h : b.data.toList == x
    · simpa using ih (i + 1) (j + 1)
    · simp
theorem push_set (h : Array Obj) (a b : Obj) : (h.push a).setIfInBounds h.size b = h.push b := by
  apply Array.ext'
  simp
theorem underMap : Tryd.prog.underlying 87 = some (.map 9 4) := by kernel_rfl
theorem underStr : Tryd.prog.underlying 9 = some .string := by kernel_rfl
theorem run_kw_ins (w : World) (ks : List (List UInt8)) (b : ByteArray) (h : ks.contains b.data.toList = false) :
    (Instr.mapUpdate 87 (.map (some w.heap.size)) (.string b) (.bool true)).run Tryd.prog (w.alloc (kwMap ks)) = .ok () (w.alloc (kwMap (ks ++ [b.data.toList]))) := by
  have hb : (w.alloc (kwMap ks)).heap[w.heap.size]? = some (.map (kwEntries ks 0).toArray ks.length) := by show (w.heap.push (kwMap ks))[w.heap.size]? = _; simp [kwMap]
  have hf : Instr.findNow .string (.string b) (kwEntries ks 0) 0 = some none := (findNow_kw b ks 0 0).1 h
  have hc : (Instr.checkKey false 10000 9 (.string b)).run Tryd.prog (w.alloc (kwMap ks)) = .ok () (w.alloc (kwMap ks)) := MapKept.run_checkKey (k := .string b) underStr (by simp [MapKept.IsKey]) false 9999
  simp [Instr.mapUpdate, run_underlying underMap, MapKept.run_getObj_map hb, hc, MapKept.run_findKey underStr hf, MapKept.run_setObj_map _ hb, Result.andThen]
  show ({ w with heap := (w.heap.push (kwMap ks)).setIfInBounds w.heap.size _ } : World) = { w with heap := w.heap.push _ }
  rw [push_set]
  unfold kwMap
  rw [kwEntries_snoc]
  simp
theorem run_kw_look (w : World) (ks : List (List UInt8)) (b : ByteArray) :
    (Instr.lookup 87 (.map (some w.heap.size)) (.string b) false).run Tryd.prog (w.alloc (kwMap ks)) = .ok (.bool (ks.contains b.data.toList)) (w.alloc (kwMap ks)) := by
  have hb : (w.alloc (kwMap ks)).heap[w.heap.size]? = some (.map (kwEntries ks 0).toArray ks.length) := by show (w.heap.push (kwMap ks))[w.heap.size]? = _; simp [kwMap]
  have hc : ∀ q, (Instr.checkKey q 10000 9 (.string b)).run Tryd.prog (w.alloc (kwMap ks)) = .ok () (w.alloc (kwMap ks)) := fun q => MapKept.run_checkKey (k := .string b) underStr (by simp [MapKept.IsKey]) q 9999
  have hz : (zeroValue 4).run Tryd.prog (w.alloc (kwMap ks)) = .ok (.bool false) (w.alloc (kwMap ks)) := by kernel_rfl
  cases hk : ks.contains b.data.toList
  · have hf := (findNow_kw b ks 0 0).1 hk
    simp [Instr.lookup, run_underlying underMap, MapKept.run_getObj_map hb, hc, MapKept.run_findKey underStr hf, hz, Result.andThen]
  · obtain ⟨n, hf⟩ := (findNow_kw b ks 0 0).2 hk
    simp [Instr.lookup, run_underlying underMap, MapKept.run_getObj_map hb, hc, MapKept.run_findKey underStr hf, Result.andThen]
theorem run_kw_make (w : World) : (Instr.makeMap 87 none).run Tryd.prog w = .ok (.map (some w.heap.size)) (w.alloc (kwMap [])) := run_makeMap _ w
theorem keyword_len (s : List UInt8) (h : keyword s = true) : 2 ≤ s.length ∧ s.length ≤ 7 := by
  have key : ∀ k ∈ keywords, 2 ≤ k.length ∧ k.length ≤ 7 := by decide
  exact key s (by simpa [keyword] using h)
set_option maxRecDepth 100000 in
theorem Keyword_c (s : List UInt8) (w : World) (hs : s.length ≤ 9223372036854775807) :
    Calls Tryd.prog 56 #[str s] w fun e w' => e = .returned (.bool (keyword s)) ∧ Ext w w' := by
  by_cases h2 : s.length < 2 ∨ 7 < s.length
  · have hk : keyword s = false := by
      cases h : keyword s
      · rfl
      · have := keyword_len s h; omega
    have HK := Lib.hid hk; clear hk
    by_cases h3 : s.length < 2
    · have d1 : decide ((s.length : Int) < 2) = true := by simp; omega
      clear h2
      go_enter Tryd.func56, Tryd.ntmps56
      go_wp2_with fail
      go_ret
      rw [HK.out]; exact ⟨rfl, Ext.refl _⟩
    · have d1 : decide ((s.length : Int) < 2) = false := by simp; omega
      have d2 : decide ((7 : Int) < s.length) = true := by simp; omega
      clear h2
      go_enter Tryd.func56, Tryd.ntmps56
      go_wp2_with fail
      go_ret
      rw [HK.out]; exact ⟨rfl, Ext.refl _⟩
  · have d1 : decide ((s.length : Int) < 2) = false := by simp; omega
    have d2 : decide ((7 : Int) < s.length) = false := by simp; omega
    have r1 := run_kw_make
    have r2 := run_kw_ins w
    have r3 := run_kw_look w
    go_enter Tryd.func56, Tryd.ntmps56
    go_wp2_with fail
    go_ret
    exact ⟨ret_bool (by simp [keyword, keywords]), (by repeat (first | exact Ext.refl _ | assumption | refine Ext.alloc ?_ _ | refine Ext.drew ?_ | refine Ext.trans ?_ (by assumption)))⟩
end Bk
