/- The printer's text as it grows: the state of its builder, what a method leaves unchanged, and the contracts of write and tabs. The text stays below 2^47 bytes. -/
import Derived.Test.YtkadkafapjhhkaaDoorBuilder
import Derived.Sort.Grow
import Derived.Lib.AppendIntMem
namespace Bk
open Go Go.RowKit Go.Proofs
theorem btPrinter : BT 50 := ⟨by kernel_rfl, by decide⟩
/-- The printer at block b has written l; the call's own blocks begin at B. -/
structure Bld (B b : Nat) (l : List UInt8) (w : World) : Prop where
  is : Lib.IsBuilderF 50 5 B b (Lib.byteCells l) w
  le : B ≤ w.heap.size
theorem builderAtF_ext {T e : TypeId} {B b : Nat} {p : Value} {bs : List Value} {w w' : World} (h : Lib.BuilderAtF T e B b p bs w) (x : Ext w w') : Lib.BuilderAtF T e B b p bs w' := by
  have hlt := h.lt
  obtain ⟨hB, v, hb, hown, hne⟩ := h
  exact ⟨hB, v, (x.block hlt).trans hb, hown.kept (row := none) ⟨Below.os x, Below.tape x, Below.output x, Below.size x, fun k hk _ => x.block hk⟩ (by cases hv : v.ownBlock <;> simp), hne⟩
theorem Bld.ext {B b : Nat} {l : List UInt8} {w w' : World} (h : Bld B b l w) (x : Ext w w') : Bld B b l w' :=
  ⟨h.is.elim (fun a => .inl (builderAtF_ext a x)) (fun a => .inr (builderAtF_ext a x)), Nat.le_trans h.le x.size⟩
theorem Bld.alloc {B b : Nat} {l : List UInt8} {w : World} (h : Bld B b l w) (o : Obj) : Bld B b l (w.alloc o) := h.ext ((Ext.refl _).alloc o)
theorem Bld.drew {B b : Nat} {l : List UInt8} {w : World} (h : Bld B b l w) : Bld B b l w.drew := h.ext (Ext.refl _).drew
theorem Bld.lt {B b : Nat} {l : List UInt8} {w : World} (h : Bld B b l w) : b < w.heap.size := h.is.elim (fun a => a.lt) (fun a => a.lt)
theorem Bld.base {B b : Nat} {l : List UInt8} {w : World} (h : Bld B b l w) : B ≤ b := h.is.elim (fun a => a.1) (fun a => a.1)
theorem Fb.of_ext {B b : Nat} {w w' : World} (x : Ext w w') (h : B ≤ w.heap.size) : Fb B b w w' :=
  ⟨Below.mono x h, fun k o hk _ _ => (x.block (Array.getElem?_eq_some_iff.1 hk).1).trans hk⟩
theorem Fb.alloc {B b : Nat} {u w : World} (h : Fb B b u w) (hB : B ≤ u.heap.size) (o : Obj) : Fb B b u (w.alloc o) :=
  h.trans (.of_ext ((Ext.refl _).alloc o) (Nat.le_trans hB h.below.size))
theorem Fb.drew {B b : Nat} {u w : World} (h : Fb B b u w) (hB : B ≤ u.heap.size) : Fb B b u w.drew :=
  h.trans (.of_ext (Ext.refl _).drew (Nat.le_trans hB h.below.size))
theorem Fb.ext {B b : Nat} {u v w : World} (h : Fb B b u v) (hB : B ≤ u.heap.size) (x : Ext v w) : Fb B b u w :=
  h.trans (.of_ext x (Nat.le_trans hB h.below.size))
/-- A variable of the call's own: block k is the row cs of T's. -/
structure Box (k : Nat) (cs : Array Value) (T : TypeId) (w : World) : Prop where
  heap : w.heap[k]? = some (.cells cs T (0, 0))
theorem Box.new (w : World) (cs : Array Value) (T : TypeId) : Box w.heap.size cs T (w.alloc (.cells cs T)) := ⟨by show (w.heap.push _)[w.heap.size]? = _; simp⟩
theorem Box.new' {k : Nat} {w : World} (cs : Array Value) (T : TypeId) (hk : k = w.heap.size) : Box k cs T (w.alloc (.cells cs T)) := by subst hk; exact Box.new w cs T
theorem Box.lt {k : Nat} {cs : Array Value} {T : TypeId} {w : World} (h : Box k cs T w) : k < w.heap.size := (Array.getElem?_eq_some_iff.1 h.heap).1
theorem Box.ext {k : Nat} {cs : Array Value} {T : TypeId} {w w' : World} (h : Box k cs T w) (x : Ext w w') : Box k cs T w' := ⟨(x.block h.lt).trans h.heap⟩
theorem Box.alloc {k : Nat} {cs : Array Value} {T : TypeId} {w : World} (h : Box k cs T w) (o : Obj) : Box k cs T (w.alloc o) := h.ext ((Ext.refl _).alloc o)
theorem Box.drew {k : Nat} {cs : Array Value} {T : TypeId} {w : World} (h : Box k cs T w) : Box k cs T w.drew := h.ext (Ext.refl _).drew
theorem Box.fb {k B b : Nat} {cs : Array Value} {T : TypeId} {w w' : World} (h : Box k cs T w) (x : Fb B b w w') (hb : k ≠ b) (hT : T ≠ 5) : Box k cs T w' :=
  ⟨x.kept k _ h.heap (by simpa using hb) (fun c fz e => hT (by injection e))⟩
theorem Box.cell {k : Nat} {cs : Array Value} {T : TypeId} {w : World} (h : Box k cs T w) (o : Nat) : w.cell? ⟨k, o, none⟩ = cs[o]? := by rw [Lib.cell_of_heap h.heap]
theorem Box.node {k : Nat} {v0 v1 v2 v3 : Value} {T : TypeId} {w : World} (h : Box k #[v0, v1, v2, v3] T w) :
    w.cell? ⟨k, 0, none⟩ = some v0 ∧ w.cell? ⟨k, 1, none⟩ = some v1 ∧ w.cell? ⟨k, 2, none⟩ = some v2 ∧ w.cell? ⟨k, 3, none⟩ = some v3 := ⟨h.cell 0, h.cell 1, h.cell 2, h.cell 3⟩
theorem rowSits.fb {B b : Nat} {w w' : World} {l : List Nd} {a : Option Addr} (h : rowSits (· < B) w l a) (x : Fb B b w w') : rowSits (· < B) w' l a :=
  rowSits_mono (fun _ h => h) (fun k o _ hb hc => (Below.cell (p := ⟨k, o, none⟩) x.below hb).trans hc) l a h
theorem tabIs_below {P : Program} {B : Nat} {w w' : World} {name : String} {k : IntKind} {zs : List Int} (h : Lib.TabIs P w name k zs) (hb : Below B w w') (hg : ∀ g, P.globalNamed name = some g → g < B) : Lib.TabIs P w' name k zs := by
  unfold Lib.TabIs World.var? at *
  cases hn : P.globalNamed name with
  | none => rw [hn] at h; simp at h
  | some g => rw [hn] at h; simp only [Option.bind_some] at h ⊢; rw [hb.block g (hg g hn)]; exact h
/-- The package-level variables lie below the call's own blocks. -/
theorem Tabs.below {B : Nat} {w w' : World} (h : Tabs w) (hb : Below B w w') (hB : Tryd.prog.globals.size ≤ B) : Tabs w' := by
  have h1 : 0 < Tryd.prog.globals.size := of_decide_eq_true (by kernel_rfl)
  have h2 : 1 < Tryd.prog.globals.size := of_decide_eq_true (by kernel_rfl)
  refine ⟨fun i hi => (Below.cell (p := ⟨0, i, none⟩) hb (by show 0 < B; omega)).trans (h.sym i hi), tabIs_below h.pow hb fun g hg => ?_⟩
  have hp : Tryd.prog.globalNamed "internal/strconv.uint64pow10" = some 1 := by kernel_rfl
  rw [hp] at hg
  injection hg with hg
  omega
theorem Tabs.ext {w w' : World} (h : Tabs w) (x : Ext w w') (hB : Tryd.prog.globals.size ≤ w.heap.size) : Tabs w' := h.below x hB

theorem write_c (B b tb tc : Nat) (l : List UInt8) (ss : List (List UInt8)) (w : World) (h : Bld B b l w) (ht : Box tb (ss.map str).toArray 9 w) (hn : ss.length ≤ 100) (hlen : (l ++ ss.flatten).length ≤ 140737488355328) :
    Calls Tryd.prog 37 #[.pointer (some ⟨b, 0, none⟩), .slice (some ⟨tb, 0, none⟩) ss.length tc] w fun e w' => e = .returned (.tuple #[]) ∧ Bld B b (l ++ ss.flatten) w' ∧ Fb B b w w' := by
  have hle := h.le
  have htb : tb ≠ b := by
    intro e
    have h1 := ht.heap
    rw [e] at h1
    rcases h.is with h' | h' <;> (obtain ⟨_, v, hb, _⟩ := h'; rw [hb] at h1; injection h1 with h1; injection h1 with _ h1 _; exact absurd h1 (by decide))
  have HB := Lib.hid h; clear h
  have HT := Lib.hid ht; clear ht
  go_enter Tryd.func37, Tryd.ntmps37
  go_wp2_with fail
  go_loopw [8] (fun i wr => ∃ j : Nat, j ≤ ss.length ∧ i = .int .i64 j ∧ Bld B b (l ++ (ss.take j).flatten) wr ∧ Fb B b w wr) (fun i _ => ss.length - (intOf i).toNat)
  case atStart => exact ⟨0, Nat.zero_le _, rfl, by simpa using HB.out, Fb.refl _ _ _⟩
  case round =>
    obtain ⟨j, hj, rfl, hbl, hfb⟩ := hrel
    by_cases hlt : j < ss.length
    · have hc := (HT.out.fb hfb htb (by decide)).cell j
      have hg : (ss.map str).toArray[j]? = some (str ss[j]) := by simp [hlt]
      rw [hg] at hc
      have htk : (ss.take (j + 1)).flatten = (ss.take j).flatten ++ ss[j] := by rw [List.take_succ_eq_append_getElem hlt, List.flatten_append]; simp
      have hpre : (ss.take (j + 1)).flatten.length ≤ ss.flatten.length := by
        have e : ss = ss.take (j + 1) ++ ss.drop (j + 1) := (List.take_append_drop _ _).symm
        have e2 : ss.flatten.length = (ss.take (j + 1)).flatten.length + (ss.drop (j + 1)).flatten.length := by rw [← List.length_append, ← List.flatten_append, ← e]
        omega
      generalize ss[j] = sj at *
      have HTK := Lib.hid htk; clear hg
      rw [htk] at hpre
      simp only [List.length_append] at hlen hpre
      clear htk
      have hll : (Lib.byteCells (l ++ (ss.take j).flatten)).length + (⟨sj.toArray⟩ : ByteArray).size ≤ 140737488355328 := by
        rw [Lib.byteCells_length, List.length_append]; show _ + sj.length ≤ _; omega
      have HLL := Lib.hid hll; clear hll
      go_wp2_with fail
      refine (WriteString_c 50 btPrinter B b _ _ _ hbl.is HLL.out hbl.le).mono ?_
      rintro e w1 ⟨rfl, hi1, hf1⟩
      simp only
      have hbl1 : Bld B b (l ++ (ss.take (j + 1)).flatten) w1 := by
        refine ⟨?_, Nat.le_trans hbl.le hf1.below.size⟩
        rw [HTK.out, ← List.append_assoc]
        have : Lib.byteCells (l ++ (ss.take j).flatten ++ sj) = Lib.byteCells (l ++ (ss.take j).flatten) ++ Lib.strCells ⟨sj.toArray⟩ := by
          rw [Lib.strCells_toArray]; simp [Lib.byteCells]
        rw [this]; exact hi1
      clear hbl hc hi1
      go_wp2_with fail
      go_roundw
      case rel => exact ⟨j + 1, by omega, by go_num, hbl1, hfb.trans hf1⟩
      case measure => simp [intOf]; omega
    · go_wp2_with fail
      go_end0
      refine ⟨rfl, ?_, hfb⟩
      rw [List.take_of_length_le (by omega)] at hbl
      exact hbl
theorem tabs_c (B b : Nat) (l : List UInt8) (n : Nat) (w : World) (h : Bld B b l w) (hn : n ≤ 1000000) (hlen : l.length + n ≤ 140737488355328) :
    Calls Tryd.prog 48 #[.pointer (some ⟨b, 0, none⟩), .int .i64 n] w fun e w' => e = .returned (.tuple #[]) ∧ Bld B b (l ++ List.replicate n 9) w' ∧ Fb B b w w' := by
  have HB := Lib.hid h; clear h
  go_enter Tryd.func48, Tryd.ntmps48
  go_wp2_with fail
  go_loopw [5] (fun i wr => ∃ j : Nat, j ≤ n ∧ i = .int .i64 j ∧ Bld B b (l ++ List.replicate j 9) wr ∧ Fb B b w wr) (fun i _ => n - (intOf i).toNat)
  case atStart => exact ⟨0, Nat.zero_le _, rfl, by simpa using HB.out, Fb.refl _ _ _⟩
  case round =>
    obtain ⟨j, hj, rfl, hbl, hfb⟩ := hrel
    by_cases hlt : j < n
    · go_wp2_with fail
      refine (WriteByte_c 50 btPrinter B b _ _ _ hbl.is (by rw [Lib.byteCells_length]; simp; omega) hbl.le).mono ?_
      rintro e w1 ⟨rfl, hi1, hf1⟩
      simp only
      have hbl1 : Bld B b (l ++ List.replicate (j + 1) 9) w1 := by
        refine ⟨?_, Nat.le_trans hbl.le hf1.below.size⟩
        have : Lib.byteCells (l ++ List.replicate (j + 1) 9) = Lib.byteCells (l ++ List.replicate j 9) ++ [Value.int .u8 9] := by
          rw [List.replicate_succ', ← List.append_assoc]; simp [Lib.byteCells]
        rw [this]; exact hi1
      clear hbl hi1
      go_wp2_with fail
      go_roundw
      case rel => exact ⟨j + 1, by omega, by go_num, hbl1, hfb.trans hf1⟩
      case measure => simp [intOf]; omega
    · go_wp2_with fail
      go_end0
      refine ⟨rfl, ?_, hfb⟩
      have : j = n := by omega
      subst this; exact hbl
end Bk
