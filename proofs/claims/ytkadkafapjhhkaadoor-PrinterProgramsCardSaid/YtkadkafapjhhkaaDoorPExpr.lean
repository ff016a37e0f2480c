/- Contracts of the printer's operand and expr: a valid expression's text is appended. The text stays below 2^47 bytes. -/
import Derived.Test.YtkadkafapjhhkaaDoorPrn
import Derived.Test.YtkadkafapjhhkaaDoorIsStmt
import Derived.Deep.RegionHeld3
namespace Bk
open Go Go.RowKit Go.Proofs
def Prints (f : FuncId) (txt : Nd → List UInt8) (t : Nd) : Prop :=
  ∀ (B b : Nat) (l : List UInt8) (w : World) (a : Option Addr) (c : Nat), Bld B b l w → Tabs w → Tryd.prog.globals.size ≤ B → t.sits (· < B) w a → (l ++ txt t).length ≤ 140737488355328 →
    Calls Tryd.prog f #[.pointer (some ⟨b, 0, none⟩), t.val a c] w fun e w' => e = .returned (.tuple #[]) ∧ Bld B b (l ++ txt t) w' ∧ Fb B b w w'
theorem Nd.sits.fb {B b : Nat} {w w' : World} {t : Nd} {a : Option Addr} (h : t.sits (· < B) w a) (x : Fb B b w w') : t.sits (· < B) w' a :=
  Nd.sits_mono (fun _ h => h) (fun k o _ hb hc => (Below.cell (p := ⟨k, o, none⟩) x.below hb).trans hc) t a h
theorem Tabs.fb {B b : Nat} {w w' : World} (h : Tabs w) (x : Fb B b w w') (hB : Tryd.prog.globals.size ≤ B) : Tabs w' := h.below x.below hB
theorem operand_c (t : Nd) (hp : Prints 22 Nd.text t) (B b : Nat) (l : List UInt8) (q : Bool) (w : World) (a : Option Addr) (c : Nat) (h : Bld B b l w) (ht : Tabs w) (hB : Tryd.prog.globals.size ≤ B)
    (hs : t.sits (· < B) w a) (hlen : (l ++ wrap t.text q).length ≤ 140737488355328) :
    Calls Tryd.prog 45 #[.pointer (some ⟨b, 0, none⟩), t.val a c, .bool q] w fun e w' => e = .returned (.tuple #[]) ∧ Bld B b (l ++ wrap t.text q) w' ∧ Fb B b w w' := by
  have hle := h.le
  have hlt := h.lt
  have HP := Lib.hid hp; clear hp
  cases q
  · have HL : Hid ((l ++ t.text).length ≤ 140737488355328) := Lib.hid (by simpa [wrap] using hlen)
    clear hlen
    go_enter Tryd.func45, Tryd.ntmps45
    go_wp2_with fail
    refine (HP.out B b l _ a c (h.alloc _) (ht.ext ((Ext.refl _).alloc _) (by omega)) hB (hs.ext ((Ext.refl _).alloc _)) HL.out).mono ?_
    rintro e w1 ⟨rfl, hb1, hx1⟩
    simp only
    go_wp2_with fail
    ((try simp only [Exit.inBlock, Exit.then]); refine bodyPost_ret (results_none rfl _ _ _) rfl ?_)
    exact ⟨rfl, by simpa [wrap] using hb1, Fb.trans ((Fb.refl _ _ _).alloc hle _) hx1⟩
  · simp only [wrap, if_true, List.length_append, List.length_cons, List.length_nil] at hlen
    go_enter Tryd.func45, Tryd.ntmps45
    go_wp2_with fail
    have hbx0 : Box w.heap.size #[.int .u8 t.kind, .int .i64 t.num, str t.name, .slice a t.kids.length c] 24 (w.alloc (.cells #[.int .u8 t.kind, .int .i64 t.num, str t.name, .slice a t.kids.length c] 24)) := Box.new _ _ _
    refine (write_c B b (w.heap.size + 1) 1 l [[40]] _ ((h.alloc _).alloc _) (Box.new' _ _ (by simp)) (by decide) (by simp; omega)).mono ?_
    rintro e w1 ⟨rfl, hb1, hx1⟩
    have hbx1 := (hbx0.alloc (Obj.cells #[.string { data := #[40] }] 9)).fb hx1 (by omega) (by decide)
    have hxx1 : Fb B b w w1 := Fb.trans (((Fb.refl _ _ _).alloc hle _).alloc hle _) hx1
    obtain ⟨g0, g1, g2, g3⟩ := hbx1.node
    simp only
    go_wp2_with fail
    refine (HP.out B b (l ++ [[40]].flatten) _ a c hb1 (ht.fb hxx1 hB) hB (hs.fb hxx1) (by simp; omega)).mono ?_
    rintro e w2 ⟨rfl, hb2, hx2⟩
    simp only
    go_wp2_with fail
    refine (write_c B b w2.heap.size 1 _ [[41]] _ (hb2.alloc _) (Box.new' _ _ (by simp)) (by decide) (by simp; omega)).mono ?_
    rintro e w3 ⟨rfl, hb3, hx3⟩
    simp only
    go_wp2_with fail
    go_end0
    refine ⟨rfl, by simpa [wrap] using hb3, ?_⟩
    exact (hxx1.trans hx2).trans (Fb.trans ((Fb.refl _ _ _).alloc hb2.le _) hx3)
end Bk
