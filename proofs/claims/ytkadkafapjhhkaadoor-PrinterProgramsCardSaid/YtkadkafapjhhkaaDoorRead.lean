/- From the form's reading of an argument of type Node to a plain tree that lies in memory. -/
import Derived.Test.YtkadkafapjhhkaaDoorPExpr5
import Derived.ChangeArms
namespace Bk
open Go Go.RowKit Go.Proofs
def AllB : Nat → Prop := fun _ => True
theorem row_build (W : World) (b o : Nat) : ∀ (len i0 : Nat), (∀ i, i < len → ∃ (t : Nd) (a' : Option Addr) (c' : Nat), t.wf ∧ W.cell? ⟨b, o + (i0 + i) * 4, none⟩ = some (.int .u8 t.kind) ∧ W.cell? ⟨b, o + (i0 + i) * 4 + 1, none⟩ = some (.int .i64 t.num) ∧ W.cell? ⟨b, o + (i0 + i) * 4 + 2, none⟩ = some (str t.name) ∧ W.cell? ⟨b, o + (i0 + i) * 4 + 3, none⟩ = some (.slice a' t.kids.length c') ∧ t.sits AllB W a') →
    ∃ l : List Nd, l.length = len ∧ rowWf l ∧ rowSits AllB W l (some ⟨b, o + i0 * 4, none⟩)
  | 0, _, _ => ⟨[], rfl, by simp [rowWf], by simp [rowSits]⟩
  | len + 1, i0, h => by
    obtain ⟨l, hl, hw, hs⟩ := row_build W b o len (i0 + 1) (fun i hi => by
      have := h (i + 1) (by omega)
      rwa [show i0 + (i + 1) = i0 + 1 + i from by omega] at this)
    obtain ⟨t, a', c', hwf, h0, h1, h2, h3, hsk⟩ := h 0 (by omega)
    rw [Nat.add_zero] at h0 h1 h2 h3
    refine ⟨t :: l, by simp [hl], by simp [rowWf, hwf, hw], ?_⟩
    simp only [rowSits]
    refine ⟨b, o + i0 * 4, a', c', rfl, trivial, h0, h1, h2, h3, hsk, ?_⟩
    rwa [show o + i0 * 4 + 4 = o + (i0 + 1) * 4 from by omega]
theorem cells4 {W : World} {a : Addr} {cs : List Value} (h : W.cells? 0 a 4 = some cs) : ∃ c0 c1 c2 c3, cs = [c0, c1, c2, c3] ∧ W.cell? (a.add 0) = some c0 ∧ W.cell? (a.add 1) = some c1 ∧ W.cell? (a.add 2) = some c2 ∧ W.cell? (a.add 3) = some c3 := by
  unfold World.cells? at h
  rw [if_pos (Nat.zero_le _)] at h
  rw [show List.range 4 = [0, 1, 2, 3] from rfl] at h
  cases e0 : W.cell? (a.add 0) <;> simp [e0] at h
  cases e1 : W.cell? (a.add 1) <;> simp [e1] at h
  cases e2 : W.cell? (a.add 2) <;> simp [e2] at h
  cases e3 : W.cell? (a.add 3) <;> simp [e3] at h
  exact ⟨_, _, _, _, h.symm, rfl, rfl, rfl, rfl⟩
theorem addr_add2 (b o n m : Nat) : ((⟨b, o, none⟩ : Addr).add n).add m = ⟨b, o + n + m, none⟩ := by
  unfold Addr.add
  by_cases hn : n = 0 <;> by_cases hm : m = 0 <;> simp [hn, hm]
theorem cellsNode : Tryd.prog.cellsOf 24 = 4 := by kernel_rfl
theorem cells5 : Tryd.prog.cellsOf 5 = 1 := by kernel_rfl
theorem cells3 : Tryd.prog.cellsOf 3 = 1 := by kernel_rfl
theorem cells9 : Tryd.prog.cellsOf 9 = 1 := by kernel_rfl
theorem cells22 : Tryd.prog.cellsOf 22 = 1 := by kernel_rfl
theorem node_of_trod {H : Type} (enc : TypeId × Value → H) (W : World) (sp : Nat → Bool) (N : Nat) : ∀ (fuel : Nat), fuel < N → ∀ (cs : List Value) (x : DataW H × List MemPlace), DataW.trod enc Tryd.prog W 0 sp true fuel 24 cs = some x →
    ∃ (t : Nd) (a : Option Addr) (c : Nat), cs = [.int .u8 t.kind, .int .i64 t.num, str t.name, .slice a t.kids.length c] ∧ t.wf ∧ t.sits AllB W a := by
  induction N with
  | zero => intro fuel h; omega
  | succ N ih =>
    intro fuel hN cs x h
    obtain ⟨xs, n, rfl, -, hl, hlen, hf⟩ := DataW.trod_struct Tryd.underlying24 h
    rw [cellsNode] at hl
    obtain ⟨c0, c1, c2, c3, rfl⟩ : ∃ c0 c1 c2 c3, cs = [c0, c1, c2, c3] := by
      rcases cs with _ | ⟨c0, _ | ⟨c1, _ | ⟨c2, _ | ⟨c3, _ | ⟨c4, cs⟩⟩⟩⟩⟩
      · simp at hl
      · simp at hl
      · simp at hl
      · simp at hl
      · exact ⟨_, _, _, _, rfl⟩
      · simp at hl
    obtain ⟨y0, y1, y2, y3, rfl⟩ : ∃ y0 y1 y2 y3, xs = [y0, y1, y2, y3] := by
      have hlen' : xs.length = 4 := hlen
      rcases xs with _ | ⟨c0, _ | ⟨c1, _ | ⟨c2, _ | ⟨c3, _ | ⟨c4, cs⟩⟩⟩⟩⟩
      · simp at hlen'
      · simp at hlen'
      · simp at hlen'
      · simp at hlen'
      · exact ⟨_, _, _, _, rfl⟩
      · simp at hlen'
    · have f0 : DataW.trod enc Tryd.prog W 0 sp true n 5 (([c0, c1, c2, c3].drop 0).take (Tryd.prog.cellsOf 5)) = some y0 := hf 0 _ rfl
      have f1 : DataW.trod enc Tryd.prog W 0 sp true n 3 (([c0, c1, c2, c3].drop 1).take (Tryd.prog.cellsOf 3)) = some y1 := hf 1 _ rfl
      have f2 : DataW.trod enc Tryd.prog W 0 sp true n 9 (([c0, c1, c2, c3].drop 2).take (Tryd.prog.cellsOf 9)) = some y2 := hf 2 _ rfl
      have f3 : DataW.trod enc Tryd.prog W 0 sp true n 22 (([c0, c1, c2, c3].drop 3).take (Tryd.prog.cellsOf 22)) = some y3 := hf 3 _ rfl
      simp only [cells5, cells3, cells9, cells22, List.drop_zero, List.drop_succ_cons, List.take_succ_cons, List.take_zero] at f0 f1 f2 f3
      obtain ⟨k, hk, -, wk⟩ := DataW.trod_int uByte f0
      obtain ⟨m, hm, -, wm⟩ := DataW.trod_int Tryd.underlying3 f1
      obtain ⟨s, hs, -, ws⟩ := DataW.trod_string underStr f2
      simp only [List.cons.injEq, and_true] at hk hm hs
      subst hk hm hs
      have wk' : 0 ≤ k ∧ k ≤ 255 := by simpa [Lit.wf, IntKind.min, IntKind.max, IntKind.signed, IntKind.bits] using wk
      have wm' : -9223372036854775808 ≤ m ∧ m ≤ 9223372036854775807 := by simpa [Lit.wf, IntKind.min, IntKind.max, IntKind.signed, IntKind.bits] using wm
      have ws' : s.data.toList.length ≤ 9223372036854775807 := by
        have : s.data.toList.length = s.size := by rw [Array.length_toList]; rfl
        unfold maxLen at ws; omega
      rcases DataW.trod_slice Tryd.underlying22 f3 with ⟨hc, -⟩ | ⟨a, len, cap, elems, rest, n', hn', hc, -, -, hle, hcm, hel, hE, -⟩
      · simp only [List.cons.injEq, and_true] at hc
        subst hc
        exact ⟨.mk k m s.data.toList [], none, 0, rfl, ⟨wk'.1, wk'.2, wm'.1, wm'.2, ws', by simp, by simp [rowWf]⟩, by simp [Nd.sits, rowSits]⟩
      · simp only [List.cons.injEq, and_true] at hc
        subst hc
        rw [cellsNode] at hE
        rcases Nat.eq_zero_or_pos len with h0 | hpos
        · subst h0
          exact ⟨.mk k m s.data.toList [], some a, cap, rfl, ⟨wk'.1, wk'.2, wm'.1, wm'.2, ws', by simp, by simp [rowWf]⟩, by simp [Nd.sits, rowSits]⟩
        · have step : ∀ i, i < len → ∃ (t : Nd) (a' : Option Addr) (c' : Nat), t.wf ∧ W.cell? ((a.add (i * 4)).add 0) = some (.int .u8 t.kind) ∧ W.cell? ((a.add (i * 4)).add 1) = some (.int .i64 t.num) ∧ W.cell? ((a.add (i * 4)).add 2) = some (str t.name) ∧ W.cell? ((a.add (i * 4)).add 3) = some (.slice a' t.kids.length c') ∧ t.sits AllB W a' := by
            intro i hi
            have hEi := hE i hi
            cases hc4 : W.cells? 0 (a.add (i * 4)) 4 with
            | none =>
              rw [hc4] at hEi
              have hh : elems[i]? = some elems[i] := List.getElem?_eq_getElem (by omega)
              rw [hh] at hEi
              simp at hEi
            | some cs4 =>
              rw [hc4, List.getElem?_eq_getElem (by omega)] at hEi
              obtain ⟨d0, d1, d2, d3, rfl, e0, e1, e2, e3⟩ := cells4 hc4
              obtain ⟨t, a', c', hcs, hw, hs⟩ := ih n' (by omega) _ _ hEi
              simp only [List.cons.injEq, and_true] at hcs
              obtain ⟨rfl, rfl, rfl, rfl⟩ := hcs
              exact ⟨t, a', c', hw, e0, e1, e2, e3, hs⟩
          obtain ⟨b, o, spot⟩ := a
          have hspot : spot = none := by
            obtain ⟨t, a', c', -, e0, -⟩ := step 0 hpos
            simp only [Nat.zero_mul, Addr.add, if_true] at e0
            unfold World.cell? at e0
            cases spot with
            | none => rfl
            | some q => simp at e0; split at e0 <;> simp at e0
          subst hspot
          obtain ⟨l, hl', hw', hs'⟩ := row_build W b o len 0 (fun i hi => by
            obtain ⟨t, a', c', hw, e0, e1, e2, e3, hs⟩ := step i hi
            rw [addr_add2] at e0 e1 e2 e3
            rw [Nat.zero_add]
            exact ⟨t, a', c', hw, e0, e1, e2, e3, hs⟩)
          subst hl'
          refine ⟨.mk k m s.data.toList l, some ⟨b, o, none⟩, cap, rfl, ⟨wk'.1, wk'.2, wm'.1, wm'.2, ws', by unfold maxLen at hcm; omega, hw'⟩, ?_⟩
          simpa [Nd.sits] using hs'
end Bk
