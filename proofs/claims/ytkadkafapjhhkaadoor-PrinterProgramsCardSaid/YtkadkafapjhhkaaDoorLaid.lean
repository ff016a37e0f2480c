/- What the rows' listed variables give: the tables. -/
import Derived.Test.YtkadkafapjhhkaaDoorRows
import Derived.Test.YtkadkafapjhhkaaDoorRead
import Derived.Lib.LaidTab
import Derived.FnData
namespace Bk
open Go Go.RowKit Go.Proofs Go.Lib
theorem cells_of_strs {H : Type} {enc : TypeId × Value → H} {P : Program} {w : World} {base : Nat} {sp : Nat → Bool} {held : Bool} {fuel : Nat} {t e : TypeId} {n : Nat} {cs : List Value} {zs : List (List UInt8)} {p : List MemPlace}
    (ht : P.underlying t = some (.array n e)) (he : P.underlying e = some .string) (hce : P.cellsOf e = 1) (hct : P.cellsOf t = n)
    (h : DataW.trod enc P w base sp held fuel t cs = some (.agg (zs.map fun z => .lit (.string z)), p)) : cs = zs.map str := by
  cases fuel with
  | zero => simp [DataW.trod] at h
  | succ fuel =>
    simp only [DataW.trod, ht, hce, hct, Nat.mul_one] at h
    split at h
    · rename_i hl
      obtain ⟨xs, hm, hx⟩ := Option.map_eq_some_iff.1 h
      have hxs : xs.map (·.1) = zs.map fun z => (DataW.lit (.string z) : DataW H) := by
        have := congrArg Prod.fst hx
        simpa using this
      have hxl : xs.length = n := by simpa using mapM_length hm
      have hzl : zs.length = n := by
        have := congrArg List.length hxs
        simp at this
        omega
      apply List.ext_getElem?
      intro i
      by_cases hi : i < n
      · obtain ⟨b, hb, hf⟩ := mapM_at hm i i (by simp [hi])
        obtain ⟨z, hc, rfl, _⟩ := DataW.trod_string he hf
        have h1 : cs[i]? = some (.string z) := by
          have := congrArg (·[0]?) hc
          simpa [List.getElem?_take, List.getElem?_drop] using this
        have h2 : (xs.map (·.1))[i]? = some (DataW.lit (.string z.data.toList) : DataW H) := by simp [hb]
        rw [hxs] at h2
        simp only [List.getElem?_map, Option.map_eq_some_iff, DataW.lit.injEq, Lit.string.injEq] at h2
        obtain ⟨z', hz', rfl⟩ := h2
        simp [h1, hz']
      · rw [List.getElem?_eq_none (by omega), List.getElem?_eq_none (by simp; omega)]
    · cases h
theorem gSym : Tryd.prog.globalNamed "backstep/arith.symbols" = some 0 := by kernel_rfl
theorem gSymT : (Tryd.prog.globals[0]?).map (·.type) = some 81 := by kernel_rfl
theorem uSymT : Tryd.prog.underlying 81 = some (.array 43 9) := by kernel_rfl
theorem cSymT : Tryd.prog.cellsOf 81 = 43 := by kernel_rfl
theorem gPow : Tryd.prog.globalNamed "internal/strconv.uint64pow10" = some 1 := by kernel_rfl
theorem gPowT : (Tryd.prog.globals[1]?).map (·.type) = some 101 := by kernel_rfl
theorem uPowT : Tryd.prog.underlying 101 = some (.array 20 94) := by kernel_rfl
theorem uU64 : Tryd.prog.underlying 94 = some (.int .u64) := by kernel_rfl
theorem cU64 : Tryd.prog.cellsOf 94 = 1 := by kernel_rfl
theorem cPowT : Tryd.prog.cellsOf 101 = 20 := by kernel_rfl
theorem symData : (YtkadkafapjhhkaaDoor.Rows.laid_backstep_arith_symbols : DataW Unit) = .agg (symbols.map fun z => .lit (.string z)) := rfl
theorem powData : (YtkadkafapjhhkaaDoor.Rows.laid_internal_strconv_uint64pow10 : DataW Unit) = tabData .u64 pow10Tab := rfl
theorem tabs_of_laid {W : World} (h : laidMetH Tryd.prog [("backstep/arith.symbols", YtkadkafapjhhkaaDoor.Rows.laid_backstep_arith_symbols), ("math/bits.deBruijn32tab", YtkadkafapjhhkaaDoor.Rows.laid_math_bits_deBruijn32tab), ("math/bits.deBruijn64tab", YtkadkafapjhhkaaDoor.Rows.laid_math_bits_deBruijn64tab), ("internal/strconv.uint64pow10", YtkadkafapjhhkaaDoor.Rows.laid_internal_strconv_uint64pow10)] W) : Tabs W := by
  have h' : laidMet Tryd.prog [("backstep/arith.symbols", YtkadkafapjhhkaaDoor.Rows.laid_backstep_arith_symbols), ("math/bits.deBruijn32tab", YtkadkafapjhhkaaDoor.Rows.laid_math_bits_deBruijn32tab), ("math/bits.deBruijn64tab", YtkadkafapjhhkaaDoor.Rows.laid_math_bits_deBruijn64tab), ("internal/strconv.uint64pow10", YtkadkafapjhhkaaDoor.Rows.laid_internal_strconv_uint64pow10)] W := h
  obtain ⟨ps, ⟨g1, t1, cs1, f1, p1, q1, hg1, ht1, hv1, hd1, ⟨g2, t2, cs2, f2, p2, q2, hg2, ht2, hv2, hd2, ⟨g3, t3, cs3, f3, p3, q3, hg3, ht3, hv3, hd3, ⟨g4, t4, cs4, f4, p4, q4, hg4, ht4, hv4, hd4, -, -⟩, -⟩, -⟩, -⟩, -⟩ := h'
  obtain rfl := Option.some.inj (gSym.symm.trans hg1)
  obtain rfl := Option.some.inj (gSymT.symm.trans ht1)
  obtain rfl := Option.some.inj (gPow.symm.trans hg4)
  obtain rfl := Option.some.inj (gPowT.symm.trans ht4)
  rw [symData] at hd1
  rw [powData] at hd4
  have e1 := cells_of_strs uSymT underStr cells9 cSymT hd1
  have e4 := cells_of_tab uPowT uU64 cU64 cPowT hd4
  refine ⟨fun i hi => ?_, ?_⟩
  · rw [World.var?_cell gSym hv1 i, ← Array.getElem?_toList, e1, List.getElem?_map]
    have : symbols[i]? = some (symbols.getD i []) := by
      rw [List.getD_eq_getElem?_getD, List.getElem?_eq_getElem (show i < symbols.length from hi)]; rfl
    rw [this]; rfl
  · unfold TabIs
    rw [hv4, ← e4]
theorem heap_of_laid {W : World} (h : laidMetH Tryd.prog [("backstep/arith.symbols", YtkadkafapjhhkaaDoor.Rows.laid_backstep_arith_symbols), ("math/bits.deBruijn32tab", YtkadkafapjhhkaaDoor.Rows.laid_math_bits_deBruijn32tab), ("math/bits.deBruijn64tab", YtkadkafapjhhkaaDoor.Rows.laid_math_bits_deBruijn64tab), ("internal/strconv.uint64pow10", YtkadkafapjhhkaaDoor.Rows.laid_internal_strconv_uint64pow10)] W) : Tryd.prog.globals.size ≤ W.heap.size := by
  have h' : laidMet Tryd.prog [("backstep/arith.symbols", YtkadkafapjhhkaaDoor.Rows.laid_backstep_arith_symbols), ("math/bits.deBruijn32tab", YtkadkafapjhhkaaDoor.Rows.laid_math_bits_deBruijn32tab), ("math/bits.deBruijn64tab", YtkadkafapjhhkaaDoor.Rows.laid_math_bits_deBruijn64tab), ("internal/strconv.uint64pow10", YtkadkafapjhhkaaDoor.Rows.laid_internal_strconv_uint64pow10)] W := h
  obtain ⟨ps, ⟨g1, t1, cs1, f1, p1, q1, hg1, ht1, hv1, hd1, ⟨g2, t2, cs2, f2, p2, q2, hg2, ht2, hv2, hd2, ⟨g3, t3, cs3, f3, p3, q3, hg3, ht3, hv3, hd3, -, -⟩, -⟩, -⟩, -⟩ := h'
  have hg : Tryd.prog.globalNamed "math/bits.deBruijn64tab" = some 4 := by kernel_rfl
  have hn : Tryd.prog.globals.size ≤ 4 + 1 := of_decide_eq_true (by kernel_rfl)
  obtain rfl := Option.some.inj (hg.symm.trans hg3)
  rcases Nat.lt_or_ge 4 W.heap.size with hlt | hge
  · omega
  · unfold World.var? at hv3
    rw [hg] at hv3
    simp [Array.getElem?_eq_none hge] at hv3
end Bk
