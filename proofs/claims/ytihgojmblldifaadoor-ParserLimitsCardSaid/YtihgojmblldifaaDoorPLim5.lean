/- Texts that the proofs of ParserLimits need. No condition. (Part 5 of 5.) -/
import Derived.Test.YtihgojmblldifaaDoorPLim4
set_option linter.unusedSimpArgs false
set_option linter.unusedVariables false
namespace Bk
open Go Go.RowKit Go.Proofs Go.Lib
theorem cells_of_strs {H : Type} {enc : TypeId × Value → H} {P : Program} {w : World} {base : Nat} {sp : Nat → Bool} {held : Bool} {fuel : Nat} {t e : TypeId} {n : Nat} {cs : List Value} {zs : List (List UInt8)} {p : List MemPlace}
 (ht : P.underlying t = some (.array n e)) (he : P.underlying e = some .string) (hce : P.cellsOf e = 1) (hct : P.cellsOf t = n)
 (h : DataW.trod enc P w base sp held fuel t cs = some (.agg (zs.map fun z => .lit (.string z)), p)) : cs = zs.map str := by
 cases fuel with
 | zero => simp [DataW.trod] at h
 | succ fuel =>
  simp only [DataW.trod, ht, hce, hct, Nat.mul_one] at h
  split at h
  · rename_i hl
    obtain ⟨xs, hm, hx⟩ := Option.map_eq_some_iff.1 h
    have hxs : xs.map (·.1) = zs.map fun z => (DataW.lit (.string z) : DataW H) := by
     have := congrArg Prod.fst hx
     simpa using this
    have hxl : xs.length = n := by simpa using mapM_length hm
    have hzl : zs.length = n := by
     have := congrArg List.length hxs
     simp at this
     omega
    apply List.ext_getElem?
    intro i
    by_cases hi : i < n
    · obtain ⟨b, hb, hf⟩ := mapM_at hm i i (by simp [hi])
      obtain ⟨z, hc, rfl, _⟩ := DataW.trod_string he hf
      have h1 : cs[i]? = some (.string z) := by
       have := congrArg (·[0]?) hc
       simpa [List.getElem?_take, List.getElem?_drop] using this
      have h2 : (xs.map (·.1))[i]? = some (DataW.lit (.string z.data.toList) : DataW H) := by simp [hb]
      rw [hxs] at h2; simp only [List.getElem?_map, Option.map_eq_some_iff, DataW.lit.injEq, Lit.string.injEq] at h2; obtain ⟨z', hz', rfl⟩ := h2
      simp [h1, hz']
    · rw [List.getElem?_eq_none (by omega), List.getElem?_eq_none (by simp; omega)]
  · cases h
end Bk
namespace Bk
open Go Go.RowKit Go.Proofs Go.Lib
theorem gSym4 : Tryd.prog.globalNamed "backstep/arith.symbols" = some 0 := by kernel_rfl
theorem gSymT4 : (Tryd.prog.globals[0]?).map (·.type) = some 73 := by kernel_rfl
theorem uSymT4 : Tryd.prog.underlying 73 = some (.array 43 9) := by kernel_rfl
theorem cSymT4 : Tryd.prog.cellsOf 73 = 43 := by kernel_rfl
theorem uStr4 : Tryd.prog.underlying 9 = some .string := by kernel_rfl
theorem cStr4 : Tryd.prog.cellsOf 9 = 1 := by kernel_rfl
theorem gErr4 : Tryd.prog.globalNamed "strconv.ErrRange" = some 3 := by kernel_rfl
theorem gErrT4 : (Tryd.prog.globals[3]?).map (·.type) = some 93 := by kernel_rfl
theorem uErr4 : ∃ ms, Tryd.prog.underlying 93 = some (.interface ms) := ⟨_, Tryd.underlying93⟩
theorem symData4 : (YtihgojmblldifaaDoor.Rows.laid_backstep_arith_symbols : DataW Unit) = .agg (symbols.map fun z => .lit (.string z)) := rfl
abbrev laid4 : List (String × DataW Unit) := [("backstep/arith.symbols", YtihgojmblldifaaDoor.Rows.laid_backstep_arith_symbols), ("math/bits.deBruijn32tab", YtihgojmblldifaaDoor.Rows.laid_math_bits_deBruijn32tab), ("math/bits.deBruijn64tab", YtihgojmblldifaaDoor.Rows.laid_math_bits_deBruijn64tab), ("internal/strconv.uint64pow10", YtihgojmblldifaaDoor.Rows.laid_internal_strconv_uint64pow10), ("strconv.ErrRange", YtihgojmblldifaaDoor.Rows.laid_strconv_ErrRange), ("strconv.ErrSyntax", YtihgojmblldifaaDoor.Rows.laid_strconv_ErrSyntax)]
theorem syms_of_laid {W : World} (h : laidMetH Tryd.prog laid4 W) : Syms W ∧ Errs W := by
 have h' : laidMet Tryd.prog laid4 W := h; obtain ⟨ps, ⟨g1, t1, cs1, f1, p1, q1, hg1, ht1, hv1, hd1, ⟨g2, t2, cs2, f2, p2, q2, hg2, ht2, hv2, hd2, ⟨g3, t3, cs3, f3, p3, q3, hg3, ht3, hv3, hd3, ⟨g4, t4, cs4, f4, p4, q4, hg4, ht4, hv4, hd4, ⟨g5, t5, cs5, f5, p5, q5, hg5, ht5, hv5, hd5, -, -⟩, -⟩, -⟩, -⟩, -⟩, -⟩ := h'; obtain rfl := Option.some.inj (gSym4.symm.trans hg1); obtain rfl := Option.some.inj (gSymT4.symm.trans ht1); obtain rfl := Option.some.inj (gErr4.symm.trans hg5); obtain rfl := Option.some.inj (gErrT4.symm.trans ht5); rw [symData4] at hd1; have e1 := cells_of_strs uSymT4 uStr4 cStr4 cSymT4 hd1; refine ⟨⟨fun i hi => ?_⟩, ?_⟩
 · rw [World.var?_cell gSym4 hv1 i, ← Array.getElem?_toList, e1, List.getElem?_map]
   have : symbols[i]? = some (symbols.getD i []) := by
    rw [List.getD_eq_getElem?_getD, List.getElem?_eq_getElem (show i < symbols.length from hi)]; rfl
   rw [this]; rfl
 · obtain ⟨ms, hu⟩ := uErr4
   obtain ⟨f, u, v, hc, -, -⟩ := iface_of_trod hu hd5; refine ⟨⟨u, v, ?_⟩⟩; rw [World.var?_cell gErr4 hv5 0, ← Array.getElem?_toList, hc]
   rfl
end Bk
