/- Texts that the proofs of PrinterRound need. No condition. (Part 8 of 8.) -/
import Derived.Test.YtajjbkcpgfgbiaaGreatDoorPPra7
set_option linter.unusedSimpArgs false
set_option linter.unusedVariables false
namespace Bk
open Go Go.RowKit Go.Proofs
theorem cells_row {W : World} {p : Addr} {k : Nat} {cs : List Value} (h : W.cells? 0 p k = some cs) : Row W p cs ∧ cs.length = k := by
 unfold World.cells? at h
 rw [if_pos (Nat.zero_le _)] at h; refine ⟨fun i v hi => ?_, by simpa using mapM_some_length h⟩
 have hl : cs.length = k := by simpa using mapM_some_length h
 have hik : i < k := by
  rcases Nat.lt_or_ge i cs.length with h' | h'
  · omega
  · rw [List.getElem?_eq_none h'] at hi; cases hi
 have := mapM_some_get h i i (by simp [hik]); rw [hi] at this
 exact this
theorem addr_add (b o i : Nat) : (⟨b, o, none⟩ : Addr).add i = ⟨b, o + i, none⟩ := by unfold Addr.add; by_cases h0 : i = 0 <;> simp [h0]
theorem arr_of_trod {α H : Type} (enc : TypeId × Value → H) (W : World) (sp : Nat → Bool) {t e k : Nat} (ht : Tryz.prog.underlying t = some (.slice e)) (hk : Tryz.prog.cellsOf e = k) (hk0 : 0 < k) (G : List Value → α → Prop)
 {fuel : Nat} (hG : ∀ (n : Nat) (cs : List Value) (x : DataW H × List MemPlace), n < fuel → DataW.trod enc Tryz.prog W 0 sp true n e cs = some x → ∃ y, G cs y) {c : Value} {x : DataW H × List MemPlace} (h : DataW.trod enc Tryz.prog W 0 sp true fuel t [c] = some x) :
 ∃ (l : List α) (a : Option Addr) (cap : Nat), c = .slice a l.length cap ∧ l.length ≤ 9223372036854775807 ∧ Arr AllB k (fun w b o y => ∃ cs, Row w ⟨b, o, none⟩ cs ∧ G cs y) W l a := by
 rcases DataW.trod_slice ht h with ⟨hc, -⟩ | ⟨a, len, cap, elems, rest, n', hn', hc, -, -, hle, hcm, hel, hE, -⟩
 · simp only [List.cons.injEq, and_true] at hc
   exact ⟨[], none, 0, hc, by simp, Or.inl rfl⟩
 · simp only [List.cons.injEq, and_true] at hc
   rw [hk] at hE
   unfold maxLen at hcm
   rcases Nat.eq_zero_or_pos len with h0 | hpos
   · subst h0
     exact ⟨[], some a, cap, hc, by simp, Or.inl rfl⟩
   · have step : ∀ i, i < len → ∃ y cs, Row W (a.add (i * k)) cs ∧ cs.length = k ∧ G cs y := fun i hi => by
      have hEi := hE i hi
      cases hc4 : W.cells? 0 (a.add (i * k)) k with
      | none =>
       rw [hc4, List.getElem?_eq_getElem (by omega)] at hEi
       simp at hEi
      | some cs =>
       rw [hc4, List.getElem?_eq_getElem (by omega)] at hEi; obtain ⟨r1, r2⟩ := cells_row hc4; obtain ⟨y, hy⟩ := hG n' cs _ (by omega) hEi
       exact ⟨y, cs, r1, r2, hy⟩
     obtain ⟨b, o, spot⟩ := a
     have hspot : spot = none := by
      obtain ⟨y, cs, r, hl, -⟩ := step 0 hpos; simp only [Nat.zero_mul, Addr.add, if_true] at r
      cases cs with
      | nil => simp at hl; omega
      | cons v vs =>
       have := r 0 v rfl; simp only [Addr.add, if_true] at this
       exact cell_spot this
     subst hspot
     have hl : ∃ l : List α, l.length = len ∧ ∀ i y, l[i]? = some y → ∃ cs, Row W ⟨b, o + i * k, none⟩ cs ∧ G cs y := by
      have key : ∀ m, m ≤ len → ∃ l : List α, l.length = m ∧ ∀ i y, l[i]? = some y → ∃ cs, Row W ⟨b, o + i * k, none⟩ cs ∧ G cs y := by
       intro m
       induction m with
       | zero => intro _; exact ⟨[], rfl, by simp⟩
       | succ m ih =>
        intro hm; obtain ⟨l, h1, h2⟩ := ih (by omega); obtain ⟨y, cs, r, -, hg⟩ := step m (by omega); rw [addr_add] at r; refine ⟨l ++ [y], by simp [h1], fun i z hz => ?_⟩
        rcases Nat.lt_or_ge i m with hi | hi
        · rw [List.getElem?_append_left (by omega)] at hz; exact h2 i z hz
        · rw [List.getElem?_append_right (by omega)] at hz
          obtain rfl : i = m := by
           rcases Nat.lt_or_ge m i with h' | h'
           · rw [List.getElem?_eq_none (by simp; omega)] at hz; cases hz
           · omega
          simp [h1] at hz
          subst hz
          exact ⟨cs, r, hg⟩
      exact key len (Nat.le_refl _)
     obtain ⟨l, h1, h2⟩ := hl; subst h1
     exact ⟨l, some ⟨b, o, none⟩, cap, hc, by omega, Or.inr ⟨b, o, rfl, trivial, h2⟩⟩
theorem len3 {cs : List Value} (h : cs.length = 3) : ∃ a b c, cs = [a, b, c] := by
 rcases cs with _ | ⟨a, _ | ⟨b, _ | ⟨c, _ | ⟨d, r⟩⟩⟩⟩ <;> simp at h; exact ⟨a, b, c, rfl⟩
theorem len6 {cs : List Value} (h : cs.length = 6) : ∃ a b c d e f, cs = [a, b, c, d, e, f] := by
 rcases cs with _ | ⟨a, _ | ⟨b, _ | ⟨c, _ | ⟨d, _ | ⟨e, _ | ⟨f, _ | ⟨g, r⟩⟩⟩⟩⟩⟩⟩ <;> simp at h; exact ⟨a, b, c, d, e, f, rfl⟩
theorem get_of_len {α : Type} {xs : List α} {n i : Nat} (h : xs.length = n) (hi : i < n) : ∃ y, xs[i]? = some y := ⟨xs[i], List.getElem?_eq_getElem (by omega)⟩
theorem cVD : Tryz.prog.cellsOf 73 = 3 := by kernel_rfl
theorem cVDs : Tryz.prog.cellsOf 35 = 1 := by kernel_rfl
theorem cPD : Tryz.prog.cellsOf 75 = 6 := by kernel_rfl
theorem cPDs : Tryz.prog.cellsOf 36 = 1 := by kernel_rfl
theorem cPG : Tryz.prog.cellsOf 38 = 6 := by kernel_rfl
section
variable {H : Type} (enc : TypeId × Value → H) (W : World) (sp : Nat → Bool)
theorem vd_of_trod {fuel : Nat} {cs : List Value} {x : DataW H × List MemPlace} (h : DataW.trod enc Tryz.prog W 0 sp true fuel 73 cs = some x) : ∃ v : VD, cs = v.cells ∧ v.wf := by
 obtain ⟨xs, n, rfl, -, hl, hlen, hf⟩ := DataW.trod_struct Tryz.underlying73 h; rw [cVD] at hl; obtain ⟨c0, c1, c2, rfl⟩ := len3 hl; obtain ⟨y0, e0⟩ := get_of_len (i := 0) hlen (by decide); obtain ⟨y1, e1⟩ := get_of_len (i := 1) hlen (by decide); obtain ⟨y2, e2⟩ := get_of_len (i := 2) hlen (by decide); have f0 : DataW.trod enc Tryz.prog W 0 sp true n 9 (([c0, c1, c2].drop 0).take (Tryz.prog.cellsOf 9)) = some y0 := (hf 0 _ rfl).trans e0; have f1 : DataW.trod enc Tryz.prog W 0 sp true n 5 (([c0, c1, c2].drop 1).take (Tryz.prog.cellsOf 5)) = some y1 := (hf 1 _ rfl).trans e1; have f2 : DataW.trod enc Tryz.prog W 0 sp true n 3 (([c0, c1, c2].drop 2).take (Tryz.prog.cellsOf 3)) = some y2 := (hf 2 _ rfl).trans e2; simp only [cells5, cells3, cells9, List.drop_zero, List.drop_succ_cons, List.take_succ_cons, List.take_zero] at f0 f1 f2; obtain ⟨s, hs, -, ws⟩ := DataW.trod_string underStr f0; obtain ⟨k, hk, -, wk⟩ := DataW.trod_int uByte f1; obtain ⟨m, hm, -, wm⟩ := DataW.trod_int Tryz.underlying3 f2; simp only [List.cons.injEq, and_true] at hk hm hs; subst hk hm hs
 have wk' : 0 ≤ k ∧ k ≤ 255 := by simpa [Lit.wf, IntKind.min, IntKind.max, IntKind.signed, IntKind.bits] using wk
 have wm' : -9223372036854775808 ≤ m ∧ m ≤ 9223372036854775807 := by simpa [Lit.wf, IntKind.min, IntKind.max, IntKind.signed, IntKind.bits] using wm
 have ws' : s.data.toList.length ≤ 9223372036854775807 := by
  have : s.data.toList.length = s.size := by rw [Array.length_toList]; rfl
  unfold maxLen at ws; omega
 exact ⟨⟨s.data.toList, k, m⟩, rfl, ws', wk'.1, wk'.2, wm'.1, wm'.2⟩
theorem vds_of_trod {fuel : Nat} {c : Value} {x : DataW H × List MemPlace} (h : DataW.trod enc Tryz.prog W 0 sp true fuel 35 [c] = some x) :
 ∃ (l : List VD) (a : Option Addr) (cap : Nat), c = .slice a l.length cap ∧ l.length ≤ 9223372036854775807 ∧ (∀ v ∈ l, v.wf) ∧ VDs AllB W l a := by
 obtain ⟨l, a, cap, h1, h2, h3⟩ := arr_of_trod (α := VD) enc W sp Tryz.underlying35 cVD (by decide) (fun cs v => cs = v.cells ∧ v.wf) (fun n cs x _ hx => vd_of_trod enc W sp hx) h; refine ⟨l, a, cap, h1, h2, fun v hv => ?_, h3.mono (fun _ h => h) (fun b o v _ _ ⟨cs, r, e, _⟩ => by subst e; exact r)⟩
 rcases h3 with rfl | ⟨b, o, -, -, hh⟩
 · cases hv
 · obtain ⟨i, hi, rfl⟩ := List.mem_iff_getElem.1 hv
   obtain ⟨cs, -, -, hw⟩ := hh i _ (List.getElem?_eq_getElem hi)
   exact hw
theorem pd_of_trod {fuel : Nat} {cs : List Value} {x : DataW H × List MemPlace} (h : DataW.trod enc Tryz.prog W 0 sp true fuel 75 cs = some x) : ∃ p : PD, (∃ pa pc ba bc, cs = p.cells pa pc ba bc ∧ VDs AllB W p.params pa ∧ p.body.sits AllB W ba) ∧ p.wf := by
 obtain ⟨xs, n, rfl, -, hl, hlen, hf⟩ := DataW.trod_struct Tryz.underlying75 h; rw [cPD] at hl; obtain ⟨c0, c1, c2, c3, c4, c5, rfl⟩ := len6 hl; obtain ⟨y0, e0⟩ := get_of_len (i := 0) hlen (by decide); obtain ⟨y1, e1⟩ := get_of_len (i := 1) hlen (by decide); obtain ⟨y2, e2⟩ := get_of_len (i := 2) hlen (by decide); have f0 : DataW.trod enc Tryz.prog W 0 sp true n 9 (([c0, c1, c2, c3, c4, c5].drop 0).take (Tryz.prog.cellsOf 9)) = some y0 := (hf 0 _ rfl).trans e0; have f1 : DataW.trod enc Tryz.prog W 0 sp true n 35 (([c0, c1, c2, c3, c4, c5].drop 1).take (Tryz.prog.cellsOf 35)) = some y1 := (hf 1 _ rfl).trans e1; have f2 : DataW.trod enc Tryz.prog W 0 sp true n 24 (([c0, c1, c2, c3, c4, c5].drop 2).take (Tryz.prog.cellsOf 24)) = some y2 := (hf 2 _ rfl).trans e2; simp only [cVDs, cells9, cellsNode, List.drop_zero, List.drop_succ_cons, List.take_succ_cons, List.take_zero] at f0 f1 f2; obtain ⟨s, hs, -, ws⟩ := DataW.trod_string underStr f0; obtain ⟨l, pa, pc, hc, hll, hlw, hls⟩ := vds_of_trod enc W sp f1; obtain ⟨t, ba, bc, hcs, hw, hsit⟩ := node_of_trod enc W sp (n + 1) n (by omega) _ _ f2; simp only [List.cons.injEq, and_true] at hs hcs; obtain ⟨rfl, rfl, rfl, rfl⟩ := hcs; subst hs hc
 have ws' : s.data.toList.length ≤ 9223372036854775807 := by
  have : s.data.toList.length = s.size := by rw [Array.length_toList]; rfl
  unfold maxLen at ws; omega
 exact ⟨⟨s.data.toList, l, t⟩, ⟨pa, pc, ba, bc, rfl, hls, hsit⟩, ws', hll, hlw, hw⟩
theorem pg_of_trod {fuel : Nat} {cs : List Value} {x : DataW H × List MemPlace} (h : DataW.trod enc Tryz.prog W 0 sp true fuel 38 cs = some x) : ∃ (g : PG) (va : Option Addr) (vc : Nat) (pa : Option Addr) (pc : Nat) (ma : Option Addr) (mc : Nat), cs = g.cells va vc pa pc ma mc ∧ g.wf ∧ g.sits AllB W va pa ma := by
 obtain ⟨xs, n, rfl, -, hl, hlen, hf⟩ := DataW.trod_struct Tryz.underlying38 h; rw [cPG] at hl; obtain ⟨c0, c1, c2, c3, c4, c5, rfl⟩ := len6 hl; obtain ⟨y0, e0⟩ := get_of_len (i := 0) hlen (by decide); obtain ⟨y1, e1⟩ := get_of_len (i := 1) hlen (by decide); obtain ⟨y2, e2⟩ := get_of_len (i := 2) hlen (by decide); have f0 : DataW.trod enc Tryz.prog W 0 sp true n 35 (([c0, c1, c2, c3, c4, c5].drop 0).take (Tryz.prog.cellsOf 35)) = some y0 := (hf 0 _ rfl).trans e0; have f1 : DataW.trod enc Tryz.prog W 0 sp true n 36 (([c0, c1, c2, c3, c4, c5].drop 1).take (Tryz.prog.cellsOf 36)) = some y1 := (hf 1 _ rfl).trans e1; have f2 : DataW.trod enc Tryz.prog W 0 sp true n 24 (([c0, c1, c2, c3, c4, c5].drop 2).take (Tryz.prog.cellsOf 24)) = some y2 := (hf 2 _ rfl).trans e2; simp only [cVDs, cPDs, cellsNode, List.drop_zero, List.drop_succ_cons, List.take_succ_cons, List.take_zero] at f0 f1 f2; obtain ⟨l, va, vc, hc, hll, hlw, hls⟩ := vds_of_trod enc W sp f0; obtain ⟨ps, pa, pc, hp, hpl, hps⟩ := arr_of_trod (α := PD) enc W sp Tryz.underlying36 cPD (by decide) (fun cs p => (∃ pa pc ba bc, cs = p.cells pa pc ba bc ∧ VDs AllB W p.params pa ∧ p.body.sits AllB W ba) ∧ p.wf) (fun n cs x _ hx => pd_of_trod enc W sp hx) f1; obtain ⟨t, ba, bc, hcs, hw, hsit⟩ := node_of_trod enc W sp (n + 1) n (by omega) _ _ f2; simp only [List.cons.injEq, and_true] at hcs; obtain ⟨rfl, rfl, rfl, rfl⟩ := hcs; subst hc hp; refine ⟨⟨l, ps, t⟩, va, vc, pa, pc, ba, bc, rfl, ⟨hll, hpl, hlw, fun p hp => ?_, hw⟩, ⟨hls, ?_, hsit⟩⟩
 · rcases hps with rfl | ⟨b, o, -, -, hh⟩
   · cases hp
   · obtain ⟨i, hi, rfl⟩ := List.mem_iff_getElem.1 hp
     obtain ⟨cs, -, -, hw⟩ := hh i _ (List.getElem?_eq_getElem hi)
     exact hw
 · refine hps.mono (fun _ h => h) (fun b o p _ _ ⟨cs, r, ⟨pa, pc, ba, bc, e, h1, h2⟩, _⟩ => ?_)
   subst e
   exact ⟨pa, pc, ba, bc, r, h1, h2⟩
end
end Bk
namespace Bk
open Go Go.RowKit Go.Proofs
theorem PrinterRound_d (g : PG) (va : Option Addr) (vc : Nat) (pa : Option Addr) (pc : Nat) (ma : Option Addr) (mc : Nat) (w : World) (hwf : g.wf) (hs : g.sits AllB w va pa ma) (hT : Tabs5 w ∧ Syms w) (hE : Errs w) :
 Calls Tryz.prog 6 #[.agg (g.cells va vc pa pc ma mc).toArray] w fun e w' => e = .returned (.bool true) ∧ Ext w w' := PrinterRound_c g va vc pa pc ma mc w hwf AllB hs hT hE
end Bk
namespace Bk
open Go Go.RowKit Go.Proofs Go.Lib
theorem cells_of_strs {H : Type} {enc : TypeId × Value → H} {P : Program} {w : World} {base : Nat} {sp : Nat → Bool} {held : Bool} {fuel : Nat} {t e : TypeId} {n : Nat} {cs : List Value} {zs : List (List UInt8)} {p : List MemPlace}
 (ht : P.underlying t = some (.array n e)) (he : P.underlying e = some .string) (hce : P.cellsOf e = 1) (hct : P.cellsOf t = n)
 (h : DataW.trod enc P w base sp held fuel t cs = some (.agg (zs.map fun z => .lit (.string z)), p)) : cs = zs.map str := by
 cases fuel with
 | zero => simp [DataW.trod] at h
 | succ fuel =>
  simp only [DataW.trod, ht, hce, hct, Nat.mul_one] at h
  split at h
  · rename_i hl
    obtain ⟨xs, hm, hx⟩ := Option.map_eq_some_iff.1 h
    have hxs : xs.map (·.1) = zs.map fun z => (DataW.lit (.string z) : DataW H) := by
     have := congrArg Prod.fst hx
     simpa using this
    have hxl : xs.length = n := by simpa using mapM_length hm
    have hzl : zs.length = n := by
     have := congrArg List.length hxs
     simp at this
     omega
    apply List.ext_getElem?
    intro i
    by_cases hi : i < n
    · obtain ⟨b, hb, hf⟩ := mapM_at hm i i (by simp [hi])
      obtain ⟨z, hc, rfl, _⟩ := DataW.trod_string he hf
      have h1 : cs[i]? = some (.string z) := by
       have := congrArg (·[0]?) hc
       simpa [List.getElem?_take, List.getElem?_drop] using this
      have h2 : (xs.map (·.1))[i]? = some (DataW.lit (.string z.data.toList) : DataW H) := by simp [hb]
      rw [hxs] at h2; simp only [List.getElem?_map, Option.map_eq_some_iff, DataW.lit.injEq, Lit.string.injEq] at h2; obtain ⟨z', hz', rfl⟩ := h2
      simp [h1, hz']
    · rw [List.getElem?_eq_none (by omega), List.getElem?_eq_none (by simp; omega)]
  · cases h
end Bk
namespace Bk
open Go Go.RowKit Go.Proofs Go.Lib
theorem gSym4 : Tryz.prog.globalNamed "backstep/arith.symbols" = some 0 := by kernel_rfl
theorem gSymT4 : (Tryz.prog.globals[0]?).map (·.type) = some 111 := by kernel_rfl
theorem uSymT4 : Tryz.prog.underlying 111 = some (.array 43 9) := by kernel_rfl
theorem cSymT4 : Tryz.prog.cellsOf 111 = 43 := by kernel_rfl
theorem uStr4 : Tryz.prog.underlying 9 = some .string := by kernel_rfl
theorem cStr4 : Tryz.prog.cellsOf 9 = 1 := by kernel_rfl
theorem gErr4 : Tryz.prog.globalNamed "strconv.ErrRange" = some 4 := by kernel_rfl
theorem gErrT4 : (Tryz.prog.globals[4]?).map (·.type) = some 105 := by kernel_rfl
theorem uErr4 : ∃ ms, Tryz.prog.underlying 105 = some (.interface ms) := ⟨_, Tryz.underlying105⟩
theorem symData4 : (YtajjbkcpgfgbiaaGreatDoor.Rows.laid_backstep_arith_symbols : DataW Unit) = .agg (symbols.map fun z => .lit (.string z)) := rfl
abbrev laid4 : List (String × DataW Unit) := [("backstep/arith.symbols", YtajjbkcpgfgbiaaGreatDoor.Rows.laid_backstep_arith_symbols), ("math/bits.deBruijn32tab", YtajjbkcpgfgbiaaGreatDoor.Rows.laid_math_bits_deBruijn32tab), ("math/bits.deBruijn64tab", YtajjbkcpgfgbiaaGreatDoor.Rows.laid_math_bits_deBruijn64tab), ("internal/strconv.uint64pow10", YtajjbkcpgfgbiaaGreatDoor.Rows.laid_internal_strconv_uint64pow10), ("strconv.ErrRange", YtajjbkcpgfgbiaaGreatDoor.Rows.laid_strconv_ErrRange), ("strconv.ErrSyntax", YtajjbkcpgfgbiaaGreatDoor.Rows.laid_strconv_ErrSyntax)]
theorem syms_of_laid {W : World} (h : laidMetH Tryz.prog laid4 W) : Syms W ∧ Errs W := by
 have h' : laidMet Tryz.prog laid4 W := h; obtain ⟨ps, ⟨g1, t1, cs1, f1, p1, q1, hg1, ht1, hv1, hd1, ⟨g2, t2, cs2, f2, p2, q2, hg2, ht2, hv2, hd2, ⟨g3, t3, cs3, f3, p3, q3, hg3, ht3, hv3, hd3, ⟨g4, t4, cs4, f4, p4, q4, hg4, ht4, hv4, hd4, ⟨g5, t5, cs5, f5, p5, q5, hg5, ht5, hv5, hd5, -, -⟩, -⟩, -⟩, -⟩, -⟩, -⟩ := h'; obtain rfl := Option.some.inj (gSym4.symm.trans hg1); obtain rfl := Option.some.inj (gSymT4.symm.trans ht1); obtain rfl := Option.some.inj (gErr4.symm.trans hg5); obtain rfl := Option.some.inj (gErrT4.symm.trans ht5); rw [symData4] at hd1; have e1 := cells_of_strs uSymT4 uStr4 cStr4 cSymT4 hd1; refine ⟨⟨fun i hi => ?_⟩, ?_⟩
 · rw [World.var?_cell gSym4 hv1 i, ← Array.getElem?_toList, e1, List.getElem?_map]
   have : symbols[i]? = some (symbols.getD i []) := by
    rw [List.getD_eq_getElem?_getD, List.getElem?_eq_getElem (show i < symbols.length from hi)]; rfl
   rw [this]; rfl
 · obtain ⟨ms, hu⟩ := uErr4
   obtain ⟨f, u, v, hc, -, -⟩ := iface_of_trod hu hd5; refine ⟨⟨u, v, ?_⟩⟩; rw [World.var?_cell gErr4 hv5 0, ← Array.getElem?_toList, hc]
   rfl
end Bk
namespace Bk
open Go Go.RowKit Go.Proofs Go.Lib
theorem gPow5 : Tryz.prog.globalNamed "internal/strconv.uint64pow10" = some 1 := by kernel_rfl
theorem gPowT5 : (Tryz.prog.globals[1]?).map (·.type) = some 135 := by kernel_rfl
theorem uPowT5 : Tryz.prog.underlying 135 = some (.array 20 127) := by kernel_rfl
theorem uU645 : Tryz.prog.underlying 127 = some (.int .u64) := by kernel_rfl
theorem cU645 : Tryz.prog.cellsOf 127 = 1 := by kernel_rfl
theorem cPowT5 : Tryz.prog.cellsOf 135 = 20 := by kernel_rfl
theorem powData5 : (YtajjbkcpgfgbiaaGreatDoor.Rows.laid_internal_strconv_uint64pow10 : DataW Unit) = tabData .u64 pow10Tab := rfl
theorem heap5_of_laid {W : World} (h : laidMetH Tryz.prog laid4 W) : Tryz.prog.globals.size ≤ W.heap.size := by
 have h' : laidMet Tryz.prog laid4 W := h; obtain ⟨ps, ⟨g1, t1, cs1, f1, p1, q1, hg1, ht1, hv1, hd1, ⟨g2, t2, cs2, f2, p2, q2, hg2, ht2, hv2, hd2, ⟨g3, t3, cs3, f3, p3, q3, hg3, ht3, hv3, hd3, -, -⟩, -⟩, -⟩, -⟩ := h'
 have hg : Tryz.prog.globalNamed "math/bits.deBruijn64tab" = some 6 := by kernel_rfl
 have hn : Tryz.prog.globals.size ≤ 6 + 1 := of_decide_eq_true (by kernel_rfl); obtain rfl := Option.some.inj (hg.symm.trans hg3)
 rcases Nat.lt_or_ge 6 W.heap.size with hlt | hge
 · omega
 · unfold World.var? at hv3
   rw [hg] at hv3
   simp [Array.getElem?_eq_none hge] at hv3
theorem tabs5_of_laid {W : World} (h : laidMetH Tryz.prog laid4 W) : (Tabs5 W ∧ Syms W) ∧ Errs W := by
 obtain ⟨hS, hE⟩ := syms_of_laid h; have hg := heap5_of_laid h; have h' : laidMet Tryz.prog laid4 W := h; obtain ⟨ps, ⟨g1, t1, cs1, f1, p1, q1, hg1, ht1, hv1, hd1, ⟨g2, t2, cs2, f2, p2, q2, hg2, ht2, hv2, hd2, ⟨g3, t3, cs3, f3, p3, q3, hg3, ht3, hv3, hd3, ⟨g4, t4, cs4, f4, p4, q4, hg4, ht4, hv4, hd4, -, -⟩, -⟩, -⟩, -⟩, -⟩ := h'; obtain rfl := Option.some.inj (gPow5.symm.trans hg4); obtain rfl := Option.some.inj (gPowT5.symm.trans ht4); rw [powData5] at hd4; have e4 := cells_of_tab uPowT5 uU645 cU645 cPowT5 hd4; refine ⟨⟨⟨⟨hS.sym, ?_⟩, hg⟩, hS⟩, hE⟩
 unfold TabIs
 rw [hv4, ← e4]
end Bk
