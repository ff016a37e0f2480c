/- The statement PrinterPrograms of layer 5 holds: for every program that the form reads, the call returns true and leaves the program as it was. No condition beyond the row's own; the card's tables are tied by the given tie. -/
import Derived.Test.YtkadkafapjhhkaaDoorCards
import Derived.Test.YtkadkafapjhhkaaDoorTie
import Derived.Test.YtkadkafapjhhkaaDoorLawProgs
import Derived.Test.YtkadkafapjhhkaaDoorLaid
import Derived.Test.YtkadkafapjhhkaaDoorReadP
import Derived.ProofKit
import Derived.OpenShut
import Derived.Deep.DeepHandedRow
namespace Go.Proofs.YtkadkafapjhhkaaDoor.printerPrograms
open Go.ChangeShapes Go.WideShapes Go.ChangeAt Go.RowKit
theorem own : ownKnob Tryd.prog.godebug = none := by kernel_rfl
theorem laidOut : laidOutB Tryd.prog = true := by kernel_rfl
theorem uProg : ∃ fs, Tryd.prog.underlying 35 = some (.struct fs) := ⟨_, Tryd.underlying35⟩

set_option maxRecDepth 100000 in
theorem contract (H : Type) (enc : TypeId × Value → H) (W : World) (base : Nat) (args : Array Value) (ds gs : List (DataW H)) (before : List MemPlace)
    (hval : ∀ (j : Nat) t v, Tryd.f5.params[j]? = some t → args[j]? = some v → Value.okWide Tryd.prog W .any base t v)
    (hW : DataW.Whole enc Tryd.prog Tryd.f5.params.toList Rows.printerProgramsSpec.vars false W args.toList ds gs before) (hL : laidMetH Tryd.prog Rows.printerProgramsRow.laid W) :
    Calls Tryd.prog 5 args W fun e W' => ∃ v, e = .returned v ∧ Rows.printerProgramsSpec.post enc Tryd.prog Tryd.f5 false true false false W args v W' := by
  have hW' := hW
  obtain ⟨p, q, hA0, hV, rfl, hfz, hnd⟩ := hW
  have hA : DataW.TrodAll enc Tryd.prog W 0 (fun _ => true) true Tryd.f5.params.toList args.toList ds p := hA0
  rw [Tryd.params5] at hA hval
  obtain ⟨v0, vs0, d0, ds0, p0, q0, hargs, rfl, rfl, h0, r0⟩ := trodAll_cons hA
  obtain ⟨rfl, rfl, rfl⟩ := trodAll_nil r0
  obtain rfl : args = #[v0] := by cases args; simp_all
  obtain ⟨rfl, rfl⟩ := trodVars_none hV
  clear hA0
  simp only [List.append_nil] at hW'
  obtain ⟨cs, rfl, hcs, -⟩ : ∃ cs, v0 = .agg cs ∧ cs.size = Tryd.prog.cellsOf 35 ∧ True := by
    have := hval 0 35 v0 rfl rfl
    unfold Value.okWide at this
    rw [Tryd.underlying35] at this
    obtain ⟨cs, h1, h2, -⟩ := this
    exact ⟨cs, h1, h2, trivial⟩
  have h0k := h0
  obtain ⟨fuel, hf⟩ := h0
  obtain ⟨g, va, vc, pa, pc, ma, mc, hcl, hwf, hsits⟩ := Bk.pg_of_trod enc W (fun _ => true) hf
  have hce : cs = (g.cells va vc pa pc ma mc).toArray := by
    apply Array.ext'
    exact hcl
  subst hce
  have hlt : ∀ x ∈ p0, x.block < W.heap.size := fun x hx => by simpa using hW'.lt x (by simpa using hx)
  refine (Bk.PrinterPrograms_w g Bk.AllB va vc pa pc ma mc W hwf (Bk.tabs_of_laid hL) (Bk.heap_of_laid hL) hsits).mono fun e W' ⟨he, hx⟩ => ?_
  subst he
  refine ⟨_, rfl, _, _, _, [], p0 ++ [], [], hW', ?_, ?_, rfl, Below.frame hx _, fun h => by cases h⟩
  · exact trodAll_cons_mk (shut_bool Tryd.underlying4 _) trodAll_mk0
  · exact trodAll_cons_mk (Below.trod laidOut (by kernel_rfl) (of_decide_eq_true (by kernel_rfl)) h0k hx hlt) trodAll_mk0

def setB (w : World) (g : Nat) (vs : Array Value) : World := { w with heap := w.heap.modify g fun
      | .cells _ t frozen => .cells vs t frozen
      | o => o }
def strs (l : List (List UInt8)) : Array Value := (l.map Bk.str).toArray
def ints (k : IntKind) (l : List Int) : Array Value := (l.map (Value.int k)).toArray
noncomputable def laidWorld (os : Os) : World :=
  setB (setB (setB (setB (World.holding Tryd.prog os ⟨#[], #[], []⟩) 0 (strs Bk.symbols)) 1 (ints .u64 Lib.pow10Tab))
    3 (ints .u8 [0, 1, 28, 2, 29, 14, 24, 3, 30, 22, 20, 15, 25, 17, 4, 8, 31, 27, 13, 23, 21, 19, 16, 7, 26, 12, 18, 6, 11, 5, 10, 9]))
    4 (ints .u8 [0, 1, 56, 2, 57, 49, 28, 3, 61, 58, 42, 50, 38, 29, 17, 4, 62, 47, 59, 36, 45, 43, 51, 22, 53, 39, 33, 30, 24, 18, 12, 5, 63, 55, 48, 27, 60, 41, 37, 16, 46, 35, 44, 21, 52, 32, 23, 11, 54, 26, 40, 15, 34, 20, 31, 10, 25, 14, 19, 9, 13, 8, 7, 6])
abbrev arg0 : Value := .agg #[.slice none 0 0, .slice none 0 0, .int .u8 0, .int .i64 0, .string ⟨#[]⟩, .slice none 0 0]
set_option maxRecDepth 100000 in
theorem laid_met (os : Os) : laidMet Tryd.prog Rows.printerProgramsRow.laid ((laidWorld os).forCall (fun _ _ => 0) ⟨#[], #[arg0], []⟩).memory :=
  laidMet_of_run' 8 (by kernel_rfl) (by kernel_rfl)
set_option maxRecDepth 100000 in
theorem reads (os : Os) {H : Type} (enc : TypeId × Value → H) : ∃ places, DataW.whole enc Tryd.prog ((laidWorld os).forCall (fun _ _ => 0) ⟨#[], #[arg0], []⟩).memory Tryd.f5.params.toList Rows.printerProgramsSpec.vars false #[arg0].toList 8 = some ([.agg [.nil, .nil, .agg [.lit (.int .u8 0), .lit (.int .i64 0), .lit (.string []), .nil]]], [], places) :=
  ⟨[], by kernel_rfl⟩
set_option maxRecDepth 100000 in
theorem lifted (os : Os) (started : os.Started) (H : Type) (enc : TypeId × Value → H) (F : Stop.Interp) :
    ReturnsInHanded {} Tryd.checked os 5 .any ((OpenSpec.ofChange Rows.printerProgramsSpec).preRow enc Tryd.prog Tryd.f5 Rows.printerProgramsRow.domain false Rows.printerProgramsRow.laid) (((OpenSpec.ofChange Rows.printerProgramsSpec).at F).post enc Tryd.prog Tryd.f5 false true false false) := by
  obtain ⟨places, hx⟩ := reads os enc
  refine returnsInHanded_of_row (C := Tryd.checked) (s := OpenSpec.ofChange Rows.printerProgramsSpec) own started (by kernel_rfl) Tryd.func5
    (witness_row_at (enc := enc) (C := Tryd.checked) false (laidWorld os) #[arg0] rfl (by kernel_rfl) (by kernel_rfl) (by kernel_rfl)
      (OpenSpec.preRow_of_cond 8 hx (by kernel_rfl) (fun k hk => by cases hk) (by kernel_rfl) (laid_met os))) ?_
  intro W base args ds gs before hval hW _ _ _ hL _ _
  exact contract H enc W base args ds gs before hval hW hL
theorem said : Rows.PrinterProgramsSaid :=
  OpenClaim.holds_of_cond 5 Tryd.f5 rfl rfl rfl rfl rfl rfl rfl ⟨rfl, rfl, rfl, rfl, rfl⟩ rfl rfl rfl rfl rfl (by kernel_rfl) Tryd.func5 (by kernel_rfl)
    (of_decide_eq_true (by kernel_rfl)) (by unfold Func.isWrapper; first | (rw [if_pos (by decide +kernel)]; kernel_rfl) | (rw [if_neg (by decide +kernel)]; exact ⟨rfl, rfl⟩))
    (fun os started H enc _ F => by rw [OpenClaim.pre_eq_preRow]; exact lifted os started H enc F)
theorem plain (f : FuncId) (fn : Func) (hf : Tryd.pinned.checked.prog.funcNamed "backstep/backsteplaw05.PrinterPrograms" = some f) (hfn : Tryd.pinned.checked.prog.funcs[f]? = some fn) :
    false = Tryd.pinned.checked.prog.looks [] ∧ ∀ (j : Nat) t, fn.params[j]? = some t → Tryd.pinned.checked.prog.wantsStandIn t = false := by
  obtain rfl : f = 5 := Option.some.inj ((show Tryd.prog.funcNamed "backstep/backsteplaw05.PrinterPrograms" = some 5 by kernel_rfl).symm.trans hf) |>.symm
  obtain rfl : fn = Tryd.f5 := (Option.some.inj (Tryd.func5.symm.trans hfn)).symm
  refine ⟨by kernel_rfl, fun j t ht => ?_⟩
  rw [Tryd.params5] at ht
  obtain rfl : t = 35 := by simpa using Array.mem_of_getElem? ht
  exact (show Tryd.prog.wantsStandIn 35 = false by kernel_rfl)
theorem card : Rows.PrinterProgramsCardSaid :=
  Claim7.holds_tied_plain_at .later [] _ _ _ _ said (fun _ h => by cases h) (by kernel_rfl) (fun _ h => by cases h) printerPrograms_row_tie rfl ⟨rfl, rfl⟩ (by kernel_rfl) rfl plain (by kernel_rfl)
end Go.Proofs.YtkadkafapjhhkaaDoor.printerPrograms
