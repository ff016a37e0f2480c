/- Declarations and programs: plain data, how they lie in memory, when they are valid. Contracts of ast.declared, limited, isBody, Valid. -/
import Derived.Test.YtkadkafapjhhkaaDoorEng4
import Derived.Test.YtkadkafapjhhkaaDoorIsStmt
import Derived.IntWalk
namespace Bk
open Go Go.RowKit Go.Proofs
structure VD where
  name : List UInt8
  kind : Int
  len : Int
structure PD where
  name : List UInt8
  params : List VD
  body : Nd
structure PG where
  vars : List VD
  procs : List PD
  main : Nd
abbrev VD.cells (v : VD) : List Value := [str v.name, .int .u8 v.kind, .int .i64 v.len]
abbrev VD.val (v : VD) : Value := .agg #[str v.name, .int .u8 v.kind, .int .i64 v.len]
def VDAt (w : World) (b o : Nat) (v : VD) : Prop := Row w ⟨b, o, none⟩ v.cells
def VDs (S : Nat → Prop) (w : World) (l : List VD) (a : Option Addr) : Prop := Arr S 3 VDAt w l a
abbrev PD.cells (p : PD) (pa : Option Addr) (pc : Nat) (ba : Option Addr) (bc : Nat) : List Value := [str p.name, .slice pa p.params.length pc, .int .u8 p.body.kind, .int .i64 p.body.num, str p.body.name, .slice ba p.body.kids.length bc]
def PDAt (S : Nat → Prop) (w : World) (b o : Nat) (p : PD) : Prop := ∃ pa pc ba bc, Row w ⟨b, o, none⟩ (p.cells pa pc ba bc) ∧ VDs S w p.params pa ∧ p.body.sits S w ba
def PDs (S : Nat → Prop) (w : World) (l : List PD) (a : Option Addr) : Prop := Arr S 6 (PDAt S) w l a
theorem VDs.ext {S : Nat → Prop} {w w' : World} {l : List VD} {a : Option Addr} (h : VDs S w l a) (x : Ext w w') : VDs S w' l a := h.mono (fun _ h => h) (fun _ _ _ _ _ h => Row.ext h x)
theorem PDs.ext {S : Nat → Prop} {w w' : World} {l : List PD} {a : Option Addr} (h : PDs S w l a) (x : Ext w w') : PDs S w' l a :=
  h.mono (fun _ h => h) (fun _ _ _ _ _ ⟨pa, pc, ba, bc, h1, h2, h3⟩ => ⟨pa, pc, ba, bc, h1.ext x, h2.ext x, h3.ext x⟩)
structure VD.wf (v : VD) : Prop where
  name : v.name.length ≤ 9223372036854775807
  k0 : 0 ≤ v.kind
  k1 : v.kind ≤ 255
  l0 : -9223372036854775808 ≤ v.len
  l1 : v.len ≤ 9223372036854775807
def VD.ok (v : VD) : Bool := isName v.name && if v.kind = 1 ∨ v.kind = 3 then v.len == 0 else if v.kind = 2 then decide (1 ≤ v.len) && decide (v.len ≤ 16) else false
def allOk (l : List VD) : Bool := l.all VD.ok
theorem allOk_false {l : List VD} {j : Nat} (h : j < l.length) (hk : l[j].ok = false) : allOk l = false := by
  unfold allOk
  rw [List.all_eq_false]
  exact ⟨l[j], List.getElem_mem h, by simp [hk]⟩
theorem allOk_true {l : List VD} (h : ∀ j (hj : j < l.length), l[j].ok = true) : allOk l = true := by
  unfold allOk
  rw [List.all_eq_true]
  intro x hx
  obtain ⟨i, hi, rfl⟩ := List.mem_iff_getElem.1 hx
  exact h i hi
set_option maxRecDepth 100000 in
set_option maxHeartbeats 1000000 in
theorem declared_c (l : List VD) (S : Nat → Prop) (a : Option Addr) (c : Nat) (w : World) (hl : l.length ≤ 9223372036854775807) (hwf : ∀ v ∈ l, v.wf) (hs : VDs S w l a) :
    Calls Tryd.prog 39 #[.slice a l.length c] w fun e w' => e = .returned (.bool (allOk l)) ∧ Ext w w' := by
  refine calls_in Tryd.func39 Tryd.ntmps39 rfl rfl ?_
  (refine cw_seq ?_; refine cw_region ?_; (refine lw_is ?_; refine lw_pure (by exact pur_assign rfl) rfl ?_); refine lw_nil ?_; refine qw_then ?_; refine cw_seq ?_; refine cw_seq ?_; refine cw_region ?_; (refine lw_is ?_; refine lw_pure (by exact pur_move rfl) rfl ?_); (refine lw_is ?_; refine lw_pure (by exact pur_len_slice tabOk rfl rfl) rfl ?_); (refine lw_is ?_; refine lw_pure (by exact pur_move rfl) rfl ?_); refine lw_nil ?_; refine qw_then ?_; refine cw_block ?_)
  refine cw_loop (ι := Nat) (fun j => [(7, .int .i64 j), (6, .int .i64 l.length), (5, .slice a l.length c)]) (fun j w' => Ext w w' ∧ j ≤ l.length ∧ ∀ i (hi : i < l.length), i < j → l[i].ok = true) (fun j => l.length - j) 0 (by (refine sub_cons rfl ?_; refine sub_cons rfl ?_; refine sub_cons rfl ?_; exact sub_nil)) ⟨Ext.refl _, by omega, by omega⟩ ?_
  rintro j w1 ⟨x1, hj, hall⟩
  have HA := Lib.hid hall; clear hall
  by_cases hlt : j < l.length
  · obtain ⟨kb, ko, rfl, -, hkid⟩ := (hs.ext x1).get (by omega)
    have rx : Row w1 ⟨kb, ko + j * 3, none⟩ l[j].cells := hkid j l[j] (List.getElem?_eq_getElem hlt)
    have wf := hwf l[j] (List.getElem_mem hlt)
    have wf1 := wf.name
    have HF : l[j].ok = false → allOk l = false := allOk_false hlt
    have HN := Lib.hid HF
    clear HF hkid
    generalize hv : l[j] = v at *
    have HE := Lib.hid hv; clear hv
    (refine cw_seq ?_; refine cw_region ?_; (refine lw_is ?_; refine lw_pure (by exact pur_lss rfl rfl) rfl ?_); refine lw_nil ?_; refine qw_then ?_; refine cw_seq ?_; (refine cw_is ?_; refine cw_yes rfl (by omega) ?_); refine cw_skip ?_; refine qw_then ?_; refine cw_seq ?_; refine cw_block ?_; refine cw_seq ?_; refine cw_region ?_; (refine lw_is ?_; refine lw_pure (by exact pur_indexAddr tabOk rfl rfl rfl rfl (by omega) (by omega)) rfl ?_); (refine lw_is ?_; refine lw_pure (by exact pur_loads' tabOk rfl rfl rfl (by exact fun wz hz => by (try subst hz); exact (by assumption)) (by rfl)) rfl ?_))
    refine lw_alloc zOk rfl rfl ?_
    intro b2 w2 hn2
    refine lw_init tabOk rfl rfl rfl rfl rfl rfl (hn2) rfl ?_
    clear hn2 w2
    intro w2 hn2
    have h2 := hn2.blk
    have x2 := hn2.ext
    (refine lw_nil ?_; refine qw_then ?_; refine cw_seq ?_; refine cw_seq ?_; refine cw_region ?_; (refine lw_is ?_; refine lw_pure (by exact pur_fieldAddr0 tabOk rfl rfl rfl) rfl ?_); (refine lw_is ?_; refine lw_pure (by exact pur_load tabOk rfl rfl rfl (by exact fun wz hz => by (try subst hz); exact (Blk.cell (by assumption) (by rfl)))) rfl ?_))
    refine lw_does (does_call (by kernel_rfl) rfl (Name_c v.name _ wf1) (fun _ _ h => ⟨_, h.1⟩)) rfl ?_ (fun _ h => h)
    rintro _ w3 ⟨⟨⟩, x3⟩
    have xx3 : Ext w w3 := (by refine Ext.trans ?_ (by assumption); refine Ext.trans ?_ (by assumption); assumption)
    have h3 := h2.ext x3
    cases hnm : isName v.name
    · try rw [hnm]
      ((refine lw_is ?_; refine lw_pure (by exact pur_not rfl) rfl ?_); refine lw_nil ?_; refine qw_then ?_; (refine cw_is ?_; refine cw_bt rfl (by rfl) ?_); refine cw_seq ?_; refine cw_region ?_; (refine lw_is ?_; refine lw_pure (by exact pur_assign rfl) rfl ?_); refine lw_nil ?_; refine qw_then ?_; refine cw_ret ?_; refine qw_then_ret ?_; refine qw_block_ret ?_; refine qw_then_ret ?_; refine qw_then_ret ?_; refine qw_block_ret ?_; refine qw_then_ret ?_)
      refine qw_ret1 Tryd.results39 rfl ?_
      exact ⟨ret_bool (HN.out (by simp [VD.ok, hnm])).symm, xx3⟩
    try rw [hnm]
    by_cases hk : v.kind = 1 ∨ v.kind = 3
    · by_cases h0 : v.len = 0
      · have hok : v.ok = true := by simp [VD.ok, hnm, hk, h0]
        rcases hk with hk | hk
        · ((refine lw_is ?_; refine lw_pure (by exact pur_not rfl) rfl ?_); refine lw_nil ?_; refine qw_then ?_; (refine cw_is ?_; refine cw_bf rfl (by rfl) ?_); refine cw_skip ?_; refine qw_then ?_; refine cw_seq ?_; refine cw_region ?_; (refine lw_is ?_; refine lw_pure (by exact pur_fieldAddr tabOk rfl rfl rfl) rfl ?_); (refine lw_is ?_; refine lw_pure (by exact pur_load tabOk rfl rfl rfl (by exact fun wz hz => by (try subst hz); exact (Blk.cell (by assumption) (by rfl)))) rfl ?_); refine lw_nil ?_; refine qw_then ?_; refine cw_block ?_; refine cw_seq ?_; refine cw_seq ?_; refine cw_region ?_; (refine lw_is ?_; refine lw_pure (by exact pur_eql rfl rfl) rfl ?_); (refine lw_is ?_; refine lw_pure (by exact pur_assign rfl) rfl ?_); refine lw_nil ?_; refine qw_then ?_; (refine cw_is ?_; refine cw_yes rfl (by assumption) ?_); refine cw_skip ?_; refine qw_then ?_; (refine cw_is ?_; refine cw_yes rfl (by assumption) ?_); refine cw_seq ?_; refine cw_region ?_; (refine lw_is ?_; refine lw_pure (by exact pur_fieldAddr tabOk rfl rfl rfl) rfl ?_); (refine lw_is ?_; refine lw_pure (by exact pur_load tabOk rfl rfl rfl (by exact fun wz hz => by (try subst hz); exact (Blk.cell (by assumption) (by rfl)))) rfl ?_); (refine lw_is ?_; refine lw_pure (by exact pur_neq rfl rfl) rfl ?_); refine lw_nil ?_; refine qw_then ?_; (refine cw_is ?_; refine cw_no rfl (by omega) ?_); refine cw_skip ?_; refine qw_block_norm ?_; refine qw_block_norm ?_; refine qw_then ?_; refine cw_region ?_; (refine lw_is ?_; refine lw_pure (by exact pur_add rfl rfl (IntWalk.i64_in _ (by omega))) rfl ?_); (refine lw_is ?_; refine lw_pure (by exact pur_move rfl) rfl ?_); refine lw_nil ?_)
          refine qw_round (j + 1) (by (refine sub_cons rfl ?_; refine sub_cons rfl ?_; refine sub_cons rfl ?_; exact sub_nil)) ⟨xx3, by omega, fun i hi hij => ?_⟩ (by omega)
          by_cases e : i = j
          · subst e; exact HE.out ▸ hok
          · exact HA.out i hi (by omega)
        · ((refine lw_is ?_; refine lw_pure (by exact pur_not rfl) rfl ?_); refine lw_nil ?_; refine qw_then ?_; (refine cw_is ?_; refine cw_bf rfl (by rfl) ?_); refine cw_skip ?_; refine qw_then ?_; refine cw_seq ?_; refine cw_region ?_; (refine lw_is ?_; refine lw_pure (by exact pur_fieldAddr tabOk rfl rfl rfl) rfl ?_); (refine lw_is ?_; refine lw_pure (by exact pur_load tabOk rfl rfl rfl (by exact fun wz hz => by (try subst hz); exact (Blk.cell (by assumption) (by rfl)))) rfl ?_); refine lw_nil ?_; refine qw_then ?_; refine cw_block ?_; refine cw_seq ?_; refine cw_seq ?_; refine cw_region ?_; (refine lw_is ?_; refine lw_pure (by exact pur_eql rfl rfl) rfl ?_); (refine lw_is ?_; refine lw_pure (by exact pur_assign rfl) rfl ?_); refine lw_nil ?_; refine qw_then ?_; (refine cw_is ?_; refine cw_no rfl (by omega) ?_); refine cw_region ?_; (refine lw_is ?_; refine lw_pure (by exact pur_eql rfl rfl) rfl ?_); (refine lw_is ?_; refine lw_pure (by exact pur_assign rfl) rfl ?_); refine lw_nil ?_; refine qw_then ?_; (refine cw_is ?_; refine cw_yes rfl (by assumption) ?_); refine cw_seq ?_; refine cw_region ?_; (refine lw_is ?_; refine lw_pure (by exact pur_fieldAddr tabOk rfl rfl rfl) rfl ?_); (refine lw_is ?_; refine lw_pure (by exact pur_load tabOk rfl rfl rfl (by exact fun wz hz => by (try subst hz); exact (Blk.cell (by assumption) (by rfl)))) rfl ?_); (refine lw_is ?_; refine lw_pure (by exact pur_neq rfl rfl) rfl ?_); refine lw_nil ?_; refine qw_then ?_; (refine cw_is ?_; refine cw_no rfl (by omega) ?_); refine cw_skip ?_; refine qw_block_norm ?_; refine qw_block_norm ?_; refine qw_then ?_; refine cw_region ?_; (refine lw_is ?_; refine lw_pure (by exact pur_add rfl rfl (IntWalk.i64_in _ (by omega))) rfl ?_); (refine lw_is ?_; refine lw_pure (by exact pur_move rfl) rfl ?_); refine lw_nil ?_)
          refine qw_round (j + 1) (by (refine sub_cons rfl ?_; refine sub_cons rfl ?_; refine sub_cons rfl ?_; exact sub_nil)) ⟨xx3, by omega, fun i hi hij => ?_⟩ (by omega)
          by_cases e : i = j
          · subst e; exact HE.out ▸ hok
          · exact HA.out i hi (by omega)
      · have hok : v.ok = false := by simp [VD.ok, hnm, hk, h0]
        rcases hk with hk | hk
        · ((refine lw_is ?_; refine lw_pure (by exact pur_not rfl) rfl ?_); refine lw_nil ?_; refine qw_then ?_; (refine cw_is ?_; refine cw_bf rfl (by rfl) ?_); refine cw_skip ?_; refine qw_then ?_; refine cw_seq ?_; refine cw_region ?_; (refine lw_is ?_; refine lw_pure (by exact pur_fieldAddr tabOk rfl rfl rfl) rfl ?_); (refine lw_is ?_; refine lw_pure (by exact pur_load tabOk rfl rfl rfl (by exact fun wz hz => by (try subst hz); exact (Blk.cell (by assumption) (by rfl)))) rfl ?_); refine lw_nil ?_; refine qw_then ?_; refine cw_block ?_; refine cw_seq ?_; refine cw_seq ?_; refine cw_region ?_; (refine lw_is ?_; refine lw_pure (by exact pur_eql rfl rfl) rfl ?_); (refine lw_is ?_; refine lw_pure (by exact pur_assign rfl) rfl ?_); refine lw_nil ?_; refine qw_then ?_; (refine cw_is ?_; refine cw_yes rfl (by assumption) ?_); refine cw_skip ?_; refine qw_then ?_; (refine cw_is ?_; refine cw_yes rfl (by assumption) ?_); refine cw_seq ?_; refine cw_region ?_; (refine lw_is ?_; refine lw_pure (by exact pur_fieldAddr tabOk rfl rfl rfl) rfl ?_); (refine lw_is ?_; refine lw_pure (by exact pur_load tabOk rfl rfl rfl (by exact fun wz hz => by (try subst hz); exact (Blk.cell (by assumption) (by rfl)))) rfl ?_); (refine lw_is ?_; refine lw_pure (by exact pur_neq rfl rfl) rfl ?_); refine lw_nil ?_; refine qw_then ?_; (refine cw_is ?_; refine cw_yes rfl (by assumption) ?_); refine cw_seq ?_; refine cw_region ?_; (refine lw_is ?_; refine lw_pure (by exact pur_assign rfl) rfl ?_); refine lw_nil ?_; refine qw_then ?_; refine cw_ret ?_; refine qw_block_ret ?_; refine qw_block_ret ?_; refine qw_then_ret ?_; refine qw_then_ret ?_; refine qw_block_ret ?_; refine qw_then_ret ?_)
          refine qw_ret1 Tryd.results39 rfl ?_
          exact ⟨ret_bool (HN.out hok).symm, xx3⟩
        · ((refine lw_is ?_; refine lw_pure (by exact pur_not rfl) rfl ?_); refine lw_nil ?_; refine qw_then ?_; (refine cw_is ?_; refine cw_bf rfl (by rfl) ?_); refine cw_skip ?_; refine qw_then ?_; refine cw_seq ?_; refine cw_region ?_; (refine lw_is ?_; refine lw_pure (by exact pur_fieldAddr tabOk rfl rfl rfl) rfl ?_); (refine lw_is ?_; refine lw_pure (by exact pur_load tabOk rfl rfl rfl (by exact fun wz hz => by (try subst hz); exact (Blk.cell (by assumption) (by rfl)))) rfl ?_); refine lw_nil ?_; refine qw_then ?_; refine cw_block ?_; refine cw_seq ?_; refine cw_seq ?_; refine cw_region ?_; (refine lw_is ?_; refine lw_pure (by exact pur_eql rfl rfl) rfl ?_); (refine lw_is ?_; refine lw_pure (by exact pur_assign rfl) rfl ?_); refine lw_nil ?_; refine qw_then ?_; (refine cw_is ?_; refine cw_no rfl (by omega) ?_); refine cw_region ?_; (refine lw_is ?_; refine lw_pure (by exact pur_eql rfl rfl) rfl ?_); (refine lw_is ?_; refine lw_pure (by exact pur_assign rfl) rfl ?_); refine lw_nil ?_; refine qw_then ?_; (refine cw_is ?_; refine cw_yes rfl (by assumption) ?_); refine cw_seq ?_; refine cw_region ?_; (refine lw_is ?_; refine lw_pure (by exact pur_fieldAddr tabOk rfl rfl rfl) rfl ?_); (refine lw_is ?_; refine lw_pure (by exact pur_load tabOk rfl rfl rfl (by exact fun wz hz => by (try subst hz); exact (Blk.cell (by assumption) (by rfl)))) rfl ?_); (refine lw_is ?_; refine lw_pure (by exact pur_neq rfl rfl) rfl ?_); refine lw_nil ?_; refine qw_then ?_; (refine cw_is ?_; refine cw_yes rfl (by assumption) ?_); refine cw_seq ?_; refine cw_region ?_; (refine lw_is ?_; refine lw_pure (by exact pur_assign rfl) rfl ?_); refine lw_nil ?_; refine qw_then ?_; refine cw_ret ?_; refine qw_block_ret ?_; refine qw_block_ret ?_; refine qw_then_ret ?_; refine qw_then_ret ?_; refine qw_block_ret ?_; refine qw_then_ret ?_)
          refine qw_ret1 Tryd.results39 rfl ?_
          exact ⟨ret_bool (HN.out hok).symm, xx3⟩
    · have hk1 : v.kind ≠ 1 := fun e => hk (Or.inl e)
      have hk3 : v.kind ≠ 3 := fun e => hk (Or.inr e)
      by_cases hk2 : v.kind = 2
      · by_cases hlo : v.len < 1
        · have hok : v.ok = false := by simp [VD.ok, hnm, hk2]; omega
          ((refine lw_is ?_; refine lw_pure (by exact pur_not rfl) rfl ?_); refine lw_nil ?_; refine qw_then ?_; (refine cw_is ?_; refine cw_bf rfl (by rfl) ?_); refine cw_skip ?_; refine qw_then ?_; refine cw_seq ?_; refine cw_region ?_; (refine lw_is ?_; refine lw_pure (by exact pur_fieldAddr tabOk rfl rfl rfl) rfl ?_); (refine lw_is ?_; refine lw_pure (by exact pur_load tabOk rfl rfl rfl (by exact fun wz hz => by (try subst hz); exact (Blk.cell (by assumption) (by rfl)))) rfl ?_); refine lw_nil ?_; refine qw_then ?_; refine cw_block ?_; refine cw_seq ?_; refine cw_seq ?_; refine cw_region ?_; (refine lw_is ?_; refine lw_pure (by exact pur_eql rfl rfl) rfl ?_); (refine lw_is ?_; refine lw_pure (by exact pur_assign rfl) rfl ?_); refine lw_nil ?_; refine qw_then ?_; (refine cw_is ?_; refine cw_no rfl (by assumption) ?_); refine cw_region ?_; (refine lw_is ?_; refine lw_pure (by exact pur_eql rfl rfl) rfl ?_); (refine lw_is ?_; refine lw_pure (by exact pur_assign rfl) rfl ?_); refine lw_nil ?_; refine qw_then ?_; (refine cw_is ?_; refine cw_no rfl (by assumption) ?_); refine cw_seq ?_; refine cw_region ?_; (refine lw_is ?_; refine lw_pure (by exact pur_eql rfl rfl) rfl ?_); (refine lw_is ?_; refine lw_pure (by exact pur_assign rfl) rfl ?_); refine lw_nil ?_; refine qw_then ?_; (refine cw_is ?_; refine cw_yes rfl (by assumption) ?_); refine cw_seq ?_; refine cw_region ?_; (refine lw_is ?_; refine lw_pure (by exact pur_fieldAddr tabOk rfl rfl rfl) rfl ?_); (refine lw_is ?_; refine lw_pure (by exact pur_load tabOk rfl rfl rfl (by exact fun wz hz => by (try subst hz); exact (Blk.cell (by assumption) (by rfl)))) rfl ?_); (refine lw_is ?_; refine lw_pure (by exact pur_lss rfl rfl) rfl ?_); (refine lw_is ?_; refine lw_pure (by exact pur_move rfl) rfl ?_); (refine lw_isg ?_; refine lw_off_yes rfl rfl rfl (by assumption) rfl ?_); (refine lw_isg ?_; refine lw_off_yes rfl rfl rfl (by assumption) rfl ?_); (refine lw_isg ?_; refine lw_off_yes rfl rfl rfl (by assumption) rfl ?_); (refine lw_is ?_; refine lw_pure (by exact pur_pick_yes rfl rfl (by assumption)) rfl ?_); refine lw_nil ?_; refine qw_then ?_; (refine cw_is ?_; refine cw_bt rfl (by rfl) ?_); refine cw_seq ?_; refine cw_region ?_; (refine lw_is ?_; refine lw_pure (by exact pur_assign rfl) rfl ?_); refine lw_nil ?_; refine qw_then ?_; refine cw_ret ?_; refine qw_block_ret ?_; refine qw_block_ret ?_; refine qw_then_ret ?_; refine qw_then_ret ?_; refine qw_block_ret ?_; refine qw_then_ret ?_)
          refine qw_ret1 Tryd.results39 rfl ?_
          exact ⟨ret_bool (HN.out hok).symm, xx3⟩
        · by_cases hhi : 16 < v.len
          · have hok : v.ok = false := by simp [VD.ok, hnm, hk2]; omega
            ((refine lw_is ?_; refine lw_pure (by exact pur_not rfl) rfl ?_); refine lw_nil ?_; refine qw_then ?_; (refine cw_is ?_; refine cw_bf rfl (by rfl) ?_); refine cw_skip ?_; refine qw_then ?_; refine cw_seq ?_; refine cw_region ?_; (refine lw_is ?_; refine lw_pure (by exact pur_fieldAddr tabOk rfl rfl rfl) rfl ?_); (refine lw_is ?_; refine lw_pure (by exact pur_load tabOk rfl rfl rfl (by exact fun wz hz => by (try subst hz); exact (Blk.cell (by assumption) (by rfl)))) rfl ?_); refine lw_nil ?_; refine qw_then ?_; refine cw_block ?_; refine cw_seq ?_; refine cw_seq ?_; refine cw_region ?_; (refine lw_is ?_; refine lw_pure (by exact pur_eql rfl rfl) rfl ?_); (refine lw_is ?_; refine lw_pure (by exact pur_assign rfl) rfl ?_); refine lw_nil ?_; refine qw_then ?_; (refine cw_is ?_; refine cw_no rfl (by assumption) ?_); refine cw_region ?_; (refine lw_is ?_; refine lw_pure (by exact pur_eql rfl rfl) rfl ?_); (refine lw_is ?_; refine lw_pure (by exact pur_assign rfl) rfl ?_); refine lw_nil ?_; refine qw_then ?_; (refine cw_is ?_; refine cw_no rfl (by assumption) ?_); refine cw_seq ?_; refine cw_region ?_; (refine lw_is ?_; refine lw_pure (by exact pur_eql rfl rfl) rfl ?_); (refine lw_is ?_; refine lw_pure (by exact pur_assign rfl) rfl ?_); refine lw_nil ?_; refine qw_then ?_; (refine cw_is ?_; refine cw_yes rfl (by assumption) ?_); refine cw_seq ?_; refine cw_region ?_; (refine lw_is ?_; refine lw_pure (by exact pur_fieldAddr tabOk rfl rfl rfl) rfl ?_); (refine lw_is ?_; refine lw_pure (by exact pur_load tabOk rfl rfl rfl (by exact fun wz hz => by (try subst hz); exact (Blk.cell (by assumption) (by rfl)))) rfl ?_); (refine lw_is ?_; refine lw_pure (by exact pur_lss rfl rfl) rfl ?_); (refine lw_is ?_; refine lw_pure (by exact pur_move rfl) rfl ?_); (refine lw_isg ?_; refine lw_on_no rfl rfl rfl (by assumption) ?_); (refine lw_is ?_; refine lw_pure (by exact pur_fieldAddr tabOk rfl rfl rfl) rfl ?_); (refine lw_isg ?_; refine lw_on_no rfl rfl rfl (by assumption) ?_); (refine lw_is ?_; refine lw_pure (by exact pur_load tabOk rfl rfl rfl (by exact fun wz hz => by (try subst hz); exact (Blk.cell (by assumption) (by rfl)))) rfl ?_); (refine lw_isg ?_; refine lw_on_no rfl rfl rfl (by assumption) ?_); (refine lw_is ?_; refine lw_pure (by exact pur_gtr rfl rfl) rfl ?_); (refine lw_is ?_; refine lw_pure (by exact pur_pick_no rfl rfl (by assumption)) rfl ?_); refine lw_nil ?_; refine qw_then ?_; (refine cw_is ?_; refine cw_yes rfl (by assumption) ?_); refine cw_seq ?_; refine cw_region ?_; (refine lw_is ?_; refine lw_pure (by exact pur_assign rfl) rfl ?_); refine lw_nil ?_; refine qw_then ?_; refine cw_ret ?_; refine qw_block_ret ?_; refine qw_block_ret ?_; refine qw_then_ret ?_; refine qw_then_ret ?_; refine qw_block_ret ?_; refine qw_then_ret ?_)
            refine qw_ret1 Tryd.results39 rfl ?_
            exact ⟨ret_bool (HN.out hok).symm, xx3⟩
          · have hok : v.ok = true := by simp [VD.ok, hnm, hk2]; omega
            ((refine lw_is ?_; refine lw_pure (by exact pur_not rfl) rfl ?_); refine lw_nil ?_; refine qw_then ?_; (refine cw_is ?_; refine cw_bf rfl (by rfl) ?_); refine cw_skip ?_; refine qw_then ?_; refine cw_seq ?_; refine cw_region ?_; (refine lw_is ?_; refine lw_pure (by exact pur_fieldAddr tabOk rfl rfl rfl) rfl ?_); (refine lw_is ?_; refine lw_pure (by exact pur_load tabOk rfl rfl rfl (by exact fun wz hz => by (try subst hz); exact (Blk.cell (by assumption) (by rfl)))) rfl ?_); refine lw_nil ?_; refine qw_then ?_; refine cw_block ?_; refine cw_seq ?_; refine cw_seq ?_; refine cw_region ?_; (refine lw_is ?_; refine lw_pure (by exact pur_eql rfl rfl) rfl ?_); (refine lw_is ?_; refine lw_pure (by exact pur_assign rfl) rfl ?_); refine lw_nil ?_; refine qw_then ?_; (refine cw_is ?_; refine cw_no rfl (by assumption) ?_); refine cw_region ?_; (refine lw_is ?_; refine lw_pure (by exact pur_eql rfl rfl) rfl ?_); (refine lw_is ?_; refine lw_pure (by exact pur_assign rfl) rfl ?_); refine lw_nil ?_; refine qw_then ?_; (refine cw_is ?_; refine cw_no rfl (by assumption) ?_); refine cw_seq ?_; refine cw_region ?_; (refine lw_is ?_; refine lw_pure (by exact pur_eql rfl rfl) rfl ?_); (refine lw_is ?_; refine lw_pure (by exact pur_assign rfl) rfl ?_); refine lw_nil ?_; refine qw_then ?_; (refine cw_is ?_; refine cw_yes rfl (by assumption) ?_); refine cw_seq ?_; refine cw_region ?_; (refine lw_is ?_; refine lw_pure (by exact pur_fieldAddr tabOk rfl rfl rfl) rfl ?_); (refine lw_is ?_; refine lw_pure (by exact pur_load tabOk rfl rfl rfl (by exact fun wz hz => by (try subst hz); exact (Blk.cell (by assumption) (by rfl)))) rfl ?_); (refine lw_is ?_; refine lw_pure (by exact pur_lss rfl rfl) rfl ?_); (refine lw_is ?_; refine lw_pure (by exact pur_move rfl) rfl ?_); (refine lw_isg ?_; refine lw_on_no rfl rfl rfl (by assumption) ?_); (refine lw_is ?_; refine lw_pure (by exact pur_fieldAddr tabOk rfl rfl rfl) rfl ?_); (refine lw_isg ?_; refine lw_on_no rfl rfl rfl (by assumption) ?_); (refine lw_is ?_; refine lw_pure (by exact pur_load tabOk rfl rfl rfl (by exact fun wz hz => by (try subst hz); exact (Blk.cell (by assumption) (by rfl)))) rfl ?_); (refine lw_isg ?_; refine lw_on_no rfl rfl rfl (by assumption) ?_); (refine lw_is ?_; refine lw_pure (by exact pur_gtr rfl rfl) rfl ?_); (refine lw_is ?_; refine lw_pure (by exact pur_pick_no rfl rfl (by assumption)) rfl ?_); refine lw_nil ?_; refine qw_then ?_; (refine cw_is ?_; refine cw_no rfl (by assumption) ?_); refine cw_skip ?_; refine qw_block_norm ?_; refine qw_block_norm ?_; refine qw_then ?_; refine cw_region ?_; (refine lw_is ?_; refine lw_pure (by exact pur_add rfl rfl (IntWalk.i64_in _ (by omega))) rfl ?_); (refine lw_is ?_; refine lw_pure (by exact pur_move rfl) rfl ?_); refine lw_nil ?_)
            refine qw_round (j + 1) (by (refine sub_cons rfl ?_; refine sub_cons rfl ?_; refine sub_cons rfl ?_; exact sub_nil)) ⟨xx3, by omega, fun i hi hij => ?_⟩ (by omega)
            by_cases e : i = j
            · subst e; exact HE.out ▸ hok
            · exact HA.out i hi (by omega)
      · have hok : v.ok = false := by simp [VD.ok, hnm, hk1, hk2, hk3]
        ((refine lw_is ?_; refine lw_pure (by exact pur_not rfl) rfl ?_); refine lw_nil ?_; refine qw_then ?_; (refine cw_is ?_; refine cw_bf rfl (by rfl) ?_); refine cw_skip ?_; refine qw_then ?_; refine cw_seq ?_; refine cw_region ?_; (refine lw_is ?_; refine lw_pure (by exact pur_fieldAddr tabOk rfl rfl rfl) rfl ?_); (refine lw_is ?_; refine lw_pure (by exact pur_load tabOk rfl rfl rfl (by exact fun wz hz => by (try subst hz); exact (Blk.cell (by assumption) (by rfl)))) rfl ?_); refine lw_nil ?_; refine qw_then ?_; refine cw_block ?_; refine cw_seq ?_; refine cw_seq ?_; refine cw_region ?_; (refine lw_is ?_; refine lw_pure (by exact pur_eql rfl rfl) rfl ?_); (refine lw_is ?_; refine lw_pure (by exact pur_assign rfl) rfl ?_); refine lw_nil ?_; refine qw_then ?_; (refine cw_is ?_; refine cw_no rfl (by assumption) ?_); refine cw_region ?_; (refine lw_is ?_; refine lw_pure (by exact pur_eql rfl rfl) rfl ?_); (refine lw_is ?_; refine lw_pure (by exact pur_assign rfl) rfl ?_); refine lw_nil ?_; refine qw_then ?_; (refine cw_is ?_; refine cw_no rfl (by assumption) ?_); refine cw_seq ?_; refine cw_region ?_; (refine lw_is ?_; refine lw_pure (by exact pur_eql rfl rfl) rfl ?_); (refine lw_is ?_; refine lw_pure (by exact pur_assign rfl) rfl ?_); refine lw_nil ?_; refine qw_then ?_; (refine cw_is ?_; refine cw_no rfl (by assumption) ?_); refine cw_seq ?_; refine cw_region ?_; (refine lw_is ?_; refine lw_pure (by exact pur_assign rfl) rfl ?_); refine lw_nil ?_; refine qw_then ?_; refine cw_ret ?_; refine qw_block_ret ?_; refine qw_block_ret ?_; refine qw_then_ret ?_; refine qw_then_ret ?_; refine qw_block_ret ?_; refine qw_then_ret ?_)
        refine qw_ret1 Tryd.results39 rfl ?_
        exact ⟨ret_bool (HN.out hok).symm, xx3⟩
  · (refine cw_seq ?_; refine cw_region ?_; (refine lw_is ?_; refine lw_pure (by exact pur_lss rfl rfl) rfl ?_); refine lw_nil ?_; refine qw_then ?_; refine cw_seq ?_; (refine cw_is ?_; refine cw_no rfl (by omega) ?_); refine cw_exit ?_; refine qw_then_exit ?_; refine qw_then_exit ?_; refine qw_block_exit ?_; refine qw_then ?_; refine cw_seq ?_; refine cw_region ?_; (refine lw_is ?_; refine lw_pure (by exact pur_assign rfl) rfl ?_); refine lw_nil ?_; refine qw_then ?_; refine cw_ret ?_)
    refine qw_ret1 Tryd.results39 rfl ?_
    exact ⟨ret_bool (allOk_true (fun i hi => HA.out i hi (by omega))).symm, x1⟩
end Bk
