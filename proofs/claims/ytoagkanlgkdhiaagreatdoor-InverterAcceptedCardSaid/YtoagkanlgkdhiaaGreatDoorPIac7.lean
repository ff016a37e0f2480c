/- Texts that the proofs of InverterAccepted need. No condition. (Part 7 of 8.) -/
import Derived.Test.YtoagkanlgkdhiaaGreatDoorPIac6
set_option linter.unusedSimpArgs false
set_option linter.unusedVariables false
namespace Bk
open Go Go.RowKit Go.Proofs
def PDCAt (S : Nat → Prop) (w : World) (b o : Nat) (p : PD) : Prop := ∃ pa pc ba bc, Row w ⟨b, o, none⟩ (p.cells pa pc ba bc) ∧ VDs S w p.params pa ∧ p.body.sits S w ba ∧ p.params.length ≤ pc
def PDsC (S : Nat → Prop) (w : World) (l : List PD) (a : Option Addr) : Prop := Arr S 6 (PDCAt S) w l a
theorem PDsC.pds {S : Nat → Prop} {w : World} {l : List PD} {a : Option Addr} (h : PDsC S w l a) : PDs S w l a := h.mono (fun _ h => h) (fun _ _ _ _ _ ⟨pa, pc, ba, bc, h1, h2, h3, _⟩ => ⟨pa, pc, ba, bc, h1, h2, h3⟩)
theorem PDsC.ext {S : Nat → Prop} {w w' : World} {l : List PD} {a : Option Addr} (h : PDsC S w l a) (x : Ext w w') : PDsC S w' l a :=
 h.mono (fun _ h => h) (fun _ _ _ _ _ ⟨pa, pc, ba, bc, h1, h2, h3, h4⟩ => ⟨pa, pc, ba, bc, h1.ext x, h2.ext x, h3.ext x, h4⟩)
theorem PDsC.fr {S T : Nat → Prop} {w w' : World} {l : List PD} {a : Option Addr} (h : PDsC S w l a) (x : Fr T w w') (hs : ∀ b, S b → ¬ T b) : PDsC S w' l a :=
 h.mono (fun _ h => h) (fun b _ _ _ hb ⟨pa, pc, ba, bc, h1, h2, h3, h4⟩ => ⟨pa, pc, ba, bc, h1.fr x (hs b hb), h2.fr x hs, h3.fr x hs, h4⟩)
theorem PDsC.get {S : Nat → Prop} {w : World} {l : List PD} {a : Option Addr} (h : PDsC S w l a) (hl : l ≠ []) : ∃ b o, a = some ⟨b, o, none⟩ ∧ S b ∧ ∀ i p, l[i]? = some p → PDCAt S w b (o + i * 6) p := by
 rcases h with h | ⟨b, o, h1, h2, h3⟩
 · exact absurd h hl
 · exact ⟨b, o, h1, h2, fun i v hi => h3 i v hi⟩
theorem PDsC.ltA {S : Nat → Prop} {w : World} {l : List PD} {a : Option Addr} (h : PDsC S w l a) : PDsC (· < w.heap.size) w l a := by
 rcases h with h | ⟨b, o, h1, h2, h3⟩
 · exact Or.inl h
 · cases l with
   | nil => exact Or.inl rfl
   | cons p r =>
    obtain ⟨pa, pc, ba, bc, r0, -⟩ := h3 0 p rfl; refine Or.inr ⟨b, o, h1, cell_lt (r0.at0 rfl), fun i v hi => ?_⟩; obtain ⟨pa, pc, ba, bc, k1, k2, k3, k4⟩ := h3 i v hi
    exact ⟨pa, pc, ba, bc, k1, k2.lt2.wide (fun _ h => h.2), sits_ltA _ _ k3, k4⟩
def pdShapeC : Shape PD where
 sz := 6
 rep := fun w S p cs => ∃ pa pc ba bc, cs = p.cells pa pc ba bc ∧ VDs S w p.params pa ∧ p.body.sits S w ba ∧ p.params.length ≤ pc
 len := fun ⟨_, _, _, _, h, _⟩ => by rw [h]; rfl
 one := fun ⟨_, _, _, _, h, _⟩ => by rw [h]; rfl
 mono := fun ⟨pa, pc, ba, bc, h, h1, h2, h3⟩ hS hc => ⟨pa, pc, ba, bc, h, h1.move hS hc, Nd.sits_mono hS hc _ ba h2, h3⟩
 lt := fun ⟨pa, pc, ba, bc, h, h1, h2, h3⟩ => ⟨pa, pc, ba, bc, h, h1.lt2, sits_lt2 _ ba h2, h3⟩
theorem PDsC.wide {S S' : Nat → Prop} {w : World} {l : List PD} {a : Option Addr} (h : PDsC S w l a) (hS : ∀ b, S b → S' b) : PDsC S' w l a :=
 h.mono hS (fun _ _ _ _ _ ⟨pa, pc, ba, bc, h1, h2, h3, h4⟩ => ⟨pa, pc, ba, bc, h1, h2.wide hS, Nd.sits.wide h3 hS, h4⟩)
theorem OwnL.pdsC {w : World} {B e : Nat} {a : Option Addr} {len cap : Nat} {xs : List PD} {S : Nat → Prop} (h : OwnL pdShapeC w B e (.slice a len cap) xs) (hS : ∀ b, B ≤ b → S b) : PDsC S w xs a := by
 by_cases hx : xs = []
 · exact Or.inl hx
 · obtain ⟨g, cap', hv, hg, hall⟩ := h.rows hx
   simp only [Value.slice.injEq] at hv; obtain ⟨rfl, -, -⟩ := hv; refine Or.inr ⟨g, 0, rfl, hS g hg, fun i x hi => ?_⟩; obtain ⟨cs, hr, pa, pc, ba, bc, rfl, h1, h2, h3⟩ := hall i x hi
   exact ⟨pa, pc, ba, bc, by simpa [pdShapeC] using hr, h1.wide (fun b hb => hS b hb.1), h2.wide (fun b hb => hS b hb.1), h3⟩
end Bk
namespace Bk
open Go Go.RowKit Go.Proofs
theorem twiceF_take : ∀ (l acc : List VD) (i : Nat) (h : i < l.length), twiceF acc (l.take (i + 1)) = twiceF acc (l.take i) + b01 (freshE (acc ++ l.take i) (l[i]).name)
 | v :: r, acc, 0, _ => by simp [twiceF]
 | v :: r, acc, i + 1, h => by
  simp only [List.take_succ_cons, twiceF, List.getElem_cons_succ]; rw [twiceF_take r (acc ++ [v]) i (by simpa using h)]; simp only [List.append_assoc, List.singleton_append]
  omega
theorem twiceF_le : ∀ (l acc : List VD), twiceF acc l ≤ l.length
 | [], _ => by simp [twiceF]
 | v :: r, acc => by
  have := b01_le (freshE acc v.name); have := twiceF_le r (acc ++ [v])
  simp only [twiceF, List.length_cons]; omega
def procF (ps : List PD) (i : Nat) (p : PD) : Nat := (if (procI ps p.name).getD i < i then 1 else 0) + twiceF [] p.params + p.body.flt ps p.params
theorem procsF_take (ps : List PD) : ∀ (l : List PD) (i j : Nat) (h : j < l.length), procsF ps i (l.take (j + 1)) = procsF ps i (l.take j) + procF ps (i + j) l[j]
 | p :: r, i, 0, _ => by simp [procsF, procF]
 | p :: r, i, j + 1, h => by
  simp only [List.take_succ_cons, procsF, List.getElem_cons_succ]; rw [procsF_take ps r (i + 1) j (by simpa using h)]; rw [show i + 1 + j = i + (j + 1) by omega]
  omega
theorem procN_lt {ps : List PD} {i : Nat} (h : i < ps.length) : decide (procN ps (ps[i]).name < (i : Int)) = decide ((procI ps (ps[i]).name).getD i < i) := by
 unfold procN
 cases hq : procI ps (ps[i]).name with
 | none =>
  exfalso
  unfold procI at hq
  rw [List.findIdx?_eq_none_iff] at hq; have := hq ps[i] (List.getElem_mem h)
  simp at this
 | some j => simp
end Bk
namespace Bk
open Go
def VD.ok (v : VD) : Bool := isName v.name && if v.kind = 1 ∨ v.kind = 3 then v.len == 0 else if v.kind = 2 then decide (1 ≤ v.len) && decide (v.len ≤ 16) else false
def allOk (l : List VD) : Bool := l.all VD.ok
mutual
def Nd.lim : Nd → Int → Int → Bool × Int
 | .mk _ _ _ l, d, m => if d = 0 ∨ m = 0 then (false, m) else rowLim l (d - 1) (m - 1)
def rowLim : List Nd → Int → Int → Bool × Int
 | [], _, m => (true, m)
 | t :: r, d, m => if (t.lim d m).1 then rowLim r d (t.lim d m).2 else (false, (t.lim d m).2)
end
def bodyOk (t : Nd) : Bool := (t.lim 80 2000).1 && t.isBlock
def PD.ok (p : PD) : Bool := isName p.name && decide (p.params.length ≤ 8) && allOk p.params && bodyOk p.body
def PG.ok (g : PG) : Bool := decide (g.vars.length ≤ 32) && decide (g.procs.length ≤ 64) && allOk g.vars && g.procs.all PD.ok && bodyOk g.main
end Bk
namespace Bk
open Go Go.RowKit Go.Proofs
structure VD.wf (v : VD) : Prop where
 name : v.name.length ≤ 9223372036854775807
 k0 : 0 ≤ v.kind
 k1 : v.kind ≤ 255
 l0 : -9223372036854775808 ≤ v.len
 l1 : v.len ≤ 9223372036854775807
theorem allOk_false {l : List VD} {j : Nat} (h : j < l.length) (hk : l[j].ok = false) : allOk l = false := by
 unfold allOk
 rw [List.all_eq_false]
 exact ⟨l[j], List.getElem_mem h, by simp [hk]⟩
theorem allOk_true {l : List VD} (h : ∀ j (hj : j < l.length), l[j].ok = true) : allOk l = true := by
 unfold allOk
 rw [List.all_eq_true]; intro x hx; obtain ⟨i, hi, rfl⟩ := List.mem_iff_getElem.1 hx
 exact h i hi
set_option maxRecDepth 100000 in
set_option maxHeartbeats 1000000 in
theorem declared_c (l : List VD) (S : Nat → Prop) (a : Option Addr) (c : Nat) (w : World) (hl : l.length ≤ 9223372036854775807) (hwf : ∀ v ∈ l, v.wf) (hs : VDs S w l a) :
 Calls Tryz.prog 16 #[.slice a l.length c] w fun e w' => e = .returned (.bool (allOk l)) ∧ Ext w w' := by
 refine calls_in Tryz.func16 Tryz.ntmps16 rfl rfl ?_; (refine cw_seq ?_; refine cw_region ?_; (refine lw_is ?_; refine lw_pure (by exact pur_assign rfl) rfl ?_); refine lw_nil ?_; refine qw_then ?_; refine cw_seq ?_; refine cw_seq ?_; refine cw_region ?_; (refine lw_is ?_; refine lw_pure (by exact pur_move rfl) rfl ?_); (refine lw_is ?_; refine lw_pure (by exact pur_len_slice tabOk rfl rfl) rfl ?_); (refine lw_is ?_; refine lw_pure (by exact pur_move rfl) rfl ?_); refine lw_nil ?_; refine qw_then ?_; refine cw_block ?_); refine cw_loop (ι := Nat) (fun j => [(7, .int .i64 j), (6, .int .i64 l.length), (5, .slice a l.length c)]) (fun j w' => Ext w w' ∧ j ≤ l.length ∧ ∀ i (hi : i < l.length), i < j → l[i].ok = true) (fun j => l.length - j) 0 (by (refine sub_cons rfl ?_; refine sub_cons rfl ?_; refine sub_cons rfl ?_; exact sub_nil)) ⟨Ext.refl _, by omega, by omega⟩ ?_; rintro j w1 ⟨x1, hj, hall⟩
 have HA := Lib.hid hall; clear hall
 by_cases hlt : j < l.length
 · obtain ⟨kb, ko, rfl, -, hkid⟩ := Arr.get (hs.ext x1) (by omega)
   have rx : Row w1 ⟨kb, ko + j * 3, none⟩ l[j].cells := hkid j l[j] (List.getElem?_eq_getElem hlt); have wf := hwf l[j] (List.getElem_mem hlt); have wf1 := wf.name; have HF : l[j].ok = false → allOk l = false := allOk_false hlt; have HN := Lib.hid HF; clear HF hkid
   generalize hv : l[j] = v at *
   have HE := Lib.hid hv; clear hv
   (refine cw_seq ?_; refine cw_region ?_; (refine lw_is ?_; refine lw_pure (by exact pur_lss rfl rfl) rfl ?_); refine lw_nil ?_; refine qw_then ?_; refine cw_seq ?_; (refine cw_is ?_; refine cw_yes rfl (by omega) ?_); refine cw_skip ?_; refine qw_then ?_; refine cw_seq ?_; refine cw_block ?_; refine cw_seq ?_; refine cw_region ?_; (refine lw_is ?_; refine lw_pure (by exact pur_indexAddr tabOk rfl rfl rfl rfl (by omega) (by omega)) rfl ?_); (refine lw_is ?_; refine lw_pure (by exact pur_loads' tabOk rfl rfl rfl (by exact fun wz hz => by (try subst hz); exact (by assumption)) (by rfl)) rfl ?_)); refine lw_alloc zOk rfl rfl ?_; intro b2 w2 hn2; refine lw_init tabOk rfl rfl rfl rfl rfl rfl (hn2) rfl ?_; clear hn2 w2; intro w2 hn2; have h2 := hn2.blk; have x2 := hn2.ext; (refine lw_nil ?_; refine qw_then ?_; refine cw_seq ?_; refine cw_seq ?_; refine cw_region ?_; (refine lw_is ?_; refine lw_pure (by exact pur_fieldAddr0 tabOk rfl rfl rfl) rfl ?_); (refine lw_is ?_; refine lw_pure (by exact pur_load tabOk rfl rfl rfl (by exact fun wz hz => by (try subst hz); exact (Blk.cell (by assumption) (by rfl)))) rfl ?_)); refine cC rfl (Name_c v.name _ wf1) ?_; rintro _ w3 ⟨⟨⟩, x3⟩; have xx3 : Ext w w3 := (by refine Ext.trans ?_ (by assumption); refine Ext.trans ?_ (by assumption); assumption); have h3 := h2.ext x3
   cases hnm : isName v.name
   · try rw [hnm]
     ((refine lw_is ?_; refine lw_pure (by exact pur_not rfl) rfl ?_); refine lw_nil ?_; refine qw_then ?_; (refine cw_is ?_; refine cw_bt rfl (by rfl) ?_); refine cw_seq ?_; refine cw_region ?_; (refine lw_is ?_; refine lw_pure (by exact pur_assign rfl) rfl ?_); refine lw_nil ?_; refine qw_then ?_; refine cw_ret ?_; refine qw_then_ret ?_; refine qw_block_ret ?_; refine qw_then_ret ?_; refine qw_then_ret ?_; refine qw_block_ret ?_; refine qw_then_ret ?_)
     refine qw_ret1 Tryz.results16 rfl ?_
     exact ⟨ret_bool (HN.out (by simp [VD.ok, hnm])).symm, xx3⟩
   try rw [hnm]
   by_cases hk : v.kind = 1 ∨ v.kind = 3
   · by_cases h0 : v.len = 0
     · have hok : v.ok = true := by simp [VD.ok, hnm, hk, h0]
       rcases hk with hk | hk
       · ((refine lw_is ?_; refine lw_pure (by exact pur_not rfl) rfl ?_); refine lw_nil ?_; refine qw_then ?_; (refine cw_is ?_; refine cw_bf rfl (by rfl) ?_); refine cw_skip ?_; refine qw_then ?_; refine cw_seq ?_; refine cw_region ?_; (refine lw_is ?_; refine lw_pure (by exact pur_fieldAddr tabOk rfl rfl rfl) rfl ?_); (refine lw_is ?_; refine lw_pure (by exact pur_load tabOk rfl rfl rfl (by exact fun wz hz => by (try subst hz); exact (Blk.cell (by assumption) (by rfl)))) rfl ?_); refine lw_nil ?_; refine qw_then ?_; refine cw_block ?_; refine cw_seq ?_; refine cw_seq ?_; refine cw_region ?_; (refine lw_is ?_; refine lw_pure (by exact pur_eql rfl rfl) rfl ?_); (refine lw_is ?_; refine lw_pure (by exact pur_assign rfl) rfl ?_); refine lw_nil ?_; refine qw_then ?_; (refine cw_is ?_; refine cw_yes rfl (by assumption) ?_); refine cw_skip ?_; refine qw_then ?_; (refine cw_is ?_; refine cw_yes rfl (by assumption) ?_); refine cw_seq ?_; refine cw_region ?_; (refine lw_is ?_; refine lw_pure (by exact pur_fieldAddr tabOk rfl rfl rfl) rfl ?_); (refine lw_is ?_; refine lw_pure (by exact pur_load tabOk rfl rfl rfl (by exact fun wz hz => by (try subst hz); exact (Blk.cell (by assumption) (by rfl)))) rfl ?_); (refine lw_is ?_; refine lw_pure (by exact pur_neq rfl rfl) rfl ?_); refine lw_nil ?_; refine qw_then ?_; (refine cw_is ?_; refine cw_no rfl (by omega) ?_); refine cw_skip ?_; refine qw_block_norm ?_; refine qw_block_norm ?_; refine qw_then ?_; refine cw_region ?_; (refine lw_is ?_; refine lw_pure (by exact pur_add rfl rfl (IntWalk.i64_in _ (by omega))) rfl ?_); (refine lw_is ?_; refine lw_pure (by exact pur_move rfl) rfl ?_); refine lw_nil ?_)
         refine qw_round (j + 1) (by (refine sub_cons rfl ?_; refine sub_cons rfl ?_; refine sub_cons rfl ?_; exact sub_nil)) ⟨xx3, by omega, fun i hi hij => ?_⟩ (by omega)
         by_cases e : i = j
         · subst e; exact HE.out ▸ hok
         · exact HA.out i hi (by omega)
       · ((refine lw_is ?_; refine lw_pure (by exact pur_not rfl) rfl ?_); refine lw_nil ?_; refine qw_then ?_; (refine cw_is ?_; refine cw_bf rfl (by rfl) ?_); refine cw_skip ?_; refine qw_then ?_; refine cw_seq ?_; refine cw_region ?_; (refine lw_is ?_; refine lw_pure (by exact pur_fieldAddr tabOk rfl rfl rfl) rfl ?_); (refine lw_is ?_; refine lw_pure (by exact pur_load tabOk rfl rfl rfl (by exact fun wz hz => by (try subst hz); exact (Blk.cell (by assumption) (by rfl)))) rfl ?_); refine lw_nil ?_; refine qw_then ?_; refine cw_block ?_; refine cw_seq ?_; refine cw_seq ?_; refine cw_region ?_; (refine lw_is ?_; refine lw_pure (by exact pur_eql rfl rfl) rfl ?_); (refine lw_is ?_; refine lw_pure (by exact pur_assign rfl) rfl ?_); refine lw_nil ?_; refine qw_then ?_; (refine cw_is ?_; refine cw_no rfl (by omega) ?_); refine cw_region ?_; (refine lw_is ?_; refine lw_pure (by exact pur_eql rfl rfl) rfl ?_); (refine lw_is ?_; refine lw_pure (by exact pur_assign rfl) rfl ?_); refine lw_nil ?_; refine qw_then ?_; (refine cw_is ?_; refine cw_yes rfl (by assumption) ?_); refine cw_seq ?_; refine cw_region ?_; (refine lw_is ?_; refine lw_pure (by exact pur_fieldAddr tabOk rfl rfl rfl) rfl ?_); (refine lw_is ?_; refine lw_pure (by exact pur_load tabOk rfl rfl rfl (by exact fun wz hz => by (try subst hz); exact (Blk.cell (by assumption) (by rfl)))) rfl ?_); (refine lw_is ?_; refine lw_pure (by exact pur_neq rfl rfl) rfl ?_); refine lw_nil ?_; refine qw_then ?_; (refine cw_is ?_; refine cw_no rfl (by omega) ?_); refine cw_skip ?_; refine qw_block_norm ?_; refine qw_block_norm ?_; refine qw_then ?_; refine cw_region ?_; (refine lw_is ?_; refine lw_pure (by exact pur_add rfl rfl (IntWalk.i64_in _ (by omega))) rfl ?_); (refine lw_is ?_; refine lw_pure (by exact pur_move rfl) rfl ?_); refine lw_nil ?_)
         refine qw_round (j + 1) (by (refine sub_cons rfl ?_; refine sub_cons rfl ?_; refine sub_cons rfl ?_; exact sub_nil)) ⟨xx3, by omega, fun i hi hij => ?_⟩ (by omega)
         by_cases e : i = j
         · subst e; exact HE.out ▸ hok
         · exact HA.out i hi (by omega)
     · have hok : v.ok = false := by simp [VD.ok, hnm, hk, h0]
       rcases hk with hk | hk
       · ((refine lw_is ?_; refine lw_pure (by exact pur_not rfl) rfl ?_); refine lw_nil ?_; refine qw_then ?_; (refine cw_is ?_; refine cw_bf rfl (by rfl) ?_); refine cw_skip ?_; refine qw_then ?_; refine cw_seq ?_; refine cw_region ?_; (refine lw_is ?_; refine lw_pure (by exact pur_fieldAddr tabOk rfl rfl rfl) rfl ?_); (refine lw_is ?_; refine lw_pure (by exact pur_load tabOk rfl rfl rfl (by exact fun wz hz => by (try subst hz); exact (Blk.cell (by assumption) (by rfl)))) rfl ?_); refine lw_nil ?_; refine qw_then ?_; refine cw_block ?_; refine cw_seq ?_; refine cw_seq ?_; refine cw_region ?_; (refine lw_is ?_; refine lw_pure (by exact pur_eql rfl rfl) rfl ?_); (refine lw_is ?_; refine lw_pure (by exact pur_assign rfl) rfl ?_); refine lw_nil ?_; refine qw_then ?_; (refine cw_is ?_; refine cw_yes rfl (by assumption) ?_); refine cw_skip ?_; refine qw_then ?_; (refine cw_is ?_; refine cw_yes rfl (by assumption) ?_); refine cw_seq ?_; refine cw_region ?_; (refine lw_is ?_; refine lw_pure (by exact pur_fieldAddr tabOk rfl rfl rfl) rfl ?_); (refine lw_is ?_; refine lw_pure (by exact pur_load tabOk rfl rfl rfl (by exact fun wz hz => by (try subst hz); exact (Blk.cell (by assumption) (by rfl)))) rfl ?_); (refine lw_is ?_; refine lw_pure (by exact pur_neq rfl rfl) rfl ?_); refine lw_nil ?_; refine qw_then ?_; (refine cw_is ?_; refine cw_yes rfl (by assumption) ?_); refine cw_seq ?_; refine cw_region ?_; (refine lw_is ?_; refine lw_pure (by exact pur_assign rfl) rfl ?_); refine lw_nil ?_; refine qw_then ?_; refine cw_ret ?_; refine qw_block_ret ?_; refine qw_block_ret ?_; refine qw_then_ret ?_; refine qw_then_ret ?_; refine qw_block_ret ?_; refine qw_then_ret ?_)
         refine qw_ret1 Tryz.results16 rfl ?_
         exact ⟨ret_bool (HN.out hok).symm, xx3⟩
       · ((refine lw_is ?_; refine lw_pure (by exact pur_not rfl) rfl ?_); refine lw_nil ?_; refine qw_then ?_; (refine cw_is ?_; refine cw_bf rfl (by rfl) ?_); refine cw_skip ?_; refine qw_then ?_; refine cw_seq ?_; refine cw_region ?_; (refine lw_is ?_; refine lw_pure (by exact pur_fieldAddr tabOk rfl rfl rfl) rfl ?_); (refine lw_is ?_; refine lw_pure (by exact pur_load tabOk rfl rfl rfl (by exact fun wz hz => by (try subst hz); exact (Blk.cell (by assumption) (by rfl)))) rfl ?_); refine lw_nil ?_; refine qw_then ?_; refine cw_block ?_; refine cw_seq ?_; refine cw_seq ?_; refine cw_region ?_; (refine lw_is ?_; refine lw_pure (by exact pur_eql rfl rfl) rfl ?_); (refine lw_is ?_; refine lw_pure (by exact pur_assign rfl) rfl ?_); refine lw_nil ?_; refine qw_then ?_; (refine cw_is ?_; refine cw_no rfl (by omega) ?_); refine cw_region ?_; (refine lw_is ?_; refine lw_pure (by exact pur_eql rfl rfl) rfl ?_); (refine lw_is ?_; refine lw_pure (by exact pur_assign rfl) rfl ?_); refine lw_nil ?_; refine qw_then ?_; (refine cw_is ?_; refine cw_yes rfl (by assumption) ?_); refine cw_seq ?_; refine cw_region ?_; (refine lw_is ?_; refine lw_pure (by exact pur_fieldAddr tabOk rfl rfl rfl) rfl ?_); (refine lw_is ?_; refine lw_pure (by exact pur_load tabOk rfl rfl rfl (by exact fun wz hz => by (try subst hz); exact (Blk.cell (by assumption) (by rfl)))) rfl ?_); (refine lw_is ?_; refine lw_pure (by exact pur_neq rfl rfl) rfl ?_); refine lw_nil ?_; refine qw_then ?_; (refine cw_is ?_; refine cw_yes rfl (by assumption) ?_); refine cw_seq ?_; refine cw_region ?_; (refine lw_is ?_; refine lw_pure (by exact pur_assign rfl) rfl ?_); refine lw_nil ?_; refine qw_then ?_; refine cw_ret ?_; refine qw_block_ret ?_; refine qw_block_ret ?_; refine qw_then_ret ?_; refine qw_then_ret ?_; refine qw_block_ret ?_; refine qw_then_ret ?_)
         refine qw_ret1 Tryz.results16 rfl ?_
         exact ⟨ret_bool (HN.out hok).symm, xx3⟩
   · have hk1 : v.kind ≠ 1 := fun e => hk (Or.inl e)
     have hk3 : v.kind ≠ 3 := fun e => hk (Or.inr e)
     by_cases hk2 : v.kind = 2
     · by_cases hlo : v.len < 1
       · have hok : v.ok = false := by simp [VD.ok, hnm, hk2]; omega
         ((refine lw_is ?_; refine lw_pure (by exact pur_not rfl) rfl ?_); refine lw_nil ?_; refine qw_then ?_; (refine cw_is ?_; refine cw_bf rfl (by rfl) ?_); refine cw_skip ?_; refine qw_then ?_; refine cw_seq ?_; refine cw_region ?_; (refine lw_is ?_; refine lw_pure (by exact pur_fieldAddr tabOk rfl rfl rfl) rfl ?_); (refine lw_is ?_; refine lw_pure (by exact pur_load tabOk rfl rfl rfl (by exact fun wz hz => by (try subst hz); exact (Blk.cell (by assumption) (by rfl)))) rfl ?_); refine lw_nil ?_; refine qw_then ?_; refine cw_block ?_; refine cw_seq ?_; refine cw_seq ?_; refine cw_region ?_; (refine lw_is ?_; refine lw_pure (by exact pur_eql rfl rfl) rfl ?_); (refine lw_is ?_; refine lw_pure (by exact pur_assign rfl) rfl ?_); refine lw_nil ?_; refine qw_then ?_; (refine cw_is ?_; refine cw_no rfl (by assumption) ?_); refine cw_region ?_; (refine lw_is ?_; refine lw_pure (by exact pur_eql rfl rfl) rfl ?_); (refine lw_is ?_; refine lw_pure (by exact pur_assign rfl) rfl ?_); refine lw_nil ?_; refine qw_then ?_; (refine cw_is ?_; refine cw_no rfl (by assumption) ?_); refine cw_seq ?_; refine cw_region ?_; (refine lw_is ?_; refine lw_pure (by exact pur_eql rfl rfl) rfl ?_); (refine lw_is ?_; refine lw_pure (by exact pur_assign rfl) rfl ?_); refine lw_nil ?_; refine qw_then ?_; (refine cw_is ?_; refine cw_yes rfl (by assumption) ?_); refine cw_seq ?_; refine cw_region ?_; (refine lw_is ?_; refine lw_pure (by exact pur_fieldAddr tabOk rfl rfl rfl) rfl ?_); (refine lw_is ?_; refine lw_pure (by exact pur_load tabOk rfl rfl rfl (by exact fun wz hz => by (try subst hz); exact (Blk.cell (by assumption) (by rfl)))) rfl ?_); (refine lw_is ?_; refine lw_pure (by exact pur_lss rfl rfl) rfl ?_); (refine lw_is ?_; refine lw_pure (by exact pur_move rfl) rfl ?_); (refine lw_isg ?_; refine lw_off_yes rfl rfl rfl (by assumption) rfl ?_); (refine lw_isg ?_; refine lw_off_yes rfl rfl rfl (by assumption) rfl ?_); (refine lw_isg ?_; refine lw_off_yes rfl rfl rfl (by assumption) rfl ?_); (refine lw_is ?_; refine lw_pure (by exact pur_pick_yes rfl rfl (by assumption)) rfl ?_); refine lw_nil ?_; refine qw_then ?_; (refine cw_is ?_; refine cw_bt rfl (by rfl) ?_); refine cw_seq ?_; refine cw_region ?_; (refine lw_is ?_; refine lw_pure (by exact pur_assign rfl) rfl ?_); refine lw_nil ?_; refine qw_then ?_; refine cw_ret ?_; refine qw_block_ret ?_; refine qw_block_ret ?_; refine qw_then_ret ?_; refine qw_then_ret ?_; refine qw_block_ret ?_; refine qw_then_ret ?_)
         refine qw_ret1 Tryz.results16 rfl ?_
         exact ⟨ret_bool (HN.out hok).symm, xx3⟩
       · by_cases hhi : 16 < v.len
         · have hok : v.ok = false := by simp [VD.ok, hnm, hk2]; omega
           ((refine lw_is ?_; refine lw_pure (by exact pur_not rfl) rfl ?_); refine lw_nil ?_; refine qw_then ?_; (refine cw_is ?_; refine cw_bf rfl (by rfl) ?_); refine cw_skip ?_; refine qw_then ?_; refine cw_seq ?_; refine cw_region ?_; (refine lw_is ?_; refine lw_pure (by exact pur_fieldAddr tabOk rfl rfl rfl) rfl ?_); (refine lw_is ?_; refine lw_pure (by exact pur_load tabOk rfl rfl rfl (by exact fun wz hz => by (try subst hz); exact (Blk.cell (by assumption) (by rfl)))) rfl ?_); refine lw_nil ?_; refine qw_then ?_; refine cw_block ?_; refine cw_seq ?_; refine cw_seq ?_; refine cw_region ?_; (refine lw_is ?_; refine lw_pure (by exact pur_eql rfl rfl) rfl ?_); (refine lw_is ?_; refine lw_pure (by exact pur_assign rfl) rfl ?_); refine lw_nil ?_; refine qw_then ?_; (refine cw_is ?_; refine cw_no rfl (by assumption) ?_); refine cw_region ?_; (refine lw_is ?_; refine lw_pure (by exact pur_eql rfl rfl) rfl ?_); (refine lw_is ?_; refine lw_pure (by exact pur_assign rfl) rfl ?_); refine lw_nil ?_; refine qw_then ?_; (refine cw_is ?_; refine cw_no rfl (by assumption) ?_); refine cw_seq ?_; refine cw_region ?_; (refine lw_is ?_; refine lw_pure (by exact pur_eql rfl rfl) rfl ?_); (refine lw_is ?_; refine lw_pure (by exact pur_assign rfl) rfl ?_); refine lw_nil ?_; refine qw_then ?_; (refine cw_is ?_; refine cw_yes rfl (by assumption) ?_); refine cw_seq ?_; refine cw_region ?_; (refine lw_is ?_; refine lw_pure (by exact pur_fieldAddr tabOk rfl rfl rfl) rfl ?_); (refine lw_is ?_; refine lw_pure (by exact pur_load tabOk rfl rfl rfl (by exact fun wz hz => by (try subst hz); exact (Blk.cell (by assumption) (by rfl)))) rfl ?_); (refine lw_is ?_; refine lw_pure (by exact pur_lss rfl rfl) rfl ?_); (refine lw_is ?_; refine lw_pure (by exact pur_move rfl) rfl ?_); (refine lw_isg ?_; refine lw_on_no rfl rfl rfl (by assumption) ?_); (refine lw_is ?_; refine lw_pure (by exact pur_fieldAddr tabOk rfl rfl rfl) rfl ?_); (refine lw_isg ?_; refine lw_on_no rfl rfl rfl (by assumption) ?_); (refine lw_is ?_; refine lw_pure (by exact pur_load tabOk rfl rfl rfl (by exact fun wz hz => by (try subst hz); exact (Blk.cell (by assumption) (by rfl)))) rfl ?_); (refine lw_isg ?_; refine lw_on_no rfl rfl rfl (by assumption) ?_); (refine lw_is ?_; refine lw_pure (by exact pur_gtr rfl rfl) rfl ?_); (refine lw_is ?_; refine lw_pure (by exact pur_pick_no rfl rfl (by assumption)) rfl ?_); refine lw_nil ?_; refine qw_then ?_; (refine cw_is ?_; refine cw_yes rfl (by assumption) ?_); refine cw_seq ?_; refine cw_region ?_; (refine lw_is ?_; refine lw_pure (by exact pur_assign rfl) rfl ?_); refine lw_nil ?_; refine qw_then ?_; refine cw_ret ?_; refine qw_block_ret ?_; refine qw_block_ret ?_; refine qw_then_ret ?_; refine qw_then_ret ?_; refine qw_block_ret ?_; refine qw_then_ret ?_)
           refine qw_ret1 Tryz.results16 rfl ?_
           exact ⟨ret_bool (HN.out hok).symm, xx3⟩
         · have hok : v.ok = true := by simp [VD.ok, hnm, hk2]; omega
           ((refine lw_is ?_; refine lw_pure (by exact pur_not rfl) rfl ?_); refine lw_nil ?_; refine qw_then ?_; (refine cw_is ?_; refine cw_bf rfl (by rfl) ?_); refine cw_skip ?_; refine qw_then ?_; refine cw_seq ?_; refine cw_region ?_; (refine lw_is ?_; refine lw_pure (by exact pur_fieldAddr tabOk rfl rfl rfl) rfl ?_); (refine lw_is ?_; refine lw_pure (by exact pur_load tabOk rfl rfl rfl (by exact fun wz hz => by (try subst hz); exact (Blk.cell (by assumption) (by rfl)))) rfl ?_); refine lw_nil ?_; refine qw_then ?_; refine cw_block ?_; refine cw_seq ?_; refine cw_seq ?_; refine cw_region ?_; (refine lw_is ?_; refine lw_pure (by exact pur_eql rfl rfl) rfl ?_); (refine lw_is ?_; refine lw_pure (by exact pur_assign rfl) rfl ?_); refine lw_nil ?_; refine qw_then ?_; (refine cw_is ?_; refine cw_no rfl (by assumption) ?_); refine cw_region ?_; (refine lw_is ?_; refine lw_pure (by exact pur_eql rfl rfl) rfl ?_); (refine lw_is ?_; refine lw_pure (by exact pur_assign rfl) rfl ?_); refine lw_nil ?_; refine qw_then ?_; (refine cw_is ?_; refine cw_no rfl (by assumption) ?_); refine cw_seq ?_; refine cw_region ?_; (refine lw_is ?_; refine lw_pure (by exact pur_eql rfl rfl) rfl ?_); (refine lw_is ?_; refine lw_pure (by exact pur_assign rfl) rfl ?_); refine lw_nil ?_; refine qw_then ?_; (refine cw_is ?_; refine cw_yes rfl (by assumption) ?_); refine cw_seq ?_; refine cw_region ?_; (refine lw_is ?_; refine lw_pure (by exact pur_fieldAddr tabOk rfl rfl rfl) rfl ?_); (refine lw_is ?_; refine lw_pure (by exact pur_load tabOk rfl rfl rfl (by exact fun wz hz => by (try subst hz); exact (Blk.cell (by assumption) (by rfl)))) rfl ?_); (refine lw_is ?_; refine lw_pure (by exact pur_lss rfl rfl) rfl ?_); (refine lw_is ?_; refine lw_pure (by exact pur_move rfl) rfl ?_); (refine lw_isg ?_; refine lw_on_no rfl rfl rfl (by assumption) ?_); (refine lw_is ?_; refine lw_pure (by exact pur_fieldAddr tabOk rfl rfl rfl) rfl ?_); (refine lw_isg ?_; refine lw_on_no rfl rfl rfl (by assumption) ?_); (refine lw_is ?_; refine lw_pure (by exact pur_load tabOk rfl rfl rfl (by exact fun wz hz => by (try subst hz); exact (Blk.cell (by assumption) (by rfl)))) rfl ?_); (refine lw_isg ?_; refine lw_on_no rfl rfl rfl (by assumption) ?_); (refine lw_is ?_; refine lw_pure (by exact pur_gtr rfl rfl) rfl ?_); (refine lw_is ?_; refine lw_pure (by exact pur_pick_no rfl rfl (by assumption)) rfl ?_); refine lw_nil ?_; refine qw_then ?_; (refine cw_is ?_; refine cw_no rfl (by assumption) ?_); refine cw_skip ?_; refine qw_block_norm ?_; refine qw_block_norm ?_; refine qw_then ?_; refine cw_region ?_; (refine lw_is ?_; refine lw_pure (by exact pur_add rfl rfl (IntWalk.i64_in _ (by omega))) rfl ?_); (refine lw_is ?_; refine lw_pure (by exact pur_move rfl) rfl ?_); refine lw_nil ?_)
           refine qw_round (j + 1) (by (refine sub_cons rfl ?_; refine sub_cons rfl ?_; refine sub_cons rfl ?_; exact sub_nil)) ⟨xx3, by omega, fun i hi hij => ?_⟩ (by omega)
           by_cases e : i = j
           · subst e; exact HE.out ▸ hok
           · exact HA.out i hi (by omega)
     · have hok : v.ok = false := by simp [VD.ok, hnm, hk1, hk2, hk3]
       ((refine lw_is ?_; refine lw_pure (by exact pur_not rfl) rfl ?_); refine lw_nil ?_; refine qw_then ?_; (refine cw_is ?_; refine cw_bf rfl (by rfl) ?_); refine cw_skip ?_; refine qw_then ?_; refine cw_seq ?_; refine cw_region ?_; (refine lw_is ?_; refine lw_pure (by exact pur_fieldAddr tabOk rfl rfl rfl) rfl ?_); (refine lw_is ?_; refine lw_pure (by exact pur_load tabOk rfl rfl rfl (by exact fun wz hz => by (try subst hz); exact (Blk.cell (by assumption) (by rfl)))) rfl ?_); refine lw_nil ?_; refine qw_then ?_; refine cw_block ?_; refine cw_seq ?_; refine cw_seq ?_; refine cw_region ?_; (refine lw_is ?_; refine lw_pure (by exact pur_eql rfl rfl) rfl ?_); (refine lw_is ?_; refine lw_pure (by exact pur_assign rfl) rfl ?_); refine lw_nil ?_; refine qw_then ?_; (refine cw_is ?_; refine cw_no rfl (by assumption) ?_); refine cw_region ?_; (refine lw_is ?_; refine lw_pure (by exact pur_eql rfl rfl) rfl ?_); (refine lw_is ?_; refine lw_pure (by exact pur_assign rfl) rfl ?_); refine lw_nil ?_; refine qw_then ?_; (refine cw_is ?_; refine cw_no rfl (by assumption) ?_); refine cw_seq ?_; refine cw_region ?_; (refine lw_is ?_; refine lw_pure (by exact pur_eql rfl rfl) rfl ?_); (refine lw_is ?_; refine lw_pure (by exact pur_assign rfl) rfl ?_); refine lw_nil ?_; refine qw_then ?_; (refine cw_is ?_; refine cw_no rfl (by assumption) ?_); refine cw_seq ?_; refine cw_region ?_; (refine lw_is ?_; refine lw_pure (by exact pur_assign rfl) rfl ?_); refine lw_nil ?_; refine qw_then ?_; refine cw_ret ?_; refine qw_block_ret ?_; refine qw_block_ret ?_; refine qw_then_ret ?_; refine qw_then_ret ?_; refine qw_block_ret ?_; refine qw_then_ret ?_)
       refine qw_ret1 Tryz.results16 rfl ?_
       exact ⟨ret_bool (HN.out hok).symm, xx3⟩
 · (refine cw_seq ?_; refine cw_region ?_; (refine lw_is ?_; refine lw_pure (by exact pur_lss rfl rfl) rfl ?_); refine lw_nil ?_; refine qw_then ?_; refine cw_seq ?_; (refine cw_is ?_; refine cw_no rfl (by omega) ?_); refine cw_exit ?_; refine qw_then_exit ?_; refine qw_then_exit ?_; refine qw_block_exit ?_; refine qw_then ?_; refine cw_seq ?_; refine cw_region ?_; (refine lw_is ?_; refine lw_pure (by exact pur_assign rfl) rfl ?_); refine lw_nil ?_; refine qw_then ?_; refine cw_ret ?_)
   refine qw_ret1 Tryz.results16 rfl ?_
   exact ⟨ret_bool (allOk_true (fun i hi => HA.out i hi (by omega))).symm, x1⟩
end Bk
namespace Bk
open Go Go.RowKit Go.Proofs
mutual
theorem lim_le : ∀ (t : Nd) (d m : Int), 0 ≤ m → 0 ≤ (t.lim d m).2 ∧ (t.lim d m).2 ≤ m
 | .mk _ _ s l, d, m, hm => by
  simp only [Nd.lim]
  split
  · exact ⟨hm, Int.le_refl _⟩
  · have := rowLim_le l (d - 1) (m - 1) (by omega)
    omega
theorem rowLim_le : ∀ (l : List Nd) (d m : Int), 0 ≤ m → 0 ≤ (rowLim l d m).2 ∧ (rowLim l d m).2 ≤ m
 | [], d, m, hm => by simp only [rowLim]; omega
 | t :: r, d, m, hm => by
  have h1 := lim_le t d m hm; simp only [rowLim]
  split
  · have := rowLim_le r d (t.lim d m).2 h1.1
    omega
  · omega
end
theorem rowLim_drop (l : List Nd) (j : Nat) (h : j < l.length) (d m : Int) : rowLim (l.drop j) d m = if (l[j].lim d m).1 then rowLim (l.drop (j + 1)) d (l[j].lim d m).2 else (false, (l[j].lim d m).2) := by
 rw [List.drop_eq_getElem_cons h, rowLim]
set_option maxRecDepth 100000 in
set_option maxHeartbeats 1000000 in
theorem limited_c (N : Nat) : ∀ (t : Nd) (S : Nat → Prop) (a : Option Addr) (c : Nat) (d m : Int) (lb : Nat) (w : World), t.size < N → t.wf → 0 ≤ d → d ≤ 1000000 → 0 ≤ m → m ≤ 1000000 → t.sits S w a → ¬ S lb → Blk w lb [.int .i64 m] →
 Calls Tryz.prog 40 #[t.val a c, .int .i64 d, .pointer (some ⟨lb, 0, none⟩)] w fun e w' => e = .returned (.bool (t.lim d m).1) ∧ Blk w' lb [.int .i64 (t.lim d m).2] ∧ Fr (· = lb) w w' := by
 induction N with
 | zero => intro t S a c d m lb w h; omega
 | succ N ih =>
  intro t S a c d m lb w hN hwf hd0 hd1 hm0 hm1 hs hS hb
  have IH := Lib.hid ih; clear ih
  obtain ⟨k, n, s, l⟩ := t; simp only [Nd.wf, Nd.size] at hwf hN; simp only [Nd.val, Nd.kind, Nd.num, Nd.name, Nd.kids, Nd.lim]; simp only [Nd.sits] at hs; obtain ⟨-, -, -, -, -, hll, hrw⟩ := hwf; have hlbw := hb.lt
  by_cases hq : d = 0 ∨ m = 0
  · rw [if_pos hq]
    refine calls_in Tryz.func40 Tryz.ntmps40 rfl rfl ?_; (refine cw_seq ?_; refine cw_region ?_); refine lw_box rfl rfl rfl ?_; intro b1 w1 hn1; have h1 := hn1.blk; have x1 := hn1.ext; have hb1 := hb.ext x1
    by_cases hd : d = 0
    · ((refine lw_is ?_; refine lw_pure (by exact pur_assign rfl) rfl ?_); refine lw_nil ?_; refine qw_then ?_; refine cw_seq ?_; refine cw_seq ?_; refine cw_region ?_; (refine lw_is ?_; refine lw_pure (by exact pur_move rfl) rfl ?_); (refine lw_is ?_; refine lw_pure (by exact pur_eql rfl rfl) rfl ?_); (refine lw_is ?_; refine lw_pure (by exact pur_move rfl) rfl ?_); (refine lw_isg ?_; refine lw_off_yes rfl rfl rfl (by assumption) rfl ?_); (refine lw_isg ?_; refine lw_off_yes rfl rfl rfl (by assumption) rfl ?_); (refine lw_isg ?_; refine lw_off_yes rfl rfl rfl (by assumption) rfl ?_); (refine lw_isg ?_; refine lw_off_yes rfl rfl rfl (by assumption) rfl ?_); (refine lw_is ?_; refine lw_pure (by exact pur_pick_yes rfl rfl (by assumption)) rfl ?_); refine lw_nil ?_; refine qw_then ?_; (refine cw_is ?_; refine cw_bt rfl (by rfl) ?_); refine cw_seq ?_; refine cw_region ?_; (refine lw_is ?_; refine lw_pure (by exact pur_assign rfl) rfl ?_); refine lw_nil ?_; refine qw_then ?_; refine cw_ret ?_; refine qw_then_ret ?_)
      refine qw_ret1 Tryz.results40 rfl ?_
      exact ⟨rfl, hb1, .of_ext x1⟩
    · have hm : m = 0 := by omega
      ((refine lw_is ?_; refine lw_pure (by exact pur_assign rfl) rfl ?_); refine lw_nil ?_; refine qw_then ?_; refine cw_seq ?_; refine cw_seq ?_; refine cw_region ?_; (refine lw_is ?_; refine lw_pure (by exact pur_move rfl) rfl ?_); (refine lw_is ?_; refine lw_pure (by exact pur_eql rfl rfl) rfl ?_); (refine lw_is ?_; refine lw_pure (by exact pur_move rfl) rfl ?_); (refine lw_isg ?_; refine lw_on_no rfl rfl rfl (by assumption) ?_); (refine lw_is ?_; refine lw_pure (by exact pur_move rfl) rfl ?_); (refine lw_isg ?_; refine lw_on_no rfl rfl rfl (by assumption) ?_); (refine lw_is ?_; refine lw_pure (by exact pur_nilCheck rfl) rfl ?_); (refine lw_isg ?_; refine lw_on_no rfl rfl rfl (by assumption) ?_); (refine lw_is ?_; refine lw_pure (by exact pur_load tabOk rfl rfl rfl (by exact fun wz hz => by (try subst hz); exact (Blk.cell (by assumption) (by rfl)))) rfl ?_); (refine lw_isg ?_; refine lw_on_no rfl rfl rfl (by assumption) ?_); (refine lw_is ?_; refine lw_pure (by exact pur_eql rfl rfl) rfl ?_); (refine lw_is ?_; refine lw_pure (by exact pur_pick_no rfl rfl (by assumption)) rfl ?_); refine lw_nil ?_; refine qw_then ?_; (refine cw_is ?_; refine cw_yes rfl (by assumption) ?_); refine cw_seq ?_; refine cw_region ?_; (refine lw_is ?_; refine lw_pure (by exact pur_assign rfl) rfl ?_); refine lw_nil ?_; refine qw_then ?_; refine cw_ret ?_; refine qw_then_ret ?_)
      refine qw_ret1 Tryz.results40 rfl ?_
      exact ⟨rfl, hb1, .of_ext x1⟩
  · rw [if_neg hq]
    have hd : d ≠ 0 := fun e => hq (Or.inl e)
    have hm : m ≠ 0 := fun e => hq (Or.inr e)
    clear hq; refine calls_in Tryz.func40 Tryz.ntmps40 rfl rfl ?_; (refine cw_seq ?_; refine cw_region ?_); refine lw_box rfl rfl rfl ?_; intro b1 w1 hn1; have h1 := hn1.blk; have x1 := hn1.ext; have p1 := hn1.pos; have hb1 := hb.ext x1; have hs1 := hs.ext x1
    ((refine lw_is ?_; refine lw_pure (by exact pur_assign rfl) rfl ?_); refine lw_nil ?_; refine qw_then ?_; refine cw_seq ?_; refine cw_seq ?_; refine cw_region ?_; (refine lw_is ?_; refine lw_pure (by exact pur_move rfl) rfl ?_); (refine lw_is ?_; refine lw_pure (by exact pur_eql rfl rfl) rfl ?_); (refine lw_is ?_; refine lw_pure (by exact pur_move rfl) rfl ?_); (refine lw_isg ?_; refine lw_on_no rfl rfl rfl (by assumption) ?_); (refine lw_is ?_; refine lw_pure (by exact pur_move rfl) rfl ?_); (refine lw_isg ?_; refine lw_on_no rfl rfl rfl (by assumption) ?_); (refine lw_is ?_; refine lw_pure (by exact pur_nilCheck rfl) rfl ?_); (refine lw_isg ?_; refine lw_on_no rfl rfl rfl (by assumption) ?_); (refine lw_is ?_; refine lw_pure (by exact pur_load tabOk rfl rfl rfl (by exact fun wz hz => by (try subst hz); exact (Blk.cell (by assumption) (by rfl)))) rfl ?_); (refine lw_isg ?_; refine lw_on_no rfl rfl rfl (by assumption) ?_); (refine lw_is ?_; refine lw_pure (by exact pur_eql rfl rfl) rfl ?_); (refine lw_is ?_; refine lw_pure (by exact pur_pick_no rfl rfl (by assumption)) rfl ?_); refine lw_nil ?_; refine qw_then ?_; (refine cw_is ?_; refine cw_no rfl (by assumption) ?_); refine cw_skip ?_; refine qw_then ?_; refine cw_seq ?_; refine cw_region ?_; (refine lw_is ?_; refine lw_pure (by exact pur_move rfl) rfl ?_); (refine lw_is ?_; refine lw_pure (by exact pur_nilCheck rfl) rfl ?_); (refine lw_is ?_; refine lw_pure (by exact pur_load tabOk rfl rfl rfl (by exact fun wz hz => by (try subst hz); exact (Blk.cell (by assumption) (by rfl)))) rfl ?_); (refine lw_is ?_; refine lw_pure (by exact pur_sub rfl rfl (IntWalk.i64_in _ (by omega))) rfl ?_); (refine lw_is ?_; refine lw_pure (by exact pur_nilCheck rfl) rfl ?_))
    refine lw_store tabOk rfl rfl rfl rfl rfl rfl (hb1) rfl ?_; intro w2 hp2; have hb2 : Blk w2 lb [.int .i64 (m - 1)] := hp2.blk; have h2 := h1.put hp2 (by omega); have hs2 : rowSits S w2 l a := hs1.fr hp2.fr (fun b hb e => hS (e ▸ hb)); have f2 : Fr (· = lb) w w2 := (Fr.of_ext x1).trans hp2.fr
    have hz2 : w2.heap.size = b1 + 1 := by rw [hp2.size, hn1.size]
    clear hp2 hn1
    have HS2 := Lib.hid hs2; clear hs2
    (refine lw_nil ?_; refine qw_then ?_; refine cw_seq ?_; refine cw_seq ?_; refine cw_region ?_; (refine lw_is ?_; refine lw_pure (by exact pur_fieldAddr tabOk rfl rfl rfl) rfl ?_); (refine lw_is ?_; refine lw_pure (by exact pur_load tabOk rfl rfl rfl (by exact fun wz hz => by (try subst hz); exact (Blk.cell (by assumption) (by rfl)))) rfl ?_); (refine lw_is ?_; refine lw_pure (by exact pur_len_slice tabOk rfl rfl) rfl ?_); (refine lw_is ?_; refine lw_pure (by exact pur_move rfl) rfl ?_); refine lw_nil ?_; refine qw_then ?_; refine cw_block ?_); refine cw_loop (ι := Nat) (fun x => [(25, .int .i64 x), (24, .int .i64 l.length), (23, .slice a l.length c), (2, .pointer (some ⟨lb, 0, none⟩)), (1, .int .i64 d)]) (fun x w' => Fr (· = lb) w2 w' ∧ x ≤ l.length ∧ ∃ mj, Blk w' lb [.int .i64 mj] ∧ 0 ≤ mj ∧ mj ≤ 1000000 ∧ rowLim l (d - 1) (m - 1) = rowLim (l.drop x) (d - 1) mj) (fun x => l.length - x) 0 (by (refine sub_cons rfl ?_; refine sub_cons rfl ?_; refine sub_cons rfl ?_; refine sub_cons rfl ?_; refine sub_cons rfl ?_; exact sub_nil)) ⟨Fr.refl _ _, Nat.zero_le _, m - 1, hb2, by omega, by omega, rfl⟩ ?_; rintro j w3 ⟨f3, hj, mj, hb3, hmj0, hmj1, hrl⟩
    have HR := Lib.hid hrl; clear hrl
    by_cases hlt : j < l.length
    · have hs3 : rowSits S w3 l a := HS2.out.fr f3 (fun b hb e => hS (e ▸ hb))
      obtain ⟨kb, ko, rfl, hkS, hkid⟩ := kidRows hs3 (by intro e; subst e; simp at hlt); obtain ⟨xa, xc, rx, sx⟩ := hkid j l[j] (List.getElem?_eq_getElem hlt); have hxw := rowWf_get hrw l[j] (List.getElem_mem hlt); have hxs := size_mem (List.getElem_mem hlt); have HD := Lib.hid (rowLim_drop l j hlt (d - 1) mj); clear hkid
      generalize l[j] = x at *
      have hml := lim_le x (d - 1) mj hmj0; (refine cw_seq ?_; refine cw_region ?_; (refine lw_is ?_; refine lw_pure (by exact pur_lss rfl rfl) rfl ?_); refine lw_nil ?_; refine qw_then ?_; refine cw_seq ?_; (refine cw_is ?_; refine cw_yes rfl (by omega) ?_); refine cw_skip ?_; refine qw_then ?_; refine cw_seq ?_; refine cw_block ?_; refine cw_seq ?_; refine cw_region ?_; (refine lw_is ?_; refine lw_pure (by exact pur_indexAddr tabOk rfl rfl rfl rfl (by omega) (by omega)) rfl ?_); (refine lw_is ?_; refine lw_pure (by exact pur_loads' tabOk rfl rfl rfl (by exact fun wz hz => by (try subst hz); exact (by assumption)) (by rfl)) rfl ?_)); refine lw_alloc zOk rfl rfl ?_; intro b4 w4 hn4; refine lw_init tabOk rfl rfl rfl rfl rfl rfl (hn4) rfl ?_; clear hn4 w4; intro w4 hn4; have h4 := hn4.blk; have x4 := hn4.ext; have hb4 := hb3.ext x4; (refine lw_nil ?_; refine qw_then ?_; refine cw_seq ?_; refine cw_region ?_; (refine lw_is ?_; refine lw_pure (by exact pur_loads' tabOk rfl rfl rfl (by exact fun wz hz => by (try subst hz); exact (Blk.row (by assumption))) (by rfl)) rfl ?_); (refine lw_is ?_; refine lw_pure (by exact pur_move rfl) rfl ?_); (refine lw_is ?_; refine lw_pure (by exact pur_sub rfl rfl (IntWalk.i64_in _ (by omega))) rfl ?_); (refine lw_is ?_; refine lw_pure (by exact pur_move rfl) rfl ?_)); refine cC rfl (IH.out x S xa xc (d - 1) mj lb _ (by omega) hxw (by omega) (by omega) hmj0 hmj1 (sx.ext x4) hS hb4) ?_; rintro _ w5 ⟨⟨⟩, hb5, f5⟩; have f35 : Fr (· = lb) w2 w5 := f3.trans ((Fr.of_ext x4).trans f5)
      cases hq : (x.lim (d - 1) mj).1
      · try rw [hq]
        ((refine lw_is ?_; refine lw_pure (by exact pur_not rfl) rfl ?_); refine lw_nil ?_; refine qw_then ?_; (refine cw_is ?_; refine cw_bt rfl (by rfl) ?_); refine cw_seq ?_; refine cw_region ?_; (refine lw_is ?_; refine lw_pure (by exact pur_assign rfl) rfl ?_); refine lw_nil ?_; refine qw_then ?_; refine cw_ret ?_; refine qw_block_ret ?_; refine qw_then_ret ?_; refine qw_then_ret ?_; refine qw_block_ret ?_; refine qw_then_ret ?_)
        refine qw_ret1 Tryz.results40 rfl ?_; rw [HR.out, HD.out, hq]
        exact ⟨rfl, hb5, f2.trans f35⟩
      · try rw [hq]
        ((refine lw_is ?_; refine lw_pure (by exact pur_not rfl) rfl ?_); refine lw_nil ?_; refine qw_then ?_; (refine cw_is ?_; refine cw_bf rfl (by rfl) ?_); refine cw_skip ?_; refine qw_block_norm ?_; refine qw_then ?_; refine cw_region ?_; (refine lw_is ?_; refine lw_pure (by exact pur_add rfl rfl (IntWalk.i64_in _ (by omega))) rfl ?_); (refine lw_is ?_; refine lw_pure (by exact pur_move rfl) rfl ?_); refine lw_nil ?_)
        refine qw_round (j + 1) (by (refine sub_cons rfl ?_; refine sub_cons rfl ?_; refine sub_cons rfl ?_; refine sub_cons rfl ?_; refine sub_cons rfl ?_; exact sub_nil)) ⟨f35, by omega, (x.lim (d - 1) mj).2, hb5, hml.1, by omega, ?_⟩ (by omega)
        rw [HR.out, HD.out, hq]; rfl
    · (refine cw_seq ?_; refine cw_region ?_; (refine lw_is ?_; refine lw_pure (by exact pur_lss rfl rfl) rfl ?_); refine lw_nil ?_; refine qw_then ?_; refine cw_seq ?_; (refine cw_is ?_; refine cw_no rfl (by omega) ?_); refine cw_exit ?_; refine qw_then_exit ?_; refine qw_then_exit ?_; refine qw_block_exit ?_; refine qw_then ?_; refine cw_seq ?_; refine cw_region ?_; (refine lw_is ?_; refine lw_pure (by exact pur_assign rfl) rfl ?_); refine lw_nil ?_; refine qw_then ?_; refine cw_ret ?_)
      refine qw_ret1 Tryz.results40 rfl ?_; have : l.drop j = [] := List.drop_eq_nil_of_le (by omega); rw [HR.out, this]
      exact ⟨rfl, hb3, f2.trans f3⟩
theorem Ext.fr1 {a b c : World} {lb : Nat} (h : Ext a b) (k : Fr (· = lb) b c) (hl : a.heap.size ≤ lb) : Ext a c :=
 ⟨k.os.trans (Below.os h), k.tape.trans (Below.tape h), k.output.trans (Below.output h), Nat.le_trans h.size k.size, fun i hi => (k.block i (Nat.lt_of_lt_of_le hi h.size) (by omega)).trans (h.block hi)⟩
theorem sits_lt' {S : Nat → Prop} {w : World} (t : Nd) (a : Option Addr) (h : t.sits S w a) : t.sits (fun b => S b ∧ b < w.heap.size) w a := by
 have key : ∀ N : Nat, (∀ (l : List Nd) (a : Option Addr), rowSize l < N → rowSits S w l a → rowSits (fun b => S b ∧ b < w.heap.size) w l a) := by
  intro N
  induction N with
  | zero => intro l a h; omega
  | succ N ih =>
   intro l a hN h
   cases l with
   | nil => simp [rowSits]
   | cons x r =>
    simp only [rowSits] at h ⊢; obtain ⟨b, o, a', c, rfl, hS, h0, h1, h2, h3, hs, hr⟩ := h; have hb := cell_lt h0; simp only [rowSize] at hN; have hx := Nd.size_pos x; obtain ⟨k, n, s, l⟩ := x; simp only [Nd.size] at hN; refine ⟨b, o, a', c, rfl, ⟨hS, hb⟩, h0, h1, h2, h3, ?_, ih r _ (by omega) hr⟩; simp only [Nd.sits] at hs ⊢
    exact ih l a' (by omega) hs
 obtain ⟨k, n, s, l⟩ := t; simp only [Nd.sits] at h ⊢
 exact key (rowSize l + 1) l a (by omega) h
set_option maxRecDepth 100000 in
set_option maxHeartbeats 1000000 in
theorem isBody_c (t : Nd) (S : Nat → Prop) (a : Option Addr) (c : Nat) (w : World) (hwf : t.wf) (hs : t.sits S w a) :
 Calls Tryz.prog 18 #[t.val a c] w fun e w' => e = .returned (.bool (bodyOk t)) ∧ Ext w w' := by
 have hsl := sits_lt' t a hs; refine calls_in Tryz.func18 Tryz.ntmps18 rfl rfl ?_; (refine cw_seq ?_; refine cw_region ?_); refine lw_box rfl rfl rfl ?_; intro b1 w1 hn1; have h1 := hn1.blk; have x1 := hn1.ext; have p1 := hn1.pos; have z1 := hn1.size
 ((refine lw_is ?_; refine lw_pure (by exact pur_assign rfl) rfl ?_); refine lw_nil ?_; refine qw_then ?_; refine cw_seq ?_; refine cw_region ?_)
 refine lw_alloc zOk rfl rfl ?_; intro b2 w2 hn2; refine lw_init tabOk rfl rfl rfl rfl rfl rfl (hn2) rfl ?_; clear hn2 w2; intro w2 hn2; have x2 := hn2.ext; have h2 := h1.ext x2; have b2p := hn2.pos; (refine lw_nil ?_; refine qw_then ?_; refine cw_seq ?_; refine cw_region ?_; (refine lw_is ?_; refine lw_pure (by exact pur_loads' tabOk rfl rfl rfl (by exact fun wz hz => by (try subst hz); exact (Blk.row (by assumption))) (by rfl)) rfl ?_)); refine cC rfl (limited_c (t.size + 1) t _ a c 80 2000 b2 _ (by omega) hwf (by omega) (by omega) (by omega) (by omega) (hsl.ext (by refine Ext.trans ?_ (by assumption); assumption)) (fun h => by omega) hn2.blk) ?_; rintro _ w3 ⟨⟨⟩, -, f3⟩; have x3 : Ext w w3 := Ext.fr1 (b := w2) (by refine Ext.trans ?_ (by assumption); assumption) f3 (by omega); have h3 := h2.fr f3 (by omega)
 cases hq : (t.lim 80 2000).1
 · try rw [hq]
   ((refine lw_is ?_; refine lw_pure (by exact pur_move rfl) rfl ?_); (refine lw_isg ?_; refine lw_off rfl rfl rfl (by rfl) rfl ?_); (refine lw_isg ?_; refine lw_off rfl rfl rfl (by rfl) rfl ?_); (refine lw_is ?_; refine lw_pure (by exact pur_pick_f rfl rfl (by rfl)) rfl ?_); (refine lw_is ?_; refine lw_pure (by exact pur_assign rfl) rfl ?_); refine lw_nil ?_; refine qw_then ?_; refine cw_ret ?_)
   refine qw_ret1 Tryz.results18 rfl ?_
   exact ⟨ret_bool (by simp [bodyOk, hq]), x3⟩
 · try rw [hq]
   ((refine lw_is ?_; refine lw_pure (by exact pur_move rfl) rfl ?_); (refine lw_isg ?_; refine lw_on rfl rfl rfl (by rfl) ?_); (refine lw_is ?_; refine lw_pure (by exact pur_loads' tabOk rfl rfl rfl (by exact fun wz hz => by (try subst hz); exact (Blk.row (by assumption))) (by rfl)) rfl ?_); (refine lw_isg ?_; refine lw_on rfl rfl rfl (by rfl) ?_))
   refine cC rfl (IsBlock_t S t hwf a c _ (hs.ext x3)) ?_; rintro _ w4 ⟨⟨⟩, x4⟩
   ((refine lw_is ?_; refine lw_pure (by exact pur_pick_t rfl rfl (by rfl)) rfl ?_); (refine lw_is ?_; refine lw_pure (by exact pur_assign rfl) rfl ?_); refine lw_nil ?_; refine qw_then ?_; refine cw_ret ?_)
   refine qw_ret1 Tryz.results18 rfl ?_
   exact ⟨ret_bool (by simp [bodyOk, hq]), x3.trans x4⟩
end Bk
namespace Bk
open Go Go.RowKit Go.Proofs
structure PD.wf (p : PD) : Prop where
 name : p.name.length ≤ 9223372036854775807
 len : p.params.length ≤ 9223372036854775807
 params : ∀ v ∈ p.params, v.wf
 body : p.body.wf
structure PG.wf (g : PG) : Prop where
 nv : g.vars.length ≤ 9223372036854775807
 np : g.procs.length ≤ 9223372036854775807
 vars : ∀ v ∈ g.vars, v.wf
 procs : ∀ p ∈ g.procs, p.wf
 main : g.main.wf
theorem procs_false {l : List PD} {j : Nat} (h : j < l.length) (hk : l[j].ok = false) : l.all PD.ok = false := by
 rw [List.all_eq_false]
 exact ⟨l[j], List.getElem_mem h, by simp [hk]⟩
theorem procs_true {l : List PD} (h : ∀ j (hj : j < l.length), l[j].ok = true) : l.all PD.ok = true := by
 rw [List.all_eq_true]; intro x hx; obtain ⟨i, hi, rfl⟩ := List.mem_iff_getElem.1 hx
 exact h i hi
set_option maxRecDepth 100000 in
set_option maxHeartbeats 1000000 in
theorem Valid_c (g : PG) (S : Nat → Prop) (va : Option Addr) (vc : Nat) (pa : Option Addr) (pc : Nat) (ma : Option Addr) (mc : Nat) (w : World) (hwf : g.wf) (hs : g.sits S w va pa ma) :
 Calls Tryz.prog 6 #[.agg (g.cells va vc pa pc ma mc).toArray] w fun e w' => e = .returned (.bool g.ok) ∧ Ext w w' := by
 have hnv := hwf.nv; have hnp := hwf.np; refine calls_in Tryz.func6 Tryz.ntmps6 rfl rfl ?_; (refine cw_seq ?_; refine cw_region ?_); refine lw_box rfl rfl rfl ?_; intro b1 w1 hn1; have h1 := hn1.blk; have x1 := hn1.ext
 by_cases c1 : 32 < g.vars.length
 · ((refine lw_is ?_; refine lw_pure (by exact pur_assign rfl) rfl ?_); refine lw_nil ?_; refine qw_then ?_; refine cw_seq ?_; refine cw_seq ?_; refine cw_region ?_; (refine lw_is ?_; refine lw_pure (by exact pur_fieldAddr0 tabOk rfl rfl rfl) rfl ?_); (refine lw_is ?_; refine lw_pure (by exact pur_load tabOk rfl rfl rfl (by exact fun wz hz => by (try subst hz); exact (Blk.cell (by assumption) (by rfl)))) rfl ?_); (refine lw_is ?_; refine lw_pure (by exact pur_len_slice tabOk rfl rfl) rfl ?_); (refine lw_is ?_; refine lw_pure (by exact pur_gtr rfl rfl) rfl ?_); (refine lw_is ?_; refine lw_pure (by exact pur_move rfl) rfl ?_); (refine lw_isg ?_; refine lw_off_yes rfl rfl rfl (by omega) rfl ?_); (refine lw_isg ?_; refine lw_off_yes rfl rfl rfl (by omega) rfl ?_); (refine lw_isg ?_; refine lw_off_yes rfl rfl rfl (by omega) rfl ?_); (refine lw_isg ?_; refine lw_off_yes rfl rfl rfl (by omega) rfl ?_); (refine lw_is ?_; refine lw_pure (by exact pur_pick_yes rfl rfl (by omega)) rfl ?_); (refine lw_is ?_; refine lw_pure (by exact pur_move rfl) rfl ?_); (refine lw_isg ?_; refine lw_off rfl rfl rfl (by rfl) rfl ?_); (refine lw_isg ?_; refine lw_off rfl rfl rfl (by rfl) rfl ?_); (refine lw_isg ?_; refine lw_off rfl rfl rfl (by rfl) rfl ?_); (refine lw_isg ?_; refine lw_off rfl rfl rfl (by rfl) rfl ?_); (refine lw_is ?_; refine lw_pure (by exact pur_pick_t rfl rfl (by rfl)) rfl ?_); refine lw_nil ?_; refine qw_then ?_; (refine cw_is ?_; refine cw_bt rfl (by rfl) ?_); refine cw_seq ?_; refine cw_region ?_; (refine lw_is ?_; refine lw_pure (by exact pur_assign rfl) rfl ?_); refine lw_nil ?_; refine qw_then ?_; refine cw_ret ?_; refine qw_then_ret ?_)
   refine qw_ret1 Tryz.results6 rfl ?_
   exact ⟨ret_bool (by simp [PG.ok]; omega), x1⟩
 by_cases c2 : 64 < g.procs.length
 · ((refine lw_is ?_; refine lw_pure (by exact pur_assign rfl) rfl ?_); refine lw_nil ?_; refine qw_then ?_; refine cw_seq ?_; refine cw_seq ?_; refine cw_region ?_; (refine lw_is ?_; refine lw_pure (by exact pur_fieldAddr0 tabOk rfl rfl rfl) rfl ?_); (refine lw_is ?_; refine lw_pure (by exact pur_load tabOk rfl rfl rfl (by exact fun wz hz => by (try subst hz); exact (Blk.cell (by assumption) (by rfl)))) rfl ?_); (refine lw_is ?_; refine lw_pure (by exact pur_len_slice tabOk rfl rfl) rfl ?_); (refine lw_is ?_; refine lw_pure (by exact pur_gtr rfl rfl) rfl ?_); (refine lw_is ?_; refine lw_pure (by exact pur_move rfl) rfl ?_); (refine lw_isg ?_; refine lw_on_no rfl rfl rfl (by omega) ?_); (refine lw_is ?_; refine lw_pure (by exact pur_fieldAddr tabOk rfl rfl rfl) rfl ?_); (refine lw_isg ?_; refine lw_on_no rfl rfl rfl (by omega) ?_); (refine lw_is ?_; refine lw_pure (by exact pur_load tabOk rfl rfl rfl (by exact fun wz hz => by (try subst hz); exact (Blk.cell (by assumption) (by rfl)))) rfl ?_); (refine lw_isg ?_; refine lw_on_no rfl rfl rfl (by omega) ?_); (refine lw_is ?_; refine lw_pure (by exact pur_len_slice tabOk rfl rfl) rfl ?_); (refine lw_isg ?_; refine lw_on_no rfl rfl rfl (by omega) ?_); (refine lw_is ?_; refine lw_pure (by exact pur_gtr rfl rfl) rfl ?_); (refine lw_is ?_; refine lw_pure (by exact pur_pick_no rfl rfl (by omega)) rfl ?_); (refine lw_is ?_; refine lw_pure (by exact pur_move rfl) rfl ?_); (refine lw_isg ?_; refine lw_off_yes rfl rfl rfl (by omega) rfl ?_); (refine lw_isg ?_; refine lw_off_yes rfl rfl rfl (by omega) rfl ?_); (refine lw_isg ?_; refine lw_off_yes rfl rfl rfl (by omega) rfl ?_); (refine lw_isg ?_; refine lw_off_yes rfl rfl rfl (by omega) rfl ?_); (refine lw_is ?_; refine lw_pure (by exact pur_pick_yes rfl rfl (by omega)) rfl ?_); refine lw_nil ?_; refine qw_then ?_; (refine cw_is ?_; refine cw_bt rfl (by rfl) ?_); refine cw_seq ?_; refine cw_region ?_; (refine lw_is ?_; refine lw_pure (by exact pur_assign rfl) rfl ?_); refine lw_nil ?_; refine qw_then ?_; refine cw_ret ?_; refine qw_then_ret ?_)
   refine qw_ret1 Tryz.results6 rfl ?_
   exact ⟨ret_bool (by simp [PG.ok]; omega), x1⟩
 ((refine lw_is ?_; refine lw_pure (by exact pur_assign rfl) rfl ?_); refine lw_nil ?_; refine qw_then ?_; refine cw_seq ?_; refine cw_seq ?_; refine cw_region ?_; (refine lw_is ?_; refine lw_pure (by exact pur_fieldAddr0 tabOk rfl rfl rfl) rfl ?_); (refine lw_is ?_; refine lw_pure (by exact pur_load tabOk rfl rfl rfl (by exact fun wz hz => by (try subst hz); exact (Blk.cell (by assumption) (by rfl)))) rfl ?_); (refine lw_is ?_; refine lw_pure (by exact pur_len_slice tabOk rfl rfl) rfl ?_); (refine lw_is ?_; refine lw_pure (by exact pur_gtr rfl rfl) rfl ?_); (refine lw_is ?_; refine lw_pure (by exact pur_move rfl) rfl ?_); (refine lw_isg ?_; refine lw_on_no rfl rfl rfl (by omega) ?_); (refine lw_is ?_; refine lw_pure (by exact pur_fieldAddr tabOk rfl rfl rfl) rfl ?_); (refine lw_isg ?_; refine lw_on_no rfl rfl rfl (by omega) ?_); (refine lw_is ?_; refine lw_pure (by exact pur_load tabOk rfl rfl rfl (by exact fun wz hz => by (try subst hz); exact (Blk.cell (by assumption) (by rfl)))) rfl ?_); (refine lw_isg ?_; refine lw_on_no rfl rfl rfl (by omega) ?_); (refine lw_is ?_; refine lw_pure (by exact pur_len_slice tabOk rfl rfl) rfl ?_); (refine lw_isg ?_; refine lw_on_no rfl rfl rfl (by omega) ?_); (refine lw_is ?_; refine lw_pure (by exact pur_gtr rfl rfl) rfl ?_); (refine lw_is ?_; refine lw_pure (by exact pur_pick_no rfl rfl (by omega)) rfl ?_); (refine lw_is ?_; refine lw_pure (by exact pur_move rfl) rfl ?_); (refine lw_isg ?_; refine lw_on_no rfl rfl rfl (by omega) ?_); (refine lw_is ?_; refine lw_pure (by exact pur_fieldAddr0 tabOk rfl rfl rfl) rfl ?_); (refine lw_isg ?_; refine lw_on_no rfl rfl rfl (by omega) ?_); (refine lw_is ?_; refine lw_pure (by exact pur_load tabOk rfl rfl rfl (by exact fun wz hz => by (try subst hz); exact (Blk.cell (by assumption) (by rfl)))) rfl ?_); (refine lw_isg ?_; refine lw_on_no rfl rfl rfl (by omega) ?_))
 refine cC rfl (declared_c g.vars S va vc _ hnv hwf.vars (hs.vars.ext x1)) ?_; rintro _ w2 ⟨⟨⟩, x2⟩
 cases hq : allOk g.vars
 · try rw [hq]
   ((refine lw_isg ?_; refine lw_on_no rfl rfl rfl (by omega) ?_); (refine lw_is ?_; refine lw_pure (by exact pur_not rfl) rfl ?_); (refine lw_is ?_; refine lw_pure (by exact pur_pick_no rfl rfl (by omega)) rfl ?_); refine lw_nil ?_; refine qw_then ?_; (refine cw_is ?_; refine cw_bt rfl (by rfl) ?_); refine cw_seq ?_; refine cw_region ?_; (refine lw_is ?_; refine lw_pure (by exact pur_assign rfl) rfl ?_); refine lw_nil ?_; refine qw_then ?_; refine cw_ret ?_; refine qw_then_ret ?_)
   refine qw_ret1 Tryz.results6 rfl ?_
   exact ⟨ret_bool (by simp [PG.ok, hq]), x1.trans x2⟩
 try rw [hq]
 have h2 := h1.ext x2
 ((refine lw_isg ?_; refine lw_on_no rfl rfl rfl (by omega) ?_); (refine lw_is ?_; refine lw_pure (by exact pur_not rfl) rfl ?_); (refine lw_is ?_; refine lw_pure (by exact pur_pick_no rfl rfl (by omega)) rfl ?_); refine lw_nil ?_; refine qw_then ?_; (refine cw_is ?_; refine cw_bf rfl (by rfl) ?_); refine cw_skip ?_; refine qw_then ?_; refine cw_seq ?_; refine cw_seq ?_; refine cw_region ?_; (refine lw_is ?_; refine lw_pure (by exact pur_fieldAddr tabOk rfl rfl rfl) rfl ?_); (refine lw_is ?_; refine lw_pure (by exact pur_load tabOk rfl rfl rfl (by exact fun wz hz => by (try subst hz); exact (Blk.cell (by assumption) (by rfl)))) rfl ?_); (refine lw_is ?_; refine lw_pure (by exact pur_len_slice tabOk rfl rfl) rfl ?_); (refine lw_is ?_; refine lw_pure (by exact pur_move rfl) rfl ?_); refine lw_nil ?_; refine qw_then ?_; refine cw_block ?_)
 refine cw_loop (ι := Nat) (fun j => [(24, .int .i64 j), (23, .int .i64 g.procs.length), (22, .slice pa g.procs.length pc), (1, .pointer (some ⟨b1, 0, none⟩))]) (fun j w' => Ext w2 w' ∧ j ≤ g.procs.length ∧ ∀ i (hi : i < g.procs.length), i < j → g.procs[i].ok = true) (fun j => g.procs.length - j) 0 (by (refine sub_cons rfl ?_; refine sub_cons rfl ?_; refine sub_cons rfl ?_; refine sub_cons rfl ?_; exact sub_nil)) ⟨Ext.refl _, by omega, by omega⟩ ?_; rintro j w3 ⟨x3, hj, hall⟩
 have HA := Lib.hid hall; clear hall
 have xx3 : Ext w w3 := (by refine Ext.trans ?_ (by assumption); refine Ext.trans ?_ (by assumption); assumption)
 by_cases hlt : j < g.procs.length
 · have hps : PDs S w3 g.procs pa := hs.procs.ext xx3
   obtain ⟨kb, ko, rfl, -, hkid⟩ := Arr.get hps (by omega); obtain ⟨qa, qc, ba, bc, rx, sv, sb⟩ := hkid j g.procs[j] (List.getElem?_eq_getElem hlt); have wf := hwf.procs g.procs[j] (List.getElem_mem hlt); have wf1 := wf.name; have wf2 := wf.len; have HN := Lib.hid (procs_false hlt); clear hkid
   generalize hv : g.procs[j] = p at *
   have HE := Lib.hid hv; clear hv
   (refine cw_seq ?_; refine cw_region ?_; (refine lw_is ?_; refine lw_pure (by exact pur_lss rfl rfl) rfl ?_); refine lw_nil ?_; refine qw_then ?_; refine cw_seq ?_; (refine cw_is ?_; refine cw_yes rfl (by omega) ?_); refine cw_skip ?_; refine qw_then ?_; refine cw_seq ?_; refine cw_block ?_; refine cw_seq ?_; refine cw_region ?_; (refine lw_is ?_; refine lw_pure (by exact pur_indexAddr tabOk rfl rfl rfl rfl (by omega) (by omega)) rfl ?_); (refine lw_is ?_; refine lw_pure (by exact pur_loads' tabOk rfl rfl rfl (by exact fun wz hz => by (try subst hz); exact (by assumption)) (by rfl)) rfl ?_)); refine lw_alloc zOk rfl rfl ?_; intro b4 w4 hn4; refine lw_init tabOk rfl rfl rfl rfl rfl rfl (hn4) rfl ?_; clear hn4 w4; intro w4 hn4; have h4 := hn4.blk; have x4 := hn4.ext; (refine lw_nil ?_; refine qw_then ?_; refine cw_seq ?_; refine cw_region ?_; (refine lw_is ?_; refine lw_pure (by exact pur_fieldAddr0 tabOk rfl rfl rfl) rfl ?_); (refine lw_is ?_; refine lw_pure (by exact pur_load tabOk rfl rfl rfl (by exact fun wz hz => by (try subst hz); exact (Blk.cell (by assumption) (by rfl)))) rfl ?_)); refine cC rfl (Name_c p.name _ wf1) ?_; rintro _ w5 ⟨⟨⟩, x5⟩; have xx5 : Ext w w5 := xx3.trans (x4.trans x5); have xx35 : Ext w3 w5 := x4.trans x5; have h5 := h4.ext x5
   cases hnm : isName p.name
   · try rw [hnm]
     ((refine lw_is ?_; refine lw_pure (by exact pur_not rfl) rfl ?_); (refine lw_is ?_; refine lw_pure (by exact pur_move rfl) rfl ?_); (refine lw_isg ?_; refine lw_off rfl rfl rfl (by rfl) rfl ?_); (refine lw_isg ?_; refine lw_off rfl rfl rfl (by rfl) rfl ?_); (refine lw_isg ?_; refine lw_off rfl rfl rfl (by rfl) rfl ?_); (refine lw_isg ?_; refine lw_off rfl rfl rfl (by rfl) rfl ?_); (refine lw_is ?_; refine lw_pure (by exact pur_pick_t rfl rfl (by rfl)) rfl ?_); (refine lw_is ?_; refine lw_pure (by exact pur_move rfl) rfl ?_); (refine lw_isg ?_; refine lw_off rfl rfl rfl (by rfl) rfl ?_); (refine lw_isg ?_; refine lw_off rfl rfl rfl (by rfl) rfl ?_); (refine lw_isg ?_; refine lw_off rfl rfl rfl (by rfl) rfl ?_); (refine lw_isg ?_; refine lw_off rfl rfl rfl (by rfl) rfl ?_); (refine lw_is ?_; refine lw_pure (by exact pur_pick_t rfl rfl (by rfl)) rfl ?_); (refine lw_is ?_; refine lw_pure (by exact pur_move rfl) rfl ?_); (refine lw_isg ?_; refine lw_off rfl rfl rfl (by rfl) rfl ?_); (refine lw_isg ?_; refine lw_off rfl rfl rfl (by rfl) rfl ?_); (refine lw_isg ?_; refine lw_off rfl rfl rfl (by rfl) rfl ?_); (refine lw_isg ?_; refine lw_off rfl rfl rfl (by rfl) rfl ?_); (refine lw_is ?_; refine lw_pure (by exact pur_pick_t rfl rfl (by rfl)) rfl ?_); refine lw_nil ?_; refine qw_then ?_; (refine cw_is ?_; refine cw_bt rfl (by rfl) ?_); refine cw_seq ?_; refine cw_region ?_; (refine lw_is ?_; refine lw_pure (by exact pur_assign rfl) rfl ?_); refine lw_nil ?_; refine qw_then ?_; refine cw_ret ?_; refine qw_block_ret ?_; refine qw_then_ret ?_; refine qw_then_ret ?_; refine qw_block_ret ?_; refine qw_then_ret ?_)
     refine qw_ret1 Tryz.results6 rfl ?_
     exact ⟨ret_bool (by simp [PG.ok, HN.out (by simp [PD.ok, hnm])]), xx5⟩
   try rw [hnm]
   by_cases c3 : 8 < p.params.length
   · ((refine lw_is ?_; refine lw_pure (by exact pur_not rfl) rfl ?_); (refine lw_is ?_; refine lw_pure (by exact pur_move rfl) rfl ?_); (refine lw_isg ?_; refine lw_on rfl rfl rfl (by rfl) ?_); (refine lw_is ?_; refine lw_pure (by exact pur_fieldAddr tabOk rfl rfl rfl) rfl ?_); (refine lw_isg ?_; refine lw_on rfl rfl rfl (by rfl) ?_); (refine lw_is ?_; refine lw_pure (by exact pur_load tabOk rfl rfl rfl (by exact fun wz hz => by (try subst hz); exact (Blk.cell (by assumption) (by rfl)))) rfl ?_); (refine lw_isg ?_; refine lw_on rfl rfl rfl (by rfl) ?_); (refine lw_is ?_; refine lw_pure (by exact pur_len_slice tabOk rfl rfl) rfl ?_); (refine lw_isg ?_; refine lw_on rfl rfl rfl (by rfl) ?_); (refine lw_is ?_; refine lw_pure (by exact pur_gtr rfl rfl) rfl ?_); (refine lw_is ?_; refine lw_pure (by exact pur_pick_f rfl rfl (by rfl)) rfl ?_); (refine lw_is ?_; refine lw_pure (by exact pur_move rfl) rfl ?_); (refine lw_isg ?_; refine lw_off_yes rfl rfl rfl (by omega) rfl ?_); (refine lw_isg ?_; refine lw_off_yes rfl rfl rfl (by omega) rfl ?_); (refine lw_isg ?_; refine lw_off_yes rfl rfl rfl (by omega) rfl ?_); (refine lw_isg ?_; refine lw_off_yes rfl rfl rfl (by omega) rfl ?_); (refine lw_is ?_; refine lw_pure (by exact pur_pick_yes rfl rfl (by omega)) rfl ?_); (refine lw_is ?_; refine lw_pure (by exact pur_move rfl) rfl ?_); (refine lw_isg ?_; refine lw_off rfl rfl rfl (by rfl) rfl ?_); (refine lw_isg ?_; refine lw_off rfl rfl rfl (by rfl) rfl ?_); (refine lw_isg ?_; refine lw_off rfl rfl rfl (by rfl) rfl ?_); (refine lw_isg ?_; refine lw_off rfl rfl rfl (by rfl) rfl ?_); (refine lw_is ?_; refine lw_pure (by exact pur_pick_t rfl rfl (by rfl)) rfl ?_); refine lw_nil ?_; refine qw_then ?_; (refine cw_is ?_; refine cw_bt rfl (by rfl) ?_); refine cw_seq ?_; refine cw_region ?_; (refine lw_is ?_; refine lw_pure (by exact pur_assign rfl) rfl ?_); refine lw_nil ?_; refine qw_then ?_; refine cw_ret ?_; refine qw_block_ret ?_; refine qw_then_ret ?_; refine qw_then_ret ?_; refine qw_block_ret ?_; refine qw_then_ret ?_)
     refine qw_ret1 Tryz.results6 rfl ?_
     exact ⟨ret_bool (by simp [PG.ok, HN.out (by simp [PD.ok, hnm]; omega)]), xx5⟩
   ((refine lw_is ?_; refine lw_pure (by exact pur_not rfl) rfl ?_); (refine lw_is ?_; refine lw_pure (by exact pur_move rfl) rfl ?_); (refine lw_isg ?_; refine lw_on rfl rfl rfl (by rfl) ?_); (refine lw_is ?_; refine lw_pure (by exact pur_fieldAddr tabOk rfl rfl rfl) rfl ?_); (refine lw_isg ?_; refine lw_on rfl rfl rfl (by rfl) ?_); (refine lw_is ?_; refine lw_pure (by exact pur_load tabOk rfl rfl rfl (by exact fun wz hz => by (try subst hz); exact (Blk.cell (by assumption) (by rfl)))) rfl ?_); (refine lw_isg ?_; refine lw_on rfl rfl rfl (by rfl) ?_); (refine lw_is ?_; refine lw_pure (by exact pur_len_slice tabOk rfl rfl) rfl ?_); (refine lw_isg ?_; refine lw_on rfl rfl rfl (by rfl) ?_); (refine lw_is ?_; refine lw_pure (by exact pur_gtr rfl rfl) rfl ?_); (refine lw_is ?_; refine lw_pure (by exact pur_pick_f rfl rfl (by rfl)) rfl ?_); (refine lw_is ?_; refine lw_pure (by exact pur_move rfl) rfl ?_); (refine lw_isg ?_; refine lw_on_no rfl rfl rfl (by omega) ?_); (refine lw_is ?_; refine lw_pure (by exact pur_fieldAddr tabOk rfl rfl rfl) rfl ?_); (refine lw_isg ?_; refine lw_on_no rfl rfl rfl (by omega) ?_); (refine lw_is ?_; refine lw_pure (by exact pur_load tabOk rfl rfl rfl (by exact fun wz hz => by (try subst hz); exact (Blk.cell (by assumption) (by rfl)))) rfl ?_); (refine lw_isg ?_; refine lw_on_no rfl rfl rfl (by omega) ?_))
   refine cC rfl (declared_c p.params S qa qc _ wf2 wf.params (sv.ext xx35)) ?_; rintro _ w6 ⟨⟨⟩, x6⟩; have xx6 : Ext w w6 := xx5.trans x6; have xx36 : Ext w3 w6 := xx35.trans x6; have h6 := h5.ext x6
   cases hq2 : allOk p.params
   · try rw [hq2]
     ((refine lw_isg ?_; refine lw_on_no rfl rfl rfl (by omega) ?_); (refine lw_is ?_; refine lw_pure (by exact pur_not rfl) rfl ?_); (refine lw_is ?_; refine lw_pure (by exact pur_pick_no rfl rfl (by omega)) rfl ?_); (refine lw_is ?_; refine lw_pure (by exact pur_move rfl) rfl ?_); (refine lw_isg ?_; refine lw_off rfl rfl rfl (by rfl) rfl ?_); (refine lw_isg ?_; refine lw_off rfl rfl rfl (by rfl) rfl ?_); (refine lw_isg ?_; refine lw_off rfl rfl rfl (by rfl) rfl ?_); (refine lw_isg ?_; refine lw_off rfl rfl rfl (by rfl) rfl ?_); (refine lw_is ?_; refine lw_pure (by exact pur_pick_t rfl rfl (by rfl)) rfl ?_); refine lw_nil ?_; refine qw_then ?_; (refine cw_is ?_; refine cw_bt rfl (by rfl) ?_); refine cw_seq ?_; refine cw_region ?_; (refine lw_is ?_; refine lw_pure (by exact pur_assign rfl) rfl ?_); refine lw_nil ?_; refine qw_then ?_; refine cw_ret ?_; refine qw_block_ret ?_; refine qw_then_ret ?_; refine qw_then_ret ?_; refine qw_block_ret ?_; refine qw_then_ret ?_)
     refine qw_ret1 Tryz.results6 rfl ?_
     exact ⟨ret_bool (by simp [PG.ok, HN.out (by simp [PD.ok, hq2])]), xx6⟩
   try rw [hq2]
   ((refine lw_isg ?_; refine lw_on_no rfl rfl rfl (by omega) ?_); (refine lw_is ?_; refine lw_pure (by exact pur_not rfl) rfl ?_); (refine lw_is ?_; refine lw_pure (by exact pur_pick_no rfl rfl (by omega)) rfl ?_); (refine lw_is ?_; refine lw_pure (by exact pur_move rfl) rfl ?_); (refine lw_isg ?_; refine lw_on rfl rfl rfl (by rfl) ?_); (refine lw_is ?_; refine lw_pure (by exact pur_fieldAddr tabOk rfl rfl rfl) rfl ?_); (refine lw_isg ?_; refine lw_on rfl rfl rfl (by rfl) ?_); (refine lw_is ?_; refine lw_pure (by exact pur_loads_blk tabOk rfl rfl rfl (by exact fun wz hz => by (try subst hz); exact (by assumption)) (by rfl)) rfl ?_); (refine lw_isg ?_; refine lw_on rfl rfl rfl (by rfl) ?_))
   refine cC rfl (isBody_c p.body S ba bc _ wf.body (sb.ext xx36)) ?_; rintro _ w7 ⟨⟨⟩, x7⟩; have xx7 : Ext w w7 := xx6.trans x7
   cases hq3 : bodyOk p.body
   · try rw [hq3]
     ((refine lw_isg ?_; refine lw_on rfl rfl rfl (by rfl) ?_); (refine lw_is ?_; refine lw_pure (by exact pur_not rfl) rfl ?_); (refine lw_is ?_; refine lw_pure (by exact pur_pick_f rfl rfl (by rfl)) rfl ?_); refine lw_nil ?_; refine qw_then ?_; (refine cw_is ?_; refine cw_bt rfl (by rfl) ?_); refine cw_seq ?_; refine cw_region ?_; (refine lw_is ?_; refine lw_pure (by exact pur_assign rfl) rfl ?_); refine lw_nil ?_; refine qw_then ?_; refine cw_ret ?_; refine qw_block_ret ?_; refine qw_then_ret ?_; refine qw_then_ret ?_; refine qw_block_ret ?_; refine qw_then_ret ?_)
     refine qw_ret1 Tryz.results6 rfl ?_
     exact ⟨ret_bool (by simp [PG.ok, HN.out (by simp [PD.ok, hq3])]), xx7⟩
   try rw [hq3]
   have hok : p.ok = true := by simp [PD.ok, hnm, hq2, hq3]; omega
   ((refine lw_isg ?_; refine lw_on rfl rfl rfl (by rfl) ?_); (refine lw_is ?_; refine lw_pure (by exact pur_not rfl) rfl ?_); (refine lw_is ?_; refine lw_pure (by exact pur_pick_f rfl rfl (by rfl)) rfl ?_); refine lw_nil ?_; refine qw_then ?_; (refine cw_is ?_; refine cw_bf rfl (by rfl) ?_); refine cw_skip ?_; refine qw_block_norm ?_; refine qw_then ?_; refine cw_region ?_; (refine lw_is ?_; refine lw_pure (by exact pur_add rfl rfl (IntWalk.i64_in _ (by omega))) rfl ?_); (refine lw_is ?_; refine lw_pure (by exact pur_move rfl) rfl ?_); refine lw_nil ?_)
   refine qw_round (j + 1) (by (refine sub_cons rfl ?_; refine sub_cons rfl ?_; refine sub_cons rfl ?_; refine sub_cons rfl ?_; exact sub_nil)) ⟨x3.trans (xx36.trans x7), by omega, fun i hi hij => ?_⟩ (by omega)
   by_cases e : i = j
   · subst e; exact HE.out ▸ hok
   · exact HA.out i hi (by omega)
 · have h3 := h2.ext x3
   (refine cw_seq ?_; refine cw_region ?_; (refine lw_is ?_; refine lw_pure (by exact pur_lss rfl rfl) rfl ?_); refine lw_nil ?_; refine qw_then ?_; refine cw_seq ?_; (refine cw_is ?_; refine cw_no rfl (by omega) ?_); refine cw_exit ?_; refine qw_then_exit ?_; refine qw_then_exit ?_; refine qw_block_exit ?_; refine qw_then ?_; refine cw_seq ?_; refine cw_region ?_; (refine lw_is ?_; refine lw_pure (by exact pur_fieldAddr tabOk rfl rfl rfl) rfl ?_); (refine lw_is ?_; refine lw_pure (by exact pur_loads_blk tabOk rfl rfl rfl (by exact fun wz hz => by (try subst hz); exact (by assumption)) (by rfl)) rfl ?_)); refine cC rfl (isBody_c g.main S ma mc _ hwf.main (hs.main.ext xx3)) ?_; rintro _ w4 ⟨⟨⟩, x4⟩
   ((refine lw_is ?_; refine lw_pure (by exact pur_assign rfl) rfl ?_); refine lw_nil ?_; refine qw_then ?_; refine cw_ret ?_)
   refine qw_ret1 Tryz.results6 rfl ?_; refine ⟨ret_bool ?_, xx3.trans x4⟩; have := procs_true (fun i hi => HA.out i hi (by omega))
   simp [PG.ok, hq, this]; omega
end Bk
namespace Bk
open Go
theorem rowDepth_nnB : ∀ l : List Nd, 0 ≤ rowDepth l
 | [] => by simp [rowDepth]
 | t :: r => by have := rowDepth_nnB r; simp only [rowDepth]; omega
mutual
theorem lim_okB : ∀ (t : Nd) (d m : Int), t.depth ≤ d → (t.size : Int) ≤ m → t.lim d m = (true, m - t.size)
 | .mk _ _ _ l, d, m, hd, hm => by
  simp only [Nd.depth] at hd; simp only [Nd.size] at hm; have h0 : 0 ≤ rowDepth l := rowDepth_nnB l
  unfold Nd.lim
  rw [if_neg (by omega), rowLim_okB l (d - 1) (m - 1) (by omega) (by omega)]; simp only [Nd.size]
  congr 1
  omega
theorem rowLim_okB : ∀ (l : List Nd) (d m : Int), rowDepth l ≤ d → (rowSize l : Int) ≤ m → rowLim l d m = (true, m - rowSize l)
 | [], d, m, _, _ => by simp [rowLim, rowSize]
 | t :: r, d, m, hd, hm => by
  simp only [rowDepth] at hd; simp only [rowSize] at hm; have h1 := lim_okB t d m (by omega) (by omega)
  unfold rowLim
  rw [h1]; simp only [if_true]; rw [rowLim_okB r d _ (by omega) (by omega)]; simp only [rowSize]
  congr 1
  omega
end
mutual
theorem lim_depthB : ∀ (t : Nd) (d m : Int), 0 ≤ d → (t.lim d m).1 = true → t.depth ≤ d
 | .mk _ _ s l, d, m, hd, h => by
  simp only [Nd.lim] at h
  split at h
  · simp at h
  · have := rowLim_depthB l (d - 1) (m - 1) (by omega) h
    simp only [Nd.depth]; omega
theorem rowLim_depthB : ∀ (l : List Nd) (d m : Int), 0 ≤ d → (rowLim l d m).1 = true → rowDepth l ≤ d
 | [], d, m, hd, _ => by simp only [rowDepth]; exact hd
 | t :: r, d, m, hd, h => by
  simp only [rowLim] at h
  split at h
  · rename_i ht
    have h1 := lim_depthB t d m hd ht; have h2 := rowLim_depthB r d _ hd h
    simp only [rowDepth]; omega
  · simp at h
end
mutual
theorem lim_sizeB : ∀ (t : Nd) (d m : Int), 0 ≤ m → (t.lim d m).1 = true → (t.size : Int) + (t.lim d m).2 ≤ m
 | .mk _ _ s l, d, m, hm, h => by
  simp only [Nd.lim] at h ⊢
  split at h
  · simp at h
  · rename_i hn
    rw [if_neg hn]; have := rowLim_sizeB l (d - 1) (m - 1) (by omega) h
    simp only [Nd.size]; omega
theorem rowLim_sizeB : ∀ (l : List Nd) (d m : Int), 0 ≤ m → (rowLim l d m).1 = true → (rowSize l : Int) + (rowLim l d m).2 ≤ m
 | [], d, m, hm, _ => by simp only [rowLim, rowSize]; omega
 | t :: r, d, m, hm, h => by
  simp only [rowLim] at h ⊢
  split at h
  · rename_i ht
    rw [if_pos ht]; have h1 := lim_sizeB t d m hm ht; have h0 := lim_le t d m hm; have h2 := rowLim_sizeB r d (t.lim d m).2 h0.1 h
    simp only [rowSize]; omega
  · simp at h
end
theorem body_iff {t : Nd} : bodyOk t = true ↔ t.isBlock = true ∧ t.depth ≤ 80 ∧ t.size ≤ 2000 := by
 constructor
 · intro h
   simp only [bodyOk, Bool.and_eq_true] at h; have h1 := lim_sizeB t 80 2000 (by omega) h.1; have h2 := lim_le t 80 2000 (by omega)
   exact ⟨h.2, lim_depthB t 80 2000 (by omega) h.1, by omega⟩
 · rintro ⟨h1, h2, h3⟩
   simp only [bodyOk, Bool.and_eq_true]; refine ⟨?_, h1⟩; rw [lim_okB t 80 2000 h2 (by omega)]
theorem ok_parts {g : PG} (h : g.ok = true) : g.vars.length ≤ 32 ∧ g.procs.length ≤ 64 ∧ allOk g.vars = true ∧ (∀ p ∈ g.procs, p.ok = true) ∧ bodyOk g.main = true := by
 simp only [PG.ok, Bool.and_eq_true, decide_eq_true_eq] at h; obtain ⟨⟨⟨⟨h1, h2⟩, h3⟩, h4⟩, h5⟩ := h
 exact ⟨h1, h2, h3, List.all_eq_true.1 h4, h5⟩
theorem parts_ok {g : PG} (h1 : g.vars.length ≤ 32) (h2 : g.procs.length ≤ 64) (h3 : allOk g.vars = true) (h4 : ∀ p ∈ g.procs, p.ok = true) (h5 : bodyOk g.main = true) : g.ok = true := by
 simp only [PG.ok, Bool.and_eq_true, decide_eq_true_eq]
 exact ⟨⟨⟨⟨h1, h2⟩, h3⟩, List.all_eq_true.2 h4⟩, h5⟩
theorem pok_parts {p : PD} (h : p.ok = true) : isName p.name = true ∧ p.params.length ≤ 8 ∧ allOk p.params = true ∧ bodyOk p.body = true := by
 simp only [PD.ok, Bool.and_eq_true, decide_eq_true_eq] at h; obtain ⟨⟨⟨h1, h2⟩, h3⟩, h4⟩ := h
 exact ⟨h1, h2, h3, h4⟩
theorem parts_pok {p : PD} (h1 : isName p.name = true) (h2 : p.params.length ≤ 8) (h3 : allOk p.params = true) (h4 : bodyOk p.body = true) : p.ok = true := by
 simp only [PD.ok, Bool.and_eq_true, decide_eq_true_eq]
 exact ⟨⟨⟨h1, h2⟩, h3⟩, h4⟩
theorem inv_body (q : Bool) {t : Nd} (h : bodyOk t = true) : bodyOk (t.inv q) = true := by
 obtain ⟨h1, h2, h3⟩ := body_iff.1 h; have := inv_ok q (t.size + 1) t (by omega) (Or.inr h1)
 exact body_iff.2 ⟨this.bl h1, by rw [this.depth]; exact h2, by rw [this.size]; exact h3⟩
def PD.map (f : Nd → Nd) (p : PD) : PD := ⟨p.name, p.params, f p.body⟩
def PG.inv (f : Nd → Nd) (q : Bool) (g : PG) : PG := ⟨g.vars, g.procs.map (PD.map f), g.main.inv q⟩
theorem inv_pg_ok {f : Nd → Nd} (q : Bool) {g : PG} (h : g.ok = true) (hf : ∀ p ∈ g.procs, bodyOk (f p.body) = true) : (g.inv f q).ok = true := by
 obtain ⟨h1, h2, h3, h4, h5⟩ := ok_parts h; refine parts_ok h1 (by simpa [PG.inv] using h2) h3 (fun p hp => ?_) (inv_body q h5); obtain ⟨x, hx, rfl⟩ := List.mem_map.1 hp; obtain ⟨p1, p2, p3, p4⟩ := pok_parts (h4 x hx)
 exact parts_pok p1 p2 p3 (hf x hx)
theorem inv_pg_wf {f : Nd → Nd} (q : Bool) {g : PG} (h : g.wf) (hok : g.ok = true) (hf : ∀ p ∈ g.procs, (f p.body).wf) : (g.inv f q).wf := by
 obtain ⟨h1, h2, h3, h4, h5⟩ := ok_parts hok; refine ⟨h.nv, by simpa [PG.inv] using h.np, h.vars, fun p hp => ?_, (inv_ok q (g.main.size + 1) g.main (by omega) (Or.inr (body_iff.1 h5).1)).wf h.main⟩; obtain ⟨x, hx, rfl⟩ := List.mem_map.1 hp; have := h.procs x hx
 exact ⟨this.name, this.len, this.params, hf x hx⟩
theorem ok_mainB {g : PG} (h : g.ok = true) : g.main.isBlock = true := (body_iff.1 (ok_parts h).2.2.2.2).1
end Bk
namespace Bk
open Go Go.RowKit Go.Proofs
attribute [local irreducible] Go.Calls
def ProgR (u : PG) (k : Int) (w : World) : Ending → World → Prop := fun e w' => ∃ va vc pa pc ma mc, e = .returned (.tuple #[.agg (u.cells va vc pa pc ma mc).toArray, .int .i64 k]) ∧ u.sits (fun b => w.heap.size ≤ b ∧ b < w'.heap.size) w' va pa ma ∧ Ext w w'
theorem ProgR.ret {u : PG} {k : Int} {w : World} {e : Ending} {w' : World} (h : ProgR u k w e w') : ∃ v, e = .returned v := by
 obtain ⟨_, _, _, _, _, _, h, -⟩ := h
 exact ⟨_, h⟩
theorem valid_v {g : PG} {b : Bool} (hwf : g.wf) (h : g.ok = b) (S : Nat → Prop) (va : Option Addr) (vc : Nat) (pa : Option Addr) (pc : Nat) (ma : Option Addr) (mc : Nat) (w : World) (hs : g.sits S w va pa ma) :
 Calls Tryz.prog 6 #[.agg (g.cells va vc pa pc ma mc).toArray] w fun e w' => e = .returned (.bool b) ∧ Ext w w' := by
 have := Valid_c g S va vc pa pc ma mc w hwf hs
 rw [h] at this; exact this
theorem PG.sits.ltA {S : Nat → Prop} {w : World} {g : PG} {va pa ma : Option Addr} (h : g.sits S w va pa ma) : g.sits (· < w.heap.size) w va pa ma := ⟨h.vars.lt2.wide fun _ h => h.2, h.procs.ltA, sits_ltA _ _ h.main⟩
theorem procs_snoc (f : Nd → Nd) (l : List PD) (j : Nat) (h : j < l.length) : (l.take (j + 1)).map (PD.map f) = (l.take j).map (PD.map f) ++ [(l[j]).map f] := by
 rw [List.take_succ_eq_append_getElem h, List.map_append]; rfl
theorem PDs.lt2 {S : Nat → Prop} {w : World} {l : List PD} {a : Option Addr} (h : PDs S w l a) : PDs (fun b => S b ∧ b < w.heap.size) w l a := by
 rcases h with h | ⟨b, o, h1, h2, h3⟩
 · exact Or.inl h
 · cases l with
   | nil => exact Or.inl rfl
   | cons v r =>
    obtain ⟨_, _, _, _, hr, -, -⟩ := h3 0 v rfl; refine Or.inr ⟨b, o, h1, ⟨h2, cell_lt (Row.at0 hr rfl)⟩, fun i x hi => ?_⟩; obtain ⟨pa, pc, ba, bc, hr, hv, hs⟩ := h3 i x hi
    exact ⟨pa, pc, ba, bc, hr, hv.lt2, sits_lt2 _ _ hs⟩
def ProgC (u : PG) (k : Int) (w : World) : Ending → World → Prop := fun e w' => ∃ va vc pa pc ma mc, e = .returned (.tuple #[.agg (u.cells va vc pa pc ma mc).toArray, .int .i64 k]) ∧ u.sits (fun b => w.heap.size ≤ b ∧ b < w'.heap.size) w' va pa ma ∧ PDsC (fun b => w.heap.size ≤ b ∧ b < w'.heap.size) w' u.procs pa ∧ u.vars.length ≤ vc ∧ Ext w w'
theorem PDsC.lt2 {S : Nat → Prop} {w : World} {l : List PD} {a : Option Addr} (h : PDsC S w l a) : PDsC (fun b => S b ∧ b < w.heap.size) w l a := by
 rcases h with h | ⟨b, o, h1, h2, h3⟩
 · exact Or.inl h
 · cases l with
   | nil => exact Or.inl rfl
   | cons v r =>
    obtain ⟨_, _, _, _, hr, -, -⟩ := h3 0 v rfl; refine Or.inr ⟨b, o, h1, ⟨h2, cell_lt (Row.at0 hr rfl)⟩, fun i x hi => ?_⟩; obtain ⟨pa, pc, ba, bc, hr, hv, hs, hc⟩ := h3 i x hi
    exact ⟨pa, pc, ba, bc, hr, hv.lt2, sits_lt2 _ _ hs, hc⟩
theorem progC_mk {f : Nd → Nd} {q : Bool} {g : PG} {w w' : World} {va ra ma : Option Addr} {vc rc mc M e : Nat} {xs : List PD} {S1 S2 : Nat → Prop} (hx : xs = g.procs.map (PD.map f)) (hv : VDs S1 w' g.vars va) (hc : g.vars.length ≤ vc) (ho : OwnL pdShapeC w' M e (.slice ra xs.length rc) xs) (hm : (g.main.inv q).sits S2 w' ma) (X : Ext w w') (k1 : ∀ b, S1 b → w.heap.size ≤ b) (k2 : ∀ b, S2 b → w.heap.size ≤ b) (kM : w.heap.size ≤ M) :
 ProgC (g.inv f q) 0 w (.returned (.tuple #[.agg #[.slice va g.vars.length vc, .slice ra xs.length rc, .int .u8 (g.main.inv q).kind, .int .i64 (g.main.inv q).num, str (g.main.inv q).name, .slice ma (g.main.inv q).kids.length mc], .int .i64 0])) w' := by
 subst hx
 have h1 := PDsC.wide (PDsC.lt2 (ho.pdsC (S := fun b => M ≤ b) (fun b hb => hb))) (S' := fun b => w.heap.size ≤ b ∧ b < w'.heap.size) fun b h => ⟨by omega, h.2⟩
 exact ⟨va, vc, ra, rc, ma, mc, rfl, ⟨hv.lt2.wide fun b h => ⟨k1 b h.1, h.2⟩, h1.pds, Nd.sits.wide (sits_lt2 _ _ hm) fun b h => ⟨k2 b h.1, h.2⟩⟩, h1, hc, X⟩
set_option maxRecDepth 100000 in
set_option maxHeartbeats 4000000 in
theorem iprogram_c (q : Bool) (fid : Nat) (f : Nd → Nd) (hbd : bodied Tryz.prog fid = true) (g : PG) (hwf : g.wf) (hok : g.ok = true) (hf : g.few) (hm : g.main.isBlock = true)
 (HB : ∀ p ∈ g.procs, ∀ (S : Nat → Prop) (a : Option Addr) (c : Nat) (w : World), p.body.sits S w a → Calls Tryz.prog fid #[p.body.val a c] w (CopyR (f p.body) w))
 (S : Nat → Prop) (va : Option Addr) (vc : Nat) (pa : Option Addr) (pc : Nat) (ma : Option Addr) (mc : Nat) (w : World) (hs : g.sits S w va pa ma) :
 Calls Tryz.prog 19 #[.agg (g.cells va vc pa pc ma mc).toArray, .func (.func fid) #[] #[], .bool q] w (ProgC (g.inv f q) 0 w) := by
 have X := Ext.refl w; obtain ⟨nv, np, hmz, hps⟩ := hf; have HV := Lib.hid (valid_v hwf hok); have HI := Lib.hid (invert_t q g.main hmz (Or.inr hm)); have HC := Lib.hid (vdClone_c g.vars (by omega)); have HP := Lib.hid HB; have HQ := Lib.hid hps; clear hwf hok hm HB hps; replace hs := hs.ltA; refine calls_in Tryz.func19 Tryz.ntmps19 rfl rfl ?_
 focus
  refine cS ?_; (refine lw_box' [_, _, _, _, _, _] rfl rfl rfl ?_; intro b1 w2 n3); have h4 := n3.blk; have x5 := n3.ext; have p6 := n3.pos; have z7 := n3.size; clear n3; replace X := X.ext x5; replace hs := PG.sits.ext hs x5; clear x5; (refine lw_alloc' [_, _, _, _, _, _] zOk rfl rfl ?_; intro b8 w9 n10); have h12 := n10.blk; have x13 := n10.ext; have p14 := n10.pos; have z15 := n10.size; clear n10; replace h4 := h4.ext x13; replace X := X.ext x13; replace hs := PG.sits.ext hs x13; clear x13; refine C1 Pa (cT (cw_seq (cS (lw_loads_b' [_, _, _, _, _, _] tabOk rfl rfl rfl h4 rfl rfl rfl ?_)))); refine cC rfl (HV.out _ _ _ _ _ _ _ _ (by assumption)) ?_; rintro _ w17 ⟨⟨⟩, x16⟩; have z18 := x16.size; replace h12 := h12.ext x16; replace h4 := h4.ext x16; replace X := X.ext x16; replace hs := PG.sits.ext hs x16; clear x16; refine C1 Pt (cT (cw_cond_f rfl (cw_skip (qw_then ?_)))); rotate_left 1
 refine cw_meet (ι := Nat × Option Addr × Nat × Option Addr × Nat) (fun x => [(1, .func (.func fid) #[] #[]), (3, .pointer (some ⟨b1, 0, none⟩)), (6, .pointer (some ⟨b8, 0, none⟩)), (8, .pointer (some ⟨x.1, 0, none⟩))])
  (fun x w' => Blk w' x.1 [.slice x.2.1 g.vars.length x.2.2.1, .slice none 0 0, .int .u8 (g.main.inv q).kind, .int .i64 (g.main.inv q).num, str (g.main.inv q).name, .slice x.2.2.2.1 (g.main.inv q).kids.length x.2.2.2.2] ∧ VDs (fun b => b8 < b ∧ b ≠ x.1 ∧ b < w'.heap.size) w' g.vars x.2.1 ∧ (g.main.inv q).sits (fun b => b8 < b ∧ b ≠ x.1 ∧ b < w'.heap.size) w' x.2.2.2.1 ∧ b8 < x.1 ∧ x.1 < w'.heap.size ∧ g.vars.length ≤ x.2.2.1 ∧
   Blk w' b1 [.slice va g.vars.length vc, .slice pa g.procs.length pc, .int .u8 g.main.kind, .int .i64 g.main.num, str g.main.name, .slice ma g.main.kids.length mc] ∧ Blk w' b8 [.slice none 0 0, .slice none 0 0, .int .u8 0, .int .i64 0, str [], .slice none 0 0] ∧ g.sits (· < w.heap.size) w' va pa ma ∧ Ext w w') ?_ ?_
 · clear HP HQ HV
   have hv := hs.vars; have hmm := hs.main
   focus
    (refine cw_tdraw (fun wz => Ext w17 wz) 9 (.pure 0 (.pure 1 (.pure 3 (.pure 4 (.pure 5 (.fork 2 (.fork 6 (.pure 7 (.fork 8 .tail .none)) (.fork 8 (.fork 6 (.pure 7 .tail) .none) .none)) (.fork 8 (.fork 2 (.fork 6 (.pure 7 .tail) .none) .none) .none))))))) mixed (by kernel_rfl) (panicOk_then panicOk_body) ?_; intro wa1 xa2 _); have qsa3 : (fun wz => Ext w17 wz) wa1 := xa2; simp only at qsa3; have d_h12 := h12; have d_h4 := h4; have d_hs := hs; have d_hv := hv; have d_hmm := hmm; have za4 := xa2.size; replace h12 := h12.ext xa2; replace h4 := h4.ext xa2; replace X := X.ext xa2; replace hs := PG.sits.ext hs xa2; replace hv := hv.ext xa2; replace hmm := Nd.sits.ext hmm xa2; clear xa2; refine ⟨qsa3, ?_⟩; refine Tq rfl Pg (Tq rfl (Db d_h4) (Tq rfl Pf (Tq rfl (pur_loads_blk' [_, _, _, _] tabOk rfl rfl rfl (fun wz hz => (Blk.ext d_h4 hz)) rfl rfl) (Tq rfl Mv ?_)))); refine tw_does rfl (does_call (by kernel_rfl) rfl (HC.out _ _ _ _ (by assumption)) (fun _ _ h => h.ret)) rfl ?_ (fun _ h => h) ?kra5; rintro _ wa11 ⟨aa6, ⟨ca7, ⟨⟨⟩, ⟨ha8, ⟨xa9, ha10⟩⟩⟩⟩⟩; have za12 := xa9.size; replace qsa3 := qsa3.ext xa9; replace h12 := h12.ext xa9; replace h4 := h4.ext xa9; replace X := X.ext xa9; replace hs := PG.sits.ext hs xa9; replace hv := hv.ext xa9; replace hmm := Nd.sits.ext hmm xa9; clear xa9; refine ⟨qsa3, ?_⟩; refine tw_does rfl (does_call (by kernel_rfl) rfl (HI.out _ _ _ _ (by assumption)) (fun _ _ h => h.ret)) rfl ?_ (fun _ h => h) ?kra13; rintro _ wa18 ⟨aa14, ⟨ca15, ⟨⟨⟩, ⟨ha16, xa17⟩⟩⟩⟩
    have za19 := xa17.size; replace ha8 := ha8.ext xa17; replace qsa3 := qsa3.ext xa17; replace h12 := h12.ext xa17; replace h4 := h4.ext xa17; replace X := X.ext xa17; replace hs := PG.sits.ext hs xa17; replace hv := hv.ext xa17; replace hmm := Nd.sits.ext hmm xa17; clear xa17; refine ⟨qsa3, ?_⟩; refine Tq rfl (pur_build' [_, _, _, _, _, _] tabOk zOk rfl rfl rfl rfl) ?_; (refine tw_does rfl (does_alloc zOk rfl) rfl ?_ (fun _ h => h) tw_none; rintro _ wa22 ⟨ba21, rfl, na23⟩); have ha24 := na23.blk; dsimp only at ha24; have xa25 := na23.ext; have pa26 := na23.pos; have za27 := na23.size; clear na23; replace ha16 := Nd.sits.ext ha16 xa25; replace ha8 := ha8.ext xa25; replace qsa3 := qsa3.ext xa25; replace h12 := h12.ext xa25; replace h4 := h4.ext xa25; replace X := X.ext xa25; replace hs := PG.sits.ext hs xa25; replace hv := hv.ext xa25; replace hmm := Nd.sits.ext hmm xa25; clear xa25; refine ⟨qsa3, ?_⟩; clear d_h12 d_h4 d_hs d_hv d_hmm qsa3; refine tw_tail rfl ?_; (refine lw_store' [_, _, _, _, _, _] [_, _, _, _, _, _] tabOk rfl rfl rfl rfl rfl rfl ha24 rfl rfl ?_; intro wa28 na29); have ha32 := na29.blk; have fa30 := na29.fr; have za31 := na29.size; clear na29 ha24; replace ha16 := Nd.sits.fr ha16 fa30 (by omega); replace ha8 := ha8.fr fa30 (by omega); replace h12 := h12.fr fa30 (by omega); replace h4 := h4.fr fa30 (by omega); replace X := X.fr fa30 (by omega); replace hs := PG.sits.fr hs fa30 (by omega); replace hv := hv.fr fa30 (by omega); replace hmm := Nd.sits.fr hmm fa30 (by omega)
    clear fa30; refine lw_nil ?_; rotate_left 1; (refine tw_does rfl (does_alloc zOk rfl) rfl ?_ (fun _ h => h) tw_none; rintro _ wa35 ⟨ba34, rfl, na36⟩); have ha37 := na36.blk; dsimp only at ha37; have xa38 := na36.ext; have pa39 := na36.pos; have za40 := na36.size; clear na36; replace ha8 := ha8.ext xa38; replace qsa3 := qsa3.ext xa38; replace h12 := h12.ext xa38; replace h4 := h4.ext xa38; replace X := X.ext xa38; replace hs := PG.sits.ext hs xa38; replace hv := hv.ext xa38; replace hmm := Nd.sits.ext hmm xa38; clear xa38; refine ⟨qsa3, ?_⟩; refine tw_does rfl (does_call (by kernel_rfl) rfl (HI.out _ _ _ _ (by assumption)) (fun _ _ h => h.ret)) rfl ?_ (fun _ h => h) tw_none; rintro _ wa46 ⟨aa42, ⟨ca43, ⟨⟨⟩, ⟨ha44, xa45⟩⟩⟩⟩; have za47 := xa45.size; replace ha37 := ha37.ext xa45; replace ha8 := ha8.ext xa45; replace qsa3 := qsa3.ext xa45; replace h12 := h12.ext xa45; replace h4 := h4.ext xa45; replace X := X.ext xa45; replace hs := PG.sits.ext hs xa45; replace hv := hv.ext xa45; replace hmm := Nd.sits.ext hmm xa45; clear xa45; refine ⟨qsa3, ?_⟩; refine Tq rfl (pur_build' [_, _, _, _, _, _] tabOk zOk rfl rfl rfl rfl) ?_; clear d_h12 d_h4 d_hs d_hv d_hmm qsa3; refine tw_tail rfl ?_; (refine lw_store' [_, _, _, _, _, _] [_, _, _, _, _, _] tabOk rfl rfl rfl rfl rfl rfl ha37 rfl rfl ?_; intro wa48 na49); have ha52 := na49.blk; have fa50 := na49.fr; have za51 := na49.size; clear na49 ha37; replace ha44 := Nd.sits.fr ha44 fa50 (by omega); replace ha8 := ha8.fr fa50 (by omega); replace h12 := h12.fr fa50 (by omega)
    replace h4 := h4.fr fa50 (by omega); replace X := X.fr fa50 (by omega); replace hs := PG.sits.fr hs fa50 (by omega); replace hv := hv.fr fa50 (by omega); replace hmm := Nd.sits.fr hmm fa50 (by omega); clear fa50; refine lw_nil ?_; rotate_left 1; (refine tw_does rfl (does_alloc zOk rfl) rfl ?_ (fun _ h => h) tw_none; rintro _ wa55 ⟨ba54, rfl, na56⟩); have ha57 := na56.blk; dsimp only at ha57; have xa58 := na56.ext; have pa59 := na56.pos; have za60 := na56.size; clear na56; replace qsa3 := qsa3.ext xa58; replace h12 := h12.ext xa58; replace h4 := h4.ext xa58; replace X := X.ext xa58; replace hs := PG.sits.ext hs xa58; replace hv := hv.ext xa58; replace hmm := Nd.sits.ext hmm xa58; clear xa58; refine ⟨qsa3, ?_⟩; refine tw_does rfl (does_call (by kernel_rfl) rfl (HC.out _ _ _ _ (by assumption)) (fun _ _ h => h.ret)) rfl ?_ (fun _ h => h) tw_none; rintro _ wa67 ⟨aa62, ⟨ca63, ⟨⟨⟩, ⟨ha64, ⟨xa65, ha66⟩⟩⟩⟩⟩; have za68 := xa65.size; replace ha57 := ha57.ext xa65; replace qsa3 := qsa3.ext xa65; replace h12 := h12.ext xa65; replace h4 := h4.ext xa65; replace X := X.ext xa65; replace hs := PG.sits.ext hs xa65; replace hv := hv.ext xa65; replace hmm := Nd.sits.ext hmm xa65; clear xa65; refine ⟨qsa3, ?_⟩; refine tw_does rfl (does_call (by kernel_rfl) rfl (HI.out _ _ _ _ (by assumption)) (fun _ _ h => h.ret)) rfl ?_ (fun _ h => h) tw_none; rintro _ wa74 ⟨aa70, ⟨ca71, ⟨⟨⟩, ⟨ha72, xa73⟩⟩⟩⟩; have za75 := xa73.size; replace ha64 := ha64.ext xa73; replace ha57 := ha57.ext xa73; replace qsa3 := qsa3.ext xa73
    replace h12 := h12.ext xa73; replace h4 := h4.ext xa73; replace X := X.ext xa73; replace hs := PG.sits.ext hs xa73; replace hv := hv.ext xa73; replace hmm := Nd.sits.ext hmm xa73; clear xa73; refine ⟨qsa3, ?_⟩; refine Tq rfl (pur_build' [_, _, _, _, _, _] tabOk zOk rfl rfl rfl rfl) ?_; clear d_h12 d_h4 d_hs d_hv d_hmm qsa3; refine tw_tail rfl ?_; (refine lw_store' [_, _, _, _, _, _] [_, _, _, _, _, _] tabOk rfl rfl rfl rfl rfl rfl ha57 rfl rfl ?_; intro wa76 na77); have ha80 := na77.blk; have fa78 := na77.fr; have za79 := na77.size; clear na77 ha57; replace ha72 := Nd.sits.fr ha72 fa78 (by omega); replace ha64 := ha64.fr fa78 (by omega); replace h12 := h12.fr fa78 (by omega); replace h4 := h4.fr fa78 (by omega); replace X := X.fr fa78 (by omega); replace hs := PG.sits.fr hs fa78 (by omega); replace hv := hv.fr fa78 (by omega); replace hmm := Nd.sits.fr hmm fa78 (by omega); clear fa78; refine lw_nil ?_; rotate_left 1
   · exact qw_meet (_, _, _, _, _) (by (refine sub_cons rfl ?_; refine sub_cons rfl ?_; refine sub_cons rfl ?_; refine sub_cons rfl ?_; exact sub_nil)) ⟨by assumption, VDs.wide (by assumption) (fun b h => ⟨by omega, by omega, by omega⟩), Nd.sits.wide (by assumption) (fun b h => ⟨by omega, by omega, by omega⟩), by omega, by omega, by assumption, by assumption, by assumption, by assumption, by assumption⟩
   · exact qw_meet (_, _, _, _, _) (by (refine sub_cons rfl ?_; refine sub_cons rfl ?_; refine sub_cons rfl ?_; refine sub_cons rfl ?_; exact sub_nil)) ⟨by assumption, VDs.wide (by assumption) (fun b h => ⟨by omega, by omega, by omega⟩), Nd.sits.wide (by assumption) (fun b h => ⟨by omega, by omega, by omega⟩), by omega, by omega, by assumption, by assumption, by assumption, by assumption, by assumption⟩
   · exact qw_meet (_, _, _, _, _) (by (refine sub_cons rfl ?_; refine sub_cons rfl ?_; refine sub_cons rfl ?_; refine sub_cons rfl ?_; exact sub_nil)) ⟨by assumption, VDs.wide (by assumption) (fun b h => ⟨by omega, by omega, by omega⟩), Nd.sits.wide (by assumption) (fun b h => ⟨by omega, by omega, by omega⟩), by omega, by omega, by assumption, by assumption, by assumption, by assumption, by assumption⟩
 · clear h4 h12 hs X
   rintro ⟨bq, va', vc', ma', mc'⟩ w1 ⟨hbq, hv', hm', o1, o2, hvc, hb1, hb8, hs, X⟩; simp only at hbq hv' hm' o1 o2 hvc; have hp := hs.procs; have hz := Nat.le_refl w1.heap.size; clear hs HV HI HC
   focus
    refine cw_seq (cS (C1 Pf (C1 (Pl hb1) (C1 Pz (C1 Mv (cT (cw_block ?_))))))); rotate_left 1
   refine cw_loop (ι := Nat × List PD × Option Addr × Nat) (fun x => [(1, .func (.func fid) #[] #[]), (3, .pointer (some ⟨b1, 0, none⟩)), (6, .pointer (some ⟨b8, 0, none⟩)), (8, .pointer (some ⟨bq, 0, none⟩)), (24, .slice pa g.procs.length pc), (25, .int .i64 g.procs.length), (26, .int .i64 x.1)])
    (fun x w' => OwnL pdShapeC w' w1.heap.size 52 (.slice x.2.2.1 x.2.1.length x.2.2.2) x.2.1 ∧ x.2.1 = (g.procs.take x.1).map (PD.map f) ∧ x.1 ≤ g.procs.length ∧ Blk w' bq [.slice va' g.vars.length vc', .slice x.2.2.1 x.2.1.length x.2.2.2, .int .u8 (g.main.inv q).kind, .int .i64 (g.main.inv q).num, str (g.main.inv q).name, .slice ma' (g.main.inv q).kids.length mc'] ∧ VDs (fun b => b8 < b ∧ b ≠ bq ∧ b < w1.heap.size) w' g.vars va' ∧ (g.main.inv q).sits (fun b => b8 < b ∧ b ≠ bq ∧ b < w1.heap.size) w' ma' ∧
     Blk w' b1 [.slice va g.vars.length vc, .slice pa g.procs.length pc, .int .u8 g.main.kind, .int .i64 g.main.num, str g.main.name, .slice ma g.main.kids.length mc] ∧ Blk w' b8 [.slice none 0 0, .slice none 0 0, .int .u8 0, .int .i64 0, str [], .slice none 0 0] ∧ PDs (· < w.heap.size) w' g.procs pa ∧ Ext w w' ∧ w1.heap.size ≤ w'.heap.size)
    (fun x => g.procs.length - x.1) (0, [], none, 0) (by (refine sub_cons rfl ?_; refine sub_cons rfl ?_; refine sub_cons rfl ?_; refine sub_cons rfl ?_; refine sub_cons rfl ?_; refine sub_cons rfl ?_; refine sub_cons rfl ?_; exact sub_nil)) ⟨OwnL.nil, by simp, Nat.zero_le _, hbq, hv', hm', hb1, hb8, hp, X, hz⟩ ?_
   clear hbq hv' hm' hb1 hb8 hp X hz; rintro ⟨j, xs, ra, rc⟩ w3 ⟨hown, hxs, hj, hbq, hv', hm', hb1, hb8, hp, X, hz⟩; simp only at hown hxs hj hbq
   have hob : ∀ g', (Value.slice ra xs.length rc).ownBlock = some g' → w1.heap.size ≤ g' ∧ g' < w3.heap.size := fun g' h => ⟨hown.ge h, hown.lt h⟩
   have hxl : xs.length ≤ 1000000 := by rw [hxs, List.length_map, List.length_take]; omega
   refine CW.sub (m := [(1, .func (.func fid) #[] #[]), (3, .pointer (some ⟨b1, 0, none⟩)), (6, .pointer (some ⟨b8, 0, none⟩)), (8, .pointer (some ⟨bq, 0, none⟩)), (24, .slice pa g.procs.length pc), (25, .int .i64 g.procs.length), (26, .int .i64 (j : Int))]) ?_ (by (refine sub_cons rfl ?_; refine sub_cons rfl ?_; refine sub_cons rfl ?_; refine sub_cons rfl ?_; refine sub_cons rfl ?_; refine sub_cons rfl ?_; refine sub_cons rfl ?_; exact sub_nil))
   by_cases hlt : j < g.procs.length
   · obtain ⟨kb, ko, rfl, kS, hk⟩ := Arr.get hp (by omega)
     obtain ⟨xa, xc, ya, yc, rx, vx, sx⟩ := hk j _ (List.getElem?_eq_getElem hlt); have HX := Lib.hid (HP.out _ (List.getElem_mem hlt)); have hxz := HQ.out _ (List.getElem_mem hlt); have HC := Lib.hid (vdClone_c g.procs[j].params (by omega))
     have hnext : xs ++ [(g.procs[j]).map f] = (g.procs.take (j + 1)).map (PD.map f) := by rw [hxs, procs_snoc f _ j hlt]
     clear hk HP HQ hxs
     generalize g.procs[j] = x at *
     focus
      refine cS (C1 V3 (cT (cw_seq (Wyo (cw_skip (qw_then (cw_seq (cw_block (cS (C1 Pi (C1 (Pws rx) ?_))))))))))); (refine lw_alloc' [_, _, _, _, _, _] zOk rfl rfl ?_; intro bc1 wc2 nc3); (refine lw_init' [_, _, _, _, _, _] tabOk rfl rfl rfl rfl rfl rfl nc3 rfl ?_; clear nc3; clear wc2; intro wc4 nc3); have hc5 := nc3.blk; have xc6 := nc3.ext; have pc7 := nc3.pos; have zc8 := nc3.size; clear nc3; replace hown := hown.ext xc6; replace hbq := hbq.ext xc6; replace hv' := VDs.ext hv' xc6; replace hm' := Nd.sits.ext hm' xc6; replace hb8 := hb8.ext xc6; replace X := X.ext xc6; replace hb1 := hb1.ext xc6; replace hp := hp.ext xc6; replace rx := rx.ext xc6; replace vx := vx.ext xc6; replace sx := Nd.sits.ext sx xc6; clear xc6; refine cT ?_; (refine cw_tdraw (fun wz => Ext wc4 wz) 13 (.pure 0 (.pure 1 (.pure 2 (.pure 3 (.pure 4 (.pure 5 (.pure 7 (.pure 8 (.pure 9 (.fork 6 (.fork 10 (.pure 11 (.fork 12 .tail .none)) .none) .none)))))))))) mixed (by kernel_rfl) (panicOk_block (panicOk_then (panicOk_then (panicOk_block (panicOk_then panicOk_body))))) ?_; intro wc9 xc10 _); have qsc11 : (fun wz => Ext wc4 wz) wc9 := xc10; simp only at qsc11; have d_hc5 := hc5; have d_hown := hown; have d_hbq := hbq; have d_hv' := hv'; have d_hm' := hm'; have d_hb8 := hb8; have d_hb1 := hb1; have d_hp := hp; have d_rx := rx; have d_vx := vx; have d_sx := sx; have zc12 := xc10.size; replace hc5 := hc5.ext xc10; replace hown := hown.ext xc10; replace hbq := hbq.ext xc10; replace hv' := VDs.ext hv' xc10; replace hm' := Nd.sits.ext hm' xc10
      replace hb8 := hb8.ext xc10; replace X := X.ext xc10; replace hb1 := hb1.ext xc10; replace hp := hp.ext xc10; replace rx := rx.ext xc10; replace vx := vx.ext xc10; replace sx := Nd.sits.ext sx xc10; clear xc10; refine ⟨qsc11, ?_⟩; refine Tq rfl Pf (Tq rfl (Db d_hbq) (Tq rfl Pg (Tq rfl (Db d_hc5) (Tq rfl Pf (Tq rfl (Db d_hc5) (Tq rfl Mv (Tq rfl Pf (Tq rfl (pur_loads_blk' [_, _, _, _] tabOk rfl rfl rfl (fun wz hz => (Blk.ext d_hc5 hz)) rfl rfl) ?_)))))))); refine tw_does rfl (does_call (by kernel_rfl) rfl (HC.out _ _ _ _ (by assumption)) (fun _ _ h => h.ret)) rfl ?_ (fun _ h => h) tw_none; rintro _ wc19 ⟨ac14, ⟨cc15, ⟨⟨⟩, ⟨hc16, ⟨xc17, hc18⟩⟩⟩⟩⟩; have zc20 := xc17.size; replace qsc11 := qsc11.ext xc17; replace hc5 := hc5.ext xc17; replace hown := hown.ext xc17; replace hbq := hbq.ext xc17; replace hv' := VDs.ext hv' xc17; replace hm' := Nd.sits.ext hm' xc17; replace hb8 := hb8.ext xc17; replace X := X.ext xc17; replace hb1 := hb1.ext xc17; replace hp := hp.ext xc17; replace rx := rx.ext xc17; replace vx := vx.ext xc17; replace sx := Nd.sits.ext sx xc17; clear xc17; refine ⟨qsc11, ?_⟩; refine tw_does rfl (does_callv (fi := []) (ca := []) hbd rfl rfl (HX.out _ _ _ _ (by assumption)) (fun _ _ h => h.ret)) rfl ?_ (fun _ h => h) tw_none; rintro _ wc26 ⟨ac22, ⟨cc23, ⟨⟨⟩, ⟨hc24, xc25⟩⟩⟩⟩; have zc27 := xc25.size; replace hc16 := hc16.ext xc25; replace qsc11 := qsc11.ext xc25; replace hc5 := hc5.ext xc25; replace hown := hown.ext xc25; replace hbq := hbq.ext xc25; replace hv' := VDs.ext hv' xc25
      replace hm' := Nd.sits.ext hm' xc25; replace hb8 := hb8.ext xc25; replace X := X.ext xc25; replace hb1 := hb1.ext xc25; replace hp := hp.ext xc25; replace rx := rx.ext xc25; replace vx := vx.ext xc25; replace sx := Nd.sits.ext sx xc25; clear xc25; refine ⟨qsc11, ?_⟩; refine Tq rfl (pur_build' [_, _, _, _, _, _] tabOk zOk rfl rfl rfl rfl) ?_; (refine tw_does rfl (does_slice' [_, _, _, _, _, _] tabOk zOk rfl rfl rfl rfl rfl rfl rfl rfl rfl) rfl ?_ (fun _ h => h) tw_none; rintro _ wc30 ⟨bc29, rfl, nc31, tc32⟩); clear tc32; have hc33 := nc31.blk; have xc34 := nc31.ext; have pc35 := nc31.pos; have zc36 := nc31.size; clear nc31; replace hc24 := Nd.sits.ext hc24 xc34; replace hc16 := hc16.ext xc34; replace qsc11 := qsc11.ext xc34; replace hc5 := hc5.ext xc34; replace hown := hown.ext xc34; replace hbq := hbq.ext xc34; replace hv' := VDs.ext hv' xc34; replace hm' := Nd.sits.ext hm' xc34; replace hb8 := hb8.ext xc34; replace X := X.ext xc34; replace hb1 := hb1.ext xc34; replace hp := hp.ext xc34; replace rx := rx.ext xc34; replace vx := vx.ext xc34; replace sx := Nd.sits.ext sx xc34; clear xc34; refine ⟨qsc11, ?_⟩; clear d_hc5 d_hown d_hbq d_hv' d_hm' d_hb8 d_hb1 d_hp d_rx d_vx d_sx qsc11; refine tw_tail rfl ?_; refine lw_does (does_appendL (sh := pdShapeC) (z := x.map f) tabOk zOk rfl rfl rfl rfl (by kernel_rfl) rfl rfl rfl (by assumption) (Blk.row (by assumption)) ⟨_, _, _, _, rfl, VDs.wide (by assumption) (fun b h => ⟨by omega, fun e => by have := hob _ e; omega⟩), Nd.sits.wide (by assumption) (fun b h => ⟨by omega, fun e => by have := hob _ e; omega⟩), by assumption⟩ (by omega) (by omega)) rfl ?_ (fun _ h => h)
      rintro _ wc41 ⟨gc37, ⟨capc38, ⟨rfl, ⟨hc39, fc40⟩⟩⟩⟩; have zc42 := fc40.size; clear hc33 hc24 hc16 hc5 hown; replace hbq := hbq.fr fc40 (by omega); replace hv' := VDs.fr hv' fc40 (by omega); replace hm' := Nd.sits.fr hm' fc40 (by omega); replace hb8 := hb8.fr fc40 (by omega); replace X := X.fr fc40 (by omega); replace hb1 := hb1.fr fc40 (by omega); replace hp := hp.fr fc40 (by omega); replace rx := Row.fr rx fc40 (by simp only; omega); replace vx := vx.fr fc40 (by omega); replace sx := Nd.sits.fr sx fc40 (by omega); clear fc40; refine C1 Pf ?_; (refine lw_store' [_] [_, _, _, _, _, _] tabOk rfl rfl rfl rfl rfl rfl hbq rfl rfl ?_; intro wc43 nc44); have hc47 := nc44.blk; have fc45 := nc44.fr; have zc46 := nc44.size; clear nc44 hbq; replace hc39 := hc39.fr fc45 (by omega); replace hv' := VDs.fr hv' fc45 (by omega); replace hm' := Nd.sits.fr hm' fc45 (by omega); replace hb8 := hb8.fr fc45 (by omega); replace X := X.fr fc45 (by omega); replace hb1 := hb1.fr fc45 (by omega); replace hp := hp.fr fc45 (by omega); replace rx := Row.fr rx fc45 (by simp only; omega); replace vx := vx.fr fc45 (by omega); replace sx := Nd.sits.fr sx fc45 (by omega); clear fc45; refine lw_nil (qw_block_norm (qw_then (cw_region (C1 V7 (C1 Mv (lw_nil ?_)))))); rotate_left 1
     exact qw_round (j + 1, xs ++ [x.map f], some ⟨_, 0, none⟩, _) (by (refine sub_cons rfl ?_; refine sub_cons rfl ?_; refine sub_cons rfl ?_; refine sub_cons rfl ?_; refine sub_cons rfl ?_; refine sub_cons rfl ?_; refine sub_cons rfl ?_; exact sub_nil)) ⟨by assumption, hnext, by simp only; omega, by assumption, hv', hm', hb1, hb8, hp, X, by omega⟩ (by simp only; omega)
   · have hje : j = g.procs.length := by omega
     subst hje; rw [List.take_length] at hxs
     focus
      refine cS (C1 V3 (cT (cw_seq (Wno (cw_exit (qw_then_exit (qw_then_exit (qw_block_exit (qw_then (cS (lw_loads_b' [_, _, _, _, _, _] tabOk rfl rfl rfl hbq rfl rfl rfl ?_))))))))))); (refine lw_store' [_, _, _, _, _, _] [_, _, _, _, _, _] tabOk rfl rfl rfl rfl rfl rfl hb8 rfl rfl ?_; intro wd1 nd2); have hd5 := nd2.blk; have fd3 := nd2.fr; have zd4 := nd2.size; clear nd2 hb8; replace hown := hown.fr fd3 (by omega); replace hbq := hbq.fr fd3 (by omega); replace hv' := VDs.fr hv' fd3 (by omega); replace hm' := Nd.sits.fr hm' fd3 (by omega); replace hb1 := hb1.fr fd3 (by omega); replace hp := hp.fr fd3 (by omega); replace X := X.fr fd3 (by omega); clear fd3; refine C1 Pa (cT (cw_ret ?_)); rotate_left 1
     refine qw_retc2 rfl tabOk rfl rfl rfl (by assumption) rfl rfl ?_
     exact progC_mk hxs hv' hvc hown hm' X (fun b h => by omega) (fun b h => by omega) (by omega)
end Bk
namespace Bk
open Go Go.RowKit Go.Proofs
attribute [local irreducible] Go.Calls
theorem few_okI {g : PG} (h : g.ok = true) : g.few := by
 obtain ⟨h1, h2, -, h4, h5⟩ := ok_parts h; obtain ⟨-, -, b3⟩ := body_iff.1 h5; refine ⟨by omega, by omega, by omega, fun p hp => ?_⟩; obtain ⟨-, c1, -, c4⟩ := pok_parts (h4 p hp); obtain ⟨-, -, c3⟩ := body_iff.1 c4
 exact ⟨by omega, by omega⟩
theorem PG.inv_id (q : Bool) (g : PG) : g.inv id q = ⟨g.vars, g.procs, g.main.inv q⟩ := by
 unfold PG.inv
 congr 1
 conv => rhs; rw [← List.map_id g.procs]
 refine List.map_congr_left fun p _ => ?_
 obtain ⟨a, b, c⟩ := p
 rfl
theorem prog_v {g : PG} (hwf : g.wf) (hok : g.ok = true) (S : Nat → Prop) (va : Option Addr) (vc : Nat) (pa : Option Addr) (pc : Nat) (ma : Option Addr) (mc : Nat) (w : World) (hs : g.sits S w va pa ma) :
 Calls Tryz.prog 19 #[.agg (g.cells va vc pa pc ma mc).toArray, .func (.func 20) #[] #[], .bool false] w (ProgC (g.inv id false) 0 w) :=
 iprogram_c false 20 id (by kernel_rfl) g hwf hok (few_okI hok) (ok_mainB hok) (fun p hp S a c w hs => clone_t p.body ((few_okI hok).procs p hp).2 S a c w hs) S va vc pa pc ma mc w hs
theorem progC_ext {u : PG} {k : Int} {w w' : World} {va pa ma : Option Addr} {vc pc mc lo hi : Nat} (hs : u.sits (fun b => lo ≤ b ∧ b < hi) w' va pa ma) (hp : PDsC (fun b => lo ≤ b ∧ b < hi) w' u.procs pa) (hc : u.vars.length ≤ vc) (X : Ext w w') (hl : w.heap.size ≤ lo) (hh : hi ≤ w'.heap.size) : ProgC u k w (.returned (.tuple #[.agg #[.slice va u.vars.length vc, .slice pa u.procs.length pc, .int .u8 u.main.kind, .int .i64 u.main.num, str u.main.name, .slice ma u.main.kids.length mc], .int .i64 k])) w' :=
 ⟨va, vc, pa, pc, ma, mc, rfl, ⟨hs.vars.wide fun b h => by omega, PDs.wide hs.procs fun b h => by omega, Nd.sits.wide hs.main fun b h => by omega⟩, PDsC.wide hp fun b h => by omega, hc, X⟩
set_option maxRecDepth 100000 in
set_option maxHeartbeats 4000000 in
theorem iProgram_rc {k : Int} (u g : PG) (HI : ∀ (S : Nat → Prop) (va : Option Addr) (vc : Nat) (pa : Option Addr) (pc : Nat) (ma : Option Addr) (mc : Nat) (w : World), g.sits S w va pa ma →
      Calls Tryz.prog 19 #[.agg (g.cells va vc pa pc ma mc).toArray, .func (.func 20) #[] #[], .bool false] w (ProgC u k w))
 (S : Nat → Prop) (va : Option Addr) (vc : Nat) (pa : Option Addr) (pc : Nat) (ma : Option Addr) (mc : Nat) (w : World) (hs : g.sits S w va pa ma) :
 Calls Tryz.prog 7 #[.agg (g.cells va vc pa pc ma mc).toArray] w (ProgC u k w) := by
 have X := Ext.refl w; replace hs := hs.ltA; replace HI := Lib.hid HI; refine calls_in Tryz.func7 Tryz.ntmps7 rfl rfl ?_
 focus
  refine cS ?_; (refine lw_box' [_, _, _, _, _, _] rfl rfl rfl ?_; intro b1 w2 n3); have h4 := n3.blk; have x5 := n3.ext; have p6 := n3.pos; have z7 := n3.size; clear n3; replace X := X.ext x5; replace hs := PG.sits.ext hs x5; clear x5; (refine lw_alloc' [_, _, _, _, _, _] zOk rfl rfl ?_; intro b8 w9 n10); have h12 := n10.blk; have x13 := n10.ext; have p14 := n10.pos; have z15 := n10.size; clear n10; replace h4 := h4.ext x13; replace X := X.ext x13; replace hs := PG.sits.ext hs x13; clear x13; refine C1 Pa (cN (lw_loads_b' [_, _, _, _, _, _] tabOk rfl rfl rfl h4 rfl rfl rfl ?_)); refine lw_does (does_call (by kernel_rfl) rfl (HI.out _ _ _ _ _ _ _ _ (by assumption)) (fun _ _ ⟨_, _, _, _, _, _, h⟩ => ⟨_, h.1⟩)) rfl ?_ (fun _ h => h); rintro _ w26 ⟨va16, ⟨vc17, ⟨pa18, ⟨pc19, ⟨ma20, ⟨mc21, ⟨⟨⟩, ⟨h22, ⟨h23, ⟨h24, x25⟩⟩⟩⟩⟩⟩⟩⟩⟩⟩; have z27 := x25.size; replace h12 := h12.ext x25; replace h4 := h4.ext x25; replace X := X.ext x25; replace hs := PG.sits.ext hs x25; clear x25; refine C1 Px (C1 Px ?_); (refine lw_store' [_, _, _, _, _, _] [_, _, _, _, _, _] tabOk rfl rfl rfl rfl rfl rfl h12 rfl rfl ?_; intro w28 n29); have h32 := n29.blk; have f30 := n29.fr; have z31 := n29.size; clear n29 h12; replace h22 := PG.sits.fr h22 f30 (by omega); replace h23 := h23.fr f30 (by omega); replace h4 := h4.fr f30 (by omega); replace X := X.fr f30 (by omega); replace hs := PG.sits.fr hs f30 (by omega); clear f30; refine C1 Pa (cT (cw_ret ?_)); rotate_left 1
 refine qw_retc2 rfl tabOk rfl rfl rfl (by assumption) rfl rfl ?_
 exact progC_ext (by assumption) (by assumption) (by assumption) X (by omega) (by omega)
theorem iProgram_vc {g : PG} (hwf : g.wf) (hok : g.ok = true) (S : Nat → Prop) (va : Option Addr) (vc : Nat) (pa : Option Addr) (pc : Nat) (ma : Option Addr) (mc : Nat) (w : World) (hs : g.sits S w va pa ma) :
 Calls Tryz.prog 7 #[.agg (g.cells va vc pa pc ma mc).toArray] w (ProgC (g.inv id false) 0 w) := iProgram_rc _ g (prog_v hwf hok) S va vc pa pc ma mc w hs
end Bk
namespace Bk
open Go Go.RowKit Go.Proofs
attribute [local irreducible] Go.Calls
def LenR (n : Nat) (w : World) : Ending → World → Prop := fun e w' => ∃ a c, e = .returned (.slice a n c) ∧ Ext w w'
theorem LenR.ret {n : Nat} {w : World} {e : Ending} {w' : World} (h : LenR n w e w') : ∃ v, e = .returned v := by
 obtain ⟨_, _, h, -⟩ := h
 exact ⟨_, h⟩
theorem VDs.take {S : Nat → Prop} {w : World} {l : List VD} {a : Option Addr} (h : VDs S w l a) (i : Nat) : VDs S w (l.take i) a := by
 rcases h with h | ⟨b, o, h1, h2, h3⟩
 · exact Or.inl (by rw [h]; simp)
 · refine Or.inr ⟨b, o, h1, h2, fun j v hj => h3 j v ?_⟩
   rw [List.getElem?_take] at hj
   split at hj
   · exact hj
   · cases hj
theorem procsF_le (ps : List PD) (K : Nat) : ∀ (l : List PD) (i : Nat), (∀ (i : Nat) (p : PD), p ∈ l → procF ps i p ≤ K) → procsF ps i l ≤ l.length * K
 | [], _, _ => by simp [procsF]
 | p :: r, i, h => by
  have h1 := h i p (by simp); have h2 := procsF_le ps K r (i + 1) (fun i q hq => h i q (by simp [hq]))
  unfold procF at h1
  simp only [procsF, List.length_cons, Nat.add_mul]; omega
theorem eff_mk {fb : Nat} {w w1 w' : World} {v v' : Value} (x : Fr (fun k => k = fb ∨ v.ownBlock = some k) w w') (h : ∀ g, v'.ownBlock = some g → v.ownBlock = some g ∨ w1.heap.size ≤ g) (hs : w.heap.size ≤ w1.heap.size) : Eff fb w v w' v' := ⟨x, fun g hg => (h g hg).imp id fun h => by omega⟩
theorem path_lit {w : World} {b : Nat} {v : Value} (h : Blk w b [v]) (h1 : Value.one v = true) : PathAt (fun _ => True) w (some ⟨b, 0, none⟩) 1 1 := ⟨⟨Nat.le_refl _, fun e => by cases e⟩, [v], rfl, by simp [h1], Or.inr ⟨b, 0, rfl, trivial, h.row⟩⟩
set_option maxRecDepth 100000 in
set_option maxHeartbeats 8000000 in
theorem scheck_c (g : PG) (hwf : g.wf) (hok : g.ok = true) (S : Nat → Prop) (va : Option Addr) (vc : Nat) (pa : Option Addr) (pc : Nat) (ma : Option Addr) (mc : Nat) (w : World) (hs : g.sits S w va pa ma) (hps : PDsC S w g.procs pa) (hvc : g.vars.length ≤ vc) :
 Calls Tryz.prog 10 #[.agg (g.cells va vc pa pc ma mc).toArray] w (LenR g.flt w) := by
 have hfew := few_okI hok; have HV := Lib.hid (valid_v hwf hok); have hvs := hs.vars.ltV; have hms := sits_ltA _ _ hs.main; replace hps := hps.ltA; replace hs := hs.ltA; have X := Ext.refl w; refine calls_in Tryz.func10 Tryz.ntmps10 rfl rfl ?_
 focus
  refine cS ?_; (refine lw_box' [_, _, _, _, _, _] rfl rfl rfl ?_; intro b1 w2 n3); have h4 := n3.blk; have x5 := n3.ext; have p6 := n3.pos; have z7 := n3.size; clear n3; replace hvs := hvs.ext x5; replace hms := Nd.sits.ext hms x5; replace hps := hps.ext x5; replace hs := PG.sits.ext hs x5; replace X := X.ext x5; clear x5; refine C1 Pa (cT (cw_seq (cS (lw_loads_b' [_, _, _, _, _, _] tabOk rfl rfl rfl h4 rfl rfl rfl ?_)))); refine cC rfl (HV.out _ _ _ _ _ _ _ _ (by assumption)) ?_; rintro _ w9 ⟨⟨⟩, x8⟩; have z10 := x8.size; replace h4 := h4.ext x8; replace hvs := hvs.ext x8; replace hms := Nd.sits.ext hms x8; replace hps := hps.ext x8; replace hs := PG.sits.ext hs x8; replace X := X.ext x8; clear x8; refine C1 Pt (cT (cw_cond_f rfl (cw_skip (qw_then (cS ?_))))); (refine lw_alloc' [_] zOk rfl rfl ?_; intro b11 w12 n13); have h15 := n13.blk; have x16 := n13.ext; have p17 := n13.pos; have z18 := n13.size; clear n13; replace h4 := h4.ext x16; replace hvs := hvs.ext x16; replace hms := Nd.sits.ext hms x16; replace hps := hps.ext x16; replace hs := PG.sits.ext hs x16; replace X := X.ext x16; clear x16; refine cN (C1 (pur_funcC rfl) ?_); (refine lw_alloc' [_] zOk rfl rfl ?_; intro b19 w20 n21); (refine lw_init' [_] tabOk rfl rfl rfl rfl rfl rfl n21 rfl ?_; clear n21; clear w20; intro w22 n21); have h23 := n21.blk; have x24 := n21.ext; have p25 := n21.pos; have z26 := n21.size; clear n21; replace h15 := h15.ext x24; replace h4 := h4.ext x24; replace hvs := hvs.ext x24; replace hms := Nd.sits.ext hms x24
  replace hps := hps.ext x24; replace hs := PG.sits.ext hs x24; replace X := X.ext x24; clear x24; refine cT (cw_seq (cS (C1 Pg (C1 (Pl h4) (C1 Pz (C1 Mv (cT ?_))))))); rotate_left 1
 obtain ⟨o1, o2, -, o4, o5⟩ := ok_parts hok; have hF0 : FS w.heap.size b11 0 w22 (.slice none 0 0) := ⟨h15, OwnQ.nil, by simp [Value.ownBlock], by omega⟩; have k1 : Kp b11 w22 (.slice none 0 0) b1 := ⟨by omega, by omega, by simp [Value.ownBlock]⟩; have kR : Kp b11 w22 (.slice none 0 0) b19 := ⟨by omega, by omega, by simp [Value.ownBlock]⟩; refine cw_block ?_; refine cw_loop (ι := Nat × Value) (fun x => [(1, .pointer (some ⟨b1, 0, none⟩)), (3, .pointer (some ⟨b11, 0, none⟩)), (4, .pointer (some ⟨b19, 0, none⟩)), (16, .slice va g.vars.length vc), (17, .int .i64 g.vars.length), (18, .int .i64 x.1)])
  (fun x w' => x.1 ≤ g.vars.length ∧ FS w.heap.size b11 (twiceF [] (g.vars.take x.1)) w' x.2 ∧ Kp b11 w' x.2 b1 ∧ Kp b11 w' x.2 b19 ∧ Blk w' b19 [clo1 b11] ∧ Blk w' b1 (g.cells va vc pa pc ma mc) ∧ VDs (· < w.heap.size) w' g.vars va ∧ g.main.sits (· < w.heap.size) w' ma ∧ PDsC (· < w.heap.size) w' g.procs pa ∧ Ext w w')
  (fun x => g.vars.length - x.1) (0, .slice none 0 0) (by (refine sub_cons rfl ?_; refine sub_cons rfl ?_; refine sub_cons rfl ?_; refine sub_cons rfl ?_; refine sub_cons rfl ?_; refine sub_cons rfl ?_; exact sub_nil)) ⟨Nat.zero_le _, hF0, k1, kR, h23, h4, hvs, hms, hps, X⟩ ?_
 clear hF0 k1 kR h23 h4 hvs hms hps X h15 hs; rintro ⟨j, vj⟩ w3 ⟨hj, hF, k1, kR, h23, h4, hvs, hms, hps, X⟩; simp only at hj hF k1 kR h23 h4 hvs hms hps X
 by_cases hlt : j < g.vars.length
 · have hown : ∀ q, vj.ownBlock = some q → w.heap.size ≤ q ∧ q < w3.heap.size ∧ q ≠ b1 ∧ q ≠ b19 := fun q hq => ⟨hF.own.ge hq, hF.own.lt hq, fun e => k1.2.2 (e ▸ hq), fun e => kR.2.2 (e ▸ hq)⟩
   have hn1 := k1.not; have hnR := kR.not; have hb1 := k1.1; have hbR := kR.1; have hfb3 := hF.cell.lt; have hxs := X.size; obtain ⟨kb, ko, rfl, kS, hget⟩ := hvs.get (by intro e; rw [e] at hlt; simp at hlt); have r0 := hget j g.vars[j] (List.getElem?_eq_getElem hlt)
   have htl : (g.vars.take j).length = j := by simp; omega
   have htw := twiceF_le (g.vars.take j) []; have hvt := hvs.take j; have HFr := Lib.hid (fresh_c (g.vars.take j) (by omega) g.vars[j].name); rw [htl] at HFr; have hnx := twiceF_take g.vars [] j hlt; rw [List.nil_append] at hnx; have HRep := Lib.hid (fun (w' : World) (x : Ext w3 w') (S : Nat → Prop) (qa : Option Addr) (qn qc : Nat) (hq : qn ≤ 1000000) (p : PathAt S w' qa qn qc) => report_c w.heap.size b11 (twiceF [] (g.vars.take j)) vj (-1) (freshE (g.vars.take j) g.vars[j].name) g.vars[j].name S qa qn qc w' (by omega) hq p (hF.ext x)); rw [← hnx] at HRep; clear hget hF hnx htw; have hm : (j : Int) = (j : Int) := rfl
   generalize g.vars[j] = x at *
   obtain ⟨xn, xk, xl⟩ := x; dsimp only at HFr HRep; replace r0 : Row w3 ⟨kb, ko + j * 3, none⟩ [str xn, .int .u8 xk, .int .i64 xl] := r0
   generalize freshE (g.vars.take j) xn = ex at *
   unfold clo1 at h23
   have X3 := Ext.refl w3; have X4 := Fr.refl (fun k => k = b11 ∨ vj.ownBlock = some k) w3
   focus
    refine cS (C1 V3 (cT (cw_seq (Wyo (cw_skip (qw_then (cw_seq (cw_block (cS (C1 Mv (C1 Pi ?_))))))))))); refine C1 (Pws r0) ?_; (refine lw_alloc' [_, _, _] zOk rfl rfl ?_; intro ba1 wa2 na3); have ha5 := na3.blk; have xa6 := na3.ext; have pa7 := na3.pos; have za8 := na3.size; clear na3; replace h23 := h23.ext xa6; replace hms := Nd.sits.ext hms xa6; replace hps := hps.ext xa6; replace X := X.ext xa6; replace h4 := h4.ext xa6; replace hvs := hvs.ext xa6; replace hvt := hvt.ext xa6; replace r0 := r0.ext xa6; replace X3 := X3.ext xa6; replace X4 := X4.ext xa6; clear xa6; refine C1 Pa ?_; (refine lw_store' [_, _, _] [_, _, _] tabOk rfl rfl rfl rfl rfl rfl ha5 rfl rfl ?_; intro wa9 na10); have ha13 := na10.blk; have fa11 := na10.fr; have za12 := na10.size; clear na10 ha5; replace h23 := h23.fr fa11 (by omega); replace hms := Nd.sits.fr hms fa11 (by omega); replace hps := hps.fr fa11 (by omega); replace X := X.fr fa11 (by omega); replace h4 := h4.fr fa11 (by omega); replace hvs := hvs.fr fa11 (by omega); replace hvt := hvt.fr fa11 (by omega); replace r0 := Row.fr r0 fa11 (by simp only; omega); replace X3 := X3.fr fa11 (by omega); replace X4 := X4.fr fa11 (by omega); clear fa11; refine cT ?_; (refine cw_tdraw (fun wz => Ext wa9 wz) 12 (.pure 0 (.pure 1 (.pure 3 (.pure 4 (.pure 5 (.pure 6 (.pure 7 (.pure 8 (.pure 9 (.pure 10 (.fork 2 (.fork 11 .tail .none) (.fork 11 (.fork 2 .tail .none) .none)))))))))))) mixed (by kernel_rfl) (panicOk_block (panicOk_then (panicOk_then (panicOk_block (panicOk_then panicOk_body))))) ?_; intro wa14 xa15 _)
    have qsa16 : (fun wz => Ext wa9 wz) wa14 := xa15; simp only at qsa16; have d_ha13 := ha13; have d_h23 := h23; have d_hms := hms; have d_hps := hps; have d_h4 := h4; have d_hvs := hvs; have d_hvt := hvt; have d_r0 := r0; have za17 := xa15.size; replace ha13 := ha13.ext xa15; replace h23 := h23.ext xa15; replace hms := Nd.sits.ext hms xa15; replace hps := hps.ext xa15; replace X := X.ext xa15; replace h4 := h4.ext xa15; replace hvs := hvs.ext xa15; replace hvt := hvt.ext xa15; replace r0 := r0.ext xa15; replace X3 := X3.ext xa15; replace X4 := X4.ext xa15; clear xa15; refine ⟨qsa16, ?_⟩; refine Tq rfl (Db d_h23) (Tq rfl Mv (Tq rfl Pg (Tq rfl (Db d_ha13) (Tq rfl Pg (Tq rfl (Db d_h4) (Tq rfl Mv ?_)))))); refine Tq rfl (pur_slH tabOk rfl rfl rfl rfl hm (by omega)) ?_; refine Tq rfl Pg (Tq rfl (Db d_ha13) ?_); (refine tw_does rfl (does_slice' [_] tabOk zOk rfl rfl rfl rfl rfl rfl rfl rfl rfl) rfl ?_ (fun _ h => h) ?kra18; rintro _ wa20 ⟨ba19, rfl, na21, ta22⟩); clear ta22; have ha23 := na21.blk; dsimp only at ha23; have xa24 := na21.ext; have pa25 := na21.pos; have za26 := na21.size; clear na21; replace qsa16 := qsa16.ext xa24; replace ha13 := ha13.ext xa24; replace h23 := h23.ext xa24; replace hms := Nd.sits.ext hms xa24; replace hps := hps.ext xa24; replace X := X.ext xa24; replace h4 := h4.ext xa24; replace hvs := hvs.ext xa24; replace hvt := hvt.ext xa24; replace r0 := r0.ext xa24; replace X3 := X3.ext xa24; replace X4 := X4.ext xa24; clear xa24; refine ⟨qsa16, ?_⟩; refine tw_does rfl (does_call (by kernel_rfl) rfl (HFr.out _ _ _ _ hvt) (fun _ _ h => ⟨_, h.1⟩)) rfl ?_ (fun _ h => h) tw_none
    rintro _ wa29 ⟨⟨⟩, xa28⟩; have za30 := xa28.size; replace ha23 := ha23.ext xa28; replace qsa16 := qsa16.ext xa28; replace ha13 := ha13.ext xa28; replace h23 := h23.ext xa28; replace hms := Nd.sits.ext hms xa28; replace hps := hps.ext xa28; replace X := X.ext xa28; replace h4 := h4.ext xa28; replace hvs := hvs.ext xa28; replace hvt := hvt.ext xa28; replace r0 := r0.ext xa28; replace X3 := X3.ext xa28; replace X4 := X4.ext xa28; clear xa28; refine ⟨qsa16, ?_⟩; clear d_ha13 d_h23 d_hms d_hps d_h4 d_hvs d_hvt d_r0 qsa16; refine tw_tail rfl ?_; refine lw_does (does_callv (fi := []) (ca := [.pointer (some ⟨b11, 0, none⟩)]) (by kernel_rfl) rfl rfl (HRep.out _ (by assumption) _ _ _ _ (by omega) (path_lit (by assumption) rfl)) (fun _ _ h => h.ret)) rfl ?_ (fun _ h => h); rintro _ wa35 ⟨⟨⟩, ⟨v'a31, ⟨ha32, ⟨fa33, ha34⟩⟩⟩⟩; have za36 := fa33.size; replace ha23 := Blk.fr ha23 fa33 (fun h => by (rcases h with h | h; omega; have := hown _ h; omega)); replace ha13 := Blk.fr ha13 fa33 (fun h => by (rcases h with h | h; omega; have := hown _ h; omega)); replace h23 := Blk.fr h23 fa33 (hnR); replace hms := Nd.sits.fr hms fa33 (fun b hb h => by (rcases h with h | h; omega; have := hown _ h; omega)); replace hps := PDsC.fr hps fa33 (fun b hb h => by (rcases h with h | h; omega; have := hown _ h; omega)); replace X := Ext.fr X fa33 (fun k hk => by (rcases hk with h | h; omega; have := hown _ h; omega)); replace h4 := Blk.fr h4 fa33 (hn1); replace hvs := VDs.fr hvs fa33 (fun b hb h => by (rcases h with h | h; omega; have := hown _ h; omega))
    replace hvt := VDs.fr hvt fa33 (fun b hb h => by (rcases h with h | h; omega; have := hown _ h; omega)); clear r0; replace X4 := Fr.fr X4 fa33 (fun k hk => Or.inl hk); clear fa33; refine lw_nil (qw_block_norm (qw_then (cw_region (C1 V7 (C1 Mv (lw_nil ?_)))))); rotate_left 1; refine tw_does rfl (does_call (by kernel_rfl) rfl (HFr.out _ _ _ _ hvt) (fun _ _ h => ⟨_, h.1⟩)) rfl ?_ (fun _ h => h) tw_none; rintro _ wa39 ⟨⟨⟩, xa38⟩; have za40 := xa38.size; replace qsa16 := qsa16.ext xa38; replace ha13 := ha13.ext xa38; replace h23 := h23.ext xa38; replace hms := Nd.sits.ext hms xa38; replace hps := hps.ext xa38; replace X := X.ext xa38; replace h4 := h4.ext xa38; replace hvs := hvs.ext xa38; replace hvt := hvt.ext xa38; replace r0 := r0.ext xa38; replace X3 := X3.ext xa38; replace X4 := X4.ext xa38; clear xa38; refine ⟨qsa16, ?_⟩; (refine tw_does rfl (does_slice' [_] tabOk zOk rfl rfl rfl rfl rfl rfl rfl rfl rfl) rfl ?_ (fun _ h => h) tw_none; rintro _ wa43 ⟨ba42, rfl, na44, ta45⟩); clear ta45; have ha46 := na44.blk; dsimp only at ha46; have xa47 := na44.ext; have pa48 := na44.pos; have za49 := na44.size; clear na44; replace qsa16 := qsa16.ext xa47; replace ha13 := ha13.ext xa47; replace h23 := h23.ext xa47; replace hms := Nd.sits.ext hms xa47; replace hps := hps.ext xa47; replace X := X.ext xa47; replace h4 := h4.ext xa47; replace hvs := hvs.ext xa47; replace hvt := hvt.ext xa47; replace r0 := r0.ext xa47; replace X3 := X3.ext xa47; replace X4 := X4.ext xa47; clear xa47; refine ⟨qsa16, ?_⟩
    clear d_ha13 d_h23 d_hms d_hps d_h4 d_hvs d_hvt d_r0 qsa16; refine tw_tail rfl ?_; refine lw_does (does_callv (fi := []) (ca := [.pointer (some ⟨b11, 0, none⟩)]) (by kernel_rfl) rfl rfl (HRep.out _ (by assumption) _ _ _ _ (by omega) (path_lit (by assumption) rfl)) (fun _ _ h => h.ret)) rfl ?_ (fun _ h => h); rintro _ wa54 ⟨⟨⟩, ⟨v'a50, ⟨ha51, ⟨fa52, ha53⟩⟩⟩⟩; have za55 := fa52.size; replace ha46 := Blk.fr ha46 fa52 (fun h => by (rcases h with h | h; omega; have := hown _ h; omega)); replace ha13 := Blk.fr ha13 fa52 (fun h => by (rcases h with h | h; omega; have := hown _ h; omega)); replace h23 := Blk.fr h23 fa52 (hnR); replace hms := Nd.sits.fr hms fa52 (fun b hb h => by (rcases h with h | h; omega; have := hown _ h; omega)); replace hps := PDsC.fr hps fa52 (fun b hb h => by (rcases h with h | h; omega; have := hown _ h; omega)); replace X := Ext.fr X fa52 (fun k hk => by (rcases hk with h | h; omega; have := hown _ h; omega)); replace h4 := Blk.fr h4 fa52 (hn1); replace hvs := VDs.fr hvs fa52 (fun b hb h => by (rcases h with h | h; omega; have := hown _ h; omega)); replace hvt := VDs.fr hvt fa52 (fun b hb h => by (rcases h with h | h; omega; have := hown _ h; omega)); clear r0; replace X4 := Fr.fr X4 fa52 (fun k hk => Or.inl hk); clear fa52; refine lw_nil (qw_block_norm (qw_then (cw_region (C1 V7 (C1 Mv (lw_nil ?_)))))); rotate_left 1
   · have e4 := eff_mk X4 (by assumption) (by omega)
     exact qw_round (j + 1, _) (by (refine sub_cons rfl ?_; refine sub_cons rfl ?_; refine sub_cons rfl ?_; refine sub_cons rfl ?_; refine sub_cons rfl ?_; refine sub_cons rfl ?_; exact sub_nil)) ⟨by simp only; omega, by assumption, k1.eff e4, kR.eff e4, h23, h4, hvs, hms, hps, X⟩ (by simp only; omega)
   · have e4 := eff_mk X4 (by assumption) (by omega)
     exact qw_round (j + 1, _) (by (refine sub_cons rfl ?_; refine sub_cons rfl ?_; refine sub_cons rfl ?_; refine sub_cons rfl ?_; refine sub_cons rfl ?_; refine sub_cons rfl ?_; exact sub_nil)) ⟨by simp only; omega, by assumption, k1.eff e4, kR.eff e4, h23, h4, hvs, hms, hps, X⟩ (by simp only; omega)
 · obtain rfl : j = g.vars.length := by omega
   rw [List.take_length] at hF
   focus
    refine cS (C1 V3 (cT (cw_seq (Wno (cw_exit (qw_then_exit (qw_then_exit (qw_block_exit (qw_then (cw_seq (cS ?_))))))))))); refine C1 Pf (C1 (Pl h4) (C1 Pz (C1 Mv (cT ?_)))); rotate_left 1
   refine cw_block ?_; refine cw_loop (ι := Nat × Value) (fun x => [(1, .pointer (some ⟨b1, 0, none⟩)), (3, .pointer (some ⟨b11, 0, none⟩)), (4, .pointer (some ⟨b19, 0, none⟩)), (38, .slice pa g.procs.length pc), (39, .int .i64 g.procs.length), (40, .int .i64 x.1)])
    (fun x w' => x.1 ≤ g.procs.length ∧ FS w.heap.size b11 (twiceF [] g.vars + procsF g.procs 0 (g.procs.take x.1)) w' x.2 ∧ Kp b11 w' x.2 b1 ∧ Kp b11 w' x.2 b19 ∧ Blk w' b19 [clo1 b11] ∧ Blk w' b1 (g.cells va vc pa pc ma mc) ∧ VDs (· < w.heap.size) w' g.vars va ∧ g.main.sits (· < w.heap.size) w' ma ∧ PDsC (· < w.heap.size) w' g.procs pa ∧ Ext w w')
    (fun x => g.procs.length - x.1) (0, vj) (by (refine sub_cons rfl ?_; refine sub_cons rfl ?_; refine sub_cons rfl ?_; refine sub_cons rfl ?_; refine sub_cons rfl ?_; refine sub_cons rfl ?_; exact sub_nil)) ⟨Nat.zero_le _, hF, k1, kR, h23, h4, hvs, hms, hps, X⟩ ?_
   clear hF k1 kR h23 h4 hvs hms hps X hlt hj; rintro ⟨j, vj⟩ w3 ⟨hj, hF, k1, kR, h23, h4, hvs, hms, hps, X⟩; simp only at hj hF k1 kR h23 h4 hvs hms hps X; have htw := twiceF_le g.vars []
   by_cases hlt : j < g.procs.length
   · have hown : ∀ q, vj.ownBlock = some q → w.heap.size ≤ q ∧ q < w3.heap.size ∧ q ≠ b1 ∧ q ≠ b19 := fun q hq => ⟨hF.own.ge hq, hF.own.lt hq, fun e => k1.2.2 (e ▸ hq), fun e => kR.2.2 (e ▸ hq)⟩
     have hn1 := k1.not; have hnR := kR.not; have hb1 := k1.1; have hbR := kR.1; have hfb3 := hF.cell.lt; have hxs := X.size
     have hple := procsF_le g.procs 2009 (g.procs.take j) 0 (fun i p hp => by
      obtain ⟨c1, c2, -, c4⟩ := pok_parts (o4 p (List.mem_of_mem_take hp)); obtain ⟨-, -, c3⟩ := body_iff.1 c4; have h1 := twiceF_le p.params []; have h2 := flt_le g.procs p.body p.params
      unfold procF
      split <;> omega)
     have hjm : (g.procs.take j).length * 2009 ≤ 64 * 2009 := Nat.mul_le_mul_right _ (by simp; omega); have hnx := procsF_take g.procs g.procs 0 j hlt; rw [Nat.zero_add] at hnx; have hPL := procN_lt hlt; obtain ⟨c1, c2, -, c4⟩ := pok_parts (o4 _ (List.getElem_mem hlt)); obtain ⟨-, -, c3⟩ := body_iff.1 c4; have hps0 := hps.pds; obtain ⟨kb, ko, rfl, kS, hget⟩ := hps.get (by intro e; rw [e] at hlt; simp at hlt); obtain ⟨qa, qc, ba, bc, r0, hpv, hpb, hqc⟩ := hget j g.procs[j] (List.getElem?_eq_getElem hlt); clear hget c4; have HPr := Lib.hid (Proc_c g (by omega) g.procs[j].name (· < w.heap.size) va vc (some ⟨kb, ko, none⟩) pc ma mc)
     generalize hM : twiceF [] g.vars + procsF g.procs 0 (g.procs.take j) = M at *
     have hMb : M ≤ 1000000 := by omega
     generalize procN g.procs g.procs[j].name = np at *
     generalize g.procs[j] = x at *
     focus
      refine cS (C1 V3 (cT (cw_seq (Wyo (cw_skip (qw_then (cw_seq (cw_block (cS (C1 Mv (C1 Pi ?_))))))))))); refine C1 (Pws r0) ?_; (refine lw_alloc' [_] zOk rfl rfl ?_; intro bc1 wc2 nc3); have hc5 := nc3.blk; have xc6 := nc3.ext; have pc7 := nc3.pos; have zc8 := nc3.size; clear nc3; replace h23 := h23.ext xc6; replace hvs := hvs.ext xc6; replace hms := Nd.sits.ext hms xc6; replace X := X.ext xc6; replace h4 := h4.ext xc6; replace hps := hps.ext xc6; replace hps0 := hps0.ext xc6; replace hF := hF.ext xc6; replace r0 := r0.ext xc6; replace hpv := hpv.ext xc6; replace hpb := Nd.sits.ext hpb xc6; clear xc6; (refine lw_alloc' [_, _, _, _, _, _] zOk rfl rfl ?_; intro bc9 wc10 nc11); have hc13 := nc11.blk; have xc14 := nc11.ext; have pc15 := nc11.pos; have zc16 := nc11.size; clear nc11; replace hc5 := hc5.ext xc14; replace h23 := h23.ext xc14; replace hvs := hvs.ext xc14; replace hms := Nd.sits.ext hms xc14; replace X := X.ext xc14; replace h4 := h4.ext xc14; replace hps := hps.ext xc14; replace hps0 := hps0.ext xc14; replace hF := hF.ext xc14; replace r0 := r0.ext xc14; replace hpv := hpv.ext xc14; replace hpb := Nd.sits.ext hpb xc14; clear xc14; (refine lw_store' [_] [_] tabOk rfl rfl rfl rfl rfl rfl hc5 rfl rfl ?_; intro wc17 nc18); have hc21 := nc18.blk; have fc19 := nc18.fr; have zc20 := nc18.size; clear nc18 hc5; replace hc13 := hc13.fr fc19 (by omega); replace h23 := h23.fr fc19 (by omega); replace hvs := hvs.fr fc19 (by omega); replace hms := Nd.sits.fr hms fc19 (by omega)
      replace X := X.fr fc19 (by omega); replace h4 := h4.fr fc19 (by omega); replace hps := hps.fr fc19 (by omega); replace hps0 := hps0.fr fc19 (by omega); replace hF := FS.fr hF fc19 (fun k hk => ⟨by omega, fun e => by have := hown _ e; omega⟩); replace r0 := Row.fr r0 fc19 (by simp only; omega); replace hpv := hpv.fr fc19 (by omega); replace hpb := Nd.sits.fr hpb fc19 (by omega); clear fc19; (refine lw_store' [_, _, _, _, _, _] [_, _, _, _, _, _] tabOk rfl rfl rfl rfl rfl rfl hc13 rfl rfl ?_; intro wc22 nc23); have hc26 := nc23.blk; have fc24 := nc23.fr; have zc25 := nc23.size; clear nc23 hc13; replace hc21 := hc21.fr fc24 (by omega); replace h23 := h23.fr fc24 (by omega); replace hvs := hvs.fr fc24 (by omega); replace hms := Nd.sits.fr hms fc24 (by omega); replace X := X.fr fc24 (by omega); replace h4 := h4.fr fc24 (by omega); replace hps := hps.fr fc24 (by omega); replace hps0 := hps0.fr fc24 (by omega); replace hF := FS.fr hF fc24 (fun k hk => ⟨by omega, fun e => by have := hown _ e; omega⟩); replace r0 := Row.fr r0 fc24 (by simp only; omega); replace hpv := hpv.fr fc24 (by omega); replace hpb := Nd.sits.fr hpb fc24 (by omega); clear fc24; refine cT (cw_seq ?_); rotate_left 1
     have kc1 : Kp b11 wc22 vj bc1 := ⟨by omega, by omega, fun e => by have := hown _ e; omega⟩; have kc9 : Kp b11 wc22 vj bc9 := ⟨by omega, by omega, fun e => by have := hown _ e; omega⟩; replace k1 := k1.grow (w' := wc22) (by omega); replace kR := kR.grow (w' := wc22) (by omega); have HRep := Lib.hid (fun (w' : World) (x' : Ext wc22 w') => report_c w.heap.size b11 M vj j 22 x.name (fun _ => True) none 0 0 w' (by omega) (by omega) PathAt.nil (hF.ext x')); rw [show M + b01 22 = M + 1 from rfl] at HRep; refine cw_meet2 (ι := Value) (fun _ => [(1, .pointer (some ⟨b1, 0, none⟩)), (3, .pointer (some ⟨b11, 0, none⟩)), (4, .pointer (some ⟨b19, 0, none⟩)), (38, .slice (some ⟨kb, ko, none⟩) g.procs.length pc), (39, .int .i64 g.procs.length), (40, .int .i64 j), (7, .pointer (some ⟨bc1, 0, none⟩)), (8, .pointer (some ⟨bc9, 0, none⟩))]) (fun v2 w' => FS w.heap.size b11 (M + (if np < (j : Int) then 1 else 0)) w' v2 ∧ Kp b11 w' v2 b1 ∧ Kp b11 w' v2 b19 ∧ Kp b11 w' v2 bc1 ∧ Kp b11 w' v2 bc9 ∧ Blk w' b19 [clo1 b11] ∧ Blk w' b1 (g.cells va vc (some ⟨kb, ko, none⟩) pc ma mc) ∧ VDs (· < w.heap.size) w' g.vars va ∧ g.main.sits (· < w.heap.size) w' ma ∧ PDsC (· < w.heap.size) w' g.procs (some ⟨kb, ko, none⟩) ∧ Ext w w' ∧ Blk w' bc1 [.int .i64 j] ∧ Blk w' bc9 (x.cells qa qc ba bc) ∧ VDs (· < w.heap.size) w' x.params qa ∧ x.body.sits (· < w.heap.size) w' ba) ?_ ?_
     · have X3 := Ext.refl wc22
       have X4 := Fr.refl (fun k => k = b11 ∨ vj.ownBlock = some k) wc22
       unfold clo1 at h23
       focus
        refine cw_seq ?_; (refine cw_tdraw (fun wz => Ext wc22 wz) 5 (.pure 0 (.pure 1 (.pure 2 (.pure 4 (.fork 3 .tail .none))))) mixed (by kernel_rfl) (panicOk_then (panicOk_then (panicOk_block (panicOk_then (panicOk_then (panicOk_block (panicOk_then panicOk_body))))))) ?_; intro wd1 xd2 _); have qsd3 : (fun wz => Ext wc22 wz) wd1 := xd2; simp only at qsd3; have d_hc26 := hc26; have d_hc21 := hc21; have d_h23 := h23; have d_hvs := hvs; have d_hms := hms; have d_h4 := h4; have d_hps := hps; have d_hps0 := hps0; have d_hF := hF; have d_r0 := r0; have d_hpv := hpv; have d_hpb := hpb; have zd4 := xd2.size; replace hc26 := hc26.ext xd2; replace hc21 := hc21.ext xd2; replace h23 := h23.ext xd2; replace hvs := hvs.ext xd2; replace hms := Nd.sits.ext hms xd2; replace X := X.ext xd2; replace h4 := h4.ext xd2; replace hps := hps.ext xd2; replace hps0 := hps0.ext xd2; replace hF := hF.ext xd2; replace r0 := r0.ext xd2; replace hpv := hpv.ext xd2; replace hpb := Nd.sits.ext hpb xd2; replace X3 := X3.ext xd2; replace X4 := X4.ext xd2; clear xd2; refine ⟨qsd3, ?_⟩; refine Tq rfl (pur_loads_blk' [_, _, _, _, _, _] tabOk rfl rfl rfl (fun wz hz => (Blk.ext d_h4 hz)) rfl rfl) (Tq rfl Pg (Tq rfl (Db d_hc26) (Tq rfl (Db d_hc21) ?_))); refine tw_does rfl (does_call (by kernel_rfl) rfl (HPr.out _ (by assumption)) (fun _ _ h => ⟨_, h.1⟩)) rfl ?_ (fun _ h => h) tw_none; rintro _ wd7 ⟨⟨⟩, xd6⟩; have zd8 := xd6.size; replace qsd3 := qsd3.ext xd6; replace hc26 := hc26.ext xd6; replace hc21 := hc21.ext xd6
        replace h23 := h23.ext xd6; replace hvs := hvs.ext xd6; replace hms := Nd.sits.ext hms xd6; replace X := X.ext xd6; replace h4 := h4.ext xd6; replace hps := hps.ext xd6; replace hps0 := hps0.ext xd6; replace hF := hF.ext xd6; replace r0 := r0.ext xd6; replace hpv := hpv.ext xd6; replace hpb := Nd.sits.ext hpb xd6; replace X3 := X3.ext xd6; replace X4 := X4.ext xd6; clear xd6; refine ⟨qsd3, ?_⟩; clear d_hc26 d_hc21 d_h23 d_hvs d_hms d_h4 d_hps d_hps0 d_hF d_r0 d_hpv d_hpb qsd3; refine tw_tail rfl (C1 V3 (cT ?_)); refine cw_dec rfl (fun cd9 => ?_) (fun cd9 => ?_); refine cw_region (C1 (Pl h23) (C1 (Pl hc21) (C1 Pg (C1 (Pl hc26) ?_)))); refine lw_does (does_callv (fi := []) (ca := [.pointer (some ⟨b11, 0, none⟩)]) (by kernel_rfl) rfl rfl (HRep.out _ (by assumption)) (fun _ _ h => h.ret)) rfl ?_ (fun _ h => h); rintro _ wd14 ⟨⟨⟩, ⟨v'd10, ⟨hd11, ⟨fd12, hd13⟩⟩⟩⟩; have zd15 := fd12.size; replace hc26 := Blk.fr hc26 fd12 (fun h => by (rcases h with h | h; omega; have := hown _ h; omega)); replace hc21 := Blk.fr hc21 fd12 (fun h => by (rcases h with h | h; omega; have := hown _ h; omega)); replace h23 := Blk.fr h23 fd12 (hnR); replace hvs := VDs.fr hvs fd12 (fun b hb h => by (rcases h with h | h; omega; have := hown _ h; omega)); replace hms := Nd.sits.fr hms fd12 (fun b hb h => by (rcases h with h | h; omega; have := hown _ h; omega)); replace X := Ext.fr X fd12 (fun k hk => by (rcases hk with h | h; omega; have := hown _ h; omega)); replace h4 := Blk.fr h4 fd12 (hn1); replace hps := PDsC.fr hps fd12 (fun b hb h => by (rcases h with h | h; omega; have := hown _ h; omega))
        replace hps0 := PDs.fr hps0 fd12 (fun b hb h => by (rcases h with h | h; omega; have := hown _ h; omega)); clear hF r0; replace hpv := VDs.fr hpv fd12 (fun b hb h => by (rcases h with h | h; omega; have := hown _ h; omega)); replace hpb := Nd.sits.fr hpb fd12 (fun b hb h => by (rcases h with h | h; omega; have := hown _ h; omega)); replace X4 := Fr.fr X4 fd12 (fun k hk => Or.inl hk); clear fd12; refine lw_nil ?_; rotate_left 1; refine cw_skip ?_; rotate_left 1
       · have e4 := eff_mk X4 (by assumption) (by omega)
         exact qw_meet _ (by (refine sub_cons rfl ?_; refine sub_cons rfl ?_; refine sub_cons rfl ?_; refine sub_cons rfl ?_; refine sub_cons rfl ?_; refine sub_cons rfl ?_; refine sub_cons rfl ?_; refine sub_cons rfl ?_; exact sub_nil)) ⟨by rw [if_pos (by assumption)]; assumption, k1.eff e4, kR.eff e4, kc1.eff e4, kc9.eff e4, h23, h4, hvs, hms, hps, X, hc21, hc26, hpv, hpb⟩
       · exact qw_meet vj (by (refine sub_cons rfl ?_; refine sub_cons rfl ?_; refine sub_cons rfl ?_; refine sub_cons rfl ?_; refine sub_cons rfl ?_; refine sub_cons rfl ?_; refine sub_cons rfl ?_; refine sub_cons rfl ?_; exact sub_nil)) ⟨by rw [if_neg (by assumption)]; exact hF, k1.grow (by omega), kR.grow (by omega), kc1.grow (by omega), kc9.grow (by omega), h23, h4, hvs, hms, hps, X, hc21, hc26, hpv, hpb⟩
     · clear hc26 hc21 h23 h4 hvs hms hps hps0 hF r0 hpv hpb X k1 kR kc1 kc9 HRep HPr hown hn1 hnR hb1 hbR hfb3
       rintro v2 w4 ⟨hF, k1, kR, kc1, kc9, h23, h4, hvs, hms, hps, X, hc21, hc26, hpv, hpb⟩; obtain ⟨d1, hd1⟩ : ∃ d1 : Nat, d1 = (if np < (j : Int) then 1 else 0) := ⟨_, rfl⟩
       have hd1b : d1 ≤ 1 := by rw [hd1]; split <;> omega
       rw [← hd1] at hF
       focus
        refine cw_seq (cS (C1 Pf (C1 (Pl hc26) (C1 Pz (C1 Mv (cT ?_)))))); rotate_left 1
       refine cw_block ?_; refine cw_loop (ι := Nat × Value) (fun y => [(1, .pointer (some ⟨b1, 0, none⟩)), (3, .pointer (some ⟨b11, 0, none⟩)), (4, .pointer (some ⟨b19, 0, none⟩)), (38, .slice (some ⟨kb, ko, none⟩) g.procs.length pc), (39, .int .i64 g.procs.length), (40, .int .i64 j), (7, .pointer (some ⟨bc1, 0, none⟩)), (8, .pointer (some ⟨bc9, 0, none⟩)), (57, .slice qa x.params.length qc), (58, .int .i64 x.params.length), (59, .int .i64 y.1)])
        (fun y w' => y.1 ≤ x.params.length ∧ FS w.heap.size b11 (M + d1 + twiceF [] (x.params.take y.1)) w' y.2 ∧ Kp b11 w' y.2 b1 ∧ Kp b11 w' y.2 b19 ∧ Kp b11 w' y.2 bc1 ∧ Kp b11 w' y.2 bc9 ∧ Blk w' b19 [clo1 b11] ∧ Blk w' b1 (g.cells va vc (some ⟨kb, ko, none⟩) pc ma mc) ∧ VDs (· < w.heap.size) w' g.vars va ∧ g.main.sits (· < w.heap.size) w' ma ∧ PDsC (· < w.heap.size) w' g.procs (some ⟨kb, ko, none⟩) ∧ Ext w w' ∧ Blk w' bc1 [.int .i64 j] ∧ Blk w' bc9 (x.cells qa qc ba bc) ∧ VDs (· < w.heap.size) w' x.params qa ∧ x.body.sits (· < w.heap.size) w' ba)
        (fun y => x.params.length - y.1) (0, v2) (by (refine sub_cons rfl ?_; refine sub_cons rfl ?_; refine sub_cons rfl ?_; refine sub_cons rfl ?_; refine sub_cons rfl ?_; refine sub_cons rfl ?_; refine sub_cons rfl ?_; refine sub_cons rfl ?_; refine sub_cons rfl ?_; refine sub_cons rfl ?_; refine sub_cons rfl ?_; exact sub_nil)) ⟨Nat.zero_le _, hF, k1, kR, kc1, kc9, h23, h4, hvs, hms, hps, X, hc21, hc26, hpv, hpb⟩ ?_
       clear hF k1 kR kc1 kc9 h23 h4 hvs hms hps X hc21 hc26 hpv hpb; rintro ⟨i, vi⟩ w5 ⟨hi, hF, k1, kR, kc1, kc9, h23, h4, hvs, hms, hps, X, hc21, hc26, hpv, hpb⟩; simp only at hi hF k1 kR kc1 kc9 h23 h4 hvs hms hps X hc21 hc26 hpv hpb; have htp := twiceF_le (x.params.take i) []
       have hown : ∀ q, vi.ownBlock = some q → w.heap.size ≤ q ∧ q < w5.heap.size ∧ q ≠ b1 ∧ q ≠ b19 ∧ q ≠ bc1 ∧ q ≠ bc9 := fun q hq => ⟨hF.own.ge hq, hF.own.lt hq, fun e => k1.2.2 (e ▸ hq), fun e => kR.2.2 (e ▸ hq), fun e => kc1.2.2 (e ▸ hq), fun e => kc9.2.2 (e ▸ hq)⟩
       have hn1 := k1.not; have hnR := kR.not; have hb1 := k1.1; have hbR := kR.1; have hn7 := kc1.not; have hn8 := kc9.not; have hb7 := kc1.1; have hb8 := kc9.1; have hfb5 := hF.cell.lt
       by_cases hlti : i < x.params.length
       · obtain ⟨zb, zo, rfl, zS, hget⟩ := hpv.get (by intro e; rw [e] at hlti; simp at hlti)
         have r0 := hget i x.params[i] (List.getElem?_eq_getElem hlti)
         have htl : (x.params.take i).length = i := by simp; omega
         have hvt := hpv.take i; have HFr := Lib.hid (fresh_c (x.params.take i) (by omega) x.params[i].name); rw [htl] at HFr; have hnx := twiceF_take x.params [] i hlti; rw [List.nil_append] at hnx
         have hnx2 : M + d1 + twiceF [] (x.params.take (i + 1)) = M + d1 + twiceF [] (x.params.take i) + b01 (freshE (x.params.take i) x.params[i].name) := by rw [hnx]; omega
         have HRep := Lib.hid (fun (w' : World) (x' : Ext w5 w') => report_c w.heap.size b11 (M + d1 + twiceF [] (x.params.take i)) vi j (freshE (x.params.take i) x.params[i].name) x.params[i].name (fun _ => True) none 0 0 w' (by omega) (by omega) PathAt.nil (hF.ext x')); rw [← hnx2] at HRep; clear hget hF hnx hnx2; have hm : (i : Int) = (i : Int) := rfl
         generalize x.params[i] = y at *
         obtain ⟨yn, yk, yl⟩ := y; dsimp only at HFr HRep; replace r0 : Row w5 ⟨zb, zo + i * 3, none⟩ [str yn, .int .u8 yk, .int .i64 yl] := r0
         generalize freshE (x.params.take i) yn = ex at *
         unfold clo1 at h23
         have X3 := Ext.refl w5; have X4 := Fr.refl (fun k => k = b11 ∨ vi.ownBlock = some k) w5
         focus
          refine cS (C1 V3 (cT (cw_seq (Wyo (cw_skip (qw_then (cw_seq (cw_block (cS (C1 Mv (C1 Pi ?_))))))))))); refine C1 (Pws r0) ?_; (refine lw_alloc' [_, _, _] zOk rfl rfl ?_; intro bf1 wf2 nf3); have hf5 := nf3.blk; have xf6 := nf3.ext; have pf7 := nf3.pos; have zf8 := nf3.size; clear nf3; replace h23 := h23.ext xf6; replace h4 := h4.ext xf6; replace hvs := hvs.ext xf6; replace hms := Nd.sits.ext hms xf6; replace hps := hps.ext xf6; replace X := X.ext xf6; replace hc21 := hc21.ext xf6; replace hpb := Nd.sits.ext hpb xf6; replace hc26 := hc26.ext xf6; replace hpv := hpv.ext xf6; replace hvt := hvt.ext xf6; replace r0 := r0.ext xf6; replace X3 := X3.ext xf6; replace X4 := X4.ext xf6; clear xf6; refine C1 Pa ?_; (refine lw_store' [_, _, _] [_, _, _] tabOk rfl rfl rfl rfl rfl rfl hf5 rfl rfl ?_; intro wf9 nf10); have hf13 := nf10.blk; have ff11 := nf10.fr; have zf12 := nf10.size; clear nf10 hf5; replace h23 := h23.fr ff11 (by omega); replace h4 := h4.fr ff11 (by omega); replace hvs := hvs.fr ff11 (by omega); replace hms := Nd.sits.fr hms ff11 (by omega); replace hps := hps.fr ff11 (by omega); replace X := X.fr ff11 (by omega); replace hc21 := hc21.fr ff11 (by omega); replace hpb := Nd.sits.fr hpb ff11 (by omega); replace hc26 := hc26.fr ff11 (by omega); replace hpv := hpv.fr ff11 (by omega); replace hvt := hvt.fr ff11 (by omega); replace r0 := Row.fr r0 ff11 (by simp only; omega); replace X3 := X3.fr ff11 (by omega); replace X4 := X4.fr ff11 (by omega); clear ff11; refine cT ?_
          (refine cw_tdraw (fun wz => Ext wf9 wz) 11 (.pure 0 (.pure 1 (.pure 2 (.pure 3 (.pure 4 (.pure 5 (.pure 6 (.pure 7 (.pure 8 (.pure 9 (.fork 10 .tail .none))))))))))) mixed (by kernel_rfl) (panicOk_block (panicOk_then (panicOk_then (panicOk_block (panicOk_then (panicOk_block (panicOk_then (panicOk_then (panicOk_block (panicOk_then panicOk_body)))))))))) ?_; intro wf14 xf15 _); have qsf16 : (fun wz => Ext wf9 wz) wf14 := xf15; simp only at qsf16; have d_hf13 := hf13; have d_h23 := h23; have d_h4 := h4; have d_hvs := hvs; have d_hms := hms; have d_hps := hps; have d_hc21 := hc21; have d_hpb := hpb; have d_hc26 := hc26; have d_hpv := hpv; have d_hvt := hvt; have d_r0 := r0; have zf17 := xf15.size; replace hf13 := hf13.ext xf15; replace h23 := h23.ext xf15; replace h4 := h4.ext xf15; replace hvs := hvs.ext xf15; replace hms := Nd.sits.ext hms xf15; replace hps := hps.ext xf15; replace X := X.ext xf15; replace hc21 := hc21.ext xf15; replace hpb := Nd.sits.ext hpb xf15; replace hc26 := hc26.ext xf15; replace hpv := hpv.ext xf15; replace hvt := hvt.ext xf15; replace r0 := r0.ext xf15; replace X3 := X3.ext xf15; replace X4 := X4.ext xf15; clear xf15; refine ⟨qsf16, ?_⟩; refine Tq rfl (Db d_h23) (Tq rfl (Db d_hc21) (Tq rfl Pg (Tq rfl (Db d_hf13) (Tq rfl Pf (Tq rfl (Db d_hc26) (Tq rfl Mv ?_)))))); refine Tq rfl (pur_slH tabOk rfl rfl rfl rfl hm (by omega)) ?_; refine Tq rfl Pg (Tq rfl (Db d_hf13) ?_); refine tw_does rfl (does_call (by kernel_rfl) rfl (HFr.out _ _ _ _ hvt) (fun _ _ h => ⟨_, h.1⟩)) rfl ?_ (fun _ h => h) tw_none
          rintro _ wf20 ⟨⟨⟩, xf19⟩; have zf21 := xf19.size; replace qsf16 := qsf16.ext xf19; replace hf13 := hf13.ext xf19; replace h23 := h23.ext xf19; replace h4 := h4.ext xf19; replace hvs := hvs.ext xf19; replace hms := Nd.sits.ext hms xf19; replace hps := hps.ext xf19; replace X := X.ext xf19; replace hc21 := hc21.ext xf19; replace hpb := Nd.sits.ext hpb xf19; replace hc26 := hc26.ext xf19; replace hpv := hpv.ext xf19; replace hvt := hvt.ext xf19; replace r0 := r0.ext xf19; replace X3 := X3.ext xf19; replace X4 := X4.ext xf19; clear xf19; refine ⟨qsf16, ?_⟩; clear d_hf13 d_h23 d_h4 d_hvs d_hms d_hps d_hc21 d_hpb d_hc26 d_hpv d_hvt d_r0 qsf16; refine tw_tail rfl ?_; refine lw_does (does_callv (fi := []) (ca := [.pointer (some ⟨b11, 0, none⟩)]) (by kernel_rfl) rfl rfl (HRep.out _ (by assumption)) (fun _ _ h => h.ret)) rfl ?_ (fun _ h => h); rintro _ wf26 ⟨⟨⟩, ⟨v'f22, ⟨hf23, ⟨ff24, hf25⟩⟩⟩⟩; have zf27 := ff24.size; replace hf13 := Blk.fr hf13 ff24 (fun h => by (rcases h with h | h; omega; have := hown _ h; omega)); replace h23 := Blk.fr h23 ff24 (hnR); replace h4 := Blk.fr h4 ff24 (hn1); replace hvs := VDs.fr hvs ff24 (fun b hb h => by (rcases h with h | h; omega; have := hown _ h; omega)); replace hms := Nd.sits.fr hms ff24 (fun b hb h => by (rcases h with h | h; omega; have := hown _ h; omega)); replace hps := PDsC.fr hps ff24 (fun b hb h => by (rcases h with h | h; omega; have := hown _ h; omega)); replace X := Ext.fr X ff24 (fun k hk => by (rcases hk with h | h; omega; have := hown _ h; omega))
          replace hc21 := Blk.fr hc21 ff24 (hn7); replace hpb := Nd.sits.fr hpb ff24 (fun b hb h => by (rcases h with h | h; omega; have := hown _ h; omega)); replace hc26 := Blk.fr hc26 ff24 (hn8); replace hpv := VDs.fr hpv ff24 (fun b hb h => by (rcases h with h | h; omega; have := hown _ h; omega)); replace hvt := VDs.fr hvt ff24 (fun b hb h => by (rcases h with h | h; omega; have := hown _ h; omega)); clear r0; replace X4 := Fr.fr X4 ff24 (fun k hk => Or.inl hk); clear ff24; refine lw_nil (qw_block_norm (qw_then (cw_region (C1 V7 (C1 Mv (lw_nil ?_)))))); rotate_left 1
         have e4 := eff_mk X4 (by assumption) (by omega)
         exact qw_round (i + 1, _) (by (refine sub_cons rfl ?_; refine sub_cons rfl ?_; refine sub_cons rfl ?_; refine sub_cons rfl ?_; refine sub_cons rfl ?_; refine sub_cons rfl ?_; refine sub_cons rfl ?_; refine sub_cons rfl ?_; refine sub_cons rfl ?_; refine sub_cons rfl ?_; refine sub_cons rfl ?_; exact sub_nil)) ⟨by simp only; omega, by assumption, k1.eff e4, kR.eff e4, kc1.eff e4, kc9.eff e4, h23, h4, hvs, hms, hps, X, hc21, hc26, hpv, hpb⟩ (by simp only; omega)
       · obtain rfl : i = x.params.length := by omega
         rw [List.take_length] at hF htp
         have HVis := Lib.hid (fun (w' : World) (x' : Ext w5 w') (h1 : x.body.sits (· < w.heap.size) w' ba) (h2 : PDs (· < w.heap.size) w' g.procs (some ⟨kb, ko, none⟩)) (h3 : VDs (· < w.heap.size) w' x.params qa) =>
          svisit_c w.heap.size b11 (by omega) 27 [.pointer (some ⟨b19, 0, none⟩), .pointer (some ⟨bc1, 0, none⟩)] (by kernel_rfl) _ (report2_c w.heap.size b11 b19 bc1 j) g (by omega) va vc (some ⟨kb, ko, none⟩) pc ma mc (x.body.size + 1)
           x.body x.params (· < w.heap.size) (fun _ => False) ba bc qa qc none 0 0 w' vi (M + d1 + twiceF [] x.params) (by omega) (by omega) (by omega) (by omega) h1 h2 h3 hqc PathAt.nil
           (fun b hb => ⟨by have := x'.size; have := X.size; omega, by omega, fun e => by have := hown _ e; omega⟩) (fun _ h => h.elim) (hF.ext x') ⟨h23.ext x', hc21.ext x', kR.grow x'.size, kc1.grow x'.size⟩)
         have hfin : M + d1 + twiceF [] x.params + x.body.flt g.procs x.params = twiceF [] g.vars + procsF g.procs 0 (g.procs.take (j + 1)) := by
          have hd2 : d1 = if (procI g.procs x.name).getD j < j then 1 else 0 := by
           rw [hd1]; have h := decide_eq_decide.1 hPL
           by_cases h1 : np < (j : Int)
           · rw [if_pos h1, if_pos (h.1 h1)]
           · rw [if_neg h1, if_neg (fun e => h1 (h.2 e))]
          rw [hnx, hd2, procF]
          omega
         rw [hfin] at HVis; have hps0 := hps.pds; have X3 := Ext.refl w5; have X4 := Fr.refl (fun k => k = b11 ∨ vi.ownBlock = some k) w5
         focus
          refine cS (C1 V3 (cT (cw_seq (Wno (cw_exit (qw_then_exit (qw_then_exit (qw_block_exit (qw_then (cw_region (lw_loads_b' [_, _, _, _, _, _] tabOk rfl rfl rfl h4 rfl rfl rfl ?_))))))))))); refine C1 Pf (lw_loads_b' [_, _, _, _] tabOk rfl rfl rfl hc26 rfl rfl rfl (C1 Pf (C1 (Pl hc26) (C1 (pur_funcC rfl) ?_)))); refine cC rfl (HVis.out _ (by assumption) (by assumption) (by assumption) (by assumption)) ?_; rintro _ wg5 ⟨⟨⟩, ⟨v'g1, ⟨hg2, ⟨fg3, hg4⟩⟩⟩⟩; have zg6 := fg3.size; replace h23 := Blk.fr h23 fg3 (hnR); replace h4 := Blk.fr h4 fg3 (hn1); replace hvs := VDs.fr hvs fg3 (fun b hb h => by (rcases h with h | h; omega; have := hown _ h; omega)); replace hms := Nd.sits.fr hms fg3 (fun b hb h => by (rcases h with h | h; omega; have := hown _ h; omega)); replace hps := PDsC.fr hps fg3 (fun b hb h => by (rcases h with h | h; omega; have := hown _ h; omega)); replace X := Ext.fr X fg3 (fun k hk => by (rcases hk with h | h; omega; have := hown _ h; omega)); replace hc21 := Blk.fr hc21 fg3 (hn7); replace hc26 := Blk.fr hc26 fg3 (hn8); replace hpv := VDs.fr hpv fg3 (fun b hb h => by (rcases h with h | h; omega; have := hown _ h; omega)); replace hpb := Nd.sits.fr hpb fg3 (fun b hb h => by (rcases h with h | h; omega; have := hown _ h; omega)); clear hF; replace hps0 := PDs.fr hps0 fg3 (fun b hb h => by (rcases h with h | h; omega; have := hown _ h; omega)); replace X4 := Fr.fr X4 fg3 (fun k hk => Or.inl hk); clear fg3; refine lw_nil (qw_block_norm (qw_then (cw_region (C1 V7 (C1 Mv (lw_nil ?_))))))
          rotate_left 1
         have e4 := eff_mk X4 (by assumption) (by omega)
         exact qw_round (j + 1, _) (by (refine sub_cons rfl ?_; refine sub_cons rfl ?_; refine sub_cons rfl ?_; refine sub_cons rfl ?_; refine sub_cons rfl ?_; refine sub_cons rfl ?_; exact sub_nil)) ⟨by simp only; omega, by assumption, k1.eff e4, kR.eff e4, h23, h4, hvs, hms, hps, X⟩ (by simp only; omega)
   · obtain rfl : j = g.procs.length := by omega
     rw [List.take_length] at hF
     have hown : ∀ q, vj.ownBlock = some q → w.heap.size ≤ q ∧ q < w3.heap.size ∧ q ≠ b1 ∧ q ≠ b19 := fun q hq => ⟨hF.own.ge hq, hF.own.lt hq, fun e => k1.2.2 (e ▸ hq), fun e => kR.2.2 (e ▸ hq)⟩
     have hn1 := k1.not; have hnR := kR.not; have hb1 := k1.1; have hbR := kR.1; have hfb3 := hF.cell.lt; have hxs := X.size; obtain ⟨-, -, c3⟩ := body_iff.1 o5
     have hple := procsF_le g.procs 2009 g.procs 0 (fun i p hp => by
      obtain ⟨c1, c2, -, c4⟩ := pok_parts (o4 p hp); obtain ⟨-, -, c3⟩ := body_iff.1 c4; have h1 := twiceF_le p.params []; have h2 := flt_le g.procs p.body p.params
      unfold procF
      split <;> omega)
     have hjm : g.procs.length * 2009 ≤ 64 * 2009 := Nat.mul_le_mul_right _ o2; have hps0 := hps.pds
     have HVis := Lib.hid (fun (w' : World) (x' : Ext w3 w') (h1 : g.main.sits (· < w.heap.size) w' ma) (h2 : PDs (· < w.heap.size) w' g.procs pa) (h3 : VDs (· < w.heap.size) w' g.vars va) =>
      svisit_c w.heap.size b11 (by omega) 28 [.pointer (some ⟨b19, 0, none⟩), .pointer (some ⟨b1, 0, none⟩)] (by kernel_rfl) _ (report3_c w.heap.size b11 b19 b1 g va vc pa pc ma mc) g (by omega) va vc pa pc ma mc (g.main.size + 1)
       g.main g.vars (· < w.heap.size) (fun _ => False) ma mc va vc none 0 0 w' vj (twiceF [] g.vars + procsF g.procs 0 g.procs) (by omega) (by omega) (by omega) (by omega) h1 h2 h3 hvc PathAt.nil
       (fun b hb => ⟨by have := x'.size; omega, by omega, fun e => by have := hown _ e; omega⟩) (fun _ h => h.elim) (hF.ext x') ⟨h23.ext x', h4.ext x', kR.grow x'.size, k1.grow x'.size⟩)
     rw [show twiceF [] g.vars + procsF g.procs 0 g.procs + g.main.flt g.procs g.vars = g.flt from rfl] at HVis; have X3 := Ext.refl w3; clear hF
     focus
      refine cS (C1 V3 (cT (cw_seq (Wno (cw_exit (qw_then_exit (qw_then_exit (qw_block_exit (qw_then (cS (lw_loads_b' [_, _, _, _, _, _] tabOk rfl rfl rfl h4 rfl rfl rfl ?_))))))))))); refine C1 Pf (lw_loads_b' [_, _, _, _] tabOk rfl rfl rfl h4 rfl rfl rfl (C1 Pg (C1 (Pl h4) (C1 (pur_funcC rfl) ?_)))); refine cC rfl (HVis.out _ (by assumption) (by assumption) (by assumption) (by assumption)) ?_; rintro _ wh5 ⟨⟨⟩, ⟨v'h1, ⟨hh2, ⟨fh3, hh4⟩⟩⟩⟩; have zh6 := fh3.size; replace h23 := Blk.fr h23 fh3 (hnR); replace h4 := Blk.fr h4 fh3 (hn1); replace hvs := VDs.fr hvs fh3 (fun b hb h => by (rcases h with h | h; omega; have := hown _ h; omega)); replace hms := Nd.sits.fr hms fh3 (fun b hb h => by (rcases h with h | h; omega; have := hown _ h; omega)); replace hps := PDsC.fr hps fh3 (fun b hb h => by (rcases h with h | h; omega; have := hown _ h; omega)); replace X := Ext.fr X fh3 (fun k hk => by (rcases hk with h | h; omega; have := hown _ h; omega)); replace hps0 := PDs.fr hps0 fh3 (fun b hb h => by (rcases h with h | h; omega; have := hown _ h; omega)); clear fh3; refine cT ?_; rotate_left 1
     have hsl : ∃ a c, v'h1 = .slice a g.flt c := by
      obtain ⟨css, h1, -⟩ := hh2.own.ex; rw [List.length_replicate] at h1
      rcases h1.row with ⟨h2, h0, -⟩ | ⟨q, cap, h2, -⟩
      · exact ⟨none, 0, by rw [h2, h0]⟩
      · exact ⟨_, _, h2⟩
     have hc := hh2.cell; obtain ⟨ra, rc, rfl⟩ := hsl; clear hh2 hh4 h23 h4 hvs hms hps hps0
     focus
      refine cS (C1 (Pl hc) (C1 Pa (cT (cw_ret (qw_ret1 rfl rfl ?_))))); rotate_left 1
     exact ⟨_, _, rfl, X⟩
end Bk
namespace Bk
open Go
theorem rowWalk_mem {x : Nd} : ∀ {l : List Nd}, x ∈ rowWalk l → ∃ t ∈ l, x ∈ t.walk
 | [], h => by simp [rowWalk] at h
 | t :: r, h => by
  simp only [rowWalk, List.mem_append] at h
  rcases h with h | h
  · exact ⟨t, by simp, h⟩
  · obtain ⟨u, hu, hx⟩ := rowWalk_mem h
    exact ⟨u, by simp [hu], hx⟩
theorem good_kids {k n : Int} {s : List UInt8} {l : List Nd} (h : (Nd.mk k n s l).good) : ∀ x ∈ l, x.good := by
 intro x hx
 rcases h with h | h | h
 · cases stmt_shape h with
   | call _ _ _ ha => exact Or.inr (Or.inr (var_isExpr (List.all_eq_true.1 ha x hx)))
   | upd _ h1 h2 => simp only [List.mem_cons, List.not_mem_nil, or_false] at hx; rcases hx with rfl | rfl <;> first | exact Or.inr (Or.inr (place_isExpr (by assumption))) | exact Or.inr (Or.inr (by assumption))
   | swap h1 h2 => simp only [List.mem_cons, List.not_mem_nil, or_false] at hx; rcases hx with rfl | rfl <;> exact Or.inr (Or.inr (place_isExpr (by assumption)))
   | stack _ _ h1 => simp only [List.mem_cons, List.not_mem_nil, or_false] at hx; rw [hx]; exact Or.inr (Or.inr (place_isExpr h1))
   | tape _ h1 => simp only [List.mem_cons, List.not_mem_nil, or_false] at hx; rw [hx]; exact Or.inr (Or.inr (place_isExpr h1))
   | branch _ h1 h2 h3 h4 => simp only [List.mem_cons, List.not_mem_nil, or_false] at hx; rcases hx with rfl | rfl | rfl | rfl <;> first | exact Or.inr (Or.inr (by assumption)) | exact Or.inr (Or.inl (by assumption))
   | local_ _ h1 h2 h3 => simp only [List.mem_cons, List.not_mem_nil, or_false] at hx; rcases hx with rfl | rfl | rfl <;> first | exact Or.inr (Or.inr (by assumption)) | exact Or.inr (Or.inl (by assumption))
   | lstack _ h1 => simp only [List.mem_cons, List.not_mem_nil, or_false] at hx; rw [hx]; exact Or.inr (Or.inl h1)
 · obtain ⟨e, hr⟩ := block_kind h
   simp only [Nd.kids] at hr
   exact Or.inl (rowStmt_iff.1 hr x hx)
 · exact Or.inr (Or.inr ((expr_kids h).2.1 x hx))
theorem walk_good (N : Nat) : ∀ t : Nd, t.size < N → t.good → t.wf → ∀ x ∈ t.walk, x.good ∧ x.wf ∧ x.size ≤ t.size := by
 induction N with
 | zero => intro t h; omega
 | succ N ih =>
  rintro ⟨k, n, s, l⟩ hN hg hw x hx; rw [Nd.walk, List.mem_cons] at hx
  rcases hx with rfl | hx
  · exact ⟨hg, hw, Nat.le_refl _⟩
  · obtain ⟨t, ht, hxt⟩ := rowWalk_mem hx
    have hs := size_memA ht; simp only [Nd.size] at hN ⊢; obtain ⟨h1, h2, h3⟩ := ih t (by omega) (good_kids hg t ht) (rowWf_get (by simp only [Nd.wf] at hw; exact hw.2.2.2.2.2.2) t ht) x hxt
    exact ⟨h1, h2, by omega⟩
theorem block_walk {t : Nd} (h : t.isBlock = true) (hw : t.wf) : ∀ x ∈ t.walk, x.good ∧ x.wf ∧ x.size ≤ t.size := walk_good (t.size + 1) t (by omega) (Or.inr (Or.inl h)) hw
end Bk
namespace Bk
open Go Go.RowKit Go.Proofs
attribute [local irreducible] Go.Calls
theorem does_appendR {P : Program} {n : Nat} {l : Sl} {tab : Tab} {zt : ZTab} {ty : TypeId} {w : World} {x y : Operand} {t e sz1 B B' c d : Nat} {a a' : Option Addr} {sE : Sk} {zs : List Value} {xs ys : List Int} (T : TabOk P tab) (Z : ZTabOk P zt) (ht : lookT tab t = some (.slice e, sz1)) (hE : lookT tab e = some (sE, 4)) (hz : lookZ zt e = some zs) (hzl : zs.length = 4)
 (hby : bytesOk P e = true) (hx : ev l x = some (.slice a xs.length c)) (hy : ev l y = some (.slice a' ys.length d)) (hox : OwnQ rejShape w (fun _ => False) B e (.slice a xs.length c) xs) (hoy : OwnQ rejShape w (fun _ => False) B' e (.slice a' ys.length d) ys) (hxn : xs = [] → a = none ∧ c = 0) (hyn : ys = [] → a' = none ∧ d = 0) (hlen : xs.length + ys.length ≤ 10000000000) (hB : B ≤ w.heap.size) :
 Does P n l (.call ⟨.builtin .append, #[x, y], #[t, t]⟩) ty w (OnSome fun o w' => ∃ a2 c2, o = .slice a2 (xs ++ ys).length c2 ∧ OwnQ rejShape w' (fun _ => False) B e (.slice a2 (xs ++ ys).length c2) (xs ++ ys) ∧ Fr (fun k => (Value.slice a xs.length c).ownBlock = some k) w w' ∧ (xs ++ ys = [] → a2 = none ∧ c2 = 0)) := by
 by_cases hy0 : ys = []
 · obtain ⟨rfl, rfl⟩ := hyn hy0
   subst hy0; rw [List.append_nil]; obtain ⟨i, hi, hs⟩ := (T _ _ _ hE).info; have hun := (T _ _ _ ht).under
   have key : (Builtin.append_ #[t, t] ty #[.slice a xs.length c, .slice none 0 0]).run P w = .ok (.slice a xs.length c) w := by
    obtain ⟨css, h1, -⟩ := hox.ex
    exact run_append_owned_none (P := P) w B t ty e i 4 hun hi _ xs.length css.flatten h1
   unfold Does
   intro act dst pos after g next Q ha hn _
   have e1 : (execOp act.eval ⟨dst, .call ⟨.builtin .append, #[x, y], #[t, t]⟩, ty, pos, after, g⟩).run P w = .ok (.value (.slice a xs.length c)) w := by
    simp only [List.length_nil] at hy; simp only [execOp, resolve, invoke, builtin, Sem.run_bind, Sem.run_pure, Result.andThen_ok, List.map_toArray, List.map_cons, List.map_nil, ha.ev hx, ha.ev hy, key]
   unfold Oper.wp
   rw [e1]
   exact hn _ _ ⟨a, c, rfl, hox, Fr.refl _ _, hxn⟩
 · obtain ⟨css, h1, h2, h3⟩ := hox.ex
   obtain ⟨cys, k1, k2, k3⟩ := hoy.ex; have hpos : 0 < ys.length := List.length_pos_iff.2 hy0
   rcases k1.row with ⟨-, h0, -⟩ | ⟨g, cap, hv, -, -, hr⟩
   · omega
   simp only [Value.slice.injEq] at hv; obtain ⟨rfl, -, -⟩ := hv
   have hone : cys.flatten.all Value.one = true := by
    rw [List.all_eq_true]; intro u hu; obtain ⟨cs, hcs, hu⟩ := List.mem_flatten.1 hu; obtain ⟨j, hj, rfl⟩ := List.mem_iff_getElem.1 hcs; have := rejShape.one (k3 j ys[j] cys[j] (List.getElem?_eq_getElem (by omega)) (List.getElem?_eq_getElem hj))
    exact List.all_eq_true.1 this u hu
   have hd := does_append (P := P) (n := n) (l := l) (ty := ty) T Z ht hE hz hzl hby rfl hx hy h1 hr k1.1 hone (by omega) (by omega) hB
   unfold Does at hd ⊢
   intro act dst pos after gd next Q ha hn hn0; refine hd act dst pos after gd next Q ha (fun v' w' hG => ?_) (fun w' hG => hG.elim); obtain ⟨g1, g2, g', cap', rfl, g4⟩ := hG; refine hn _ w' ⟨some ⟨g', 0, none⟩, cap', by rw [List.length_append], ⟨css ++ cys, by rw [List.flatten_append, List.length_append]; exact g1, by simp [h2, k2], fun j z ds hz hd => ?_⟩, g2, fun e => by simp [hy0] at e⟩
   by_cases hj : j < xs.length
   · rw [List.getElem?_append_left hj] at hz
     rw [List.getElem?_append_left (by omega)] at hd
     exact h3 j z ds hz hd
   · rw [List.getElem?_append_right (by omega)] at hz
     rw [List.getElem?_append_right (by omega), h2] at hd
     exact k3 _ z ds hz hd
def rejsOf (ps : List PD) : List Int := ps.flatMap fun p => errsOf p.body.walk
def PG.errs (g : PG) : List Int := if g.flt = 0 then rejsOf g.procs ++ errsOf g.main.walk else []
theorem rejsOf_take {ps : List PD} {j : Nat} (h : j < ps.length) : rejsOf (ps.take (j + 1)) = rejsOf (ps.take j) ++ errsOf (ps[j]).body.walk := by
 unfold rejsOf
 rw [List.take_succ_eq_append_getElem h, List.flatMap_append]
 simp
theorem rejsOf_len (K : Nat) : ∀ ps : List PD, (∀ p ∈ ps, p.body.size ≤ K) → (rejsOf ps).length ≤ ps.length * K
 | [], _ => by simp [rejsOf]
 | p :: r, h => by
  have h1 := rejsOf_len K r (fun q hq => h q (by simp [hq])); have h2 := errsOf_len p.body.walk; rw [walk_len] at h2; have h3 := h p (by simp)
  have e : rejsOf (p :: r) = errsOf p.body.walk ++ rejsOf r := by simp [rejsOf]
  rw [e, List.length_append, List.length_cons, Nat.add_mul]; omega
set_option maxRecDepth 100000 in
set_option maxHeartbeats 8000000 in
theorem cCheck_c (g : PG) (hwf : g.wf) (hok : g.ok = true) (S : Nat → Prop) (va : Option Addr) (vc : Nat) (pa : Option Addr) (pc : Nat) (ma : Option Addr) (mc : Nat) (w : World) (hs : g.sits S w va pa ma) (hps : PDsC S w g.procs pa) (hvc : g.vars.length ≤ vc) :
 Calls Tryz.prog 9 #[.agg (g.cells va vc pa pc ma mc).toArray] w (ChkR g.errs w) := by
 have HV := Lib.hid (valid_v hwf hok); have HS := Lib.hid (fun S va vc pa pc ma mc w hs hp hv => scheck_c g hwf hok S va vc pa pc ma mc w hs hp hv); obtain ⟨o1, o2, -, o4, o5⟩ := ok_parts hok; replace hps := hps.ltA; replace hs := hs.ltA; have X := Ext.refl w
 by_cases hf : g.flt = 0
 · have he : g.errs = rejsOf g.procs ++ errsOf g.main.walk := if_pos hf
   rw [he]; rw [hf] at HS; have hms := hs.main; obtain ⟨b1, -, b3⟩ := body_iff.1 o5
   have HM := Lib.hid (check_c (-1) g.main (by omega) (fun x hx => by
    obtain ⟨h1, h2, h3⟩ := block_walk b1 hwf.main x hx
    exact ⟨h1, h2, by omega⟩))
   refine calls_in Tryz.func9 Tryz.ntmps9 rfl rfl ?_
   focus
    refine cS ?_; (refine lw_box' [_, _, _, _, _, _] rfl rfl rfl ?_; intro b1 w2 n3); have h4 := n3.blk; have x5 := n3.ext; have p6 := n3.pos; have z7 := n3.size; clear n3; replace hps := hps.ext x5; replace hs := PG.sits.ext hs x5; replace X := X.ext x5; replace hms := Nd.sits.ext hms x5; clear x5; refine C1 Pa (cT (cw_seq (cS (lw_loads_b' [_, _, _, _, _, _] tabOk rfl rfl rfl h4 rfl rfl rfl ?_)))); refine cC rfl (HV.out _ _ _ _ _ _ _ _ (by assumption)) ?_; rintro _ w9 ⟨⟨⟩, x8⟩; have z10 := x8.size; replace h4 := h4.ext x8; replace hps := hps.ext x8; replace hs := PG.sits.ext hs x8; replace X := X.ext x8; replace hms := Nd.sits.ext hms x8; clear x8; refine C1 Pt (C1 Mv (lw_on rfl rfl rfl (rfl) (lw_loads_b' [_, _, _, _, _, _] tabOk rfl rfl rfl h4 rfl rfl rfl (lw_on rfl rfl rfl (rfl) ?_)))); refine cR (by kernel_rfl) rfl (HS.out _ _ _ _ _ _ _ _ (by assumption) (by assumption) hvc) (fun _ _ h => h.ret) rfl ?_; rintro _ w14 ⟨a11, ⟨c12, ⟨⟨⟩, x13⟩⟩⟩; have z15 := x13.size; replace h4 := h4.ext x13; replace hps := hps.ext x13; replace hs := PG.sits.ext hs x13; replace X := X.ext x13; replace hms := Nd.sits.ext hms x13; clear x13; refine lw_on rfl rfl rfl (rfl) (C1 Pz (lw_on rfl rfl rfl (rfl) (C1 V5 (C1 (pur_pick_f rfl rfl rfl) (cT (Wnd (cw_skip (qw_then (cS (C1 Pa (cT ?_))))))))))); refine cw_seq (cS (C1 Pf (C1 (Pl h4) (C1 Pz (C1 Mv (cT ?_)))))); rotate_left 1
   refine cw_block ?_; refine cw_loop (ι := Nat × Option Addr × Nat) (fun y => [(1, .pointer (some ⟨b1, 0, none⟩)), (3, .slice y.2.1 (rejsOf (g.procs.take y.1)).length y.2.2), (16, .slice pa g.procs.length pc), (17, .int .i64 g.procs.length), (18, .int .i64 y.1)])
    (fun y w' => y.1 ≤ g.procs.length ∧ OwnQ rejShape w' (fun _ => False) (w.heap.size + 1) 39 (.slice y.2.1 (rejsOf (g.procs.take y.1)).length y.2.2) (rejsOf (g.procs.take y.1)) ∧ (rejsOf (g.procs.take y.1) = [] → y.2.1 = none ∧ y.2.2 = 0) ∧ Blk w' b1 (g.cells va vc pa pc ma mc) ∧ PDsC (· < w.heap.size) w' g.procs pa ∧ g.main.sits (· < w.heap.size) w' ma ∧ Ext w w')
    (fun y => g.procs.length - y.1) (0, none, 0) (by (refine sub_cons rfl ?_; refine sub_cons rfl ?_; refine sub_cons rfl ?_; refine sub_cons rfl ?_; refine sub_cons rfl ?_; exact sub_nil)) ⟨Nat.zero_le _, OwnQ.nil, fun _ => ⟨rfl, rfl⟩, h4, hps, hms, X⟩ ?_
   clear h4 hps hms X hs; rintro ⟨j, ra, rc⟩ w3 ⟨hj, hown, hno, h4, hps, hms, X⟩; simp only at hj hown hno h4 hps hms X
   have hob : ∀ q, (Value.slice ra (rejsOf (g.procs.take j)).length rc).ownBlock = some q → w.heap.size + 1 ≤ q ∧ q < w3.heap.size := fun q hq => ⟨hown.ge hq, hown.lt hq⟩
   have hrl := rejsOf_len 2000 (g.procs.take j) (fun p hp => (body_iff.1 (pok_parts (o4 p (List.mem_of_mem_take hp))).2.2.2).2.2); have hjm : (g.procs.take j).length * 2000 ≤ 64 * 2000 := Nat.mul_le_mul_right _ (by simp; omega); have hxs := X.size; have hbl := h4.lt
   by_cases hlt : j < g.procs.length
   · obtain ⟨kb, ko, rfl, kS, hget⟩ := hps.get (by intro e; rw [e] at hlt; simp at hlt)
     obtain ⟨qa, qc, ba, bc, r0, -, hpb, -⟩ := hget j g.procs[j] (List.getElem?_eq_getElem hlt); obtain ⟨d1, -, d3⟩ := body_iff.1 (pok_parts (o4 _ (List.getElem_mem hlt))).2.2.2; have hnx := rejsOf_take hlt; have hel := errsOf_len (g.procs[j]).body.walk; rw [walk_len] at hel
     have HC := Lib.hid (check_c j (g.procs[j]).body (by omega) (fun x hx => by
      obtain ⟨h1, h2, h3⟩ := block_walk d1 (hwf.procs _ (List.getElem_mem hlt)).body x hx
      exact ⟨h1, h2, by omega⟩))
     clear hget d1
     generalize g.procs[j] = x at *
     generalize errsOf x.body.walk = ys at *
     generalize hE : rejsOf (g.procs.take j) = E at *
     focus
      refine cS (C1 V3 (cT (cw_seq (Wyo (cw_skip (qw_then (cw_seq (cw_block (cS (C1 Mv (C1 Pi ?_))))))))))); refine C1 (Pws r0) ?_; (refine lw_alloc' [_, _, _, _, _, _] zOk rfl rfl ?_; intro ba1 wa2 na3); have ha5 := na3.blk; have xa6 := na3.ext; have pa7 := na3.pos; have za8 := na3.size; clear na3; replace hms := Nd.sits.ext hms xa6; replace X := X.ext xa6; replace h4 := h4.ext xa6; replace hps := hps.ext xa6; replace r0 := r0.ext xa6; replace hpb := Nd.sits.ext hpb xa6; replace hown := hown.ext xa6; clear xa6; refine C1 Pa ?_; (refine lw_store' [_, _, _, _, _, _] [_, _, _, _, _, _] tabOk rfl rfl rfl rfl rfl rfl ha5 rfl rfl ?_; intro wa9 na10); have ha13 := na10.blk; have fa11 := na10.fr; have za12 := na10.size; clear na10 ha5; replace hms := Nd.sits.fr hms fa11 (by omega); replace X := X.fr fa11 (by omega); replace h4 := h4.fr fa11 (by omega); replace hps := hps.fr fa11 (by omega); replace r0 := Row.fr r0 fa11 (by simp only; omega); replace hpb := Nd.sits.fr hpb fa11 (by omega); replace hown := OwnQ.fr hown fa11 (fun k hk => ⟨id, fun e => by have := hob _ e; omega⟩); clear fa11; refine cT (cw_region (C1 Mv (C1 Mv (C1 Pf (lw_loads_b' [_, _, _, _] tabOk rfl rfl rfl ha13 rfl rfl rfl ?_))))); refine cR (by kernel_rfl) rfl (HC.out _ _ _ _ (by assumption)) (fun _ _ h => h.ret) rfl ?_; rintro _ wa19 ⟨aa14, ⟨ca15, ⟨⟨⟩, ⟨ha16, ⟨xa17, ha18⟩⟩⟩⟩⟩; have za20 := xa17.size; replace ha13 := ha13.ext xa17; replace hms := Nd.sits.ext hms xa17; replace X := X.ext xa17; replace h4 := h4.ext xa17
      replace hps := hps.ext xa17; replace r0 := r0.ext xa17; replace hpb := Nd.sits.ext hpb xa17; replace hown := hown.ext xa17; clear xa17; refine lw_does (does_appendR tabOk zOk rfl rfl rfl rfl (by kernel_rfl) rfl rfl (by assumption) (by assumption) hno (by assumption) (by omega) (by omega)) rfl ?_ (fun _ h => h); rintro _ wa26 ⟨a2a21, ⟨c2a22, ⟨rfl, ⟨ha23, ⟨fa24, ha25⟩⟩⟩⟩⟩; have za27 := fa24.size; clear ha16; replace ha13 := Blk.fr ha13 fa24 (fun h => by have := hob _ h; omega); replace hms := Nd.sits.fr hms fa24 (fun b hb h => by have := hob _ h; omega); replace X := Ext.fr X fa24 (fun k hk => by have := hob _ hk; omega); replace h4 := Blk.fr h4 fa24 (fun h => by have := hob _ h; omega); replace hps := PDsC.fr hps fa24 (fun b hb h => by have := hob _ h; omega); clear r0; replace hpb := Nd.sits.fr hpb fa24 (fun b hb h => by have := hob _ h; omega); clear hown fa24; refine C1 Pa (lw_nil (qw_block_norm (qw_then (cw_region (C1 V7 (C1 Mv (lw_nil ?_))))))); rotate_left 1
     rw [← hnx] at ha23 ha25 ⊢
     exact qw_round (j + 1, a2a21, c2a22) (by (refine sub_cons rfl ?_; refine sub_cons rfl ?_; refine sub_cons rfl ?_; refine sub_cons rfl ?_; refine sub_cons rfl ?_; exact sub_nil)) ⟨by simp only; omega, ha23, ha25, h4, hps, hms, X⟩ (by simp only; omega)
   · obtain rfl : j = g.procs.length := by omega
     rw [List.take_length] at hown hno hrl hob; refine CW.sub (m := [(1, .pointer (some ⟨b1, 0, none⟩)), (3, .slice ra (rejsOf g.procs).length rc), (16, .slice pa g.procs.length pc), (17, .int .i64 g.procs.length), (18, .int .i64 g.procs.length)]) ?_ (sub_cons rfl (sub_cons' rfl (by simp only [List.take_length]) (sub_cons rfl (sub_cons rfl (sub_cons rfl sub_nil))))); have hel := errsOf_len g.main.walk; rw [walk_len] at hel; rw [List.take_length] at hjm
     generalize errsOf g.main.walk = ys at *
     generalize hE : rejsOf g.procs = E at *
     rw [hE] at *
     focus
      refine cS (C1 V3 (cT (cw_seq (Wno (cw_exit (qw_then_exit (qw_then_exit (qw_block_exit (qw_then (cS (C1 Mv ?_))))))))))); refine C1 Pf (lw_loads_b' [_, _, _, _] tabOk rfl rfl rfl h4 rfl rfl rfl ?_); refine cR (by kernel_rfl) rfl (HM.out _ _ _ _ (by assumption)) (fun _ _ h => h.ret) rfl ?_; rintro _ wb6 ⟨ab1, ⟨cb2, ⟨⟨⟩, ⟨hb3, ⟨xb4, hb5⟩⟩⟩⟩⟩; have zb7 := xb4.size; replace h4 := h4.ext xb4; replace hps := hps.ext xb4; replace hms := Nd.sits.ext hms xb4; replace X := X.ext xb4; replace hown := hown.ext xb4; clear xb4; refine lw_does (does_appendR tabOk zOk rfl rfl rfl rfl (by kernel_rfl) rfl rfl (by assumption) (by assumption) hno (by assumption) (by omega) (by omega)) rfl ?_ (fun _ h => h); rintro _ wb13 ⟨a2b8, ⟨c2b9, ⟨rfl, ⟨hb10, ⟨fb11, hb12⟩⟩⟩⟩⟩; have zb14 := fb11.size; clear hb3; replace h4 := Blk.fr h4 fb11 (fun h => by have := hob _ h; omega); replace hps := PDsC.fr hps fb11 (fun b hb h => by have := hob _ h; omega); replace hms := Nd.sits.fr hms fb11 (fun b hb h => by have := hob _ h; omega); replace X := Ext.fr X fb11 (fun k hk => by have := hob _ hk; omega); clear hown fb11; refine C1 Pa (cT (cw_ret (qw_ret1 rfl rfl ?_))); rotate_left 1
     exact ⟨_, _, rfl, OwnQ.below hb10 (fun k hk => by have := hb10.ge hk; omega), X, hb12⟩
 · have he : g.errs = [] := if_neg hf
   rw [he]; refine calls_in Tryz.func9 Tryz.ntmps9 rfl rfl ?_
   focus
    refine cS ?_; (refine lw_box' [_, _, _, _, _, _] rfl rfl rfl ?_; intro bc1 wc2 nc3); have hc4 := nc3.blk; have xc5 := nc3.ext; have pc6 := nc3.pos; have zc7 := nc3.size; clear nc3; replace hps := hps.ext xc5; replace hs := PG.sits.ext hs xc5; replace X := X.ext xc5; clear xc5; refine C1 Pa (cT (cw_seq (cS (lw_loads_b' [_, _, _, _, _, _] tabOk rfl rfl rfl hc4 rfl rfl rfl ?_)))); refine cC rfl (HV.out _ _ _ _ _ _ _ _ (by assumption)) ?_; rintro _ wc9 ⟨⟨⟩, xc8⟩; have zc10 := xc8.size; replace hc4 := hc4.ext xc8; replace hps := hps.ext xc8; replace hs := PG.sits.ext hs xc8; replace X := X.ext xc8; clear xc8; refine C1 Pt (C1 Mv (lw_on rfl rfl rfl (rfl) (lw_loads_b' [_, _, _, _, _, _] tabOk rfl rfl rfl hc4 rfl rfl rfl (lw_on rfl rfl rfl (rfl) ?_)))); refine cR (by kernel_rfl) rfl (HS.out _ _ _ _ _ _ _ _ (by assumption) (by assumption) hvc) (fun _ _ h => h.ret) rfl ?_; rintro _ wc14 ⟨ac11, ⟨cc12, ⟨⟨⟩, xc13⟩⟩⟩; have zc15 := xc13.size; replace hc4 := hc4.ext xc13; replace hps := hps.ext xc13; replace hs := PG.sits.ext hs xc13; replace X := X.ext xc13; clear xc13; refine lw_on rfl rfl rfl (rfl) (C1 Pz (lw_on rfl rfl rfl (rfl) (C1 V5 (C1 (pur_pick_f rfl rfl rfl) (cT (Wyo (cS (C1 Pa (cT (cw_ret (qw_then_ret ?_))))))))))); refine qw_ret1 rfl rfl ?_; rotate_left 1
   all_goals exact ⟨none, 0, rfl, OwnQ.nil, X, fun _ => ⟨rfl, rfl⟩⟩
end Bk
namespace Bk
open Go
theorem inner_other {k : Int} {s : List UInt8} {i : Nat} {v : List VD} (h : k ≠ 54) (h2 : k ≠ 55) : innerV k s i v = v := by
 unfold innerV
 rw [if_neg (fun e => h e.1), if_neg (fun e => h2 e.1)]
def rowF (ps : List PD) (v : List VD) : List Nd → Nat
 | [] => 0
 | t :: r => t.flt ps v + rowF ps v r
theorem rowFlt_eq {ps : List PD} {v : List VD} {k : Int} {s : List UInt8} (h : k ≠ 54) (h2 : k ≠ 55) : ∀ (l : List Nd) (i : Nat), rowFlt ps v k s i l = rowF ps v l
 | [], _ => by rw [rowFlt, rowF]
 | t :: r, i => by rw [rowFlt, rowF, inner_other h h2, rowFlt_eq h h2 r]
theorem rowF_app {ps : List PD} {v : List VD} : ∀ l m : List Nd, rowF ps v (l ++ m) = rowF ps v l + rowF ps v m
 | [], m => by simp [rowF]
 | t :: r, m => by rw [List.cons_append, rowF, rowF, rowF_app r m]; omega
theorem rowF_rev {ps : List PD} {v : List VD} : ∀ l : List Nd, rowF ps v l.reverse = rowF ps v l
 | [] => rfl
 | t :: r => by rw [List.reverse_cons, rowF_app, rowF_rev r]; simp only [rowF]; omega
theorem flt_plain {ps : List PD} {v : List VD} {k n : Int} {s : List UInt8} {l : List Nd} (h : k ≠ 54) (h2 : k ≠ 55) (h3 : k ≠ 50) (h4 : k ≠ 51) : (Nd.mk k n s l).flt ps v = b01 (faultE ps v k s l.length) + rowF ps v l := by
 rw [Nd.flt, if_neg (by omega), rowFlt_eq h h2]
theorem fault_other {ps : List PD} {v : List VD} {k : Int} {s : List UInt8} {m : Nat} (h : 6 ≤ k) (h2 : ¬ (k = 44 ∨ k = 45)) (h3 : ¬ (k = 54 ∨ k = 55)) (h4 : ¬ (k = 50 ∨ k = 51)) : faultE ps v k s m = 0 := by
 unfold faultE
 rw [if_neg (by omega), if_neg (by omega), if_neg (by omega), if_neg h3, if_neg h4]
theorem flt_inv (ps : List PD) (q : Bool) (N : Nat) : ∀ (t : Nd) (v : List VD), t.size < N → t.isStmt = true ∨ t.isBlock = true → (t.inv q).flt ps v = t.flt ps v := by
 induction N with
 | zero => intro t v h; omega
 | succ N ih =>
  intro t v hN h
  by_cases hs : t.isStmt = true
  · cases stmt_shape hs with
    | @upd k x y hk hx hy =>
     have hk2 := exch_upd hk; rw [inv_upd q hk (place_isExpr hx) hy, flt_plain (by omega) (by omega) (by omega) (by omega), flt_plain (by omega) (by omega) (by omega) (by omega), fault_other (by omega) (by omega) (by omega) (by omega), fault_other (by omega) (by omega) (by omega) (by omega)]
    | @swap x y hx hy => rw [inv_swap q (place_isExpr hx) (place_isExpr hy)]
    | @stack k s x hk hn hx =>
     have hk2 := exch_stack hk; rw [inv_one q (by omega) (place_isExpr hx), flt_plain (by omega) (by omega) (by omega) (by omega), flt_plain (by omega) (by omega) (by omega) (by omega)]
     have : ∀ k : Int, k = 44 ∨ k = 45 → faultE ps v k s 1 = useE v s 3 := fun k h => by
      unfold faultE
      rw [if_neg (by omega), if_neg (by omega), if_pos (by omega)]
     simp only [List.length_cons, List.length_nil, Nat.zero_add]; rw [this _ hk2, this _ hk]
    | @tape k x hk hx =>
     have hk2 := exch_tape hk; rw [inv_one q (by omega) (place_isExpr hx), flt_plain (by omega) (by omega) (by omega) (by omega), flt_plain (by omega) (by omega) (by omega) (by omega), fault_other (by omega) (by omega) (by omega) (by omega), fault_other (by omega) (by omega) (by omega) (by omega)]
    | @call k s l hk hn hl ha =>
     have hk2 : (if q then k else exch k) = 50 ∨ (if q then k else exch k) = 51 := by
      cases q
      · exact exch_call hk
      · exact hk
     have : ∀ k : Int, k = 50 ∨ k = 51 → faultE ps v k s l.length = callE ps s l.length := fun k h => by
      unfold faultE
      rw [if_neg (by omega), if_neg (by omega), if_neg (by omega), if_neg (by omega), if_pos h]
     rw [inv_call q hk ha, Nd.flt, Nd.flt, if_pos hk2, if_pos hk, this _ hk2, this _ hk]
    | @branch k x y z u hk hx hy hz hu =>
     simp only [Nd.size, rowSize] at hN; have iy := ih y v (by omega) (Or.inr hy); have iz := ih z v (by omega) (Or.inr hz); rw [inv_branch q hk hx hy hz hu, flt_plain (by omega) (by omega) (by omega) (by omega), flt_plain (by omega) (by omega) (by omega) (by omega), fault_other (by omega) (by omega) (by omega) (by omega), fault_other (by omega) (by omega) (by omega) (by omega)]
     simp only [rowF, iy, iz]; omega
    | @local_ s x y z hn hx hy hz =>
     simp only [Nd.size, rowSize] at hN; have iy := ih y (v ++ [⟨s, 1, 0⟩]) (by omega) (Or.inr hy); rw [inv_local q hx hy hz, Nd.flt, Nd.flt, if_neg (by omega), if_neg (by omega)]
     have e0 : ∀ i : Nat, i ≠ 1 → innerV 54 s i v = v := fun i h => by unfold innerV; rw [if_neg (fun e => h e.2), if_neg (fun e => absurd e.1 (by decide))]
     have e1 : innerV 54 s 1 v = v ++ [⟨s, 1, 0⟩] := by unfold innerV; rw [if_pos ⟨rfl, rfl⟩]
     simp only [rowFlt, Nat.zero_add, e0 0 (by decide), e1, e0 (1 + 1) (by decide), iy, List.length_cons, List.length_nil]; omega
    | @lstack s x hn hx =>
     simp only [Nd.size, rowSize] at hN; have ix := ih x (v ++ [⟨s, 3, 0⟩]) (by omega) (Or.inr hx); rw [inv_lstack q hx, Nd.flt, Nd.flt, if_neg (by omega), if_neg (by omega)]
     have e0 : innerV 55 s 0 v = v ++ [⟨s, 3, 0⟩] := by unfold innerV; rw [if_neg (fun e => absurd e.1 (by decide)), if_pos ⟨rfl, rfl⟩]
     simp only [rowFlt, e0, ix, List.length_cons, List.length_nil]
  · have hb : t.isBlock = true := h.resolve_left hs
    obtain ⟨e, hr⟩ := block_kind hb; obtain ⟨k, n, s, l⟩ := t; simp only [Nd.kids, Nd.mk.injEq, and_true] at e; obtain ⟨rfl, rfl, rfl⟩ := e; simp only [Nd.kids] at hr; simp only [Nd.size] at hN; have hst := rowStmt_iff.1 hr; rw [inv_block, flt_plain (by omega) (by omega) (by omega) (by omega), flt_plain (by omega) (by omega) (by omega) (by omega), fault_other (by omega) (by omega) (by omega) (by omega), fault_other (by omega) (by omega) (by omega) (by omega), rowF_rev]
    have key : ∀ r : List Nd, (∀ t ∈ r, t ∈ l) → rowF ps v (rowInv q r) = rowF ps v r := by
     intro r
     induction r with
     | nil => intro _; rfl
     | cons x r ihr =>
      intro hm; have hx := hm x (by simp); simp only [rowInv, rowF]; rw [ih x v (by have := rowSize_mem1 hx; omega) (Or.inl (hst x hx)), ihr (fun t ht => hm t (by simp [ht]))]
    rw [key l (fun _ h => h)]
theorem flt_pinv {g : PG} (q : Bool) (h : g.main.isStmt = true ∨ g.main.isBlock = true) : PG.flt ⟨g.vars, g.procs, g.main.inv q⟩ = g.flt := by
 unfold PG.flt
 simp only; rw [flt_inv g.procs q (g.main.size + 1) g.main g.vars (by omega) h]
end Bk
namespace Bk
open Go
def cntW (e : Int) (l : List Nd) : Nat := (l.map fun m => (rejV m).2).count e
theorem cntW_cons (e : Int) (x : Nd) (l : List Nd) : cntW e (x :: l) = (if (rejV x).2 = e then 1 else 0) + cntW e l := by
 unfold cntW
 rw [List.map_cons, List.count_cons]
 by_cases h : (rejV x).2 = e
 · simp [h]; omega
 · simp [h]
theorem cntW_app (e : Int) (l m : List Nd) : cntW e (l ++ m) = cntW e l + cntW e m := by
 unfold cntW
 rw [List.map_append, List.count_append]
theorem count_errs (e : Int) (he : e ≠ 0) (l : List Nd) : (errsOf l).count e = cntW e l := by
 unfold errsOf cntW
 rw [List.count_filter (by simpa using he)]
theorem rejV_none {k n : Int} {s : List UInt8} {l : List Nd} (h : k < 40 ∨ 53 < k) (h2 : k ≠ 56) : rejV (.mk k n s l) = ([], 0) := by
 rw [rejV_eq, if_neg (by omega), if_neg (by omega), if_neg (by omega), if_neg (by omega), if_neg (by omega), if_neg (by omega), if_neg (by omega), if_neg (by omega)]
theorem cntW_head {e k k' n : Int} {s : List UInt8} {l : List Nd} (h : (rejV (.mk k' n s l)).2 = (rejV (.mk k n s l)).2) : cntW e (Nd.mk k' n s l).walk = cntW e (Nd.mk k n s l).walk := by
 simp only [Nd.walk, cntW_cons, h]
theorem rejV_class {k k' n n' : Int} {s : List UInt8} {l : List Nd} (h : (40 ≤ k ∧ k ≤ 42 ∧ 40 ≤ k' ∧ k' ≤ 42) ∨ (44 ≤ k ∧ k ≤ 45 ∧ 44 ≤ k' ∧ k' ≤ 45) ∨ (46 ≤ k ∧ k ≤ 49 ∧ 46 ≤ k' ∧ k' ≤ 49) ∨ (50 ≤ k ∧ k ≤ 51 ∧ 50 ≤ k' ∧ k' ≤ 51)) : rejV (.mk k' n' s l) = rejV (.mk k n s l) := by
 rcases h with h | h | h | h
 · exact ((rejV_eq k' n' s l).trans ((if_neg (by omega)).trans (if_pos (by omega)))).trans ((rejV_eq k n s l).trans ((if_neg (by omega)).trans (if_pos (by omega)))).symm
 · exact ((rejV_eq k' n' s l).trans ((if_neg (by omega)).trans ((if_neg (by omega)).trans ((if_neg (by omega)).trans (if_pos (by omega)))))).trans ((rejV_eq k n s l).trans ((if_neg (by omega)).trans ((if_neg (by omega)).trans ((if_neg (by omega)).trans (if_pos (by omega)))))).symm
 · exact ((rejV_eq k' n' s l).trans ((if_neg (by omega)).trans ((if_neg (by omega)).trans ((if_neg (by omega)).trans ((if_neg (by omega)).trans (if_pos (by omega))))))).trans ((rejV_eq k n s l).trans ((if_neg (by omega)).trans ((if_neg (by omega)).trans ((if_neg (by omega)).trans ((if_neg (by omega)).trans (if_pos (by omega))))))).symm
 · exact ((rejV_eq k' n' s l).trans ((if_neg (by omega)).trans ((if_neg (by omega)).trans ((if_neg (by omega)).trans ((if_neg (by omega)).trans ((if_neg (by omega)).trans (if_pos (by omega)))))))).trans ((rejV_eq k n s l).trans ((if_neg (by omega)).trans ((if_neg (by omega)).trans ((if_neg (by omega)).trans ((if_neg (by omega)).trans ((if_neg (by omega)).trans (if_pos (by omega)))))))).symm
theorem rejV_branch {k n : Int} {s : List UInt8} {l : List Nd} (h : k = 52 ∨ k = 53) : (rejV (.mk k n s l)).2 = 0 ∨ (rejV (.mk k n s l)).2 = 10 := by
 rw [rejV_eq, if_neg (by omega), if_neg (by omega), if_neg (by omega), if_neg (by omega), if_neg (by omega), if_neg (by omega)]
 repeat' split
 all_goals simp
theorem cntW_rev (e : Int) : ∀ l : List Nd, cntW e (rowWalk l.reverse) = cntW e (rowWalk l)
 | [] => rfl
 | t :: r => by rw [List.reverse_cons, rowWalk_app, cntW_app, cntW_rev e r]; simp only [rowWalk, List.append_nil, cntW_app]; omega
theorem cnt_inv (q : Bool) (e : Int) (he : e = 8 ∨ e = 9) (N : Nat) : ∀ t : Nd, t.size < N → t.isStmt = true ∨ t.isBlock = true → cntW e (t.inv q).walk = cntW e t.walk := by
 have e0 : e ≠ 0 := by omega
 induction N with
 | zero => intro t h; omega
 | succ N ih =>
  intro t hN h
  by_cases hs : t.isStmt = true
  · cases stmt_shape hs with
    | @upd k x y hk hx hy =>
     rw [inv_upd q hk (place_isExpr hx) hy]; have hk2 := exch_upd hk
     by_cases h56 : k = 56
     · subst h56; rfl
     · have : exch k ≠ 56 := by rcases hk with rfl | rfl | rfl | rfl <;> first | decide | exact absurd rfl h56
       exact cntW_head (congrArg Prod.snd (rejV_class (Or.inl ⟨by omega, by omega, by omega, by omega⟩)))
    | @swap x y hx hy => rw [inv_swap q (place_isExpr hx) (place_isExpr hy)]
    | @stack k s x hk hn hx =>
     have hk2 := exch_stack hk; rw [inv_one q (by omega) (place_isExpr hx)]
     exact cntW_head (congrArg Prod.snd (rejV_class (Or.inr (Or.inl ⟨by omega, by omega, by omega, by omega⟩))))
    | @tape k x hk hx =>
     have hk2 := exch_tape hk; rw [inv_one q (by omega) (place_isExpr hx)]
     exact cntW_head (congrArg Prod.snd (rejV_class (Or.inr (Or.inr (Or.inl ⟨by omega, by omega, by omega, by omega⟩)))))
    | @call k s l hk hn hl ha =>
     have hk2 : (if q then k else exch k) = 50 ∨ (if q then k else exch k) = 51 := by
      cases q
      · exact exch_call hk
      · exact hk
     rw [inv_call q hk ha]
     exact cntW_head (congrArg Prod.snd (rejV_class (Or.inr (Or.inr (Or.inr ⟨by omega, by omega, by omega, by omega⟩)))))
    | @branch k x y z u hk hx hy hz hu =>
     simp only [Nd.size, rowSize] at hN; have iy := ih y (by omega) (Or.inr hy); have iz := ih z (by omega) (Or.inr hz); have b1 := rejV_branch (k := k) (n := 0) (s := []) (l := [x, y, z, u]) hk; have b2 := rejV_branch (k := k) (n := 0) (s := []) (l := [u, y.inv q, z.inv q, x]) hk; rw [inv_branch q hk hx hy hz hu]; simp only [Nd.walk, cntW_cons, rowWalk, cntW_app, iy, iz, List.append_nil]; rw [if_neg (by omega), if_neg (by omega)]
     omega
    | @local_ s x y z hn hx hy hz =>
     simp only [Nd.size, rowSize] at hN; have iy := ih y (by omega) (Or.inr hy); rw [inv_local q hx hy hz]; simp only [Nd.walk, cntW_cons, rowWalk, cntW_app, iy, List.append_nil]; rw [rejV_none (by omega) (by omega), rejV_none (by omega) (by omega)]
     omega
    | @lstack s x hn hx =>
     simp only [Nd.size, rowSize] at hN; have ix := ih x (by omega) (Or.inr hx); rw [inv_lstack q hx]; simp only [Nd.walk, cntW_cons, rowWalk, cntW_app, ix, List.append_nil]; rw [rejV_none (by omega) (by omega), rejV_none (by omega) (by omega)]
  · have hb : t.isBlock = true := h.resolve_left hs
    obtain ⟨ek, hr⟩ := block_kind hb; obtain ⟨k, n, s, l⟩ := t; simp only [Nd.kids, Nd.mk.injEq, and_true] at ek; obtain ⟨rfl, rfl, rfl⟩ := ek; simp only [Nd.kids] at hr; simp only [Nd.size] at hN; have hst := rowStmt_iff.1 hr; rw [inv_block]; simp only [Nd.walk, cntW_cons]; rw [rejV_none (by omega) (by omega), rejV_none (by omega) (by omega), cntW_rev]
    have key : ∀ r : List Nd, (∀ t ∈ r, t ∈ l) → cntW e (rowWalk (rowInv q r)) = cntW e (rowWalk r) := by
     intro r
     induction r with
     | nil => intro _; rfl
     | cons x r ihr =>
      intro hm; have hx := hm x (by simp); simp only [rowInv, rowWalk, cntW_app]; rw [ih x (by have := rowSize_mem1 hx; omega) (Or.inl (hst x hx)), ihr (fun t ht => hm t (by simp [ht]))]
    rw [key l (fun _ h => h)]
theorem errs_inv {g : PG} (q : Bool) (e : Int) (he : e = 8 ∨ e = 9) (h : g.main.isStmt = true ∨ g.main.isBlock = true) : (PG.errs ⟨g.vars, g.procs, g.main.inv q⟩).count e = g.errs.count e := by
 unfold PG.errs
 rw [flt_pinv q h]
 by_cases hf : g.flt = 0
 · rw [if_pos hf, if_pos hf, List.count_append, List.count_append, count_errs e (by omega), count_errs e (by omega), cnt_inv q e he (g.main.size + 1) g.main (by omega) h]
 · rw [if_neg hf, if_neg hf]
end Bk
