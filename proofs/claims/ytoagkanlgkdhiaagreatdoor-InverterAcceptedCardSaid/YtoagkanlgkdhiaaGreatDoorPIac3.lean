/- Texts that the proofs of InverterAccepted need. No condition. (Part 3 of 8.) -/
import Derived.Test.YtoagkanlgkdhiaaGreatDoorPIac2
set_option linter.unusedSimpArgs false
set_option linter.unusedVariables false
namespace Bk
open Go Go.RowKit
def WF (r : Option Nat) : Fence := { Fence.wide with round := r }
section base
variable {P : Program} {r : Option Nat} {m : Nat} {Q : Exit → Act → World → Prop}
theorem wf_calls {f : FuncId} {args : Array Value} {w : World} {R : Ending → World → Prop} : CallsIn (WF r) m P f args w R ↔ Calls P f args w R := callsIn_wide (n := m)
theorem wf_depth {p : Prop} (h : (WF r).depth.isSome = true) : p := by simp [WF, Fence.wide] at h
theorem rows_in {row : String} {args : Array Value} {w : World} {R : Value → World → Prop} (h : Go.Rows P row args w R) : RowsIn (WF r) m P row args w R := fun c cs _ =>
 let ⟨v, w', hR, hs⟩ := h c cs
 ⟨v, w', hR, stepsIn_wide.2 hs⟩
def nodef (o : Oper) : Bool := match o.op with
 | .defer _ => false
 | _ => true
theorem nodef_ne {o : Oper} (h : nodef o = true) : ∀ c, o.op ≠ .defer c := fun c e => by simp [nodef, e] at h
theorem wp_in {o : Oper} {a : Act} {w : World} {K : Act → World → Prop} (hd : nodef o = true) (h : o.wp P a w K Q) : o.wpIn (WF r) m P a w K Q := by
 refine ⟨fun _ _ => trivial, ?_⟩; rw [Oper.semAt_eq _ _ _ (nodef_ne hd)]
 unfold Oper.wp at h
 generalize (execOp a.eval o).run P w = x at h
 cases x with
 | ok v w' => cases v <;> simp only [Oper.upon] at h <;> simp only [Oper.uponIn] <;> first
  | exact h
  | exact h.elim
  | exact ⟨wf_depth, wf_calls.2 (Calls.mono h (fun e w h => by cases e <;> exact h))⟩
  | exact ⟨wf_depth, rows_in h⟩
 | halt v w' => cases v <;> simp only [Oper.upon] at h <;> simp only [Oper.uponIn] <;> first | exact h | exact h.elim
theorem wpl_in {ops : Array Oper} (hQ : ¬ LetsOut Q) : ∀ (os : List Oper) (a : Act) (w : World), os.all nodef = true → wpList P ops Q os a w → wpListIn (WF r) m P ops Q os a w
 | [], _, _, _, h => h
 | o :: os, a, w, hd, h => by
  simp only [List.all_cons, Bool.and_eq_true] at hd
  unfold wpList at h
  unfold wpListIn
  by_cases hw : Region.wanted o (yielded ops a.tmps) = true
  · rw [if_pos hw] at h ⊢
    rcases h with h | h
    · exact Oper.wpIn_mono (fun a w h => wpl_in hQ os a w hd.2 h) (wp_in hd.1 h)
    · exact absurd h.2 hQ
  · rw [if_neg hw] at h ⊢
    exact ⟨fun _ _ => trivial, wpl_in hQ os _ w hd.2 h⟩
theorem nl_then {K : Act → World → Prop} (h : ¬ LetsOut Q) : ¬ LetsOut (Exit.then K Q) := h
theorem nl_block {i : Nat} (h : ¬ LetsOut Q) : ¬ LetsOut (Exit.inBlock i Q) := h
end base
def CR (P : Program) (n : Nat) (r : Option Nat) (c : Code) (Q : Exit → Act → World → Prop) (l : Sl) (w : World) : Prop := ∀ a, Env n l a → c.wpIn (WF r) 0 P Q a w
section code
variable {P : Program} {n : Nat} {r : Option Nat} {Q : Exit → Act → World → Prop} {l : Sl} {w : World}
theorem cr_cw {c : Code} (h : CR P n none c Q l w) : CW P n c Q l w := by unfold CW; exact fun a ha => wpIn_wide.1 (h a ha)
theorem cw_cr {c : Code} (h : CW P n c Q l w) : CR P n none c Q l w := by unfold CW at h; exact fun a ha => wpIn_wide.2 (h a ha)
theorem CR.sub {c : Code} {m : Sl} (h : CR P n r c Q m w) (hs : Sub m l) : CR P n r c Q l w := fun a ha => h a (ha.sub hs)
theorem cr_seq {x y : Code} (h : CR P n r x (Exit.then (y.wpIn (WF r) 0 P Q) Q) l w) : CR P n r (.seq x y) Q l w := fun a ha => wpIn_seq (h a ha)
theorem qr_then {y : Code} (h : CR P n r y Q l w) : QW n (Exit.then (y.wpIn (WF r) 0 P Q) Q) .normal l w := by unfold QW; exact h
theorem cr_skip (h : QW n Q .normal l w) : CR P n r .skip Q l w := by unfold QW at h; exact fun a ha => wpIn_skip (h a ha)
theorem cr_ret (h : QW n Q .ret l w) : CR P n r .ret Q l w := by unfold QW at h; exact fun a ha => wpIn_ret (h a ha)
theorem cr_block {i : Nat} {c : Code} (h : CR P n r c (Exit.inBlock i Q) l w) : CR P n r (.block i c) Q l w := fun a ha => wpIn_block (h a ha)
theorem cr_cond {c : Operand} {x y : Code} {b : Bool} (hc : ev l c = some (.bool b)) (ht : b = true → CR P n r x Q l w) (hf : b = false → CR P n r y Q l w) : CR P n r (.cond c x y) Q l w :=
 fun a ha => wpIn_cond_split (ha.ev hc) (fun e => ht e a ha) (fun e => hf e a ha)
theorem cr_region {id : Nat} {os : List Oper} (hd : os.all nodef = true) (hQ : ¬ LetsOut Q) (h : LW P n os.toArray Q os l w) : CR P n r (.region id os.toArray false) Q l w := by unfold LW at h; exact fun a ha => wpIn_region_lit (wpl_in hQ os a w hd (h a ha))
end code
section draw
variable {P : Program} {ops : Array Oper} {Q : Exit → Act → World → Prop} {S : World → Prop} {K : Nat}
def wpAnyM (P : Program) (ops : Array Oper) (Q : Exit → Act → World → Prop) (S : World → Prop) (K : Nat) : Nat → Array Bool → Act → World → Prop
 | 0, listed, a, w => Region.ready .any ops listed = [] ∧ Q .normal a w
 | fuel + 1, listed, a, w =>
  (Region.ready .any ops listed = [] → Q .normal a w) ∧
  ∀ i ∈ Region.ready .any ops listed, (i < K → wpOp P ops Q i (fun a' w' => S w' ∧ wpAnyM P ops Q S K fuel (listed.setIfInBounds i true) a' w') a w) ∧
   (K ≤ i → wpOpIn (WF none) 0 P ops Q i (wpAnyM P ops Q S K fuel (listed.setIfInBounds i true)) a w)
theorem wpop_in {i : Nat} {a : Act} {w : World} {G : Act → World → Prop} (hQ : ¬ LetsOut Q) (hd : ∀ o, ops[i]? = some o → nodef o = true) (h : wpOp P ops Q i G a w) : wpOpIn (WF none) 0 P ops Q i G a w := by
 unfold wpOp at h
 unfold wpOpIn
 cases ho : ops[i]? with
 | none => rw [ho] at h; exact h
 | some o =>
  rw [ho] at h; simp only at h ⊢
  by_cases hw : Region.wanted o (yielded ops a.tmps) = true
  · rw [if_pos hw] at h ⊢
    rcases h with h | h
    · exact wp_in (hd o ho) h
    · exact absurd h.2 hQ
  · rw [if_neg hw] at h ⊢
    exact ⟨fun _ _ => trivial, h⟩
theorem wpAnyIn_of_M (hQ : ¬ LetsOut Q) (hd : ∀ (i : Nat) (o : Oper), ops[i]? = some o → nodef o = true) : ∀ (fuel : Nat) (listed : Array Bool) (a : Act) (w : World), wpAnyM P ops Q S K fuel listed a w → wpAnyIn (WF none) 0 P .any ops Q fuel listed a w
 | 0, _, _, _, h => h
 | fuel + 1, _, _, _, h => ⟨h.1, fun i hi => by
  by_cases hK : i < K
  · exact wpOpIn_mono (fun a' w' h' => wpAnyIn_of_M hQ hd fuel _ a' w' h'.2) (wpop_in hQ (hd i) ((h.2 i hi).1 hK))
  · exact wpOpIn_mono (fun a' w' h' => wpAnyIn_of_M hQ hd fuel _ a' w' h') ((h.2 i hi).2 (by omega))⟩
theorem wpAnyM_first {i : Nat} {oi : Oper} {v : Value} (hi : ops[i]? = some oi) (hK : i < K) (hre : Forced ops K i) (hsel : ∀ (j : Nat) (o : Oper) cs b, ops[j]? = some o → o.op ≠ .select cs b)
 (hQ : ∀ c a w, Q (.panic c) (a.put oi.dst v) w → Q (.panic c) a w) :
 ∀ (fuel : Nat) (listed : Array Bool) (a : Act) (w : World), DC ops listed →
  (∀ j oj, ops[j]? = some oj → j ≠ i → listed.getD j true = false → (∀ e ∈ oj.after, Region.binds .any e = true → e.on ≠ i) → oi.apart ops oj = true) →
  i ∈ Region.ready .any ops listed → YieldsIf P ops S oi v a → S w →
  wpAnyM P ops Q S K fuel (listed.setIfInBounds i true) (a.put oi.dst v) w → wpAnyM P ops Q S K (fuel + 1) listed a w := by
 intro fuel
 induction fuel with
 | zero =>
  intro listed a w _ _ hr hy hS H; refine ⟨fun h => (by rw [h] at hr; cases hr), fun j hj => ?_⟩
  by_cases hji : j = i
  · subst hji; exact ⟨fun _ => hy.wpOp hi hS ⟨hS, H⟩, fun h => by omega⟩
  · have := ready_mono hj hji
    rw [H.1] at this
    cases this
 | succ fuel ih =>
  intro listed a w hdc hfree hr hy hS H; refine ⟨fun h => (by rw [h] at hr; cases hr), fun j hj => ?_⟩
  by_cases hji : j = i
  · subst hji; exact ⟨fun _ => hy.wpOp hi hS ⟨hS, H⟩, fun h => by omega⟩
  · obtain ⟨hjun, oj, hoj, hall⟩ := mem_ready.1 hj
    have hun : ¬ listed.getD i false = true := fun hc => by
     have h0 := (mem_ready.1 hr).1
     rcases Nat.lt_or_ge i listed.size with h' | h'
     · simp [h'] at h0 hc; rw [h0] at hc; cases hc
     · simp [Array.getElem?_eq_none h'] at hc
    have hjK : j < K := by
     rcases Nat.lt_or_ge j K with h | h
     · exact h
     · exact absurd (hre listed j oj hdc h hoj hall) hun
    have h1 := (H.2 j (ready_mono hj hji)).1 hjK
    have hnot : ∀ e ∈ oj.after, Region.binds .any e = true → e.on ≠ i := fun e he hb heq => hun (heq ▸ hall e he hb)
    have h2 := wpOp_putIf hoj (hfree j oj hoj hji hjun hnot) (fun cs b => hsel i oi cs b hi) (fun cs b => hsel j oj cs b hoj) hQ hy h1; have hfree' : ∀ k ok, ops[k]? = some ok → k ≠ i → (listed.setIfInBounds j true).getD k true = false →
     (∀ e ∈ ok.after, Region.binds .any e = true → e.on ≠ i) → oi.apart ops ok = true := fun k ok hk hki hun hno => by
     refine hfree k ok hk hki ?_ hno
     by_cases hjk : j = k
     · subst hjk; exact hjun
     · rw [getD_set_ne true hjk] at hun; exact hun
    refine ⟨fun _ => wpOp_mono (fun a' w' h3 => ⟨h3.2.1, ih (listed.setIfInBounds j true) a' w' (hdc.set hj) hfree' (ready_mono hr (Ne.symm hji)) h3.1 h3.2.1 ?_⟩) h2, fun h => by omega⟩; rw [Array.setIfInBounds_comm _ _ hji]
    exact h3.2.2
def HM (P : Program) (ops : Array Oper) (Q : Exit → Act → World → Prop) (S : World → Prop) (K : Nat) : Sc → Act → World → Prop
 | .done, a, w => Q .normal a w
 | .pure i r, a, w => ∃ o v, ops.toList[i]? = some o ∧ YieldsIf P ops S o v a ∧ HM P ops Q S K r (a.put o.dst v) w
 | .fork i x r, a, w => i < K ∧ wpOp P ops Q i (fun a' w' => S w' ∧ HM P ops Q S K x a' w') a w ∧ HM P ops Q S K r a w
 | .none, _, _ => True
 | .tail, a, w => wpListIn (WF none) 0 P ops Q (ops.toList.drop K) a w
theorem chain_anyM : ∀ (f k : Nat) (listed : Array Bool) (a : Act) (w : World), K ≤ k → f + k = ops.size → chain ops f k listed = true → wpListIn (WF none) 0 P ops Q (ops.toList.drop k) a w → wpAnyM P ops Q S K f listed a w
 | 0, k, listed, a, w, hk, hf, hc, h => by
  have : ops.toList.drop k = [] := List.drop_eq_nil_of_le (by simp; omega); rw [this] at h
  exact ⟨by simpa [chain] using hc, h⟩
 | f + 1, k, listed, a, w, hk, hf, hc, h => by
  simp only [chain, Bool.and_eq_true, beq_iff_eq] at hc
  have hlt : k < ops.toList.length := by simp; omega
  rw [List.drop_eq_getElem_cons hlt] at h; refine ⟨fun e => absurd (hc.1.symm.trans e) (by simp), fun i hi => ?_⟩; rw [hc.1] at hi; simp only [List.mem_singleton] at hi; subst hi; refine ⟨fun h => by omega, fun _ => ?_⟩
  have ho : ops[i]? = some ops.toList[i] := by simp
  unfold wpListIn at h
  unfold wpOpIn
  rw [ho]; simp only
  split
  · rename_i hw
    rw [if_pos hw] at h
    exact Oper.wpIn_mono (fun a' w' h' => chain_anyM f (i + 1) _ a' w' (by omega) (by omega) hc.2 h') h
  · rename_i hw
    rw [if_neg hw] at h
    exact ⟨h.1, chain_anyM f (i + 1) _ _ w (by omega) (by omega) hc.2 h.2⟩
theorem HM.any (hs : Region.noSelect ops = true) (hre : ∀ i, i < K → Forced ops K i) (hQ : PanicOk Q) :
 ∀ (s : Sc) (f : Nat) (listed : Array Bool) (a : Act) (w : World), DC ops listed → S w → HM P ops Q S K s a w →
  (Sc.ok ops K true s f listed = true → wpAnyM P ops Q S K f listed a w) ∧
  (Sc.ok ops K false s f listed = true → ∀ i ∈ s.alts, ∀ f', f = f' + 1 → i < K ∧ wpOp P ops Q i (fun a' w' => S w' ∧ wpAnyM P ops Q S K f' (listed.setIfInBounds i true) a' w') a w)
 | .done, f, listed, a, w, hd, hS, h => by
  refine ⟨fun hk => ?_, fun hk => by simp [Sc.ok] at hk⟩
  have hr : Region.ready .any ops listed = [] := by simpa [Sc.ok] using hk
  cases f with
  | zero => exact ⟨hr, h⟩
  | succ f => exact ⟨fun _ => h, by rw [hr]; simp⟩
 | .none, f, listed, a, w, hd, hS, h => ⟨fun hk => by simp [Sc.ok] at hk, fun hk => by simp [Sc.alts]⟩
 | .tail, f, listed, a, w, hd, hS, h => ⟨fun hk => by
  simp only [Sc.ok, Bool.and_eq_true] at hk
  exact chain_anyM f K listed a w (Nat.le_refl _) (Nat.eq_of_beq_eq_true hk.1) hk.2 h, fun hk => by simp [Sc.ok] at hk⟩
 | .pure i r, 0, listed, a, w, hd, hS, h => ⟨fun hk => by simp [Sc.ok] at hk, fun hk => by simp [Sc.ok] at hk⟩
 | .pure i r, f + 1, listed, a, w, hd, hS, h => ⟨fun hk => by
  simp only [Sc.ok, Bool.and_eq_true] at hk; obtain ⟨o, v, ho, hy, hr⟩ := h
  have hi : ops[i]? = some o := by simpa using ho
  have hir : i ∈ Region.ready .any ops listed := by simpa using hk.1.1.2
  exact wpAnyM_first hi (Nat.le_of_ble_eq_true hk.1.1.1) (hre i (Nat.le_of_ble_eq_true hk.1.1.1)) (Region.noSelect_spec hs) (fun c a w => hQ o.dst v c a w) f listed a w hd (Region.free_spec hi hk.1.2) hir hy hS
   ((HM.any hs hre hQ r f _ _ w (hd.set hir) hS hr).1 hk.2), fun hk => by simp [Sc.ok] at hk⟩
 | .fork i x r, 0, listed, a, w, hd, hS, h => ⟨fun hk => by simp [Sc.ok] at hk, fun hk => by simp [Sc.ok] at hk⟩
 | .fork i x r, f + 1, listed, a, w, hd, hS, h => by
  have key : i ∈ Region.ready .any ops listed → Sc.ok ops K true x f (listed.setIfInBounds i true) = true → wpOp P ops Q i (fun a' w' => S w' ∧ wpAnyM P ops Q S K f (listed.setIfInBounds i true) a' w') a w := fun hir hk =>
   wpOp_mono (fun a' w' h' => ⟨h'.1, (HM.any hs hre hQ x f _ a' w' (hd.set hir) h'.1 h'.2).1 hk⟩) h.2.1
  have hr := HM.any hs hre hQ r (f + 1) listed a w hd hS h.2.2; refine ⟨fun hk => ?_, fun hk j hj f' hf => ?_⟩
  · simp only [Sc.ok, Bool.and_eq_true] at hk
    obtain ⟨⟨⟨h1, h4⟩, h2⟩, h3⟩ := hk; refine ⟨fun e => by rw [e] at h4; simp at h4, fun j hj => ?_⟩; have := List.all_eq_true.1 h1 j hj; simp only [List.contains_eq_mem, List.mem_cons, decide_eq_true_eq] at this
    rcases this with rfl | hj'
    · exact ⟨fun _ => key hj h2, fun hK => absurd h.1 (by omega)⟩
    · obtain ⟨k1, k2⟩ := hr.2 h3 j hj' f rfl
      exact ⟨fun _ => k2, fun hK => by omega⟩
  · simp only [Sc.ok, Bool.and_eq_true] at hk
    obtain rfl : f = f' := by omega
    simp only [Sc.alts, List.mem_cons] at hj
    rcases hj with rfl | hj
    · exact ⟨h.1, key (by simpa using hk.1.1) hk.1.2⟩
    · exact hr.2 hk.2 j hj f rfl
end draw
def MW (P : Program) (n : Nat) (ops : Array Oper) (Q : Exit → Act → World → Prop) (S : World → Prop) (K : Nat) (s : Sc) (l : Sl) (w : World) : Prop := ∀ a, Env n l a → HM P ops Q S K s a w
def LI (P : Program) (n : Nat) (ops : Array Oper) (Q : Exit → Act → World → Prop) (os : List Oper) (l : Sl) (w : World) : Prop := ∀ a, Env n l a → wpListIn (WF none) 0 P ops Q os a w
section draws
variable {P : Program} {n : Nat} {ops : Array Oper} {Q : Exit → Act → World → Prop} {S : World → Prop} {K : Nat} {l : Sl} {w : World}
 {d i : Nat} {ty : TypeId} {pos : String} {after : Array Edge} {r x : Sc} {rest : List Oper}
theorem cw_mdraw {id : Nat} {os : List Oper} (S : World → Prop) (K : Nat) (s : Sc) (hm : P.follows .mixedOrders = true) (hs : (Region.noSelect os.toArray && lateOk os.toArray K && Nat.blt K os.length && os.all nodef && Sc.ok os.toArray K true s os.length (Array.replicate os.length false)) = true) (hQ : PanicOk Q) (hL : ¬ LetsOut Q)
 (h : ∀ w1, Ext w w1 → w1.heap = w.heap → S w1 ∧ MW P n os.toArray Q S K s l w1) : CW P n (.region id os.toArray true) Q l w := by
 refine cr_cw fun a ha => ?_
 simp only [Bool.and_eq_true] at hs; obtain ⟨h1, h2⟩ := h w.drew (Ext.refl w).drew rfl; have hre : ∀ i, i < K → Forced os.toArray K i := lateOk_forced hs.1.1.1.2 (by have := Nat.le_of_ble_eq_true hs.1.1.2; simp; omega)
 have hdc : DC os.toArray (Array.replicate os.length false) := fun k o _ hl => by
  exfalso
  rcases Nat.lt_or_ge k os.length with h' | h'
  · simp [h'] at hl
  · simp [Array.getElem?_eq_none, h'] at hl
 refine wpIn_region_any hm (wpAnyIn_of_M (S := S) (K := K) hL (fun i o ho => List.all_eq_true.1 hs.1.2 o (List.mem_of_getElem? (by simpa using ho))) _ _ _ _ ?_); have := (HM.any hs.1.1.1.1 hre hQ s os.length (Array.replicate os.length false) a w.drew hdc h1 (h2 a ha)).1 hs.2
 simpa using this
theorem mw_tail {os : List Oper} (he : dropL K ops.toList = some os) (h : LI P n ops Q os l w) : MW P n ops Q S K .tail l w := by
 unfold LI at h
 intro a ha
 show wpListIn _ _ P ops Q (ops.toList.drop K) a w
 rw [dropL_drop he]; exact h a ha
theorem mw_none : MW P n ops Q S K .none l w := fun _ _ => trivial
theorem mw_pure {op : Op} {v : Value} (hi : ops.toList[i]? = some ⟨some d, op, ty, pos, after, none⟩) (hp : Pur P n l S op ty v) (hd : Nat.blt d n = true) (k : MW P n ops Q S K r ((d, v) :: l) w) :
 MW P n ops Q S K (.pure i r) l w := by
 unfold Pur at hp
 exact fun a ha => ⟨_, v, hi, Or.inl ⟨rfl, fun w hS => hp a w _ _ _ _ ha hS⟩, k _ (ha.put hd v)⟩
theorem mw_does {op : Op} {K' : Option Value → World → Prop} (hi : ops.toList[i]? = some ⟨some d, op, ty, pos, after, none⟩) (hiK : Nat.blt i K = true) (hp : Does P n l op ty w K') (hd : Nat.blt d n = true)
 (k : ∀ v w1, K' (some v) w1 → S w1 ∧ MW P n ops Q S K x ((d, v) :: l) w1) (k0 : ∀ w1, ¬ K' none w1) (kr : MW P n ops Q S K r l w) : MW P n ops Q S K (.fork i x r) l w := fun a ha => by
 unfold Does at hp
 refine ⟨Nat.le_of_ble_eq_true hiK, ?_, kr a ha⟩
 have hi' : ops[i]? = some ⟨some d, op, ty, pos, after, none⟩ := by simpa using hi
 unfold wpOp
 rw [hi']; simp only; rw [if_pos (wanted_plain rfl)]
 left
 exact hp a _ _ _ _ _ _ ha (fun v w1 hK => ⟨(k v w1 hK).1, (k v w1 hK).2 _ (ha.put hd v)⟩) (fun w1 h => absurd h (k0 w1))
theorem li_lw {os : List Oper} (hL : ¬ LetsOut Q) (hd : os.all nodef = true) (h : LW P n ops Q os l w) : LI P n ops Q os l w := by unfold LW at h; exact fun a ha => wpl_in hL os a w hd (h a ha)
theorem li_yield {y : Nat} {x : Operand} {xs : List Operand} {tys : Array TypeId} {vs : List Value} {R : Ending → World → Prop} (hx : ev l x = some (.func (.yield y) #[] #[])) (hxs : evs l xs = some vs) (Y : YieldAt (WF none) 0 P y vs.toArray w R) (hR : ∀ e w1, R e w1 → ∃ v, e = .returned v) (hd : Nat.blt d n = true)
 (k : ∀ v w1, R (.returned v) w1 → LI P n ops Q rest ((d, v) :: l) w1) : LI P n ops Q (⟨some d, .call ⟨.value x, xs.toArray, tys⟩, ty, pos, after, none⟩ :: rest) l w := fun a ha => by
 obtain ⟨fn, tmps, assign, body, hy, hr⟩ := Y; have hargs : xs.map a.eval = vs := ha.evs hxs
 have e : (execOp a.eval ⟨some d, .call ⟨.value x, xs.toArray, tys⟩, ty, pos, after, none⟩).run P w = .ok (.round y fn tmps assign body) w := by
  simp only [execOp, resolve, ha.ev hx, Deferred.ofValue, Sem.run_bind, Sem.run_pure, Result.andThen, invoke]
  simpa [← hargs] using hy
 unfold wpListIn
 rw [if_pos (wanted_plain rfl)]; refine ⟨fun _ _ => trivial, ?_⟩; rw [Oper.semAt_eq _ _ _ (fun c e => by cases e), e]; refine ⟨wf_depth, RoundIn.mono hr fun e w1 h => ?_⟩; obtain ⟨v, rfl⟩ := hR e w1 h
 exact k v w1 h _ (ha.put hd v)
end draws
end Bk
namespace Bk
open Go Go.RowKit
def Stab {α : Type} (c : Nat) (J : (Nat → Prop) → List α → World → Prop) : Prop :=
 ∀ A A' xs W W', J A xs W → Fr A W W' → (∀ k, A k → c ≤ k) → (∀ k, A' k → c ≤ k) → (∀ k, k < W.heap.size → A' k → A k) → J A' xs W'
def Keeps (S : Nat → Prop) (W W' : World) : Prop := Fr (fun k => ¬ S k) W W'
theorem Keeps.size {S : Nat → Prop} {W W' : World} (h : Keeps S W W') : W.heap.size ≤ W'.heap.size := Fr.size h
theorem Keeps.block {S : Nat → Prop} {W W' : World} (h : Keeps S W W') (k : Nat) (hk : S k) (hl : k < W.heap.size) : W'.heap[k]? = W.heap[k]? := Fr.block h k hl (fun e => e hk)
theorem Keeps.refl (S : Nat → Prop) (W : World) : Keeps S W W := Fr.refl _ _
theorem Keeps.trans {S : Nat → Prop} {A B C : World} (h : Keeps S A B) (k : Keeps S B C) : Keeps S A C := Fr.trans h k
theorem Keeps.of_fr {S T : Nat → Prop} {A B : World} (h : Fr T A B) (hd : ∀ k, S k → ¬ T k) : Keeps S A B := ⟨h.os, h.tape, h.output, h.size, fun k hl hk => h.block k hl (hd k (Classical.not_not.1 hk))⟩
theorem Keeps.of_ext {S : Nat → Prop} {A B : World} (h : Ext A B) : Keeps S A B := ⟨h.os, h.tape, h.output, h.size, fun _ hl _ => h.block hl⟩
theorem Keeps.less {S T : Nat → Prop} {A B : World} (h : Keeps S A B) (hs : ∀ k, T k → S k) : Keeps T A B := ⟨Fr.os h, Fr.tape h, Fr.output h, Fr.size h, fun k hl hk => Fr.block h k hl (fun e => hk (fun t => e (hs k t)))⟩
def IterOk {α : Type} (P : Program) (gf : Nat) (lb : List Value) (rep : Nat → World → List Value → α → Prop) (Rt : Nat → Prop) (S : List α) (w : World) : Prop :=
 ∀ (y : Nat) (J Jx : (Nat → Prop) → List α → World → Prop) (W : World), Keeps Rt w W → Stab W.heap.size J → Stab W.heap.size Jx →
  (∀ A pre x vs W1, (∀ k, A k → W.heap.size ≤ k ∧ k < W1.heap.size) → J A pre W1 → rep W.heap.size W1 vs x → (pre ++ [x]) <+: S →
   YieldAt (WF none) 0 P y vs.toArray W1 fun e W2 => Keeps (fun k => A k ∨ Rt k) W1 W2 ∧ ((e = .returned (.bool true) ∧ J A (pre ++ [x]) W2) ∨ (e = .returned (.bool false) ∧ Jx A (pre ++ [x]) W2))) →
  J (fun _ => False) [] W →
  Calls P gf (.func (.yield y) #[] #[] :: lb).toArray W fun e W' => (∃ v, e = .returned v) ∧ ∃ A, (∀ k, A k → W.heap.size ≤ k) ∧ (J A S W' ∨ ∃ pre, pre <+: S ∧ Jx A pre W')
theorem fr_putObj {W : World} {r : Nat} {o o' : Obj} (h : W.heap[r]? = some o) : Fr (fun k => k = r) W (W.putObj r o') :=
 ⟨rfl, rfl, rfl, by simp, fun k _ hk => World.putObj_heap_other hk⟩
def roundEnd {α : Type} (Kp : Nat → Prop) (J Jx : (Nat → Prop) → List α → World → Prop) (A : Nat → Prop) (xs : List α) (W : World) : Exit → Act → World → Prop
 | .normal, _, W' => Keeps Kp W W' ∧ J A xs W'
 | .ret, _, W' => Keeps Kp W W' ∧ Jx A xs W'
 | _, _, _ => False
theorem nl_round {α : Type} {Kp : Nat → Prop} {J Jx : (Nat → Prop) → List α → World → Prop} {A : Nat → Prop} {xs : List α} {W : World} : ¬ LetsOut (roundEnd Kp J Jx A xs W) := fun ⟨_, _, h⟩ => h
theorem nl_bodyP {P : Program} {fn : Func} {R : Ending → World → Prop} (h : ∀ w, ¬ R .outgrown w) : ¬ LetsOut (bodyPost P fn R) := fun ⟨_, w, e⟩ => h w e
theorem wpIn_range {α : Type} {P : Program} {g : Operand} {ps : Array Tmp} {assign body : Code} {Q : Exit → Act → World → Prop} {a : Act} {w : World} {gf : Nat} {lb : List Value} {rep : Nat → World → List Value → α → Prop} {Rt : Nat → Prop} {S : List α}
 (hg : a.eval g = .func (.func gf) #[] lb.toArray) (eg : bodied P gf = true) (hit : IterOk P gf lb rep Rt S w) (hps : ∀ c W vs x, rep c W vs x → vs.length = ps.size) (hRt : ∀ k, Rt k → k < w.heap.size)
 (J Jx : (Nat → Prop) → List α → World → Prop) (hJ : Stab w.heap.size J) (hJx : Stab w.heap.size Jx) (h0 : J (fun _ => False) [] w)
 (hround : ∀ r A pre x vs W, (∀ k, A k → w.heap.size ≤ k ∧ k < W.heap.size) → A (w.heap.size + 1) → J A pre W → rep (w.heap.size + 2) W vs x → (pre ++ [x]) <+: S →
  assign.wpIn (WF (some r)) 0 P (Exit.then (fun a₁ W₁ => Keeps (fun k => A k ∨ Rt k) W W₁ ∧ ∀ W₂, Fr (fun k => k = w.heap.size + 1) W₁ W₂ → body.wpIn (WF (some r)) 0 P (roundEnd (fun k => A k ∨ Rt k) J Jx A (pre ++ [x]) W₂) a₁ W₂) (fun _ _ _ => False))
   { tmps := (ps.zip vs.toArray).foldl (fun t (p, v) => t.setIfInBounds p v) a.tmps, defers := [] } W)
 (hdone : ∀ A W, (∀ k, A k → w.heap.size ≤ k) → J A S W → A w.heap.size → W.heap[w.heap.size]? = some (.deferred (some [])) → Q .normal { a with defers := { target := .collected w.heap.size, args := #[] } :: a.defers } W)
 (hstop : ∀ A pre W, (∀ k, A k → w.heap.size ≤ k) → pre <+: S → Jx A pre W → A w.heap.size → W.heap[w.heap.size]? = some (.deferred (some [])) → Q .ret { a with defers := { target := .collected w.heap.size, args := #[] } :: a.defers } W) :
 (Code.rangeFunc g ps assign body).wpIn (WF none) 0 P Q a w := by
 refine wpIn_rangeFunc ?_; intro fn hfn
 show ∃ l mark w₁ d w₁' f args w₂, (Instr.enterLoop fn a.tmps ps assign body none).run P w = .ok (l, mark) w₁ ∧ _
 obtain ⟨n, hn⟩ : ∃ n, n = w.heap.size := ⟨_, rfl⟩; rw [← hn] at hJ hJx hround hdone hstop
 obtain ⟨rec, hrec⟩ : ∃ rec : LoopState → Option Code → Loop, rec = fun st pe => { state := st, pending := pe, fn, tmps := a.tmps, params := ps, assign, body, defers := n } := ⟨_, rfl⟩
 obtain ⟨W1, hW1⟩ : ∃ W1, (w.alloc (.deferred (some []))).alloc (.loop (rec .ready none)) = W1 := ⟨_, rfl⟩
 have hL1 : W1.heap[n + 1]? = some (.loop (rec .ready none)) := by
  rw [← hW1, hn]; have := World.alloc_heap_new (w.alloc (.deferred (some []))) (.loop (rec .ready none)); rwa [World.size_alloc] at this
 have hK1 : W1.heap[n]? = some (.deferred (some [])) := by
  rw [← hW1, hn]; exact (Below.heap_alloc _ _ _ (by simp)).trans (World.alloc_heap_new w _)
 have hX1 : Ext w W1 := by rw [← hW1]; exact (((Ext.refl w).alloc _).alloc _)
 have hS1 : W1.heap.size = n + 2 := by rw [← hW1]; simp [hn]
 let U : (Nat → Prop) → Nat → Prop := fun A k => A k ∨ k = n ∨ k = n + 1
 have hU : ∀ {A : Nat → Prop}, (∀ k, A k → n + 2 ≤ k) → ∀ k, U A k → n ≤ k := fun h k hk => by
  rcases hk with hk | hk | hk
  · have := h k hk; omega
  · omega
  · omega
 have hput : ∀ {A : Nat → Prop} {G : (Nat → Prop) → List α → World → Prop} {xs : List α} {W : World} {o o' : Obj} {k : Nat}, Stab n G → (∀ k, A k → n + 2 ≤ k) → k = n + 1 → G (U A) xs W → W.heap[k]? = some o → G (U A) xs (W.putObj k o') :=
  fun hG hA hk h ho => hG _ _ _ _ _ h ⟨rfl, rfl, rfl, by simp, fun i _ hi => World.putObj_heap_other (fun e => hi (Or.inr (Or.inr (e.trans hk))))⟩ (hU hA) (hU hA) (fun _ _ h => h)
 have hstab : ∀ {G : (Nat → Prop) → List α → World → Prop} {st : LoopState} {pe : Option Code}, Stab n G → Stab (n + 2) (fun A pre W => G (U A) pre W ∧ W.heap[n + 1]? = some (.loop (rec st pe)) ∧ W.heap[n]? = some (.deferred (some []))) :=
  fun hG A A' xs W W' h hf hA hA' hs => by
   have hlt : n + 1 < W.heap.size := (Array.getElem?_eq_some_iff.1 h.2.1).1; refine ⟨hG _ _ _ _ _ h.1 ⟨hf.os, hf.tape, hf.output, hf.size, fun k hk hU => hf.block k hk (fun e => hU (Or.inl e))⟩ (hU hA) (hU hA') (fun k hk h => ?_), (hf.block _ hlt (fun e => by have := hA _ e; omega)).trans h.2.1, (hf.block _ (by omega) (fun e => by have := hA _ e; omega)).trans h.2.2⟩
   rcases h with h | h
   · exact Or.inl (hs k hk h)
   · exact Or.inr h
 refine ⟨n + 1, [{ target := .collected n, args := #[] }], W1, { target := .fn (.func gf) lb.toArray, args := #[.func (.yield (n + 1)) #[] #[]] }, W1, gf,
  (.func (.yield (n + 1)) #[] #[] :: lb).toArray, W1, ?_, ?_, fun _ _ => trivial, ?_, wf_depth, ?_⟩
 · rw [← hW1, hrec, hn]; exact run_enterLoop_outer _ _ _ _ _
 · simp only [resolve, hg]
   simp [go_sem]
 · simp only [invoke, Sem.run_bind, run_callFunc eg, Result.andThen, Sem.run_pure]
   simp
 · refine wf_calls.2 (Calls.mono (hit (n + 1) (fun A pre W => J (U A) pre W ∧ W.heap[n + 1]? = some (.loop (rec .ready none)) ∧ W.heap[n]? = some (.deferred (some [])))
    (fun A pre W => Jx (U A) pre W ∧ W.heap[n + 1]? = some (.loop (rec .done (some .ret))) ∧ W.heap[n]? = some (.deferred (some []))) W1 (Keeps.of_ext hX1) (by rw [hS1]; exact hstab hJ) (by rw [hS1]; exact hstab hJx) ?_ ⟨?_, hL1, hK1⟩) ?_)
   ·
    rw [hS1]; rintro A pre x vs W hA ⟨hi, hl, hk⟩ hrep hpre; have hlt : n + 1 < W.heap.size := (Array.getElem?_eq_some_iff.1 hl).1; have hy := run_yield (P := P) (args := vs.toArray) hl (by rw [hrec]; simpa using hps _ W vs x hrep); rw [hrec] at hy
    have hUA : ∀ k, U A k → n ≤ k ∧ k < W.heap.size := fun k hk => by
     rcases hk with hk | hk | hk
     · have := hA k hk; omega
     · omega
     · omega
    refine ⟨fn, _, assign, body, hy, roundIn_of_wpIn (F := WF none) hfn (wpIn_mono (hround (n + 1) (U A) pre x vs W hUA (Or.inr (Or.inr rfl)) hi hrep hpre) ?_)⟩; rintro e a₁ V₁ hp
    cases e with
    | normal =>
     obtain ⟨hk1, hb⟩ := hp; have hl1 : V₁.heap[n + 1]? = some (.loop (rec .ready none)) := (hk1.block _ (Or.inl (Or.inr (Or.inr rfl))) hlt).trans hl; have hk1' : V₁.heap[n]? = some (.deferred (some [])) := (hk1.block _ (Or.inl (Or.inr (Or.inl rfl))) (by omega)).trans hk; refine ⟨_, run_beginRound hl1 (by rw [hrec]), wpIn_mono (hb _ (fr_putObj hl1)) ?_⟩; have hlt1 : n + 1 < V₁.heap.size := (Array.getElem?_eq_some_iff.1 hl1).1; obtain ⟨V₂, hV₂⟩ : ∃ V₂, V₁.putObj (n + 1) (.loop { rec .ready none with state := .busy }) = V₂ := ⟨_, rfl⟩; rw [hV₂]
     have hl2 : V₂.heap[n + 1]? = some (.loop { rec .ready none with state := .busy }) := by rw [← hV₂]; exact World.putObj_heap_same hlt1
     have hk2 : V₂.heap[n]? = some (.deferred (some [])) := by rw [← hV₂]; exact (World.putObj_heap_other (by omega)).trans hk1'
     have hs2 : V₂.heap.size = V₁.heap.size := by rw [← hV₂]; simp
     have hkeep : ∀ {V₃ : World} {o : Obj}, Keeps (fun k => U A k ∨ Rt k) V₂ V₃ → Keeps (fun k => A k ∨ Rt k) W (V₃.putObj (n + 1) o) := fun hk3 => ⟨(Fr.os hk3).trans ((show V₂.os = V₁.os by rw [← hV₂]; rfl).trans (Fr.os hk1)), (Fr.tape hk3).trans ((show V₂.tape = V₁.tape by rw [← hV₂]; rfl).trans (Fr.tape hk1)), (Fr.output hk3).trans ((show V₂.output = V₁.output by rw [← hV₂]; rfl).trans (Fr.output hk1)), by have := hk1.size; have := hk3.size; simp; omega, fun k hlt hkk => by
      have hk := Classical.not_not.1 hkk
      have hne : k ≠ n + 1 := fun e => by
       subst e
       rcases hk with hk | hk
       · have := hA _ hk; omega
       · have := hRt _ hk; omega
      have hk' : U A k ∨ Rt k := hk.imp Or.inl id; rw [World.putObj_heap_other hne, hk3.block k hk' (by have := hk1.size; omega), ← hV₂, World.putObj_heap_other hne]
      exact hk1.block k hk' hlt⟩
     have fin : ∀ (jump : Option Code) (V₃ : World), Keeps (fun k => U A k ∨ Rt k) V₂ V₃ →
      (Instr.endRound (n + 1) jump).run P V₃ = .ok (.bool jump.isNone) (V₃.putObj (n + 1) (.loop (rec (if jump.isNone then .ready else .done) jump))) ∧
      V₃.heap[n + 1]? = some (.loop { rec .ready none with state := .busy }) ∧
      (V₃.putObj (n + 1) (.loop (rec (if jump.isNone then .ready else .done) jump))).heap[n + 1]? = some (.loop (rec (if jump.isNone then .ready else .done) jump)) ∧
      (V₃.putObj (n + 1) (.loop (rec (if jump.isNone then .ready else .done) jump))).heap[n]? = some (.deferred (some [])) := fun jump V₃ hk3 => by
      have hl3 : V₃.heap[n + 1]? = some (.loop { rec .ready none with state := .busy }) := (hk3.block _ (Or.inl (Or.inr (Or.inr rfl))) (by omega)).trans hl2; have := run_endRound (P := P) jump hl3; rw [hrec] at this ⊢
      exact ⟨this, by rw [hrec] at hl3; exact hl3, World.putObj_heap_same (Array.getElem?_eq_some_iff.1 hl3).1, (World.putObj_heap_other (by omega)).trans ((hk3.block _ (Or.inl (Or.inr (Or.inl rfl))) (by omega)).trans hk2)⟩
     rintro e a₃ V₃ hp
     cases e with
     | normal =>
      obtain ⟨hk3, hi3⟩ := hp; obtain ⟨hr, hl3, hl4, hk4⟩ := fin none V₃ hk3
      exact ⟨_, _, hr, hkeep hk3, .inl ⟨rfl, hput hJ (fun k hk => (hA k hk).1) rfl hi3 hl3, hl4, hk4⟩⟩
     | ret =>
      obtain ⟨hk3, hi3⟩ := hp; obtain ⟨hr, hl3, hl4, hk4⟩ := fin (some .ret) V₃ hk3
      exact ⟨_, _, hr, hkeep hk3, .inr ⟨rfl, hput hJx (fun k hk => (hA k hk).1) rfl hi3 hl3, hl4, hk4⟩⟩
     | exit id => exact hp.elim
     | goto t => exact hp.elim
     | panic ch => exact hp.elim
     | outgrown => exact hp.elim
    | exit id => exact hp.elim
    | goto t => exact hp.elim
    | ret => exact hp.elim
    | panic ch => exact hp.elim
    | outgrown => exact hp.elim
   · refine hJ _ _ _ _ _ h0 ⟨hX1.os, hX1.tape, hX1.output, hX1.size, fun k hk _ => hX1.block hk⟩ (fun _ h => h.elim) (hU fun _ h => h.elim) (fun k hk h => ?_)
     rcases h with h | h | h
     · exact h
     · omega
     · omega
   ·
    rw [hS1]; rintro e W2 ⟨⟨v, rfl⟩, A, hA, (⟨hi, hl, hk⟩ | ⟨pre, hpre, hi, hl, hk⟩)⟩
    · exact ⟨none, _, by have := run_endLoop (P := P) hl (by rw [hrec]; simp); rw [hrec] at this; exact this, hdone (U A) _ (hU hA) (hput hJ hA rfl hi hl) (Or.inr (Or.inl rfl)) ((World.putObj_heap_other (by omega)).trans hk)⟩
    · exact ⟨some .ret, _, by have := run_endLoop (P := P) hl (by rw [hrec]; simp); rw [hrec] at this; exact this, wpIn_ret (hstop (U A) pre _ (hU hA) hpre (hput hJx hA rfl hi hl) (Or.inr (Or.inl rfl)) ((World.putObj_heap_other (by omega)).trans hk))⟩
end Bk
namespace Bk
open Go Go.RowKit
section
variable {P : Program} {n : Nat} {l : Sl} {S : World → Prop} {tab : Tab} {ty : TypeId}
theorem pur_slH {x y : Operand} {t e sz1 sz len cap m : Nat} {sE : Sk} {a : Option Addr} {k : IntKind} {iv : Int} (T : TabOk P tab) (ht : lookT tab t = some (.slice e, sz1)) (hE : lookT tab e = some (sE, sz)) (hx : ev l x = some (.slice a len cap)) (hy : ev l y = some (.int k iv)) (hiv : iv = (m : Int)) (hm : m ≤ cap) :
 Pur P n l S (.slice t x none (some y) none) ty (.slice a m cap) := by
 subst hiv
 unfold Pur
 intro act w dst pos after g ha _; have hu : P.underlying t = some (.slice e) := (T _ _ _ ht).under
 have hel : P.elem t = e := by simp [Program.elem, hu]
 have hu2 : P.underlying t = some (.slice (P.elem t)) := by rw [hel]; exact hu
 obtain ⟨i, hi, hs⟩ := (T _ _ _ hE).info
 have hsz : (Go.sizeOf e).run P w = .ok sz w := by simp [Go.sizeOf, typeInfo, program, Sem.run, bind, Sem.bind, pure, hi, hs]
 have h1 : (Instr.sliceAt t (.slice a len cap) none (some (.int k (m : Int))) none).run P w = .ok (.slice a m cap) w := by
  rw [run_sliceAt_slice w t _ _ _ _ hu2, run_slice_h w t a len cap hu2 k m (by omega) (by omega)]; rw [hel, hsz]
  cases a <;> simp [Result.andThen, sliced, Addr.add]
 simp [execOp, ha.ev hx, ha.ev hy, Sem.run_bind, h1, Result.andThen]
end
end Bk
namespace Bk
open Go Go.RowKit Go.Proofs
attribute [local irreducible] Go.Calls
mutual
def Nd.walk : Nd → List Nd
 | .mk k n s l => .mk k n s l :: rowWalk l
def rowWalk : List Nd → List Nd
 | [] => []
 | t :: r => t.walk ++ rowWalk r
end
theorem rowWalk_app : ∀ l m : List Nd, rowWalk (l ++ m) = rowWalk l ++ rowWalk m
 | [], m => by simp [rowWalk]
 | t :: r, m => by simp only [List.cons_append, rowWalk, rowWalk_app r m, List.append_assoc]
theorem rowWalk_take {l : List Nd} {j : Nat} (h : j < l.length) : rowWalk (l.take (j + 1)) = rowWalk (l.take j) ++ l[j].walk := by
 rw [List.take_succ_eq_append_getElem h, rowWalk_app, rowWalk, rowWalk, List.append_nil]
theorem rowWalk_pre {l : List Nd} {j : Nat} (h : j < l.length) : rowWalk (l.take j) ++ l[j].walk <+: rowWalk l := by
 rw [← rowWalk_take h]
 exact ⟨rowWalk (l.drop (j + 1)), by rw [← rowWalk_app, List.take_append_drop]⟩
def WRep (b0 : Nat) (W : World) (vs : List Value) (t : Nd) : Prop := ∃ pa pn pc a c, vs = [.slice pa pn pc, t.val a c] ∧ t.sits (fun b => b0 ≤ b) W a ∧ t.kids.length ≤ c
def SliceR (n : Nat) (w : World) : Ending → World → Prop := fun e w' => ∃ a c, e = .returned (.slice a n c) ∧ Ext w w'
theorem SliceR.ret {n : Nat} {w : World} {e : Ending} {w' : World} (h : SliceR n w e w') : ∃ v, e = .returned v := by
 obtain ⟨_, _, h, -⟩ := h
 exact ⟨_, h⟩
theorem sliceR_own {cs : List Value} {e B g cap m k : Nat} {w w' : World} (hm : 0 + k = m) (_ : OwnF e 1 B w' g cap m ([] ++ cs)) (X : Ext w w') : SliceR k w (.returned (.slice (some ⟨g, 0, none⟩) m cap)) w' := ⟨_, _, by rw [← hm, Nat.zero_add], X⟩
set_option maxRecDepth 100000 in
set_option maxHeartbeats 4000000 in
theorem pathClone_c (cs : List Value) (n : Nat) (hn : cs.length = n * 1) (ho : cs.all Value.one = true) (hl : n ≤ 1000000000) (S : Nat → Prop) (p : Addr) (c : Nat) (w : World) (hs : Rows S w cs (some p)) :
 Calls Tryz.prog 23 #[.slice (some p) n c] w (SliceR n w) := by
 have X := Ext.refl w; replace hs := hs.ltA; refine calls_in Tryz.func23 Tryz.ntmps23 rfl rfl ?_
 focus
  refine cS (C1 Pa (cT (cw_seq (cS (C1 Mv (C1 (pur_slnil1 tabOk rfl rfl) (cT (cw_cond_f rfl (cw_skip (qw_then (cS ?_))))))))))); refine lw_does (does_slice0F (B := w.heap.size) tabOk rfl rfl (by omega)) rfl ?_ (fun _ h => h); rintro _ w6 ⟨g1, ⟨rfl, ⟨h2, ⟨h3, ⟨h4, x5⟩⟩⟩⟩⟩; have z7 := x5.size; replace X := X.ext x5; replace hs := hs.ext x5; clear x5; refine C1 Mv ?_; refine lw_does (does_appendF tabOk zOk rfl rfl rfl rfl (by kernel_rfl) rfl rfl rfl (by assumption) (by assumption) hn ho (by omega)) rfl ?_ (fun _ h => h); rintro _ w14 ⟨g'8, ⟨cap'9, ⟨rfl, ⟨h10, ⟨h11, ⟨h12, f13⟩⟩⟩⟩⟩⟩; have z15 := f13.size; clear h2; replace X := X.fr f13 (by omega); replace hs := hs.fr f13 (by omega); clear f13; refine C1 Pa (cT (cw_ret (qw_ret1 rfl rfl ?_))); rotate_left 1
 exact sliceR_own rfl (by assumption) X
set_option maxRecDepth 100000 in
set_option maxHeartbeats 4000000 in
theorem pathClone_n (w : World) : Calls Tryz.prog 23 #[.slice none 0 0] w (SliceR 0 w) := by
 have X := Ext.refl w; refine calls_in Tryz.func23 Tryz.ntmps23 rfl rfl ?_
 focus
  refine cS (C1 Pa (cT (cw_seq (cS (C1 Mv (C1 (pur_slnil0 tabOk rfl rfl) (cT (cw_cond_t rfl (cS (C1 Pa (cT ?_))))))))))); refine cw_ret (qw_then_ret (qw_ret1 rfl rfl ?_)); rotate_left 1
 exact ⟨_, _, rfl, X⟩
theorem pathClone_o {w : World} {b e n : Nat} {v : Value} {cs : List Value} (h : Own w b e 1 v n cs) (ho : cs.all Value.one = true) (hl : n ≤ 1000000000) : Calls Tryz.prog 23 #[v] w (SliceR n w) := by
 rcases h.row with ⟨rfl, rfl, rfl⟩ | ⟨g, cap, rfl, hg, -, hr⟩
 · exact pathClone_n w
 · exact pathClone_c cs n h.1 ho hl (fun _ => True) _ _ w (Or.inr ⟨g, 0, rfl, trivial, hr⟩)
section
variable {P : Program} {n : Nat} {l : Sl} {S : World → Prop} {tab : Tab} {zt : ZTab} {ty : TypeId} {w : World} {ops : Array Oper} {Q : Exit → Act → World → Prop} {rest : List Oper} {d : Nat} {pos : String} {after : Array Edge}
theorem lw_append1 {x y : Operand} {t e sz1 B m cap : Nat} {sE : Sk} {zs : List Value} {v u : Value} {cs : List Value} {p : Addr} (T : TabOk P tab) (Z : ZTabOk P zt) (ht : lookT tab t = some (.slice e, sz1)) (hE : lookT tab e = some (sE, 1)) (hz : lookZ zt e = some zs) (hzl : zs.length = 1)
 (hby : bytesOk P e = true) (hx : ev l x = some v) (hy : ev l y = some (.slice (some p) 1 cap)) (hown : Own w B e 1 v m cs) (hr : Row w p [u]) (h1 : Value.one u = true) (hlen : m ≤ 10000000000) (hB : B ≤ w.heap.size) (hd : Nat.blt d n = true)
 (k : ∀ g cap' w1, Own w1 B e 1 (.slice (some ⟨g, 0, none⟩) (m + 1) cap') (m + 1) (cs ++ [u]) → (v.ownBlock = some g ∨ w.heap.size ≤ g) → g < w1.heap.size → Fr (fun k => v.ownBlock = some k) w w1 → LW P n ops Q rest ((d, .slice (some ⟨g, 0, none⟩) (m + 1) cap') :: l) w1) :
 LW P n ops Q (⟨some d, .call ⟨.builtin .append, #[x, y], #[t, t]⟩, ty, pos, after, none⟩ :: rest) l w := by
 refine lw_does (does_append T Z ht hE hz hzl hby rfl hx hy hown hr rfl (by simp [h1]) (by omega) (by omega) hB) hd (fun v w1 h => ?_) (fun _ h => h); obtain ⟨g1, g2, g, cap', g3, g4⟩ := h; subst g3
 exact k g cap' w1 g1 g4 (g1.blk (k := g) rfl).2 g2
end
theorem Own.below {w : World} {b e sz n : Nat} {v : Value} {cs : List Value} (h : Own w b e sz v n cs) (b' : Nat) (hb : ∀ k, v.ownBlock = some k → b' ≤ k) : Own w b' e sz v n cs := by
 obtain ⟨h1, h2 | ⟨g, cap, cur, rfl, hg, h3⟩⟩ := h
 · exact ⟨h1, Or.inl h2⟩
 · exact ⟨h1, Or.inr ⟨g, cap, cur, rfl, hb g rfl, h3⟩⟩
theorem Own.shrink {w : World} {b e sz n m : Nat} {p : Addr} {cap : Nat} {cs : List Value} (h : Own w b e sz (.slice (some p) n cap) n cs) (hm : m ≤ n) : Own w b e sz (.slice (some p) m cap) m (cs.take (m * sz)) := by
 have hml : m * sz ≤ n * sz := Nat.mul_le_mul_right _ hm; obtain ⟨h1, ⟨h2, -⟩ | ⟨g, cap', cur, hv, hg, hh, hc, h3, h4, h5⟩⟩ := h
 · simp at h2
 · simp only [Value.slice.injEq, Option.some.injEq] at hv
   obtain ⟨rfl, -, rfl⟩ := hv; refine ⟨by rw [List.length_take, h1]; omega, Or.inr ⟨g, cap, cur, rfl, hg, hh, by omega, h3, h4, ?_⟩⟩; rw [← h5, List.take_take, Nat.min_eq_left]; rw [← h1, ← h5, List.length_take] at hml
   omega
end Bk
namespace Bk
open Go Go.RowKit Go.Proofs
attribute [local irreducible] Go.Calls
structure VSt (y c bY bP bV : Nat) (A : Nat → Prop) (W : World) (pv : Value) (d : Nat) : Prop where
 y0 : Blk W bY [.func (.yield y) #[] #[]]
 p0 : Blk W bP [pv]
 v0 : Blk W bV [.func (.func 82) #[] #[.pointer (some ⟨bY, 0, none⟩), .pointer (some ⟨bP, 0, none⟩), .pointer (some ⟨bV, 0, none⟩)]]
 own : ∃ cs : List Value, cs.all Value.one = true ∧ Own W c 3 1 pv d cs
 a0 : A bY
 a1 : A bP
 a2 : A bV
 ap : ∀ g, pv.ownBlock = some g → A g ∧ g ≠ bY ∧ g ≠ bP ∧ g ≠ bV
 ne : bY ≠ bP ∧ bV ≠ bP
 lt : ∀ k, A k → c ≤ k ∧ k < W.heap.size
def VKp (Rt A : Nat → Prop) (bP : Nat) (pv : Value) : Nat → Prop := fun k => Rt k ∨ (A k ∧ k ≠ bP ∧ pv.ownBlock ≠ some k)
def VRes (y c bY bP bV : Nat) (Rt : Nat → Prop) (J Jx : (Nat → Prop) → List Nd → World → Prop) (S : List Nd) (A : Nat → Prop) (xs : List Nd) (W : World) (pv : Value) (d : Nat) (q : Bool) (W' : World) : Prop :=
 ∃ A' : Nat → Prop, (∀ k, A k → A' k) ∧ (∀ k, A' k → c ≤ k) ∧
  ((q = true ∧ ∃ pv', VSt y c bY bP bV A' W' pv' d ∧ J A' xs W' ∧ (∀ g, pv'.ownBlock = some g → pv.ownBlock = some g ∨ W.heap.size ≤ g) ∧ Keeps (VKp Rt A bP pv) W W') ∨ (q = false ∧ ∃ pre, pre <+: S ∧ Jx A' pre W'))
def VEnd (y c bY bP bV : Nat) (Rt : Nat → Prop) (J Jx : (Nat → Prop) → List Nd → World → Prop) (S : List Nd) (A : Nat → Prop) (xs : List Nd) (W : World) (pv : Value) (d : Nat) : Ending → World → Prop := fun e W' =>
 ∃ q, e = .returned (.bool q) ∧ VRes y c bY bP bV Rt J Jx S A xs W pv d q W'
theorem VEnd.ret {y c bY bP bV : Nat} {Rt : Nat → Prop} {J Jx : (Nat → Prop) → List Nd → World → Prop} {S : List Nd} {A : Nat → Prop} {xs : List Nd} {W : World} {pv : Value} {d : Nat} {e : Ending} {W' : World} (h : VEnd y c bY bP bV Rt J Jx S A xs W pv d e W') : ∃ v, e = .returned v := by
 obtain ⟨_, h, -⟩ := h
 exact ⟨_, h⟩
theorem vend_nl {y c bY bP bV : Nat} {Rt : Nat → Prop} {J Jx : (Nat → Prop) → List Nd → World → Prop} {S : List Nd} {A : Nat → Prop} {xs : List Nd} {W : World} {pv : Value} {d : Nat} (w : World) : ¬ VEnd y c bY bP bV Rt J Jx S A xs W pv d .outgrown w := fun ⟨_, h, _⟩ => by cases h
def YRes (Rt : Nat → Prop) (J Jx : (Nat → Prop) → List Nd → World → Prop) (A : Nat → Prop) (xs : List Nd) (W : World) : Ending → World → Prop := fun e W' =>
 Keeps (fun k => A k ∨ Rt k) W W' ∧ ((e = .returned (.bool true) ∧ J A xs W') ∨ (e = .returned (.bool false) ∧ Jx A xs W'))
theorem YRes.ret {Rt : Nat → Prop} {J Jx : (Nat → Prop) → List Nd → World → Prop} {A : Nat → Prop} {xs : List Nd} {W : World} {e : Ending} {W' : World} (h : YRes Rt J Jx A xs W e W') : ∃ v, e = .returned v := by
 obtain ⟨-, ⟨h, -⟩ | ⟨h, -⟩⟩ := h <;> exact ⟨_, h⟩
set_option maxRecDepth 100000 in
set_option maxHeartbeats 4000000 in
theorem visit_c (y c bY bP bV : Nat) (Rt : Nat → Prop) (hRt : ∀ k, Rt k → k < c) (J Jx : (Nat → Prop) → List Nd → World → Prop) (hJ : Stab c J) (S : List Nd)
 (hY : ∀ A pre x vs W1, (∀ k, A k → c ≤ k ∧ k < W1.heap.size) → J A pre W1 → WRep c W1 vs x → (pre ++ [x]) <+: S → YieldAt (WF none) 0 Tryz.prog y vs.toArray W1 (YRes Rt J Jx A (pre ++ [x]) W1)) (N : Nat) :
 ∀ (t : Nd) (A : Nat → Prop) (pre : List Nd) (a : Option Addr) (ca : Nat) (W : World) (pv : Value) (d : Nat), t.size < N → t.size ≤ 1000000 → d + t.size ≤ 2000000 → t.sits Rt W a → VSt y c bY bP bV A W pv d → J A pre W → (pre ++ t.walk) <+: S →
  Calls Tryz.prog 82 #[t.val a ca, .pointer (some ⟨bY, 0, none⟩), .pointer (some ⟨bP, 0, none⟩), .pointer (some ⟨bV, 0, none⟩)] W (VEnd y c bY bP bV Rt J Jx S A (pre ++ t.walk) W pv d) := by
 induction N with
 | zero => intro t A pre a ca W pv d h; omega
 | succ N ih =>
  rintro ⟨k, n, s, l⟩ A pre a ca W pv d hN hM hd hs hV hJ0 hpre
  have hz : (Nd.mk k n s l).size = 1 + rowSize l := by rw [Nd.size]
  have hlen := length_rowA l; rw [hz] at hN hd; have hT := Lib.hid (clone_k (.mk k n s l) hM); rw [hz] at hM; obtain ⟨y0, p0, v0, ⟨cs, hc1, hown⟩, a0, a1, a2, ap, ne, hlt⟩ := hV; have l0 := hlt _ a0; have l1 := hlt _ a1; have l2 := hlt _ a2; have HP := Lib.hid hpre; have HS := Lib.hid hs; have HJ := Lib.hid hJ0; have HAp := Lib.hid ap; have HL := Lib.hid hlt; have IH := Lib.hid ih; have HY := Lib.hid hY; have HJS := Lib.hid hJ; clear ap hlt hpre hJ0 hs ih hY hJ; have X := Ext.refl W; refine calls_in Tryz.func82 Tryz.ntmps82 rfl rfl ?_
  focus
   refine cS ?_; (refine lw_box' [_, _, _, _] rfl rfl rfl ?_; intro b1 w2 n3); have h4 := n3.blk; have x5 := n3.ext; have p6 := n3.pos; have z7 := n3.size; clear n3; replace y0 := y0.ext x5; replace p0 := p0.ext x5; replace v0 := v0.ext x5; replace hown := hown.ext x5; replace X := X.ext x5; clear x5; refine C1 Pa (cT (cw_seq ?_)); rotate_left 1
  refine cw_seq ?_; refine cw_mdraw (fun wz => Ext w2 wz) 5 (.pure 0 (.pure 1 (.pure 3 (.fork 2 (.fork 4 .tail .none) .none)))) mixed (by kernel_rfl) (panicOk_then (panicOk_then panicOk_body)) (nl_then (nl_then (nl_bodyP vend_nl))) ?_; intro w3 x3 _; refine ⟨x3, ?_⟩; refine mw_pure rfl (pur_load tabOk rfl rfl rfl (fun wz hz => Blk.cell (Blk.ext y0 hz) rfl)) rfl (mw_pure rfl (pur_load tabOk rfl rfl rfl (fun wz hz => Blk.cell (Blk.ext p0 hz) rfl)) rfl (mw_pure rfl (pur_loads tabOk rfl rfl rfl rfl (fun wz hz => Blk.row (Blk.ext h4 hz))) rfl ?_)); refine mw_does rfl rfl (does_call (by kernel_rfl) rfl (pathClone_o (hown.ext x3) hc1 (by omega)) (fun _ _ h => h.ret)) rfl ?_ (fun _ h => h) mw_none; rintro _ w4 ⟨pa, pc, ⟨⟩, x4⟩; have x24 := Ext.trans x3 x4; refine ⟨x24, ?_⟩; refine mw_does rfl rfl (does_call (by kernel_rfl) rfl (hT.out Rt a ca w4 (Nd.sits.ext HS.out (X.trans x24))) (fun _ _ h => h.ret)) rfl ?_ (fun _ h => h) mw_none; rintro _ w5 ⟨ta, tc, ⟨⟩, ts, x5, tk⟩; have x25 := Ext.trans x24 x5; refine ⟨x25, ?_⟩; refine mw_tail rfl ?_; have X5 := X.trans x25
  obtain ⟨A5, hA5⟩ : ∃ A5 : Nat → Prop, A5 = fun k => A k ∨ (W.heap.size ≤ k ∧ k < w5.heap.size) := ⟨_, rfl⟩
  have hAA : ∀ k, A k → A5 k := fun k hk => by rw [hA5]; exact Or.inl hk
  have hA4 : ∀ k, A5 k → c ≤ k ∧ k < w5.heap.size := fun k hk => by
   rw [hA5] at hk
   rcases hk with hk | hk
   · have := HL.out k hk; have := X5.size; omega
   · omega
  have hb5 : A5 b1 := by rw [hA5]; have := h4.lt; have := x25.size; exact Or.inr ⟨by omega, by omega⟩
  have J5 : J A5 pre w5 := HJS.out A _ pre W w5 HJ.out ⟨X5.os, X5.tape, X5.output, X5.size, fun k hk _ => X5.block hk⟩ (fun k hk => (HL.out k hk).1) (fun k hk => (hA4 k hk).1) (fun k hk h => by rw [hA5] at h; exact h.elim id (fun h => by omega)); clear hA5; have hpre1 : pre ++ [Nd.mk k n s l] <+: S := List.IsPrefix.trans ⟨rowWalk l, by simp [Nd.walk]⟩ HP.out; refine li_yield rfl rfl (HY.out _ pre (.mk k n s l) [_, _] w5 hA4 J5 ⟨pa, _, pc, ta, tc, rfl, Nd.sits.wide ts (fun b hb => by have := x24.size; omega), tk⟩ hpre1) (fun _ _ h => h.ret) rfl ?_; rintro v w6 ⟨hk6, hy6⟩; refine li_lw (nl_then (nl_then (nl_bodyP vend_nl))) rfl ?_
  rcases hy6 with ⟨⟨⟩, hJ6⟩ | ⟨⟨⟩, hJ6⟩
  case inr =>
   clear y0 p0 v0 h4 hown X
   focus
    refine C1 Pt (cT (cw_cond_t rfl (cS (C1 Pa (cT (cw_ret (qw_then_ret (qw_ret1 rfl rfl ?_)))))))); rotate_left 1
   exact ⟨false, rfl, A5, hAA, fun k h => (hA4 k h).1, Or.inr ⟨rfl, _, hpre1, hJ6⟩⟩
  have hK : Keeps (VKp Rt A bP pv) W w6 := (Keeps.of_ext X5).trans (Keeps.less hk6 (fun k hk => hk.elim Or.inr (fun h => Or.inl (hAA k h.1))))
  have hkA : ∀ k, A5 k → ¬ ¬ (A5 k ∨ Rt k) := fun k h e => e (Or.inl h)
  replace y0 := (y0.ext x25).fr hk6 (hkA _ (hAA _ a0)); replace p0 := (p0.ext x25).fr hk6 (hkA _ (hAA _ a1)); replace v0 := (v0.ext x25).fr hk6 (hkA _ (hAA _ a2)); replace h4 := (h4.ext x25).fr hk6 (hkA _ hb5); replace hown := (hown.ext x25).fr hk6 (fun g hg => hkA _ (hAA _ (HAp.out g hg).1)); have hs6 : rowSits Rt w6 l a := ((kids_sits HS.out).ext X5).fr hk6 (fun b hb e => e (Or.inr hb)); have hz6 := hk6.size; have hz5 := X5.size; have hV6 : VSt y c bY bP bV A5 w6 pv d := ⟨y0, p0, v0, ⟨cs, hc1, hown⟩, hAA _ a0, hAA _ a1, hAA _ a2, fun g hg => ⟨hAA _ (HAp.out g hg).1, (HAp.out g hg).2⟩, ne, fun k h => ⟨(hA4 k h).1, by have := hA4 k h; omega⟩⟩; clear X hkA y0 p0 v0 hown hT HY ts x3 x4 x5 x24 x25 X5 J5 hk6 hA4 hb5
  focus
   refine C1 Pt (cT (cw_cond_f rfl (cw_skip (qw_then (cw_seq (cS (C1 Pf (C1 (Pl h4) (C1 Pz (C1 Mv (cT ?_))))))))))); rotate_left 1
  refine cw_block ?_; refine cw_loop (ι := Nat × (Nat → Prop) × Value) (fun x => [(1, .pointer (some ⟨bY, 0, none⟩)), (2, .pointer (some ⟨bP, 0, none⟩)), (3, .pointer (some ⟨bV, 0, none⟩)), (16, .slice a l.length ca), (17, .int .i64 l.length), (18, .int .i64 x.1)])
   (fun x w' => x.1 ≤ l.length ∧ VSt y c bY bP bV x.2.1 w' x.2.2 d ∧ J x.2.1 (pre ++ [.mk k n s l] ++ rowWalk (l.take x.1)) w' ∧ rowSits Rt w' l a ∧ Keeps (VKp Rt A bP pv) W w' ∧ (∀ g, x.2.2.ownBlock = some g → pv.ownBlock = some g ∨ W.heap.size ≤ g) ∧ (∀ k, A k → x.2.1 k))
   (fun x => l.length - x.1) (0, A5, pv) (by (refine sub_cons rfl ?_; refine sub_cons rfl ?_; refine sub_cons rfl ?_; refine sub_cons rfl ?_; refine sub_cons rfl ?_; refine sub_cons rfl ?_; exact sub_nil)) ⟨Nat.zero_le _, hV6, by simpa [rowWalk] using hJ6, hs6, hK, fun g hg => Or.inl hg, hAA⟩ ?_
  clear hV6 hJ6 hs6 hK hAA h4 hz6 hz5; rintro ⟨j, B, qv⟩ w7 ⟨hj, hV, hJ7, hs7, hK7, hq7, hAB⟩; simp only at hj hV hJ7 hs7 hK7 hq7 hAB
  by_cases hlt : j < l.length
  · obtain ⟨y0, p0, v0, ⟨ds, hd1, hown⟩, a0, a1, a2, ap, -, hBl⟩ := hV
    obtain ⟨kb, ko, rfl, kS, hkid⟩ := kidRows hs7 (by intro e; subst e; simp at hlt); obtain ⟨xa, xc, rx, sx⟩ := hkid j l[j] (List.getElem?_eq_getElem hlt); have hxz := size_memA (List.getElem_mem hlt); have hnext := rowWalk_take hlt; have hpx := rowWalk_pre hlt; have HB := Lib.hid hBl; have HBp := Lib.hid ap; have HR := Lib.hid hRt; have l0 := hBl _ a0; have l1 := hBl _ a1; have l2 := hBl _ a2; have ckb := hRt _ kS; have HJ7 := Lib.hid hJ7; have HK7 := Lib.hid hK7; have HQ7 := Lib.hid hq7
    have hob : ∀ g, qv.ownBlock = some g → c ≤ g ∧ g < w7.heap.size := fun g hg => hBl _ (ap g hg).1
    clear hkid hBl ap hJ7 hK7 hq7 hRt
    generalize l[j] = x at *
    have X7 := Fr.refl (fun k => k = bP ∨ qv.ownBlock = some k) w7
    focus
     refine cS (C1 V3 (cT (cw_seq (Wyo (cw_skip (qw_then (cw_seq (cw_block (cS (C1 Mv (C1 Pi ?_))))))))))); refine C1 (Pws rx) ?_; (refine lw_alloc' [_, _, _, _] zOk rfl rfl ?_; intro bc1 wc2 nc3); have hc5 := nc3.blk; have xc6 := nc3.ext; have pc7 := nc3.pos; have zc8 := nc3.size; clear nc3; replace y0 := y0.ext xc6; replace p0 := p0.ext xc6; replace v0 := v0.ext xc6; replace hown := hown.ext xc6; replace hs7 := Bk.rowSits.ext hs7 xc6; replace rx := rx.ext xc6; replace sx := Nd.sits.ext sx xc6; replace X7 := X7.ext xc6; clear xc6; refine C1 Pa ?_; (refine lw_store' [_, _, _, _] [_, _, _, _] tabOk rfl rfl rfl rfl rfl rfl hc5 rfl rfl ?_; intro wc9 nc10); have hc13 := nc10.blk; have fc11 := nc10.fr; have zc12 := nc10.size; clear nc10 hc5; replace y0 := y0.fr fc11 (by omega); replace p0 := p0.fr fc11 (by omega); replace v0 := v0.fr fc11 (by omega); replace hown := Own.fr hown fc11 (fun g hg e => by have := hob _ hg; omega); replace hs7 := Bk.rowSits.fr hs7 fc11 (fun b hb h => by have := HR.out _ hb; omega); replace rx := Row.fr rx fc11 (by simp only; omega); replace sx := Nd.sits.fr sx fc11 (fun b hb h => by have := HR.out _ hb; omega); replace X7 := X7.fr fc11 (by omega); clear fc11; refine cN (C1 (Pl p0) (C1 Mv ?_)); (refine lw_does (does_slice' [_] tabOk zOk rfl rfl rfl rfl rfl rfl rfl rfl rfl) rfl ?_ (fun _ h => h); rintro _ wc15 ⟨bc14, rfl, nc16, tc17⟩); clear tc17; have hc18 := nc16.blk; dsimp only at hc18; have xc19 := nc16.ext; have pc20 := nc16.pos; have zc21 := nc16.size
     clear nc16; replace hc13 := hc13.ext xc19; replace y0 := y0.ext xc19; replace p0 := p0.ext xc19; replace v0 := v0.ext xc19; replace hown := hown.ext xc19; replace hs7 := Bk.rowSits.ext hs7 xc19; replace rx := rx.ext xc19; replace sx := Nd.sits.ext sx xc19; replace X7 := X7.ext xc19; clear xc19; refine lw_append1 tabOk zOk rfl rfl rfl rfl (by kernel_rfl) rfl rfl (by assumption) (Blk.row (by assumption)) rfl (by omega) (by omega) rfl ?_; rintro gc22 cap'c23 wc24 hc25 hc26 hc27 fc28; have zc29 := fc28.size; replace hc18 := Blk.fr hc18 fc28 (fun h => by have := hob _ h; omega); replace hc13 := Blk.fr hc13 fc28 (fun h => by have := hob _ h; omega); replace y0 := Blk.fr y0 fc28 (fun h => (HBp.out _ h).2.1 rfl); replace p0 := Blk.fr p0 fc28 (fun h => (HBp.out _ h).2.2.1 rfl); replace v0 := Blk.fr v0 fc28 (fun h => (HBp.out _ h).2.2.2 rfl); clear hown; replace hs7 := Bk.rowSits.fr hs7 fc28 (fun b hb h => by have := hob _ h; have := HR.out _ hb; omega); clear rx; replace sx := Nd.sits.fr sx fc28 (fun b hb h => by have := hob _ h; have := HR.out _ hb; omega); replace X7 := Fr.fr X7 fc28 (fun k hk => Or.inl (Or.inr hk)); clear fc28; (refine lw_store' [_] [_] tabOk rfl rfl rfl rfl rfl rfl p0 rfl rfl ?_; intro wc30 nc31); have hc34 := nc31.blk; have fc32 := nc31.fr; have zc33 := nc31.size; clear nc31 p0; replace hc25 := Own.fr hc25 fc32 (fun k hk e => by (obtain rfl := Option.some.inj (show some gc22 = some k from hk); rcases hc26 with h | h; exact (HBp.out _ h).2.2.1 e; omega)); replace hc18 := hc18.fr fc32 (by omega)
     replace hc13 := hc13.fr fc32 (by omega); replace y0 := Blk.fr y0 fc32 (fun h => ne.1 h); replace v0 := Blk.fr v0 fc32 (fun h => ne.2 h); replace hs7 := Bk.rowSits.fr hs7 fc32 (fun b hb h => by have := HR.out _ hb; omega); replace sx := Nd.sits.fr sx fc32 (fun b hb h => by have := HR.out _ hb; omega); replace X7 := X7.fr fc32 (by omega); clear fc32; refine cT (cw_seq ?_); rotate_left 1
    have hze := X7.size
    obtain ⟨D, hD⟩ : ∃ D : Nat → Prop, D = fun k => B k ∨ (w7.heap.size ≤ k ∧ k < wc30.heap.size) := ⟨_, rfl⟩
    have hBD : ∀ k, B k → D k := fun k hk => by rw [hD]; exact Or.inl hk
    have hDl : ∀ k, D k → c ≤ k ∧ k < wc30.heap.size := fun k hk => by
     rw [hD] at hk
     rcases hk with hk | hk
     · have := HB.out k hk; omega
     · omega
    have hown : ∀ g, (Value.slice (some ⟨gc22, 0, none⟩) (d + 1) cap'c23).ownBlock = some g → D g ∧ g ≠ bY ∧ g ≠ bP ∧ g ≠ bV ∧ (qv.ownBlock = some g ∨ w7.heap.size ≤ g) := fun g hg => by
     obtain rfl := Option.some.inj (show some gc22 = some g from hg)
     rcases hc26 with h | h
     · have := HBp.out _ h; exact ⟨hBD _ this.1, this.2.1, this.2.2.1, this.2.2.2, Or.inl h⟩
     · exact ⟨by rw [hD]; exact Or.inr ⟨by omega, by omega⟩, by omega, by omega, by omega, Or.inr (by omega)⟩
    have hV8 : VSt y c bY bP bV D wc30 (.slice (some ⟨gc22, 0, none⟩) (d + 1) cap'c23) (d + 1) := ⟨y0, hc34, v0, ⟨_, by rw [List.all_append, hd1]; rfl, hc25⟩, hBD _ a0, hBD _ a1, hBD _ a2, fun g hg => ⟨(hown g hg).1, (hown g hg).2.1, (hown g hg).2.2.1, (hown g hg).2.2.2.1⟩, ne, hDl⟩; have J8 : J D (pre ++ [Nd.mk k n s l] ++ rowWalk (List.take j l)) wc30 := HJS.out B D _ w7 wc30 HJ7.out (X7.weaken (fun k hk => hk.elim (fun e => e ▸ a1) (fun e => (HBp.out _ e).1))) (fun k hk => (HB.out k hk).1) (fun k hk => (hDl k hk).1) (fun k hk h => by rw [hD] at h; exact h.elim id (fun h => by omega))
    have hpre2 : pre ++ [Nd.mk k n s l] ++ rowWalk (List.take j l) ++ x.walk <+: S := by
     refine List.IsPrefix.trans ?_ HP.out; rw [Nd.walk, ← List.singleton_append, List.append_assoc, List.append_assoc, List.append_assoc]
     exact (List.prefix_append_right_inj _).2 ((List.prefix_append_right_inj _).2 hpx)
    have HX := Lib.hid (IH.out x D _ xa xc wc30 _ (d + 1) (by omega) (by omega) (by omega) sx hV8 J8 hpre2)
    have hbx : D bc1 := by rw [hD]; exact Or.inr ⟨by omega, by omega⟩
    have hK8 : Keeps (VKp Rt A bP pv) W wc30 := HK7.out.trans (Keeps.of_fr X7 (fun k hk h => by
     rcases hk with hk | ⟨h1, h2, h3⟩
     · rcases h with h | h
       · have := HR.out _ hk; omega
       · have := HR.out _ hk; have := hob _ h; omega
     · rcases h with h | h
       · exact h2 h
       · rcases HQ7.out _ h with h | h
         · exact h3 h
         · have := HL.out _ h1; omega))
    have hWz := HK7.out.size; clear hD J8 hV8 hc25 hc26 HJ7 HK7 sx X7
    focus
     refine cS (C1 (Pl v0) (lw_loads_b' [_, _, _, _] tabOk rfl rfl rfl hc13 rfl rfl rfl ?_)); refine lw_does (does_callv (fi := []) (ca := [.pointer (some ⟨bY, 0, none⟩), .pointer (some ⟨bP, 0, none⟩), .pointer (some ⟨bV, 0, none⟩)]) (by kernel_rfl) rfl rfl HX.out (fun _ _ h => h.ret)) rfl ?_ (fun _ h => h); rintro _ wd3 ⟨qd1, ⟨⟨⟩, hd2⟩⟩; refine C1 Pt (cT ?_); rotate_left 1
    obtain ⟨E, hDE, hEc, ⟨rfl, pv', hV9, J9, hq9, hK9⟩ | ⟨rfl, pre', hp', hJx⟩⟩ := hd2
    · have hKq : ∀ k, VKp Rt A bP pv k → VKp Rt D bP (.slice (some ⟨gc22, 0, none⟩) (d + 1) cap'c23) k := fun k hk => by
       rcases hk with hk | ⟨h1, h2, h3⟩
       · exact Or.inl hk
       · refine Or.inr ⟨hBD _ (hAB _ h1), h2, fun e => ?_⟩
         rcases (hown _ e).2.2.2.2 with h | h
         · rcases HQ7.out _ h with h | h
           · exact h3 h
           · have := HL.out _ h1; omega
         · have := HL.out _ h1; omega
      have hK10 := Lib.hid (hK8.trans (hK9.less hKq)); have hs9 := hs7.fr hK9 (fun b hb e => e (Or.inl hb)); have hz9 := hK9.size
      have hq10 : ∀ g, pv'.ownBlock = some g → pv.ownBlock = some g ∨ W.heap.size ≤ g := fun g hg => by
       rcases hq9 g hg with h | h
       · rcases (hown g h).2.2.2.2 with h | h
         · exact HQ7.out g h
         · exact Or.inr (by omega)
       · exact Or.inr (by omega)
      clear hc34 hc18 hc13 y0 v0 hs7 hK8 hK9 hown hKq hq9 HQ7 HX HBp hob; obtain ⟨y0, p0, v0, ⟨ds', hd1', hown⟩, a0', a1', a2', ap, -, hEl⟩ := hV9
      rcases hown.row with ⟨-, h0, -⟩ | ⟨g', cap', rfl, -, -, -⟩
      · omega
      have HP2 := Lib.hid ap; have hgP : g' ≠ bP := (ap g' rfl).2.2.1; have hcap : d + 1 ≤ cap' := OwnF.le (B := 0) ⟨Nat.zero_le _, (hown.below g' (fun k hk => by obtain rfl := Option.some.inj (show some g' = some k from hk); exact Nat.le_refl _))⟩
      have hm : ((d + 1 : Nat) : Int) - 1 = (d : Int) := by omega
      have hsh := hown.shrink (m := d) (by omega); have HQ := Lib.hid hq10; have HE := Lib.hid hEl; have HJ9 := Lib.hid J9; clear hown ap hq10 hEl J9; have X9 := Fr.refl (fun k => k = bP) wd3
      focus
       refine cw_cond_f rfl (cw_skip (qw_then (cw_region (C1 (Pl p0) (C1 (Pl p0) (C1 Pz ?_)))))); refine C1 (pur_sub rfl rfl (IntWalk.i64_in _ (by omega))) ?_; refine C1 (pur_slH tabOk rfl rfl rfl rfl hm (by omega)) ?_; (refine lw_store' [_] [_] tabOk rfl rfl rfl rfl rfl rfl p0 rfl rfl ?_; intro we1 ne2); have he5 := ne2.blk; have fe3 := ne2.fr; have ze4 := ne2.size; clear ne2 p0; replace hs9 := Bk.rowSits.fr hs9 fe3 (fun b hb h => by have := HR.out _ hb; omega); replace y0 := Blk.fr y0 fe3 (fun h => ne.1 h); replace v0 := Blk.fr v0 fe3 (fun h => ne.2 h); replace hsh := Own.fr hsh fe3 (fun k hk e => hgP ((Option.some.inj (show some g' = some k from hk)).trans e)); replace X9 := X9.fr fe3 (by omega); clear fe3; refine lw_nil (qw_block_norm (qw_then (cw_region (C1 V7 (C1 Mv (lw_nil ?_)))))); rotate_left 1
      refine qw_round (j + 1, E, .slice (some ⟨g', 0, none⟩) d cap') (by (refine sub_cons rfl ?_; refine sub_cons rfl ?_; refine sub_cons rfl ?_; refine sub_cons rfl ?_; refine sub_cons rfl ?_; refine sub_cons rfl ?_; exact sub_nil)) ⟨by simp only; omega, ⟨y0, he5, v0, ⟨_, List.all_eq_true.2 (fun x hx => List.all_eq_true.1 hd1' x (List.mem_of_mem_take hx)), hsh⟩, a0', a1', a2', fun g hg => HP2.out g hg, ne, fun k h => ⟨(HE.out k h).1, by have := (HE.out k h).2; omega⟩⟩, ?_, hs9, hK10.out.trans (Keeps.of_fr X9 (fun k hk e => ?_)), fun g hg => HQ.out g hg, fun k h => hDE _ (hBD _ (hAB _ h))⟩ (by simp only; omega)
      · simp only
        rw [hnext, ← List.append_assoc]
        exact HJS.out E E _ wd3 we1 HJ9.out (X9.weaken (fun k e => e ▸ a1')) hEc hEc (fun _ _ h => h)
      · rcases hk with hk | hk
        · have := HR.out _ hk; omega
        · exact hk.2.1 e
    · focus
       refine cw_cond_t rfl (cS (C1 Pa (cT (cw_ret (qw_then_ret (qw_block_ret (qw_then_ret (qw_then_ret (qw_block_ret (qw_then_ret (qw_ret1 rfl rfl ?_))))))))))); rotate_left 1
      exact ⟨false, rfl, E, fun k h => hDE k (hBD k (hAB k h)), hEc, Or.inr ⟨rfl, pre', hp', hJx⟩⟩
  · obtain rfl : j = l.length := by omega
    rw [List.take_length] at hJ7
    have hJ8 : J B (pre ++ (Nd.mk k n s l).walk) w7 := by rw [Nd.walk, ← List.singleton_append, ← List.append_assoc]; exact hJ7
    focus
     refine cS (C1 V3 (cT (cw_seq (Wno (cw_exit (qw_then_exit (qw_then_exit (qw_block_exit (qw_then (cS (C1 Pa ?_))))))))))); refine cT (cw_ret (qw_ret1 rfl rfl ?_)); rotate_left 1
    exact ⟨true, rfl, B, hAB, fun k h => (hV.lt k h).1, Or.inl ⟨rfl, qv, hV, hJ8, hq7, hK7⟩⟩
end Bk
namespace Bk
open Go Go.RowKit
structure OwnQ {α : Type} (sh : Shape α) (w : World) (R : Nat → Prop) (B e : Nat) (v : Value) (xs : List α) : Prop where
 ex : ∃ css : List (List Value), Own w B e sh.sz v xs.length css.flatten ∧ css.length = xs.length ∧ ∀ (i : Nat) (x : α) (cs : List Value), xs[i]? = some x → css[i]? = some cs → sh.rep w (fun b => R b ∧ v.ownBlock ≠ some b) x cs
section
variable {α : Type} {sh : Shape α} {R R' : Nat → Prop} {B e : Nat} {w w' : World} {v : Value} {xs : List α}
theorem OwnQ.nil : OwnQ sh w R B e (.slice none 0 0) [] := ⟨⟨[], Own.nil, rfl, by simp⟩⟩
theorem OwnQ.ge (h : OwnQ sh w R B e v xs) {k : Nat} (hk : v.ownBlock = some k) : B ≤ k := by
 obtain ⟨css, h1, -⟩ := h.ex
 exact h1.ge hk
theorem OwnQ.lt (h : OwnQ sh w R B e v xs) {k : Nat} (hk : v.ownBlock = some k) : k < w.heap.size := by
 obtain ⟨css, h1, -⟩ := h.ex
 exact (h1.blk hk).2
theorem OwnQ.ext (h : OwnQ sh w R B e v xs) (x : Ext w w') : OwnQ sh w' R B e v xs := by
 obtain ⟨css, h1, h2, h3⟩ := h.ex
 exact ⟨css, h1.ext x, h2, fun i y cs hy hc => sh.mono (h3 i y cs hy hc) (fun _ h => h) (fun b o u _ hu => x.keep hu)⟩
theorem OwnQ.fr {S : Nat → Prop} (h : OwnQ sh w R B e v xs) (x : Fr S w w') (hs : ∀ k, S k → ¬ R k ∧ v.ownBlock ≠ some k) : OwnQ sh w' R B e v xs := by
 obtain ⟨css, h1, h2, h3⟩ := h.ex
 exact ⟨css, h1.fr x (fun k hk hS => (hs k hS).2 hk), h2, fun i y cs hy hc => sh.mono (h3 i y cs hy hc) (fun _ h => h) (fun b o u hb hu => x.keep (fun hS => (hs b hS).1 hb.1) hu)⟩
theorem OwnQ.wide (h : OwnQ sh w R B e v xs) (hR : ∀ b, R b → R' b) : OwnQ sh w R' B e v xs := by
 obtain ⟨css, h1, h2, h3⟩ := h.ex
 exact ⟨css, h1, h2, fun i y cs hy hc => sh.mono (h3 i y cs hy hc) (fun b hb => ⟨hR b hb.1, hb.2⟩) (fun _ _ _ _ hu => hu)⟩
theorem OwnQ.below (h : OwnQ sh w R B e v xs) {B' : Nat} (hB : ∀ k, v.ownBlock = some k → B' ≤ k) : OwnQ sh w R B' e v xs := by
 obtain ⟨css, h1, h2, h3⟩ := h.ex; refine ⟨css, ?_, h2, h3⟩; obtain ⟨k1, k2 | ⟨g, cap, cur, rfl, k3, k4⟩⟩ := h1
 · exact ⟨k1, Or.inl k2⟩
 · exact ⟨k1, Or.inr ⟨g, cap, cur, rfl, hB g rfl, k4⟩⟩
def GrewQ (sh : Shape α) (w : World) (R : Nat → Prop) (B : Nat) (e : TypeId) (v : Value) (ys : List α) : Option Value → World → Prop
 | some v', w' => ∃ g cap, v' = .slice (some ⟨g, 0, none⟩) ys.length cap ∧ OwnQ sh w' R B e v' ys ∧ (v.ownBlock = some g ∨ w.heap.size ≤ g) ∧ g < w'.heap.size ∧ Fr (fun k => v.ownBlock = some k) w w'
 | none, _ => False
theorem does_appendQ {P : Program} {n : Nat} {l : Sl} {tab : Tab} {zt : ZTab} {ty : TypeId} {x y : Operand} {t sz1 cap : Nat} {sE : Sk} {zs : List Value} {cs : List Value} {z : α} {p : Addr} (T : TabOk P tab) (Z : ZTabOk P zt) (ht : lookT tab t = some (.slice e, sz1)) (hE : lookT tab e = some (sE, sh.sz)) (hz : lookZ zt e = some zs) (hzl : zs.length = sh.sz)
 (hby : bytesOk P e = true) (hsz : Nat.blt 0 sh.sz = true) (hx : ev l x = some v) (hy : ev l y = some (.slice (some p) 1 cap)) (hown : OwnQ sh w R' B e v xs) (hw : ∀ b, R' b → R b) (hr : Row w p cs) (hrep : sh.rep w (fun b => R b ∧ v.ownBlock ≠ some b) z cs) (hlen : xs.length ≤ 10000000000) (hB : B ≤ w.heap.size) :
 Does P n l (.call ⟨.builtin .append, #[x, y], #[t, t]⟩) ty w (GrewQ sh w R B e v (xs ++ [z])) := by
 obtain ⟨css, h1, h2, h3'⟩ := hown.ex
 have h3 : ∀ (i : Nat) (x : α) (cs : List Value), xs[i]? = some x → css[i]? = some cs → sh.rep w (fun b => R b ∧ v.ownBlock ≠ some b) x cs := fun i y cs hy hc => sh.mono (h3' i y cs hy hc) (fun b hb => ⟨hw b hb.1, hb.2⟩) (fun _ _ _ _ hu => hu)
 have hd := does_append (P := P) (n := n) (l := l) (ty := ty) T Z ht hE hz hzl hby hsz hx hy h1 hr (by rw [sh.len hrep]; simp) (sh.one hrep) (by omega) (by omega) hB
 unfold Does at hd ⊢
 intro a dst pos after g next Q ha hn hn0; refine hd a dst pos after g next Q ha (fun v' w' hG => ?_) (fun w' hG => hG.elim); obtain ⟨g1, g2, g, cap', g3, g4⟩ := hG; have hg := g1.blk (k := g) (by rw [g3]; rfl); refine hn v' w' ⟨g, cap', by rw [g3]; simp, ⟨css ++ [cs], ?_, by simp [h2], fun i y ds hy hc => ?_⟩, g4, hg.2, g2⟩
 · have e1 : (css ++ [cs]).flatten = css.flatten ++ cs := by simp
   have e2 : (xs ++ [z]).length = xs.length + 1 := by simp
   rw [e1, e2]; exact g1
 · have key : sh.rep w (fun b => R b ∧ v.ownBlock ≠ some b) y ds := by
    by_cases hi : i < xs.length
    · rw [List.getElem?_append_left hi] at hy
      rw [List.getElem?_append_left (by omega)] at hc
      exact h3 i y ds hy hc
    · have hil : i < (xs ++ [z]).length := by
       rcases Nat.lt_or_ge i (xs ++ [z]).length with h | h
       · exact h
       · rw [List.getElem?_eq_none h] at hy; cases hy
      simp only [List.length_append, List.length_cons, List.length_nil] at hil
      have hi' : i = xs.length := by omega
      subst hi'; rw [List.getElem?_append_right (Nat.le_refl _)] at hy; rw [List.getElem?_append_right (by omega)] at hc; simp only [Nat.sub_self, List.getElem?_cons_zero, Option.some.injEq] at hy; rw [h2] at hc; simp only [Nat.sub_self, List.getElem?_cons_zero, Option.some.injEq] at hc; subst hy hc
      exact hrep
   refine sh.mono (sh.lt key) (fun b hb => ⟨hb.1.1, fun e => ?_⟩) (fun b o u hb hu => g2.keep hb.1.2 hu); rw [g3] at e; simp only [Value.ownBlock, Option.some.injEq] at e; subst e
   rcases g4 with h | h
   · exact hb.1.2 h
   · omega
theorem OwnQ.rows (h : OwnQ sh w R B e v xs) (hx : xs ≠ []) : ∃ g cap, v = .slice (some ⟨g, 0, none⟩) xs.length cap ∧ B ≤ g ∧ g < w.heap.size ∧ ∀ (i : Nat) (x : α), xs[i]? = some x → ∃ cs, Row w ⟨g, i * sh.sz, none⟩ cs ∧ sh.rep w R x cs := by
 obtain ⟨css, h1, h2, h3⟩ := h.ex; have hM : OwnM sh w R B e v xs := ⟨css, h1, h2, fun i y cs hy hc => sh.mono (h3 i y cs hy hc) (fun b hb => ⟨Or.inl hb.1, hb.2⟩) (fun _ _ _ _ hu => hu)⟩
 rcases h1.row with ⟨rfl, hn, -⟩ | ⟨g, cap, rfl, hg, hob, hr⟩
 · exact absurd (List.length_eq_zero_iff.1 hn) hx
 · refine ⟨g, cap, rfl, hg, (h1.blk (k := g) rfl).2, fun i x hi => ?_⟩
   obtain ⟨g', cap', hv, -, hall⟩ := hM.rows hx; simp only [Value.slice.injEq, Option.some.injEq, Addr.mk.injEq, and_true, true_and] at hv; obtain ⟨rfl, rfl⟩ := hv
   have hil : i < xs.length := by
    rcases Nat.lt_or_ge i xs.length with h | h
    · exact h
    · rw [List.getElem?_eq_none h] at hi; cases hi
   have hcl : ∀ cs ∈ css, cs.length = sh.sz := fun cs hcs => by
    obtain ⟨j, hj, rfl⟩ := List.mem_iff_getElem.1 hcs; have hx1 : xs[j]? = some xs[j] := List.getElem?_eq_getElem (by omega)
    exact sh.len (h3 j _ _ hx1 (List.getElem?_eq_getElem hj))
   have hci : css[i]? = some (css[i]'(by omega)) := List.getElem?_eq_getElem (by omega); obtain ⟨cs, k1, k2⟩ := hall i x hi; refine ⟨css[i]'(by omega), ?_, sh.mono (h3 i x _ hi hci) (fun b hb => hb.1) (fun _ _ _ _ hu => hu)⟩; obtain ⟨f1, f2⟩ := flatten_at hcl (j := i) (by omega); rw [f1] at hr; have hs := hr.sub (i * sh.sz) sh.sz; rw [Nat.zero_add, List.append_assoc, List.drop_left' f2, List.take_left' (hcl _ (List.getElem_mem _))] at hs
   exact hs
theorem OwnQ.lit {b : Nat} {x : α} {cs : List Value} (h : TB w b cs e) (hB : B ≤ b) (hr : sh.rep w (fun k => R k ∧ k ≠ b) x cs) : OwnQ sh w R B e (.slice (some ⟨b, 0, none⟩) 1 1) [x] := by
 have hl := sh.len hr; refine ⟨[cs], ⟨by simp [hl], Or.inr ⟨b, 1, cs.toArray, rfl, hB, h, Nat.le_refl _, maxLen_one, by simp [hl], by simp [← hl]⟩⟩, rfl, fun i y ds hy hd => ?_⟩
 match i, hy, hd with
 | 0, hy, hd =>
  simp at hy hd
  subst hy hd
  exact sh.mono hr (fun k hk => ⟨hk.1, fun e => hk.2 (by simpa [Value.ownBlock] using e.symm)⟩) (fun _ _ _ _ h => h)
end
section
variable {P : Program} {n : Nat} {l : Sl} {w : World} {tab : Tab} {zt : ZTab} {ty : TypeId} {α : Type} {sh : Shape α}
theorem lw_appendQ {ops : Array Oper} {Q : Exit → Act → World → Prop} {rest : List Oper} {d : Nat} {pos : String} {after : Array Edge} {x y : Operand} {t e sz1 B cap : Nat} {R R' : Nat → Prop} {sE : Sk} {zs : List Value} {v : Value} {xs : List α} {cs : List Value} {z : α} {p : Addr} (T : TabOk P tab) (Z : ZTabOk P zt) (ht : lookT tab t = some (.slice e, sz1)) (hE : lookT tab e = some (sE, sh.sz)) (hz : lookZ zt e = some zs) (hzl : zs.length = sh.sz)
 (hby : bytesOk P e = true) (hsz : Nat.blt 0 sh.sz = true) (hx : ev l x = some v) (hy : ev l y = some (.slice (some p) 1 cap)) (hown : OwnQ sh w R' B e v xs) (hw : ∀ b, R' b → R b) (hr : Row w p cs) (hrep : sh.rep w (fun b => R b ∧ v.ownBlock ≠ some b) z cs) (hlen : xs.length ≤ 10000000000) (hB : B ≤ w.heap.size) (hd : Nat.blt d n = true)
 (k : ∀ g cap' w1, OwnQ sh w1 R B e (.slice (some ⟨g, 0, none⟩) (xs ++ [z]).length cap') (xs ++ [z]) → (v.ownBlock = some g ∨ w.heap.size ≤ g) → g < w1.heap.size → Fr (fun k => v.ownBlock = some k) w w1 → LW P n ops Q rest ((d, .slice (some ⟨g, 0, none⟩) (xs ++ [z]).length cap') :: l) w1) :
 LW P n ops Q (⟨some d, .call ⟨.builtin .append, #[x, y], #[t, t]⟩, ty, pos, after, none⟩ :: rest) l w :=
 lw_does (does_appendQ T Z ht hE hz hzl hby hsz hx hy hown hw hr hrep hlen hB) hd (fun v w1 ⟨g, cap, h, ho, h1, h2, hf⟩ => by subst h; exact k g cap w1 ho h1 h2 hf) (fun _ h => h)
end
end Bk
namespace Bk
open Go Go.RowKit
section
variable {P : Program} {n : Nat} {l : Sl} {w : World} {tab : Tab} {zt : ZTab} {ty : TypeId}
theorem pur_funcC {S : World → Prop} {f : Fn} {cs : List Operand} {vs : List Value} (h : evs l cs = some vs) : Pur P n l S (.makeFunc f #[] cs.toArray) ty (.func f #[] vs.toArray) := by
 unfold Pur
 intro a w dst pos after g ha _; have e := ha.evs h
 simp [execOp, Instr.makeFunc, e]
end
section
variable {P : Program} {n : Nat} {ops : Array Oper} {Q : Exit → Act → World → Prop} {rest : List Oper} {l : Sl} {w : World} {tab : Tab} {ty : TypeId} {pos : String} {after : Array Edge}
end
end Bk
namespace Bk
open Go Go.RowKit Go.Proofs
attribute [local irreducible] Go.Calls
set_option maxRecDepth 100000 in
set_option maxHeartbeats 4000000 in
theorem walk1_c (t : Nd) (hz : t.size ≤ 1000000) (Rt : Nat → Prop) (br : Nat) (a : Option Addr) (ca : Nat) (w : World) (hRt : ∀ k, Rt k → k < w.heap.size) (hbr : Rt br) (hr : Blk w br (t.cells a ca)) (hs : t.sits Rt w a) :
 IterOk Tryz.prog 81 [.pointer (some ⟨br, 0, none⟩)] WRep Rt t.walk w := by
 intro y J Jx W hK hJ hJx hY h0; have hsz := hK.size; have hbl := hRt _ hbr; replace hr := hr.fr hK (fun e => e hbr); replace hs := hs.fr hK (fun b hb e => e hb)
 have hR2 : ∀ k, Rt k → k < W.heap.size := fun k hk => Nat.lt_of_lt_of_le (hRt k hk) hsz
 have HY := Lib.hid hY; have HJ := Lib.hid hJ; have H0 := Lib.hid h0; have HR := Lib.hid hR2; clear hY hJ h0 hRt hR2 hK; have X := Ext.refl W
 show Calls _ _ #[.func (.yield y) #[] #[], .pointer (some ⟨br, 0, none⟩)] W _
 refine calls_in Tryz.func81 Tryz.ntmps81 rfl rfl ?_
 focus
  refine cS ?_; (refine lw_box' [_] rfl rfl rfl ?_; intro b1 w2 n3); have h4 := n3.blk; have x5 := n3.ext; have p6 := n3.pos; have z7 := n3.size; clear n3; replace hr := hr.ext x5; replace hs := Nd.sits.ext hs x5; replace X := X.ext x5; clear x5; refine cN ?_; (refine lw_alloc' [_] zOk rfl rfl ?_; intro b8 w9 n10); have h12 := n10.blk; have x13 := n10.ext; have p14 := n10.pos; have z15 := n10.size; clear n10; replace h4 := h4.ext x13; replace hr := hr.ext x13; replace hs := Nd.sits.ext hs x13; replace X := X.ext x13; clear x13; refine cN ?_; (refine lw_alloc' [_] zOk rfl rfl ?_; intro b16 w17 n18); have h20 := n18.blk; have x21 := n18.ext; have p22 := n18.pos; have z23 := n18.size; clear n18; replace h12 := h12.ext x21; replace h4 := h4.ext x21; replace hr := hr.ext x21; replace hs := Nd.sits.ext hs x21; replace X := X.ext x21; clear x21; refine cN (C1 (pur_funcC rfl) ?_); (refine lw_store' [_] [_] tabOk rfl rfl rfl rfl rfl rfl h20 rfl rfl ?_; intro w24 n25); have h28 := n25.blk; have f26 := n25.fr; have z27 := n25.size; clear n25 h20; replace h12 := h12.fr f26 (by omega); replace h4 := h4.fr f26 (by omega); replace hr := hr.fr f26 (by omega); replace hs := Nd.sits.fr hs f26 (fun b hb e => by have := HR.out _ hb; omega); replace X := X.fr f26 (by omega); clear f26; refine cT (cw_region (C1 (Pl h28) (lw_loads_b' [_, _, _, _] tabOk rfl rfl rfl hr rfl rfl rfl ?_))); rotate_left 1
 obtain ⟨A, hA⟩ : ∃ A : Nat → Prop, A = fun k => W.heap.size ≤ k ∧ k < W.heap.size + 3 := ⟨_, rfl⟩
 have hAl : ∀ k, A k → W.heap.size ≤ k ∧ k < w24.heap.size := fun k hk => by rw [hA] at hk; omega
 have J1 : J A [] w24 := HJ.out (fun _ => False) A [] W w24 H0.out ⟨X.os, X.tape, X.output, X.size, fun k hk _ => X.block hk⟩ (fun _ h => h.elim) (fun k hk => (hAl k hk).1) (fun k hk h => by have := hAl k h; omega)
 have ha : ∀ k, W.heap.size ≤ k → k < W.heap.size + 3 → A k := fun k h1 h2 => by rw [hA]; exact ⟨h1, h2⟩
 have hV : VSt y W.heap.size b1 b8 b16 A w24 (.slice none 0 0) 0 := ⟨h4, h12, h28, ⟨[], rfl, Own.nil⟩, ha _ (by omega) (by omega), ha _ (by omega) (by omega), ha _ (by omega) (by omega), fun g hg => by simp [Value.ownBlock] at hg, ⟨by omega, by omega⟩, hAl⟩; have HX := Lib.hid (visit_c y W.heap.size b1 b8 b16 Rt HR.out J Jx HJ.out t.walk HY.out (t.size + 1) t A [] a ca w24 (.slice none 0 0) 0 (by omega) hz (by omega) hs hV J1 (List.prefix_refl _)); clear hA J1 ha hV h28 h12 h4 hr X
 focus
  refine lw_does (does_callv (fi := []) (ca := [.pointer (some ⟨b1, 0, none⟩), .pointer (some ⟨b8, 0, none⟩), .pointer (some ⟨b16, 0, none⟩)]) (by kernel_rfl) rfl rfl HX.out (fun _ _ h => h.ret)) rfl ?_ (fun _ h => h); rintro _ wa3 ⟨qa1, ⟨⟨⟩, ha2⟩⟩; refine lw_nil (qw_end0 rfl ?_); rotate_left 1
 obtain ⟨A', -, hc, ⟨rfl, pv, -, hj, -⟩ | ⟨rfl, pre, hp, hj⟩⟩ := ha2
 · exact ⟨⟨_, rfl⟩, A', hc, Or.inl hj⟩
 · exact ⟨⟨_, rfl⟩, A', hc, Or.inr ⟨pre, hp, hj⟩⟩
def WalkR (t : Nd) (w : World) : Ending → World → Prop := fun e w' => ∃ br, e = .returned (.func (.func 81) #[] #[.pointer (some ⟨br, 0, none⟩)]) ∧ IterOk Tryz.prog 81 [.pointer (some ⟨br, 0, none⟩)] WRep (fun k => w.heap.size ≤ k ∧ k < w'.heap.size) t.walk w' ∧ Ext w w'
theorem WalkR.ret {t : Nd} {w : World} {e : Ending} {w' : World} (h : WalkR t w e w') : ∃ v, e = .returned v := by
 obtain ⟨_, h, -⟩ := h
 exact ⟨_, h⟩
set_option maxRecDepth 100000 in
set_option maxHeartbeats 4000000 in
theorem Walk_c (t : Nd) (hz : t.size ≤ 1000000) (S : Nat → Prop) (a : Option Addr) (c : Nat) (w : World) (hs : t.sits S w a) : Calls Tryz.prog 42 #[t.val a c] w (WalkR t w) := by
 have X := Ext.refl w; refine calls_in Tryz.func42 Tryz.ntmps42 rfl rfl ?_
 focus
  refine cS ?_; (refine lw_box' [_, _, _, _] rfl rfl rfl ?_; intro b1 w2 n3); have h4 := n3.blk; have x5 := n3.ext; have p6 := n3.pos; have z7 := n3.size; clear n3; replace hs := Nd.sits.ext hs x5; replace X := X.ext x5; clear x5; refine C1 Pa (cN (lw_loads_b' [_, _, _, _] tabOk rfl rfl rfl h4 rfl rfl rfl ?_)); refine cR (by kernel_rfl) rfl (clone_t _ hz _ _ _ _ (by assumption)) (fun _ _ h => h.ret) rfl ?_; rintro _ w12 ⟨a8, ⟨c9, ⟨⟨⟩, ⟨h10, x11⟩⟩⟩⟩; have z13 := x11.size; replace h4 := h4.ext x11; replace hs := Nd.sits.ext hs x11; replace X := X.ext x11; clear x11; (refine lw_alloc' [_, _, _, _] zOk rfl rfl ?_; intro b14 w15 n16); (refine lw_init' [_, _, _, _] tabOk rfl rfl rfl rfl rfl rfl n16 rfl ?_; clear n16; clear w15; intro w17 n16); have h18 := n16.blk; have x19 := n16.ext; have p20 := n16.pos; have z21 := n16.size; clear n16; replace h10 := Nd.sits.ext h10 x19; replace h4 := h4.ext x19; replace hs := Nd.sits.ext hs x19; replace X := X.ext x19; clear x19; refine cN (C1 (pur_funcC rfl) (C1 Pa (cT (cw_ret (qw_ret1 rfl rfl ?_))))); rotate_left 1
 exact ⟨_, rfl, walk1_c t hz _ _ _ _ _ (fun k hk => hk.2) ⟨by omega, by omega⟩ (by assumption) (Nd.sits.wide (by assumption) (fun b hb => ⟨by omega, by omega⟩)), X⟩
end Bk
namespace Bk
open Go Go.RowKit
def EnvD (D : List Deferred) (n : Nat) (l : Sl) (a : Act) : Prop := Env n l { a with defers := [] } ∧ a.defers = D
def CWD (P : Program) (D : List Deferred) (n : Nat) (c : Code) (Q : Exit → Act → World → Prop) (l : Sl) (w : World) : Prop := ∀ a, EnvD D n l a → c.wp P Q a w
def LWD (P : Program) (D : List Deferred) (n : Nat) (ops : Array Oper) (Q : Exit → Act → World → Prop) (os : List Oper) (l : Sl) (w : World) : Prop := ∀ a, EnvD D n l a → wpList P ops Q os a w
def QWD (D : List Deferred) (n : Nat) (Q : Exit → Act → World → Prop) (e : Exit) (l : Sl) (w : World) : Prop := ∀ a, EnvD D n l a → Q e a w
theorem EnvD.ev {D : List Deferred} {n : Nat} {l : Sl} {a : Act} (h : EnvD D n l a) {x : Operand} {v : Value} (hx : ev l x = some v) : a.eval x = v := h.1.ev hx
theorem EnvD.put {D : List Deferred} {n : Nat} {l : Sl} {a : Act} (h : EnvD D n l a) {d : Nat} (hd : Nat.blt d n = true) (v : Value) : EnvD D n ((d, v) :: l) (a.put (some d) v) := ⟨h.1.put hd v, h.2⟩
section code
variable {P : Program} {D : List Deferred} {n : Nat} {Q : Exit → Act → World → Prop} {l : Sl} {w : World} {ops : Array Oper} {rest : List Oper} {d : Nat} {ty : TypeId} {pos : String} {after : Array Edge}
theorem cwd_seq {x y : Code} (h : CWD P D n x (Exit.then (y.wp P Q) Q) l w) : CWD P D n (.seq x y) Q l w := fun a ha => wp_seq (h a ha)
theorem qwd_then {y : Code} (h : CWD P D n y Q l w) : QWD D n (Exit.then (y.wp P Q) Q) .normal l w := h
theorem cwd_region {id : Nat} {os : List Oper} (h : LWD P D n os.toArray Q os l w) : CWD P D n (.region id os.toArray false) Q l w := fun a ha => wp_region_lit (h a ha)
theorem cwd_ret (h : QWD D n Q .ret l w) : CWD P D n .ret Q l w := fun a ha => wp_ret (h a ha)
theorem lwd_nil (h : QWD D n Q .normal l w) : LWD P D n ops Q [] l w := h
theorem lwd_pure {op : Op} {v : Value} (hp : Pur P n l (· = w) op ty v) (hd : Nat.blt d n = true) (k : LWD P D n ops Q rest ((d, v) :: l) w) : LWD P D n ops Q (⟨some d, op, ty, pos, after, none⟩ :: rest) l w := fun a ha => by
 unfold wpList
 rw [if_pos (wanted_plain rfl)]
 left
 have e : (execOp a.eval ⟨some d, op, ty, pos, after, none⟩).run P w = .ok (.value v) w := by
  unfold Pur at hp
  have := hp { a with defers := [] } w (some d) pos after none ha.1 rfl
  exact this
 unfold Oper.wp
 rw [e]
 exact k _ (ha.put hd v)
theorem lwd_store {tab : Tab} {x y : Operand} {t b : Nat} {s : Sk} {v u : Value} (T : TabOk P tab) (ht : lookT tab t = some (s, 1)) (hx : ev l x = some (.pointer (some ⟨b, 0, none⟩))) (hy : ev l y = some v) (hv : v.cells = #[v]) (h1 : Value.one v = true) (hb : Blk w b [u])
 (k : ∀ w1, Blk w1 b [v] → Fr (· = b) w w1 → LWD P D n ops Q rest l w1) : LWD P D n ops Q (⟨none, .store t x y, ty, pos, after, none⟩ :: rest) l w := fun a ha => by
 obtain ⟨w1, e1, e2⟩ := run_storeCells (P := P) [v] w b 0 0 [u] hb (by simp) (by simp [h1])
 have e : (execOp a.eval ⟨none, .store t x y, ty, pos, after, none⟩).run P w = .ok .skip w1 := by
  have hcs : v.cells.toList = [v] := by rw [hv]
  have hsz : v.cells.size = 1 := by rw [hv]; rfl
  simp only [execOp, ha.ev hx, ha.ev hy, Instr.storeAt, Instr.sureAddr, Sem.run_bind, Sem.run_pure, Result.andThen, storeVar, run_sizeOf (T _ _ _ ht), hsz, hcs, e1]; simp only [ne_eq, not_true, if_false, Sem.run_bind, Sem.run_pure, Result.andThen, e1]
 unfold wpList
 rw [if_pos (wanted_plain rfl)]
 left
 unfold Oper.wp
 rw [e]
 exact k w1 e2.blk e2.fr _ ha
end code
theorem calls_inM {P : Program} {f : FuncId} {fn : Func} {c : Code} {args : List Value} {n : Nat} {w : World} {R : Ending → World → Prop}
 (hf : P.funcs[f]? = some fn) (hn : fn.ntmps = n) (hb : fn.body = some c) (hl : Nat.ble args.length n = true) (h : CW P n c (bodyPostM (WF none) 0 P fn R) (enumSl 0 args) w) : Calls P f args.toArray w R := by
 refine wf_calls.1 (callsIn_of_wp_marks (F := WF none) (n := 0) hf hb trivial (cw_cr h _ ?_))
 have hl' : args.length ≤ n := by simpa using hl
 refine ⟨by simp; omega, rfl, fun d v hv => ?_⟩; obtain ⟨-, h2⟩ := look_enum d v args 0 hv; simp only [Nat.sub_zero] at h2
 have : d < args.length := by
  rcases Nat.lt_or_ge d args.length with h | h
  · exact h
  · rw [List.getElem?_eq_none h] at h2; cases h2
 rw [List.getElem?_eq_getElem this] at h2; simp only [Option.some.injEq] at h2
 simp [Array.getElem?_append, this, h2]
def markAt (b : Nat) : List Deferred := [{ target := .collected b, args := #[] }]
theorem run_retc {P : Program} {fn : Func} {tab : Tab} {t ty sz b : Nat} {s : Sk} {v : Value} {tmps : Array Value} {w : World} (h : fn.results = #[.cell t ty]) (T : TabOk P tab) (ht : lookT tab ty = some (s, sz)) (hs : s.agg = false) (hv : tmps.getD t undef = .pointer (some ⟨b, 0, none⟩)) (hb : w.cell? ⟨b, 0, none⟩ = some v) : (results fn tmps).run P w = .ok v w := by
 have e : (loadVar ty ⟨b, 0, none⟩).run P w = .ok v w := by
  simp only [Sem.run_bind, Sem.run_pure, Result.andThen, loadVar, run_isAgg (T _ _ _ ht), hs]
  simp [load, Sem.run, hb]
 simp only [Array.getD_eq_getD_getElem?] at hv
 simp [results, h, hv, e, asAddr]
theorem putObj_fr {w : World} {m : Nat} {o : Obj} (o' : Obj) (h : w.heap[m]? = some o) : Fr (· = m) w (w.putObj m o') := ⟨rfl, rfl, rfl, by simp, fun k _ hk => World.putObj_heap_other hk⟩
theorem qwd_ret1 {P : Program} {fn : Func} {R : Ending → World → Prop} {n m t : Nat} {l : Sl} {w : World} {v : Value} (hk : w.heap[m]? = some (.deferred (some []))) (h : fn.results = #[.tmp t]) (hv : look l t = some v) (hR : ∀ w', Fr (· = m) w w' → R (.returned v) w') : QWD (markAt m) n (bodyPostM (WF none) 0 P fn R) .ret l w := fun a ha => by
 show LeavesInM _ _ _ _ _ _ a.defers _ _
 rw [ha.2]; refine ⟨by simp, .inl ⟨_, _, rfl, run_takeDeferred hk, _, results_tmp h _ _ _, ?_⟩⟩; rw [show a.tmps.getD t undef = v from ha.1.has t v hv]
 exact hR _ (putObj_fr _ hk)
theorem qwd_retc {P : Program} {fn : Func} {R : Ending → World → Prop} {n m t ty sz b : Nat} {s : Sk} {tab : Tab} {l : Sl} {w : World} {v : Value} (hk : w.heap[m]? = some (.deferred (some []))) (h : fn.results = #[.cell t ty]) (T : TabOk P tab) (ht : lookT tab ty = some (s, sz)) (hs : s.agg = false) (hv : look l t = some (.pointer (some ⟨b, 0, none⟩))) (hb : Blk w b [v]) (hR : ∀ w', Fr (· = m) w w' → R (.returned v) w') : QWD (markAt m) n (bodyPostM (WF none) 0 P fn R) .ret l w := fun a ha => by
 show LeavesInM _ _ _ _ _ _ a.defers _ _
 rw [ha.2]
 have hne : b ≠ m := fun e => by
  obtain ⟨ty, hb⟩ := hb; rw [e, hk] at hb
  cases hb
 exact ⟨by simp, .inl ⟨_, _, rfl, run_takeDeferred hk, _, run_retc h T ht hs (ha.1.has t _ hv) (Blk.cell (hb.fr (putObj_fr _ hk) hne) rfl), hR _ (putObj_fr _ hk)⟩⟩
def assignEnd (P : Program) (r : Option Nat) (Kp : Nat → Prop) (m : Nat) (body : Code) (Q : World → Exit → Act → World → Prop) (W : World) : Act → World → Prop := fun a₁ W₁ => Keeps Kp W W₁ ∧ ∀ W₂, Fr (· = m) W₁ W₂ → body.wpIn (WF r) 0 P (Q W₂) a₁ W₂
theorem qw_assign {P : Program} {n : Nat} {r : Option Nat} {Kp : Nat → Prop} {m : Nat} {body : Code} {Q : World → Exit → Act → World → Prop} {W : World} {G : Exit → Act → World → Prop} {l : Sl} {w : World} (h1 : Keeps Kp W w) (h2 : ∀ W₂, Fr (· = m) w W₂ → CR P n r body (Q W₂) l W₂) : QW n (Exit.then (assignEnd P r Kp m body Q W) G) .normal l w := by
 unfold QW
 exact fun a ha => ⟨h1, fun W₂ hf => h2 W₂ hf a ha⟩
theorem nl_assign {K : Act → World → Prop} : ¬ LetsOut (Exit.then K (fun _ _ _ => False)) := fun ⟨_, _, h⟩ => h
theorem cw_range {α : Type} {P : Program} {n : Nat} {g : Operand} {p q : Tmp} {assign body : Code} {Q : Exit → Act → World → Prop} {l : Sl} {w : World} {gf : Nat} {lb : List Value} {rep : Nat → World → List Value → α → Prop} {Rt : Nat → Prop} {S : List α}
 (hp : Nat.blt p n = true) (hq : Nat.blt q n = true) (hg : ev l g = some (.func (.func gf) #[] lb.toArray)) (eg : bodied P gf = true) (hit : IterOk P gf lb rep Rt S w) (hps : ∀ c W vs x, rep c W vs x → ∃ u v, vs = [u, v]) (hRt : ∀ k, Rt k → k < w.heap.size)
 (J Jx : (Nat → Prop) → List α → World → Prop) (hJ : Stab w.heap.size J) (hJx : Stab w.heap.size Jx) (h0 : J (fun _ => False) [] w)
 (hround : ∀ r A pre x u v W, (∀ k, A k → w.heap.size ≤ k ∧ k < W.heap.size) → A (w.heap.size + 1) → J A pre W → rep (w.heap.size + 2) W [u, v] x → (pre ++ [x]) <+: S →
  CR P n (some r) assign (Exit.then (assignEnd P (some r) (fun k => A k ∨ Rt k) (w.heap.size + 1) body (fun W₂ => roundEnd (fun k => A k ∨ Rt k) J Jx A (pre ++ [x]) W₂) W) (fun _ _ _ => False)) ((q, v) :: (p, u) :: l) W)
 (hdone : ∀ A W, (∀ k, A k → w.heap.size ≤ k) → J A S W → A w.heap.size → W.heap[w.heap.size]? = some (.deferred (some [])) → QWD (markAt w.heap.size) n Q .normal l W)
 (hstop : ∀ A pre W, (∀ k, A k → w.heap.size ≤ k) → pre <+: S → Jx A pre W → A w.heap.size → W.heap[w.heap.size]? = some (.deferred (some [])) → QWD (markAt w.heap.size) n Q .ret l W) :
 CW P n (.rangeFunc g #[p, q] assign body) Q l w := by
 refine cr_cw fun a ha => ?_
 refine wpIn_range (ha.ev hg) eg hit (fun c W vs x h => by obtain ⟨u, v, rfl⟩ := hps c W vs x h; rfl) hRt J Jx hJ hJx h0 (fun r A pre x vs W hA hA1 hj hrep hpre => ?_) (fun A W hA hj ha1 hk => ?_) (fun A pre W hA hpre hj ha1 hk => ?_)
 · obtain ⟨u, v, rfl⟩ := hps _ W vs x hrep
   refine hround r A pre x u v W hA hA1 hj hrep hpre _ ?_; have e1 : Env n l { a with defers := [] } := ⟨ha.size, rfl, ha.has⟩
   simpa [Act.put] using (e1.put hp u).put hq v
 · exact hdone A W hA hj ha1 hk _ ⟨⟨ha.size, rfl, ha.has⟩, by rw [ha.defers]; rfl⟩
 · exact hstop A pre W hA hpre hj ha1 hk _ ⟨⟨ha.size, rfl, ha.has⟩, by rw [ha.defers]; rfl⟩
theorem qwd_block {D : List Deferred} {n i : Nat} {Q : Exit → Act → World → Prop} {l : Sl} {w : World} (h : QWD D n Q .normal l w) : QWD D n (Exit.inBlock i Q) .normal l w := h
theorem qwd_block_ret {D : List Deferred} {n i : Nat} {Q : Exit → Act → World → Prop} {l : Sl} {w : World} (h : QWD D n Q .ret l w) : QWD D n (Exit.inBlock i Q) .ret l w := h
theorem qwd_then_ret {D : List Deferred} {n : Nat} {K : Act → World → Prop} {Q : Exit → Act → World → Prop} {l : Sl} {w : World} (h : QWD D n Q .ret l w) : QWD D n (Exit.then K Q) .ret l w := h
section
variable {α : Type} {n : Nat} {Kp : Nat → Prop} {J Jx : (Nat → Prop) → List α → World → Prop} {A : Nat → Prop} {xs : List α} {W w : World} {l : Sl}
theorem qr_end (h1 : Keeps Kp W w) (h2 : J A xs w) : QW n (roundEnd Kp J Jx A xs W) .normal l w := by unfold QW; exact fun _ _ => ⟨h1, h2⟩
theorem qr_ret (h1 : Keeps Kp W w) (h2 : Jx A xs w) : QW n (roundEnd Kp J Jx A xs W) .ret l w := by unfold QW; exact fun _ _ => ⟨h1, h2⟩
theorem cr_meet {P : Program} {r : Option Nat} {Q : Exit → Act → World → Prop} {x y : Code} {ι : Type} (L : ι → Sl) (I : ι → World → Prop) (h : CR P n r x (Exit.then (fun a w => ∃ i, Env n (L i) a ∧ I i w) Q) l w) (k : ∀ i w, I i w → CR P n r y Q (L i) w) : CR P n r (.seq x y) Q l w := fun a ha =>
 wpIn_seq (wpIn_mono (h a ha) (fun e a w q => by
  cases e with
  | normal => obtain ⟨i, he, hi⟩ := q; exact k i w hi a he
  | _ => exact q))
end
section
variable {P : Program} {n : Nat} {r : Option Nat} {Q : Exit → Act → World → Prop} {l : Sl} {w : World} {c : Operand} {x y : Code}
theorem cr_dec {p : Prop} [Decidable p] (hc : ev l c = some (.bool (decide p))) (ht : p → CR P n r x Q l w) (hf : ¬ p → CR P n r y Q l w) : CR P n r (.cond c x y) Q l w := cr_cond hc (fun e => ht (of_decide_eq_true e)) (fun e => hf (of_decide_eq_false e))
theorem cr_yes {p : Prop} [Decidable p] (hc : ev l c = some (.bool (decide p))) (hp : p) (h : CR P n r x Q l w) : CR P n r (.cond c x y) Q l w := cr_dec hc (fun _ => h) (fun e => absurd hp e)
theorem cr_no {p : Prop} [Decidable p] (hc : ev l c = some (.bool (decide p))) (hp : ¬ p) (h : CR P n r y Q l w) : CR P n r (.cond c x y) Q l w := cr_dec hc (fun e => absurd e hp) (fun _ => h)
end
attribute [irreducible] CWD LWD QWD
end Bk
namespace Bk
open Go Go.RowKit Go.Proofs
attribute [local irreducible] Go.Calls
def Nd.isRef (s : List UInt8) (m : Nd) : Bool := decide (2 ≤ m.kind ∧ m.kind ≤ 5) && decide (m.name = s)
def Nd.ment (s : List UInt8) (t : Nd) : Bool := t.walk.any (Nd.isRef s)
theorem wrep2 {c : Nat} {W : World} {vs : List Value} {x : Nd} (h : WRep c W vs x) : ∃ u v, vs = [u, v] := by
 obtain ⟨pa, pn, pc, a, c, rfl, -⟩ := h
 exact ⟨_, _, rfl⟩
set_option maxRecDepth 100000 in
set_option maxHeartbeats 4000000 in
theorem mentions_c (t : Nd) (hz : t.size ≤ 1000000) (s : List UInt8) (S : Nat → Prop) (a : Option Addr) (c : Nat) (w : World) (hs : t.sits S w a) : Calls Tryz.prog 84 #[t.val a c, str s] w fun e w' => e = .returned (.bool (t.ment s)) ∧ Ext w w' := by
 have X := Ext.refl w; refine calls_inM (args := [_, _]) Tryz.func84 Tryz.ntmps84 rfl rfl ?_
 focus
  refine cS ?_; (refine lw_box' [_, _, _, _] rfl rfl rfl ?_; intro b1 w2 n3); have h4 := n3.blk; have x5 := n3.ext; have p6 := n3.pos; have z7 := n3.size; clear n3; replace hs := Nd.sits.ext hs x5; replace X := X.ext x5; clear x5; (refine lw_box' [_] rfl rfl rfl ?_; intro b8 w9 n10); have h11 := n10.blk; have x12 := n10.ext; have p13 := n10.pos; have z14 := n10.size; clear n10; replace h4 := h4.ext x12; replace hs := Nd.sits.ext hs x12; replace X := X.ext x12; clear x12; (refine lw_alloc' [_] zOk rfl rfl ?_; intro b15 w16 n17); have h19 := n17.blk; have x20 := n17.ext; have p21 := n17.pos; have z22 := n17.size; clear n17; replace h11 := h11.ext x20; replace h4 := h4.ext x20; replace hs := Nd.sits.ext hs x20; replace X := X.ext x20; clear x20; refine cT (cw_seq (cS (lw_loads_b' [_, _, _, _] tabOk rfl rfl rfl h4 rfl rfl rfl ?_))); refine cR (by kernel_rfl) rfl (Walk_c _ hz _ _ _ _ (by assumption)) (fun _ _ h => h.ret) rfl ?_; rintro _ w26 ⟨br23, ⟨⟨⟩, ⟨h24, x25⟩⟩⟩; have z27 := x25.size; replace h19 := h19.ext x25; replace h11 := h11.ext x25; replace h4 := h4.ext x25; replace hs := Nd.sits.ext hs x25; replace X := X.ext x25; clear x25; refine cT ?_; rotate_left 1
 refine cw_block ?_; obtain ⟨m, hm⟩ : ∃ m, m = w26.heap.size := ⟨_, rfl⟩; refine cw_range rfl rfl rfl (by kernel_rfl) h24 (fun _ _ _ _ h => wrep2 h) (fun k hk => hk.2)
  (fun A xs W => Blk W b8 [str s] ∧ Blk W b15 [.bool false] ∧ xs.any (Nd.isRef s) = false ∧ Ext w W)
  (fun A xs W => Blk W b15 [.bool true] ∧ xs.any (Nd.isRef s) = true ∧ Ext w W) ?_ ?_ ⟨h11, h19, rfl, X⟩ ?_ ?_ ?_
 · rintro A A' xs W W' ⟨h1, h2, h3, x⟩ hf hA - -
   exact ⟨h1.fr hf (fun e => by have := hA _ e; omega), h2.fr hf (fun e => by have := hA _ e; omega), h3, Ext.fr x hf (fun k hk => by have := hA _ hk; omega)⟩
 · rintro A A' xs W W' ⟨h1, h2, x⟩ hf hA - -
   exact ⟨h1.fr hf (fun e => by have := hA _ e; omega), h2, Ext.fr x hf (fun k hk => by have := hA _ hk; omega)⟩
 · rintro r A pre x u v W hA hA1 ⟨j1, j2, j3, x0⟩ ⟨pa, pn, pc, xa, xc, e, sx, -⟩ hpre
   simp only [List.cons.injEq, and_true] at e; obtain ⟨rfl, rfl⟩ := e; clear h24 h19 h11 h4 hs X; have hWz := hA _ hA1
   have hnx : (pre ++ [x]).any (Nd.isRef s) = x.isRef s := by rw [List.any_append, j3]; simp
   obtain ⟨k, n, sn, l⟩ := x; have X1 := Ext.refl W; refine cr_region rfl nl_assign ?_
   focus
    (refine lw_alloc' [_, _, _, _] zOk rfl rfl ?_; intro ba1 wa2 na3); (refine lw_init' [_, _, _, _] tabOk rfl rfl rfl rfl rfl rfl na3 rfl ?_; clear na3; clear wa2; intro wa4 na3); have ha5 := na3.blk; have xa6 := na3.ext; have pa7 := na3.pos; have za8 := na3.size; clear na3; replace j1 := j1.ext xa6; replace j2 := j2.ext xa6; replace x0 := x0.ext xa6; replace sx := Nd.sits.ext sx xa6; replace X1 := X1.ext xa6; clear xa6; refine lw_nil ?_; rotate_left 1
   refine qw_assign (Keeps.of_ext X1) fun W2 f2 => ?_
   replace ha5 := ha5.fr f2 (by omega); replace j1 := j1.fr f2 (by omega); replace j2 := j2.fr f2 (by omega); replace x0 := Ext.fr x0 f2 (fun k hk => by omega); have hz2 := f2.size
   have hA2 : ∀ k, A k → k < W2.heap.size := fun k hk => by have := hA k hk; omega
   have HA := Lib.hid hA; clear sx X1 f2 hA; simp only [Nd.kind, Nd.num, Nd.name, Nd.kids] at ha5
   focus
    refine cr_block (cr_seq (cr_region rfl (nl_then (nl_block nl_round)) (C1 Pg (C1 (Pl ha5) (lw_nil (qr_then ?_)))))); rotate_left 1
   refine cr_block ?_; refine cr_meet (ι := Unit) (fun _ => [(3, .pointer (some ⟨b8, 0, none⟩)), (4, .pointer (some ⟨b15, 0, none⟩)), (6, .pointer (some ⟨ba1, 0, none⟩)), (13, .bool (decide (2 ≤ k ∧ k ≤ 5)))]) (fun _ w' => w' = W2) ?_ ?_
   · focus
      refine cr_seq (cr_region rfl (nl_then (nl_then (nl_block (nl_block nl_round)))) (C1 V1 (C1 Pa (lw_nil (qr_then ?_))))); refine cr_dec rfl (fun cc1 => ?_) (fun cc1 => ?_); refine cr_skip ?_; rotate_left 1; refine cr_seq (cr_region rfl (nl_then (nl_then (nl_block (nl_block nl_round)))) (C1 V1 (C1 Pa (lw_nil (qr_then ?_))))); refine cr_dec rfl (fun cc2 => ?_) (fun cc2 => ?_); refine cr_skip ?_; rotate_left 1; refine cr_seq (cr_region rfl (nl_then (nl_then (nl_block (nl_block nl_round)))) (C1 V1 (C1 Pa (lw_nil (qr_then ?_))))); refine cr_dec rfl (fun cc3 => ?_) (fun cc3 => ?_); refine cr_skip ?_; rotate_left 1; refine cr_region rfl (nl_then (nl_block (nl_block nl_round))) (C1 V1 (C1 Pa (lw_nil ?_))); rotate_left 1
     all_goals exact qw_meet () (sub_cons rfl (sub_cons rfl (sub_cons rfl (sub_cons' rfl (congrArg Value.bool (decide_eq_decide.2 (by omega))) sub_nil)))) rfl
   · rintro - W3 h
     subst h; have X3 := Fr.refl (fun k => k = b15) W3
     have hb : ∀ k, A k ∨ (w16.heap.size ≤ k ∧ k < w26.heap.size) → ¬ k = b15 := fun k hk e => by
      rcases hk with hk | hk
      · have := HA.out k hk; omega
      · omega
     have hy := hnx
     unfold Nd.isRef at hy
     simp only [Nd.kind, Nd.name] at hy; clear hnx hpre
     focus
      refine cr_dec rfl (fun cd1 => ?_) (fun cd1 => ?_); refine cr_seq (cr_region rfl (nl_then (nl_block (nl_block nl_round))) (C1 Pf (C1 (Pl ha5) (C1 (Pl j1) (C1 V8 (lw_nil (qr_then ?_))))))); refine cr_dec rfl (fun cd2 => ?_) (fun cd2 => ?_); refine cr_seq (cr_region rfl (nl_then (nl_block (nl_block nl_round))) ?_); (refine lw_store' [_] [_] tabOk rfl rfl rfl rfl rfl rfl j2 rfl rfl ?_; intro wd3 nd4); have hd7 := nd4.blk; have fd5 := nd4.fr; have zd6 := nd4.size; clear nd4 j2; replace ha5 := ha5.fr fd5 (by omega); replace j1 := j1.fr fd5 (by omega); replace x0 := x0.fr fd5 (by omega); replace X3 := X3.fr fd5 (by omega); clear fd5; refine lw_nil (qr_then (cr_ret (qw_block_ret (qw_block_ret ?_)))); rotate_left 1; refine cr_skip (qw_block_norm (qw_block_norm ?_)); rotate_left 1; refine cr_skip (qw_block_norm (qw_block_norm ?_)); rotate_left 1
     · exact qr_ret (Keeps.of_fr X3 hb) ⟨by assumption, hy.trans (by simp [*]), by assumption⟩
     · exact qr_end (Keeps.of_fr X3 hb) ⟨by assumption, by assumption, hy.trans (by simp [*]), by assumption⟩
     · refine qr_end (Keeps.of_fr X3 hb) ⟨by assumption, by assumption, hy.trans ?_, by assumption⟩
       rw [Bool.and_eq_false_iff]
       exact Or.inl (decide_eq_false (by omega))
 · rintro A W hA ⟨j1, j2, j3, x0⟩ - hk
   refine qwd_block (qwd_then (cwd_seq (cwd_region (lwd_store tabOk rfl rfl rfl rfl rfl j2 (fun w1 hb hf => lwd_nil (qwd_then (cwd_ret ?_))))))); refine qwd_retc ?_ rfl tabOk rfl rfl rfl hb (fun w2 hf2 => ⟨by rw [Nd.ment, j3], Ext.fr (Ext.fr x0 hf (fun k e => by omega)) hf2 (fun k e => by omega)⟩); rw [hf.block _ (Array.getElem?_eq_some_iff.1 hk).1 (by omega)]
   exact hk
 · rintro A pre W hA hpre ⟨j1, j2, x0⟩ - hk
   refine qwd_block_ret (qwd_then_ret (qwd_retc hk rfl tabOk rfl rfl rfl j1 (fun w2 hf2 => ⟨?_, Ext.fr x0 hf2 (fun k e => by omega)⟩))); obtain ⟨q, hq⟩ := hpre
   rw [Nd.ment, ← hq, List.any_append, j2]; rfl
end Bk
namespace Bk
open Go Go.RowKit Go.Proofs
attribute [local irreducible] Go.Calls
def w64 (x : Int) : Int := IntKind.i64.wrap x
def bitV (op : BinOp) (x y : Int) : Int := match op with
 | .and => w64 (BitVec.ofInt 64 x &&& BitVec.ofInt 64 y).toNat
 | .or => w64 (BitVec.ofInt 64 x ||| BitVec.ofInt 64 y).toNat
 | _ => w64 (BitVec.ofInt 64 x ^^^ BitVec.ofInt 64 y).toNat
section
variable {P : Program} {n : Nat} {l : Sl} {S : World → Prop} {ty : TypeId} {x y : Operand} {t t' : Nat} {a b : Int}
theorem pur_and (hx : ev l x = some (.int .i64 a)) (hy : ev l y = some (.int .i64 b)) : Pur P n l S (.binOp .and t x y t') ty (.int .i64 (bitV .and a b)) := by
 unfold Pur
 intro d w dst pos after g ha _; simp only [execOp, ha.ev hx, ha.ev hy, Sem.run_bind, run_guard_int, Result.andThen, binOp, Op.intBits]
 rfl
theorem pur_or (hx : ev l x = some (.int .i64 a)) (hy : ev l y = some (.int .i64 b)) : Pur P n l S (.binOp .or t x y t') ty (.int .i64 (bitV .or a b)) := by
 unfold Pur
 intro d w dst pos after g ha _; simp only [execOp, ha.ev hx, ha.ev hy, Sem.run_bind, run_guard_int, Result.andThen, binOp, Op.intBits]
 rfl
theorem pur_xor (hx : ev l x = some (.int .i64 a)) (hy : ev l y = some (.int .i64 b)) : Pur P n l S (.binOp .xor t x y t') ty (.int .i64 (bitV .xor a b)) := by
 unfold Pur
 intro d w dst pos after g ha _; simp only [execOp, ha.ev hx, ha.ev hy, Sem.run_bind, run_guard_int, Result.andThen, binOp, Op.intBits]
 rfl
theorem pur_addW (hx : ev l x = some (.int .i64 a)) (hy : ev l y = some (.int .i64 b)) : Pur P n l S (.binOp .add t x y t') ty (.int .i64 (w64 (a + b))) := pur_add hx hy rfl
theorem pur_subW (hx : ev l x = some (.int .i64 a)) (hy : ev l y = some (.int .i64 b)) : Pur P n l S (.binOp .sub t x y t') ty (.int .i64 (w64 (a - b))) := pur_sub hx hy rfl
theorem pur_mulW (hx : ev l x = some (.int .i64 a)) (hy : ev l y = some (.int .i64 b)) : Pur P n l S (.binOp .mul t x y t') ty (.int .i64 (w64 (a * b))) := pur_mul hx hy rfl
theorem pur_quoW (hx : ev l x = some (.int .i64 a)) (hy : ev l y = some (.int .i64 b)) (hb : b ≠ 0) : Pur P n l S (.binOp .quo t x y t') ty (.int .i64 (w64 (a.tdiv b))) := pur_quo hx hy hb rfl
theorem pur_remW (hx : ev l x = some (.int .i64 a)) (hy : ev l y = some (.int .i64 b)) (hb : b ≠ 0) : Pur P n l S (.binOp .rem t x y t') ty (.int .i64 (a.tmod b)) := pur_rem hx hy hb rfl
theorem pur_negW (hx : ev l x = some (.int .i64 a)) : Pur P n l S (.unOp .neg t x) ty (.int .i64 (w64 (0 - a))) := by
 unfold Pur
 intro d w dst pos after g ha _
 simp [execOp, ha.ev hx, Op.unary, Op.intArith, w64]
end
def n01 (b : Bool) : Int := if b then 1 else 0
def divV (k x y : Int) : Int × Int := if y = 0 then (0, 11) else if k = 11 then (w64 (x.tdiv y), 0) else (x.tmod y, 0)
def applyV (k x y : Int) : Int × Int :=
 if k = 8 then (w64 (x + y), 0) else if k = 9 then (w64 (x - y), 0) else if k = 10 then (w64 (x * y), 0) else if k = 11 ∨ k = 12 then divV k x y
 else if k = 13 then (bitV .and x y, 0) else if k = 14 then (bitV .or x y, 0) else if k = 15 then (bitV .xor x y, 0)
 else if k = 16 then (n01 (decide (x = y)), 0) else if k = 17 then (n01 (decide (x ≠ y)), 0) else if k = 18 then (n01 (decide (x < y)), 0)
 else if k = 19 then (n01 (decide (x ≤ y)), 0) else if k = 20 then (n01 (decide (y < x)), 0) else if k = 21 then (n01 (decide (y ≤ x)), 0)
 else if k = 22 then (n01 (decide (x ≠ 0 ∧ y ≠ 0)), 0) else if k = 23 then (n01 (decide (x ≠ 0 ∨ y ≠ 0)), 0) else (0, 7)
def unaryV (k x : Int) : Int × Int := if k = 6 then (w64 (0 - x), 0) else if k = 7 then (n01 (decide (x = 0)), 0) else (0, 7)
set_option maxRecDepth 100000 in
set_option maxHeartbeats 4000000 in
theorem anumber_c (b : Bool) (w : World) : Calls Tryz.prog 121 #[.bool b] w fun e w' => e = .returned (.int .i64 (n01 b)) ∧ w = w' := by
 cases b
 · refine calls_in Tryz.func121 Tryz.ntmps121 rfl rfl ?_
   focus
    refine cS (C1 Pa (cT (cw_seq (cS (C1 Mv (cT (cw_cond_f rfl (cw_skip (qw_then (cS (C1 Pa ?_))))))))))); refine cT (cw_ret (qw_ret1 rfl rfl ?_)); rotate_left 1
   exact ⟨rfl, rfl⟩
 · refine calls_in Tryz.func121 Tryz.ntmps121 rfl rfl ?_
   focus
    refine cS (C1 Pa (cT (cw_seq (cS (C1 Mv (cT (cw_cond_t rfl (cS (C1 Pa (cT (cw_ret ?_))))))))))); refine qw_then_ret (qw_ret1 rfl rfl ?_); rotate_left 1
   exact ⟨rfl, rfl⟩
set_option maxRecDepth 100000 in
set_option maxHeartbeats 4000000 in
theorem divide_c (k x y : Int) (w : World) : Calls Tryz.prog 122 #[.int .u8 k, .int .i64 x, .int .i64 y] w fun e w' => e = .returned (.tuple #[.int .i64 (divV k x y).1, .int .i64 (divV k x y).2]) ∧ w = w' := by
 refine calls_in Tryz.func122 Tryz.ntmps122 rfl rfl ?_
 focus
  refine cS (C1 Pa (C1 Pa (cT (cw_seq (cw_block (cS (C1 Mv (C1 V1 (C1 Pa (cT ?_)))))))))); refine cw_dec rfl (fun c1 => ?_) (fun c1 => ?_); refine cS (C1 Pa (C1 Pa (cT (cw_ret (qw_block_ret (qw_then_ret (qw_ret2 rfl rfl rfl ?_))))))); rotate_left 1; refine cS (C1 Mv (C1 V1 (C1 Pa (cT ?_)))); refine cw_dec rfl (fun c2 => ?_) (fun c2 => ?_); refine cS (C1 Mv (C1 Mv ?_)); refine C1 (pur_quoW rfl rfl (by assumption)) ?_; refine C1 Pa (C1 Pa (cT (cw_ret (qw_block_ret (qw_then_ret (qw_ret2 rfl rfl rfl ?_)))))); rotate_left 1; refine cw_skip (qw_block_norm (qw_then (cS (C1 Mv (C1 Mv ?_))))); refine C1 (pur_remW rfl rfl (by assumption)) ?_; refine C1 Pa (C1 Pa (cT (cw_ret (qw_ret2 rfl rfl rfl ?_)))); rotate_left 1
 all_goals (refine ⟨?_, rfl⟩; unfold divV; simp [*])
set_option maxRecDepth 100000 in
set_option maxHeartbeats 4000000 in
theorem Unary_c (k x : Int) (w : World) : Calls Tryz.prog 118 #[.int .u8 k, .int .i64 x] w fun e w' => e = .returned (.tuple #[.int .i64 (unaryV k x).1, .int .i64 (unaryV k x).2]) ∧ w = w' := by
 refine calls_in Tryz.func118 Tryz.ntmps118 rfl rfl ?_
 focus
  refine cS (C1 Pa (C1 Pa (cT (cw_seq (cS (C1 Mv (cT (cw_block (cS (C1 V1 (C1 Pa ?_))))))))))); refine cT ?_; refine cw_dec rfl (fun c1 => ?_) (fun c1 => ?_); refine cS (C1 Mv (C1 (pur_negW rfl) (C1 Pa (C1 Pa (cT (cw_ret (qw_block_ret (qw_then_ret (qw_ret2 rfl rfl rfl ?_))))))))); rotate_left 1; refine cS (C1 V1 (C1 Pa (cT ?_))); refine cw_dec rfl (fun c2 => ?_) (fun c2 => ?_); refine cS (C1 Mv (C1 V1 (cC rfl (anumber_c _ _) ?_))); rintro _ w3 ⟨⟨⟩, rfl⟩; refine C1 Pa (C1 Pa (cT (cw_ret (qw_block_ret (qw_then_ret (qw_ret2 rfl rfl rfl ?_)))))); rotate_left 1; refine cw_skip (qw_block_norm (qw_then (cS (C1 Pa (C1 Pa (cT (cw_ret (qw_ret2 rfl rfl rfl ?_)))))))); rotate_left 1
 all_goals (refine ⟨?_, rfl⟩; unfold unaryV; simp [*])
set_option maxRecDepth 100000 in
set_option maxHeartbeats 8000000 in
theorem Apply_c (k x y : Int) (w : World) : Calls Tryz.prog 119 #[.int .u8 k, .int .i64 x, .int .i64 y] w fun e w' => e = .returned (.tuple #[.int .i64 (applyV k x y).1, .int .i64 (applyV k x y).2]) ∧ w = w' := by
 refine calls_in Tryz.func119 Tryz.ntmps119 rfl rfl ?_
 focus
  refine cS (C1 Pa (C1 Pa (cT (cw_seq (cS (C1 Mv (cT (cw_block (cS (C1 V1 (C1 Pa ?_))))))))))); refine cT ?_; refine cw_dec rfl (fun c1 => ?_) (fun c1 => ?_); refine cS (C1 Mv (C1 Mv (C1 (pur_addW rfl rfl) (C1 Pa (C1 Pa (cT (cw_ret (qw_block_ret (qw_then_ret (qw_ret2 rfl rfl rfl ?_)))))))))); rotate_left 1; refine cS (C1 V1 (C1 Pa (cT ?_))); refine cw_dec rfl (fun c2 => ?_) (fun c2 => ?_); refine cS (C1 Mv (C1 Mv (C1 (pur_subW rfl rfl) (C1 Pa (C1 Pa (cT (cw_ret (qw_block_ret (qw_then_ret (qw_ret2 rfl rfl rfl ?_)))))))))); rotate_left 1; refine cS (C1 V1 (C1 Pa (cT ?_))); refine cw_dec rfl (fun c3 => ?_) (fun c3 => ?_); refine cS (C1 Mv (C1 Mv (C1 (pur_mulW rfl rfl) (C1 Pa (C1 Pa (cT (cw_ret (qw_block_ret (qw_then_ret (qw_ret2 rfl rfl rfl ?_)))))))))); rotate_left 1; refine cw_seq (cS (C1 V1 (C1 Pa (cT ?_)))); refine cw_dec rfl (fun c4 => ?_) (fun c4 => ?_); refine cw_skip (qw_then (Wya (cS (C1 Mv (C1 Mv (C1 Mv (cC rfl (divide_c _ _ _ _) ?_))))))); rintro _ w5 ⟨⟨⟩, rfl⟩; refine C1 Px (C1 Px (C1 Pa (C1 Pa (cT (cw_ret (qw_block_ret (qw_then_ret (qw_ret2 rfl rfl rfl ?_)))))))); rotate_left 1; refine cw_region (C1 V1 (C1 Pa (cT ?_))); refine cw_dec rfl (fun c6 => ?_) (fun c6 => ?_); refine cS (C1 Mv (C1 Mv (C1 Mv (cC rfl (divide_c _ _ _ _) ?_)))); rintro _ w7 ⟨⟨⟩, rfl⟩; refine C1 Px (C1 Px (C1 Pa (C1 Pa (cT (cw_ret (qw_block_ret (qw_then_ret (qw_ret2 rfl rfl rfl ?_)))))))); rotate_left 1; refine cS (C1 V1 (C1 Pa (cT ?_))); refine cw_dec rfl (fun c8 => ?_) (fun c8 => ?_); refine cS (C1 Mv (C1 Mv (C1 (pur_and rfl rfl) (C1 Pa (C1 Pa (cT (cw_ret (qw_block_ret (qw_then_ret (qw_ret2 rfl rfl rfl ?_))))))))))
  rotate_left 1; refine cS (C1 V1 (C1 Pa (cT ?_))); refine cw_dec rfl (fun c9 => ?_) (fun c9 => ?_); refine cS (C1 Mv (C1 Mv (C1 (pur_or rfl rfl) (C1 Pa (C1 Pa (cT (cw_ret (qw_block_ret (qw_then_ret (qw_ret2 rfl rfl rfl ?_)))))))))); rotate_left 1; refine cS (C1 V1 (C1 Pa (cT ?_))); refine cw_dec rfl (fun c10 => ?_) (fun c10 => ?_); refine cS (C1 Mv (C1 Mv (C1 (pur_xor rfl rfl) (C1 Pa (C1 Pa (cT (cw_ret (qw_block_ret (qw_then_ret (qw_ret2 rfl rfl rfl ?_)))))))))); rotate_left 1; refine cS (C1 V1 (C1 Pa (cT ?_))); refine cw_dec rfl (fun c11 => ?_) (fun c11 => ?_); refine cS (C1 Mv (C1 Mv (C1 V1 (cC rfl (anumber_c _ _) ?_)))); rintro _ w12 ⟨⟨⟩, rfl⟩; refine C1 Pa (C1 Pa (cT (cw_ret (qw_block_ret (qw_then_ret (qw_ret2 rfl rfl rfl ?_)))))); rotate_left 1; refine cS (C1 V1 (C1 Pa (cT ?_))); refine cw_dec rfl (fun c13 => ?_) (fun c13 => ?_); refine cS (C1 Mv (C1 Mv (C1 V2 (cC rfl (anumber_c _ _) ?_)))); rintro _ w14 ⟨⟨⟩, rfl⟩; refine C1 Pa (C1 Pa (cT (cw_ret (qw_block_ret (qw_then_ret (qw_ret2 rfl rfl rfl ?_)))))); rotate_left 1; refine cS (C1 V1 (C1 Pa (cT ?_))); refine cw_dec rfl (fun c15 => ?_) (fun c15 => ?_); refine cS (C1 Mv (C1 Mv (C1 V3 (cC rfl (anumber_c _ _) ?_)))); rintro _ w16 ⟨⟨⟩, rfl⟩; refine C1 Pa (C1 Pa (cT (cw_ret (qw_block_ret (qw_then_ret (qw_ret2 rfl rfl rfl ?_)))))); rotate_left 1; refine cS (C1 V1 (C1 Pa (cT ?_))); refine cw_dec rfl (fun c17 => ?_) (fun c17 => ?_); refine cS (C1 Mv (C1 Mv (C1 V4 (cC rfl (anumber_c _ _) ?_)))); rintro _ w18 ⟨⟨⟩, rfl⟩; refine C1 Pa (C1 Pa (cT (cw_ret (qw_block_ret (qw_then_ret (qw_ret2 rfl rfl rfl ?_))))))
  rotate_left 1; refine cS (C1 V1 (C1 Pa (cT ?_))); refine cw_dec rfl (fun c19 => ?_) (fun c19 => ?_); refine cS (C1 Mv (C1 Mv (C1 V5 (cC rfl (anumber_c _ _) ?_)))); rintro _ w20 ⟨⟨⟩, rfl⟩; refine C1 Pa (C1 Pa (cT (cw_ret (qw_block_ret (qw_then_ret (qw_ret2 rfl rfl rfl ?_)))))); rotate_left 1; refine cS (C1 V1 (C1 Pa (cT ?_))); refine cw_dec rfl (fun c21 => ?_) (fun c21 => ?_); refine cS (C1 Mv (C1 Mv (C1 V6 (cC rfl (anumber_c _ _) ?_)))); rintro _ w22 ⟨⟨⟩, rfl⟩; refine C1 Pa (C1 Pa (cT (cw_ret (qw_block_ret (qw_then_ret (qw_ret2 rfl rfl rfl ?_)))))); rotate_left 1; refine cS (C1 V1 (C1 Pa (cT ?_))); refine cw_dec rfl (fun c23 => ?_) (fun c23 => ?_); refine cS (C1 Mv (C1 V2 (C1 Mv ?_))); refine lw_dec rfl rfl rfl (fun c24 => ?_) (fun c24 => ?_); refine Gya (C1 Mv (Gya (C1 V2 (C1 Qya (cC rfl (anumber_c _ _) ?_))))); rintro _ w25 ⟨⟨⟩, rfl⟩; refine C1 Pa (C1 Pa (cT (cw_ret (qw_block_ret (qw_then_ret (qw_ret2 rfl rfl rfl ?_)))))); rotate_left 1; refine Ona (Ona (C1 Qna (cC rfl (anumber_c _ _) ?_))); rintro _ w26 ⟨⟨⟩, rfl⟩; refine C1 Pa (C1 Pa (cT (cw_ret (qw_block_ret (qw_then_ret (qw_ret2 rfl rfl rfl ?_)))))); rotate_left 1; refine cS (C1 V1 (C1 Pa (cT ?_))); refine cw_dec rfl (fun c27 => ?_) (fun c27 => ?_); refine cS (C1 Mv (C1 V2 (C1 Mv ?_))); refine lw_dec rfl rfl rfl (fun c28 => ?_) (fun c28 => ?_); refine Oya (Oya (C1 Qya (cC rfl (anumber_c _ _) ?_))); rintro _ w29 ⟨⟨⟩, rfl⟩; refine C1 Pa (C1 Pa (cT (cw_ret (qw_block_ret (qw_then_ret (qw_ret2 rfl rfl rfl ?_)))))); rotate_left 1
  refine Gna (C1 Mv (Gna (C1 V2 (C1 Qna (cC rfl (anumber_c _ _) ?_))))); rintro _ w30 ⟨⟨⟩, rfl⟩; refine C1 Pa (C1 Pa (cT (cw_ret (qw_block_ret (qw_then_ret (qw_ret2 rfl rfl rfl ?_)))))); rotate_left 1; refine cw_skip (qw_block_norm (qw_then (cS (C1 Pa (C1 Pa (cT (cw_ret (qw_ret2 rfl rfl rfl ?_)))))))); rotate_left 1
 all_goals (refine ⟨?_, rfl⟩; unfold applyV; simp [*])
end Bk
namespace Bk
open Go Go.RowKit Go.Proofs
attribute [local irreducible] Go.Calls
def anyShape (k : Nat) : Shape Unit where
 sz := k
 rep _ _ _ cs := cs.length = k ∧ cs.all Value.one = true
 len h := h.1
 one h := h.2
 mono h _ _ := h
 lt h := h
def foldShape : Shape (Int × Bool) where
 sz := 6
 rep _ _ x cs := ∃ (k n : Int) (s : List UInt8) (a : Option Addr) (m c : Nat), cs = [.int .u8 k, .int .i64 n, str s, .slice a m c, .int .i64 x.1, .bool x.2]
 len h := by obtain ⟨_, _, _, _, _, _, rfl⟩ := h; rfl
 one h := by obtain ⟨_, _, _, _, _, _, rfl⟩ := h; rfl
 mono h _ _ := h
 lt h := h
def NodeR (w : World) : Ending → World → Prop := fun e w' => ∃ (k n : Int) (s : List UInt8) (a : Option Addr) (m c : Nat), e = .returned (.agg #[.int .u8 k, .int .i64 n, str s, .slice a m c]) ∧ Ext w w'
theorem NodeR.ret {w : World} {e : Ending} {w' : World} (h : NodeR w e w') : ∃ v, e = .returned v := by
 obtain ⟨_, _, _, _, _, _, h, -⟩ := h
 exact ⟨_, h⟩
set_option maxRecDepth 100000 in
set_option maxHeartbeats 4000000 in
theorem literal_p (v : Int) (w : World) (h : 0 ≤ v) : Calls Tryz.prog 113 #[.int .i64 v] w (NodeR w) := by
 have X := Ext.refl w; refine calls_in Tryz.func113 Tryz.ntmps113 rfl rfl ?_
 focus
  refine cS ?_; (refine lw_alloc' [_, _, _, _] zOk rfl rfl ?_; intro b1 w2 n3); have h5 := n3.blk; have x6 := n3.ext; have p7 := n3.pos; have z8 := n3.size; clear n3; replace X := X.ext x6; clear x6; refine cT (cw_seq (cw_block (cS (C1 Mv (C1 V6 (C1 Pa (cT (Wya (cS (C1 Mv (C1 (pur_build' [_, _, _, _] tabOk zOk rfl rfl rfl rfl) ?_))))))))))); (refine lw_store' [_, _, _, _] [_, _, _, _] tabOk rfl rfl rfl rfl rfl rfl h5 rfl rfl ?_; intro w9 n10); have h13 := n10.blk; have f11 := n10.fr; have z12 := n10.size; clear n10 h5; replace X := X.fr f11 (by omega); clear f11; refine cT (cw_ret (qw_block_ret (qw_then_ret (qw_retc rfl tabOk rfl rfl rfl h13 rfl ?_)))); rotate_left 1
 exact ⟨_, _, [], _, _, _, rfl, X⟩
set_option maxRecDepth 100000 in
set_option maxHeartbeats 4000000 in
theorem literal_c (v : Int) (w : World) (h : -9223372036854775808 ≤ v) : Calls Tryz.prog 113 #[.int .i64 v] w (NodeR w) := by
 by_cases h0 : 0 ≤ v
 · exact literal_p v w h0
 by_cases h1 : v = -9223372036854775808
 · subst h1
   have X := Ext.refl w; refine calls_in Tryz.func113 Tryz.ntmps113 rfl rfl ?_
   focus
    refine cS ?_; (refine lw_alloc' [_, _, _, _] zOk rfl rfl ?_; intro b1 w2 n3); have h5 := n3.blk; have x6 := n3.ext; have p7 := n3.pos; have z8 := n3.size; clear n3; replace X := X.ext x6; clear x6; refine cT (cw_seq (cw_block (cS (C1 Mv (C1 V6 (C1 Pa (cT (Wna (cS (C1 Mv (C1 V1 ?_))))))))))); refine C1 Pa (cT (Wyd (cS ?_))); refine cR (by kernel_rfl) rfl (literal_p _ _ (by omega)) (fun _ _ h => h.ret) rfl ?_; rintro _ w16 ⟨k9, ⟨n10, ⟨s11, ⟨a12, ⟨m13, ⟨c14, ⟨⟨⟩, x15⟩⟩⟩⟩⟩⟩⟩; have z17 := x15.size; replace h5 := h5.ext x15; replace X := X.ext x15; clear x15; refine cR (by kernel_rfl) rfl (literal_p _ _ (by omega)) (fun _ _ h => h.ret) rfl ?_; rintro _ w25 ⟨k18, ⟨n19, ⟨s20, ⟨a21, ⟨m22, ⟨c23, ⟨⟨⟩, x24⟩⟩⟩⟩⟩⟩⟩; have z26 := x24.size; replace h5 := h5.ext x24; replace X := X.ext x24; clear x24; (refine lw_does (does_slice' [_, _, _, _, _, _, _, _] tabOk zOk rfl rfl rfl rfl rfl rfl rfl rfl rfl) rfl ?_ (fun _ h => h); rintro _ w28 ⟨b27, rfl, n29, t30⟩); clear t30; have h31 := n29.blk; have x32 := n29.ext; have p33 := n29.pos; have z34 := n29.size; clear n29; replace h5 := h5.ext x32; replace X := X.ext x32; clear x32; refine C1 (pur_build' [_, _, _, _] tabOk zOk rfl rfl rfl rfl) ?_; (refine lw_store' [_, _, _, _] [_, _, _, _] tabOk rfl rfl rfl rfl rfl rfl h5 rfl rfl ?_; intro w35 n36); have h39 := n36.blk; have f37 := n36.fr; have z38 := n36.size; clear n36 h5; replace h31 := h31.fr f37 (by omega); replace X := X.fr f37 (by omega); clear f37; refine cT (cw_ret (qw_block_ret (qw_then_ret (qw_retc rfl tabOk rfl rfl rfl h39 rfl ?_))))
    rotate_left 1
   exact ⟨_, _, [], _, _, _, rfl, X⟩
 · have X := Ext.refl w
   have hw : 0 ≤ w64 (0 - v) := by
    have : w64 (0 - v) = 0 - v := by unfold w64; rw [IntKind.wrap]; simp [IntKind.signed, IntKind.bits]; omega
    omega
   refine calls_in Tryz.func113 Tryz.ntmps113 rfl rfl ?_
   focus
    refine cS ?_; (refine lw_alloc' [_, _, _, _] zOk rfl rfl ?_; intro ba1 wa2 na3); have ha5 := na3.blk; have xa6 := na3.ext; have pa7 := na3.pos; have za8 := na3.size; clear na3; replace X := X.ext xa6; clear xa6; refine cT (cw_seq (cw_block (cS (C1 Mv (C1 V6 (C1 Pa (cT (Wna (cS (C1 Mv (C1 V1 ?_))))))))))); refine C1 Pa (cT (Wna (cw_skip (qw_block_norm (qw_then (cS (C1 Mv (C1 (pur_negW rfl) ?_)))))))); refine cR (by kernel_rfl) rfl (literal_p _ _ hw) (fun _ _ h => h.ret) rfl ?_; rintro _ wa16 ⟨ka9, ⟨na10, ⟨sa11, ⟨aa12, ⟨ma13, ⟨ca14, ⟨⟨⟩, xa15⟩⟩⟩⟩⟩⟩⟩; have za17 := xa15.size; replace ha5 := ha5.ext xa15; replace X := X.ext xa15; clear xa15; (refine lw_does (does_slice' [_, _, _, _] tabOk zOk rfl rfl rfl rfl rfl rfl rfl rfl rfl) rfl ?_ (fun _ h => h); rintro _ wa19 ⟨ba18, rfl, na20, ta21⟩); clear ta21; have ha22 := na20.blk; have xa23 := na20.ext; have pa24 := na20.pos; have za25 := na20.size; clear na20; replace ha5 := ha5.ext xa23; replace X := X.ext xa23; clear xa23; refine C1 (pur_build' [_, _, _, _] tabOk zOk rfl rfl rfl rfl) ?_; (refine lw_store' [_, _, _, _] [_, _, _, _] tabOk rfl rfl rfl rfl rfl rfl ha5 rfl rfl ?_; intro wa26 na27); have ha30 := na27.blk; have fa28 := na27.fr; have za29 := na27.size; clear na27 ha5; replace ha22 := ha22.fr fa28 (by omega); replace X := X.fr fa28 (by omega); clear fa28; refine cT (cw_ret (qw_retc rfl tabOk rfl rfl rfl ha30 rfl ?_)); rotate_left 1
   exact ⟨_, _, [], _, _, _, rfl, X⟩
end Bk
namespace Bk
open Go Go.RowKit Go.Proofs
attribute [local irreducible] Go.Calls
def cvalue (k n : Int) (kids : List (Int × Bool)) : Int × Bool :=
 if kids.all (·.2) = true then
  if k = 1 then (n, true) else if k = 2 ∨ k = 3 ∨ k = 4 ∨ k = 5 then (0, false)
  else if k = 6 ∨ k = 7 then ((unaryV k (kids.getD 0 (0, false)).1).1, decide ((unaryV k (kids.getD 0 (0, false)).1).2 = 0))
  else ((applyV k (kids.getD 0 (0, false)).1 (kids.getD 1 (0, false)).1).1, decide ((applyV k (kids.getD 0 (0, false)).1 (kids.getD 1 (0, false)).1).2 = 0))
 else (0, false)
def keepV (x : Int × Bool) : Int × Bool := if x.2 = true then x else (0, false)
mutual
def Nd.cval : Nd → Int × Bool
 | .mk k n _ l => keepV (cvalue k n (rowCval l))
def rowCval : List Nd → List (Int × Bool)
 | [] => []
 | t :: r => t.cval :: rowCval r
end
theorem rowCval_map : ∀ l : List Nd, rowCval l = l.map Nd.cval
 | [] => rfl
 | t :: r => by rw [rowCval, rowCval_map r, List.map_cons]
def FoldR (t : Nd) (w : World) : Ending → World → Prop := fun e w' => ∃ (k n : Int) (s : List UInt8) (a : Option Addr) (m c : Nat), e = .returned (.agg #[.int .u8 k, .int .i64 n, str s, .slice a m c, .int .i64 t.cval.1, .bool t.cval.2]) ∧ Ext w w'
theorem FoldR.ret {t : Nd} {w : World} {e : Ending} {w' : World} (h : FoldR t w e w') : ∃ v, e = .returned v := by
 obtain ⟨_, _, _, _, _, _, h, -⟩ := h
 exact ⟨_, h⟩
def EachR {α : Type} (sh : Shape α) (e : Nat) (xs : List α) (w : World) : Ending → World → Prop := fun r w' => ∃ a c, r = .returned (.slice a xs.length c) ∧ OwnQ sh w' (fun _ => False) w.heap.size e (.slice a xs.length c) xs ∧ Ext w w'
theorem EachR.ret {α : Type} {sh : Shape α} {e : Nat} {xs : List α} {w : World} {r : Ending} {w' : World} (h : EachR sh e xs w r w') : ∃ v, r = .returned v := by
 obtain ⟨_, _, h, -⟩ := h
 exact ⟨_, h⟩
set_option maxRecDepth 100000 in
set_option maxHeartbeats 4000000 in
theorem eachF_c (l : List Nd) (hl : l.length ≤ 1000000) (S : Nat → Prop) (a : Option Addr) (c : Nat) (w : World) (hs : rowSits S w l a)
 (hC : ∀ x ∈ l, ∀ (S : Nat → Prop) (a : Option Addr) (c : Nat) (w : World), x.sits S w a → Calls Tryz.prog 108 #[x.val a c] w (FoldR x w)) :
 Calls Tryz.prog 111 #[.slice a l.length c, .func (.func 108) #[] #[]] w (EachR foldShape 133 (l.map Nd.cval) w) := by
 have HC := Lib.hid hC; clear hC
 replace hs := rowSits_ltA _ _ hs; have X := Ext.refl w; refine calls_in Tryz.func111 Tryz.ntmps111 rfl rfl ?_
 focus
  refine cS (C1 Pa (cN (C1 Pa (cT (cw_seq (cS (C1 Mv (C1 Pz (C1 Mv (cT ?_)))))))))); rotate_left 1
 refine cw_block ?_; refine cw_loop (ι := Nat × Option Addr × Nat) (fun x => [(1, .func (.func 108) #[] #[]), (5, .slice x.2.1 ((l.take x.1).map Nd.cval).length x.2.2), (8, .slice a l.length c), (9, .int .i64 l.length), (10, .int .i64 x.1)])
  (fun x w' => OwnQ foldShape w' (fun _ => False) w.heap.size 133 (.slice x.2.1 ((l.take x.1).map Nd.cval).length x.2.2) ((l.take x.1).map Nd.cval) ∧ x.1 ≤ l.length ∧ rowSits (· < w.heap.size) w' l a ∧ Ext w w')
  (fun x => l.length - x.1) (0, none, 0) (by (refine sub_cons rfl ?_; refine sub_cons rfl ?_; refine sub_cons rfl ?_; refine sub_cons rfl ?_; refine sub_cons rfl ?_; exact sub_nil)) ⟨OwnQ.nil, Nat.zero_le _, hs, X⟩ ?_
 clear hs X; rintro ⟨j, ra, rc⟩ w1 ⟨hown, hj, hs, X⟩; simp only at hown hj hs X
 have hob : ∀ g, (Value.slice ra ((l.take j).map Nd.cval).length rc).ownBlock = some g → w.heap.size ≤ g ∧ g < w1.heap.size := fun g h => ⟨hown.ge h, hown.lt h⟩
 have hsz := X.size
 by_cases hlt : j < l.length
 · obtain ⟨kb, ko, rfl, kS, hkid⟩ := kidRows hs (by intro e; subst e; simp at hlt)
   obtain ⟨xa, xc, rx, sx⟩ := hkid j l[j] (List.getElem?_eq_getElem hlt); have HX := Lib.hid (HC.out l[j] (List.getElem_mem hlt))
   have hnext : (l.take j).map Nd.cval ++ [l[j].cval] = (l.take (j + 1)).map Nd.cval := by rw [List.take_succ_eq_append_getElem hlt, List.map_append]; rfl
   have hml : ((l.take j).map Nd.cval).length ≤ 1000000 := by simp; omega
   clear hkid HC
   generalize l[j] = x at *
   focus
    refine cS (C1 V3 (cT (cw_seq (Wyo (cw_skip (qw_then (cw_seq (cw_block (cS (C1 Pi (C1 (Pws rx) ?_))))))))))); (refine lw_alloc' [_, _, _, _] zOk rfl rfl ?_; intro ba1 wa2 na3); (refine lw_init' [_, _, _, _] tabOk rfl rfl rfl rfl rfl rfl na3 rfl ?_; clear na3; clear wa2; intro wa4 na3); have ha5 := na3.blk; have xa6 := na3.ext; have pa7 := na3.pos; have za8 := na3.size; clear na3; replace hown := hown.ext xa6; replace X := X.ext xa6; replace hs := Bk.rowSits.ext hs xa6; replace rx := rx.ext xa6; replace sx := Nd.sits.ext sx xa6; clear xa6; refine cT (cw_region (C1 Mv (C1 Mv (lw_loads_b' [_, _, _, _] tabOk rfl rfl rfl ha5 rfl rfl rfl ?_)))); refine lw_does (does_callv (fi := []) (ca := []) (by kernel_rfl) rfl rfl (HX.out _ _ _ _ (by assumption)) (fun _ _ h => h.ret)) rfl ?_ (fun _ h => h); rintro _ wa16 ⟨ka9, ⟨na10, ⟨sa11, ⟨aa12, ⟨ma13, ⟨ca14, ⟨⟨⟩, xa15⟩⟩⟩⟩⟩⟩⟩; have za17 := xa15.size; replace ha5 := ha5.ext xa15; replace hown := hown.ext xa15; replace X := X.ext xa15; replace hs := Bk.rowSits.ext hs xa15; replace rx := rx.ext xa15; replace sx := Nd.sits.ext sx xa15; clear xa15; (refine lw_does (does_slice' [_, _, _, _, _, _] tabOk zOk rfl rfl rfl rfl rfl rfl rfl rfl rfl) rfl ?_ (fun _ h => h); rintro _ wa19 ⟨ba18, rfl, na20, ta21⟩); clear ta21; have ha22 := na20.blk; have xa23 := na20.ext; have pa24 := na20.pos; have za25 := na20.size; clear na20; replace ha5 := ha5.ext xa23; replace hown := hown.ext xa23; replace X := X.ext xa23; replace hs := Bk.rowSits.ext hs xa23; replace rx := rx.ext xa23
    replace sx := Nd.sits.ext sx xa23; clear xa23; refine lw_appendQ (R := fun _ => False) (sh := foldShape) (z := x.cval) tabOk zOk rfl rfl rfl rfl (by kernel_rfl) rfl rfl rfl (by assumption) (fun _ h => by exact h) (Blk.row (by assumption)) ⟨_, _, _, _, _, _, rfl⟩ (by omega) (by omega) rfl ?_; rintro ga26 cap'a27 wa28 ha29 ha30 ha31 fa32; have za33 := fa32.size; replace ha22 := Blk.fr ha22 fa32 (fun h => by have := hob _ h; omega); replace ha5 := Blk.fr ha5 fa32 (fun h => by have := hob _ h; omega); clear hown; replace X := Ext.fr X fa32 (fun k hk => by have := hob _ hk; omega); replace hs := Bk.rowSits.fr hs fa32 (fun b hb h => by have := hob _ h; omega); clear rx; replace sx := Nd.sits.fr sx fa32 (fun b hb h => by have := hob _ h; omega); clear fa32; refine C1 Pa (lw_nil (qw_block_norm (qw_then (cw_region (C1 V7 (C1 Mv (lw_nil ?_))))))); rotate_left 1
   rw [hnext]
   exact qw_round (j + 1, some ⟨_, 0, none⟩, _) (by (refine sub_cons rfl ?_; refine sub_cons rfl ?_; refine sub_cons rfl ?_; refine sub_cons rfl ?_; refine sub_cons rfl ?_; exact sub_nil)) ⟨by simp only; rw [← hnext]; assumption, by simp only; omega, hs, X⟩ (by simp only; omega)
 · obtain rfl : j = l.length := by omega
   rw [List.take_length] at hown
   focus
    refine cS (C1 V3 (cT (cw_seq (Wno (cw_exit (qw_then_exit (qw_then_exit (qw_block_exit (qw_then (cS (C1 Mv ?_))))))))))); refine C1 Pa (cT (cw_ret (qw_ret1 rfl rfl ?_))); rotate_left 1
   simp only [List.take_length]
   exact ⟨_, _, rfl, hown, X⟩
def KidsAt (w : World) (a : Option Addr) (kids : List (Int × Bool)) : Prop := kids = [] ∨ ∃ b o, a = some ⟨b, o, none⟩ ∧ b < w.heap.size ∧ ∀ (i : Nat) (x : Int × Bool), kids[i]? = some x → ∃ (k n : Int) (s : List UInt8) (c : Option Addr) (m d : Nat), Row w ⟨b, o + i * 6, none⟩ [.int .u8 k, .int .i64 n, str s, .slice c m d, .int .i64 x.1, .bool x.2]
theorem KidsAt.ext {w w' : World} {a : Option Addr} {kids : List (Int × Bool)} (h : KidsAt w a kids) (x : Ext w w') : KidsAt w' a kids := h.imp id fun ⟨b, o, h1, h2, h3⟩ => ⟨b, o, h1, Nat.lt_of_lt_of_le h2 x.size, fun i y hy => by
 obtain ⟨k, n, s, c, m, d, r⟩ := h3 i y hy
 exact ⟨k, n, s, c, m, d, r.ext x⟩⟩
theorem KidsAt.fr {S : Nat → Prop} {w w' : World} {a : Option Addr} {kids : List (Int × Bool)} (h : KidsAt w a kids) (x : Fr S w w') (hs : ∀ k, k < w.heap.size → ¬ S k) : KidsAt w' a kids := h.imp id fun ⟨b, o, h1, h2, h3⟩ => ⟨b, o, h1, Nat.lt_of_lt_of_le h2 x.size, fun i y hy => by
 obtain ⟨k, n, s, c, m, d, r⟩ := h3 i y hy
 exact ⟨k, n, s, c, m, d, r.fr x (hs b h2)⟩⟩
theorem OwnQ.kidsAt {w : World} {R : Nat → Prop} {B e cap m : Nat} {a : Option Addr} {kids : List (Int × Bool)} (h : OwnQ foldShape w R B e (.slice a m cap) kids) : KidsAt w a kids := by
 by_cases hk : kids = []
 · exact Or.inl hk
 · obtain ⟨g, cap', hv, -, hl, hall⟩ := h.rows hk
   simp only [Value.slice.injEq] at hv; obtain ⟨rfl, -, -⟩ := hv; refine Or.inr ⟨g, 0, rfl, hl, fun i x hx => ?_⟩; obtain ⟨cs, hr, k, n, s, c, m, d, rfl⟩ := hall i x hx
   exact ⟨k, n, s, c, m, d, by simpa [foldShape] using hr⟩
set_option maxRecDepth 100000 in
set_option maxHeartbeats 8000000 in
theorem value_c (k n : Int) (s : List UInt8) (l : List Nd) (na : Option Addr) (nc : Nat) (kids : List (Int × Bool)) (a : Option Addr) (c : Nat) (w : World) (hl : kids.length ≤ 1000000) (hk : KidsAt w a kids) (h1 : k = 6 ∨ k = 7 → kids.length = 1) (h2 : 8 ≤ k → kids.length = 2) (h0 : 1 ≤ k) :
 Calls Tryz.prog 112 #[(Nd.mk k n s l).val na nc, .slice a kids.length c] w fun e w' => e = .returned (.tuple #[.int .i64 (cvalue k n kids).1, .bool (cvalue k n kids).2]) ∧ Ext w w' := by
 have X := Ext.refl w
 have HK := Lib.hid hk; clear hk
 refine calls_in Tryz.func112 Tryz.ntmps112 rfl rfl ?_
 focus
  refine cS ?_; (refine lw_box' [_, _, _, _] rfl rfl rfl ?_; intro b1 w2 n3); have h4 := n3.blk; have x5 := n3.ext; have p6 := n3.pos; have z7 := n3.size; clear n3; replace X := X.ext x5; clear x5; refine C1 Pa (C1 Pa (cT (cw_seq (cS (C1 Mv (C1 Pz (C1 Mv (cT ?_)))))))); rotate_left 1
 refine cw_block ?_; refine cw_loop (ι := Nat) (fun j => [(1, .slice a kids.length c), (2, .pointer (some ⟨b1, 0, none⟩)), (10, .slice a kids.length c), (11, .int .i64 kids.length), (12, .int .i64 j)])
  (fun j w' => j ≤ kids.length ∧ Blk w' b1 [.int .u8 k, .int .i64 n, str s, .slice na l.length nc] ∧ Ext w w' ∧ (kids.take j).all (·.2) = true)
  (fun j => kids.length - j) 0 (by (refine sub_cons rfl ?_; refine sub_cons rfl ?_; refine sub_cons rfl ?_; refine sub_cons rfl ?_; refine sub_cons rfl ?_; exact sub_nil)) ⟨Nat.zero_le _, h4, X, rfl⟩ ?_
 clear h4 X; rintro j w2 ⟨hj, h4, X, hall⟩
 by_cases hlt : j < kids.length
 · rcases HK.out.ext X with hk | ⟨b, o, rfl, hb, hk⟩
   · subst hk; simp at hlt
   obtain ⟨k', n', s', c', m', d', r0⟩ := hk j kids[j] (List.getElem?_eq_getElem hlt)
   have hnext : (kids.take (j + 1)).all (·.2) = kids[j].2 := by rw [List.take_succ_eq_append_getElem hlt, List.all_append, hall]; simp
   have hbad : kids[j].2 = false → kids.all (·.2) = false := fun h => by
    rw [List.all_eq_false]
    exact ⟨kids[j], List.getElem_mem hlt, by rw [h]; simp⟩
   clear hk
   generalize kids[j] = x at *
   focus
    refine cS (C1 V3 (cT (cw_seq (Wyo (cw_skip (qw_then (cw_seq (cw_block (cS (C1 Pi (C1 (Pws r0) ?_))))))))))); (refine lw_alloc' [_, _, _, _, _, _] zOk rfl rfl ?_; intro ba1 wa2 na3); (refine lw_init' [_, _, _, _, _, _] tabOk rfl rfl rfl rfl rfl rfl na3 rfl ?_; clear na3; clear wa2; intro wa4 na3); have ha5 := na3.blk; have xa6 := na3.ext; have pa7 := na3.pos; have za8 := na3.size; clear na3; replace h4 := h4.ext xa6; replace X := X.ext xa6; replace r0 := r0.ext xa6; clear xa6; refine cN (C1 Pf (C1 (Pl ha5) (C1 Pt (cT ?_)))); refine cw_ncond rfl (fun ca9 => ?_) (fun ca9 => ?_); refine cS (C1 Pa (C1 Pa (cT (cw_ret (qw_block_ret (qw_then_ret (qw_then_ret (qw_block_ret (qw_then_ret (qw_ret2 rfl rfl rfl ?_)))))))))); rotate_left 1; refine cw_skip (qw_block_norm (qw_then (cw_region (C1 V7 (C1 Mv (lw_nil ?_)))))); rotate_left 1
   · exact ⟨by rw [cvalue, if_neg (by rw [hbad (by assumption)]; simp)], X⟩
   · exact qw_round (j + 1) (by (refine sub_cons rfl ?_; refine sub_cons rfl ?_; refine sub_cons rfl ?_; refine sub_cons rfl ?_; refine sub_cons rfl ?_; exact sub_nil)) ⟨by omega, h4, X, hnext.trans (by assumption)⟩ (by omega)
 · obtain rfl : j = kids.length := by omega
   rw [List.take_length] at hall
   have hv : cvalue k n kids = if k = 1 then (n, true) else if k = 2 ∨ k = 3 ∨ k = 4 ∨ k = 5 then (0, false) else if k = 6 ∨ k = 7 then ((unaryV k (kids.getD 0 (0, false)).1).1, decide ((unaryV k (kids.getD 0 (0, false)).1).2 = 0)) else ((applyV k (kids.getD 0 (0, false)).1 (kids.getD 1 (0, false)).1).1, decide ((applyV k (kids.getD 0 (0, false)).1 (kids.getD 1 (0, false)).1).2 = 0)) := by rw [cvalue, if_pos hall]
   rw [hv]; clear hall hv
   by_cases k5 : k ≤ 5
   · clear h1 h2 HK
     focus
      refine cS (C1 V3 (cT (cw_seq (Wno (cw_exit (qw_then_exit (qw_then_exit (qw_block_exit (qw_then (cS (C1 Pa ?_))))))))))); refine cN (C1 Pa (cT (cw_seq (cS (C1 Pg (C1 (Pl h4) (cT (cw_block (cS (C1 V1 (C1 Pa ?_))))))))))); refine cT ?_; refine cw_dec rfl (fun cb1 => ?_) (fun cb1 => ?_); refine cS (C1 Pf (C1 (Pl h4) (C1 Pa (C1 Pa (cT (cw_ret (qw_block_ret (qw_then_ret (qw_ret2 rfl rfl rfl ?_))))))))); rotate_left 1; refine cw_seq (cS (C1 V1 (C1 Pa (cT ?_)))); refine cw_dec rfl (fun cb2 => ?_) (fun cb2 => ?_); refine cw_skip (qw_then (Wya (cS (C1 Pa (C1 Pa (cT (cw_ret (qw_block_ret (qw_then_ret (qw_ret2 rfl rfl rfl ?_)))))))))); rotate_left 1; refine cS (C1 V1 (C1 Pa (cT ?_))); refine cw_dec rfl (fun cb3 => ?_) (fun cb3 => ?_); refine cw_skip (qw_then (Wya (cS (C1 Pa (C1 Pa (cT (cw_ret (qw_block_ret (qw_then_ret (qw_ret2 rfl rfl rfl ?_)))))))))); rotate_left 1; refine cS (C1 V1 (C1 Pa (cT ?_))); refine cw_dec rfl (fun cb4 => ?_) (fun cb4 => ?_); refine cw_skip (qw_then (Wya (cS (C1 Pa (C1 Pa (cT (cw_ret (qw_block_ret (qw_then_ret (qw_ret2 rfl rfl rfl ?_)))))))))); rotate_left 1; refine cw_region (C1 V1 (C1 Pa (cT (Wyo (cS (C1 Pa (C1 Pa (cT (cw_ret (qw_block_ret (qw_then_ret ?_))))))))))); refine qw_ret2 rfl rfl rfl ?_; rotate_left 1
     all_goals (refine ⟨?_, X⟩; first | rw [if_pos (by omega)] | rw [if_neg (by omega), if_pos (by omega)])
   by_cases k7 : k ≤ 7
   · have hk1 := h1 (by omega)
     match kids, hk1 with
     | [x], _ =>
      rcases HK.out.ext X with hk | ⟨b, o, rfl, hb, hk⟩
      · cases hk
      obtain ⟨k', n', s', c', m', d', r0⟩ := hk 0 x rfl; clear h1 h2 HK hk
      focus
       refine cS (C1 V3 (cT (cw_seq (Wno (cw_exit (qw_then_exit (qw_then_exit (qw_block_exit (qw_then (cS (C1 Pa ?_))))))))))); refine cN (C1 Pa (cT (cw_seq (cS (C1 Pg (C1 (Pl h4) (cT (cw_block (cS (C1 V1 (C1 Pa ?_))))))))))); refine cT (Wno (cw_seq (cS (C1 V1 (C1 Pa (cT (Wno (cS (C1 V1 (C1 Pa (cT ?_))))))))))); refine Wno (cS (C1 V1 (C1 Pa (cT (Wno (cw_region (C1 V1 (C1 Pa (cT (Wno (cw_seq ?_))))))))))); refine cS (C1 V1 (C1 Pa (cT ?_))); refine cw_dec rfl (fun cc1 => ?_) (fun cc1 => ?_); refine cw_skip (qw_then (Wya ?_)); (refine cw_tdraw (fun wz => Ext w2 wz) 11 (.pure 0 (.pure 1 (.pure 2 (.pure 3 (.pure 4 (.pure 5 (.fork 6 (.pure 7 (.pure 8 (.pure 9 (.pure 10 .tail)))) .none))))))) mixed (by kernel_rfl) (panicOk_block (panicOk_then panicOk_body)) ?_; intro wc2 xc3 _); have qsc4 : (fun wz => Ext w2 wz) wc2 := xc3; simp only at qsc4; have d_h4 := h4; have d_r0 := r0; have zc5 := xc3.size; replace h4 := h4.ext xc3; replace X := X.ext xc3; replace r0 := r0.ext xc3; clear xc3; refine ⟨qsc4, ?_⟩; refine Tq rfl Pg (Tq rfl (Db d_h4) (Tq rfl Mv (Tq rfl Pi (Tq rfl Pf (Tq rfl (Dr d_r0) ?_))))); refine tw_does rfl (does_call (by kernel_rfl) rfl (Unary_c _ _ _) (fun _ _ h => ⟨_, h.1⟩)) rfl ?_ (fun _ h => h) tw_none; rintro _ wc7 ⟨⟨⟩, rfl⟩; refine ⟨qsc4, ?_⟩; refine Tq rfl Mv (Tq rfl Px (Tq rfl Px (Tq rfl Pa ?_))); clear qsc4 d_h4 d_r0; refine tw_tail rfl (C1 Pa (lw_nil (qw_block_norm (qw_then (cS (C1 Mv (C1 Mv (C1 V1 (C1 Pa (C1 Pa (cT ?_))))))))))); refine cw_ret (qw_ret2 rfl rfl rfl ?_)
       rotate_left 1; refine cw_region (C1 V1 (C1 Pa (cT (Wyo ?_)))); (refine cw_tdraw (fun wz => Ext w2 wz) 11 (.pure 0 (.pure 1 (.pure 2 (.pure 3 (.pure 4 (.pure 5 (.fork 6 (.pure 7 (.pure 8 (.pure 9 (.pure 10 .tail)))) .none))))))) mixed (by kernel_rfl) (panicOk_block (panicOk_then panicOk_body)) ?_; intro wc8 xc9 _); have qsc10 : (fun wz => Ext w2 wz) wc8 := xc9; simp only at qsc10; have d_h4 := h4; have d_r0 := r0; have zc11 := xc9.size; replace h4 := h4.ext xc9; replace X := X.ext xc9; replace r0 := r0.ext xc9; clear xc9; refine ⟨qsc10, ?_⟩; refine Tq rfl Pg (Tq rfl (Db d_h4) (Tq rfl Mv (Tq rfl Pi (Tq rfl Pf (Tq rfl (Dr d_r0) ?_))))); refine tw_does rfl (does_call (by kernel_rfl) rfl (Unary_c _ _ _) (fun _ _ h => ⟨_, h.1⟩)) rfl ?_ (fun _ h => h) tw_none; rintro _ wc13 ⟨⟨⟩, rfl⟩; refine ⟨qsc10, ?_⟩; refine Tq rfl Mv (Tq rfl Px (Tq rfl Px (Tq rfl Pa ?_))); clear qsc10 d_h4 d_r0; refine tw_tail rfl (C1 Pa (lw_nil (qw_block_norm (qw_then (cS (C1 Mv (C1 Mv (C1 V1 (C1 Pa (C1 Pa (cT ?_))))))))))); refine cw_ret (qw_ret2 rfl rfl rfl ?_); rotate_left 1
      all_goals (refine ⟨?_, X⟩; rw [if_neg (by omega), if_neg (by omega), if_pos (by omega)]; rfl)
   · have hk1 := h2 (by omega)
     match kids, hk1 with
     | [x, y], _ =>
      rcases HK.out.ext X with hk | ⟨b, o, rfl, hb, hk⟩
      · cases hk
      obtain ⟨k', n', s', c', m', d', r0⟩ := hk 0 x rfl; obtain ⟨k2', n2', s2', c2', m2', d2', r1⟩ := hk 1 y rfl; clear h1 h2 HK hk
      focus
       refine cS (C1 V3 (cT (cw_seq (Wno (cw_exit (qw_then_exit (qw_then_exit (qw_block_exit (qw_then (cS (C1 Pa ?_))))))))))); refine cN (C1 Pa (cT (cw_seq (cS (C1 Pg (C1 (Pl h4) (cT (cw_block (cS (C1 V1 (C1 Pa ?_))))))))))); refine cT (Wno (cw_seq (cS (C1 V1 (C1 Pa (cT (Wno (cS (C1 V1 (C1 Pa (cT ?_))))))))))); refine Wno (cS (C1 V1 (C1 Pa (cT (Wno (cw_region (C1 V1 (C1 Pa (cT (Wno (cw_seq ?_))))))))))); refine cS (C1 V1 (C1 Pa (cT (Wno (cw_region (C1 V1 (C1 Pa (cT (Wno ?_))))))))); (refine cw_tdraw (fun wz => Ext w2 wz) 15 (.pure 0 (.pure 1 (.pure 2 (.pure 3 (.pure 4 (.pure 5 (.pure 6 (.pure 7 (.pure 8 (.pure 9 (.fork 10 (.pure 11 (.pure 12 (.pure 13 (.pure 14 .tail)))) .none))))))))))) mixed (by kernel_rfl) (panicOk_block (panicOk_then panicOk_body)) ?_; intro wd1 xd2 _); have qsd3 : (fun wz => Ext w2 wz) wd1 := xd2; simp only at qsd3; have d_h4 := h4; have d_r0 := r0; have d_r1 := r1; have zd4 := xd2.size; replace h4 := h4.ext xd2; replace X := X.ext xd2; replace r0 := r0.ext xd2; replace r1 := r1.ext xd2; clear xd2; refine ⟨qsd3, ?_⟩; refine Tq rfl Pg (Tq rfl (Db d_h4) (Tq rfl Mv (Tq rfl Pi (Tq rfl Pf (Tq rfl (Dr d_r0) (Tq rfl Mv (Tq rfl Pi (Tq rfl Pf (Tq rfl (Dr d_r1) ?_))))))))); refine tw_does rfl (does_call (by kernel_rfl) rfl (Apply_c _ _ _ _) (fun _ _ h => ⟨_, h.1⟩)) rfl ?_ (fun _ h => h) tw_none; rintro _ wd6 ⟨⟨⟩, rfl⟩; refine ⟨qsd3, ?_⟩; refine Tq rfl Mv (Tq rfl Px (Tq rfl Px (Tq rfl Pa ?_))); clear qsd3 d_h4 d_r0 d_r1; refine tw_tail rfl (C1 Pa (lw_nil (qw_block_norm (qw_then (cS (C1 Mv (C1 Mv (C1 V1 (C1 Pa (C1 Pa (cT ?_)))))))))))
       refine cw_ret (qw_ret2 rfl rfl rfl ?_); rotate_left 1
      refine ⟨?_, X⟩; rw [if_neg (by omega), if_neg (by omega), if_neg (by omega)]
      rfl
end Bk
namespace Go.Proofs
open Go.Shelf
def Tryz.lays137_ren : Go.Shelf.Ren := ⟨fun | 137 => 101 | 217 => 107 | 266 => 110 | n => n, fun | 9 => 9 | 5 => 5 | 3 => 3 | n => n, fun | n => n⟩
theorem Tryz.lays137 : Go.Proofs.Lays.n137 Tryz.prog Tryz.lays137_ren := {
 mixed := by kernel_rfl
 f137 := Tryz.func101.trans (congrArg some (by kernel_rfl))
 f217 := Tryz.func107.trans (congrArg some (by kernel_rfl))
 f266 := Tryz.func110.trans (congrArg some (by kernel_rfl))
 t3 := Tryz.underlying3
 a3 := Tryz.isAgg3
 z3 := Tryz.sizeOf3
 v3 := Tryz.zeroValue3
 t5 := Tryz.underlying5
 a5 := Tryz.isAgg5
 z5 := Tryz.sizeOf5
 v5 := Tryz.zeroValue5
 t9 := Tryz.underlying9
 a9 := Tryz.isAgg9
 z9 := Tryz.sizeOf9
 v9 := Tryz.zeroValue9 }
open Go.RowKit in
theorem Tryz.strings_IndexByte (s : ByteArray) (c : Int) (w : World) :
 Calls Tryz.prog 101 #[.string s, .int .u8 c] w fun e w' => e = .returned (.int .i64 (Lib.indexByte s.data.toList c.toNat.toUInt8)) ∧ w' = w := Any.strings_IndexByte Tryz.lays137 s c w
def Tryz.laysC172_ren : Go.Shelf.Ren := ⟨fun | 172 => 120 | 244 => 123 | 245 => 124 | 247 => 125 | 279 => 126 | 280 => 127 | 281 => 128 | 282 => 129 | 287 => 130 | 316 => 131 | 171 => 133 | 205 => 132 | 321 => 134 | 322 => 135 | 243 => 136 | 246 => 137 | 283 => 138 | 284 => 139 | 285 => 140 | 286 => 141 | 129 => 143 | 317 => 142 | 318 => 144 | 319 => 145 | 320 => 146 | 337 => 147 | 338 => 148 | n => n, fun | 9 => 9 | 3 => 3 | 75 => 145 | 76 => 146 | 4 => 4 | 5 => 5 | 167 => 150 | 37 => 97 | 0 => 0 | 85 => 151 | 2 => 2 | 168 => 153 | 53 => 156 | 175 => 157 | 46 => 159 | 210 => 162 | 127 => 165 | 145 => 168 | 143 => 166 | 21 => 21 | 171 => 170 | 173 => 173 | 212 => 176 | 51 => 177 | 20 => 20 | 213 => 178 | 232 => 182 | 233 => 183 | 80 => 119 | n => n, fun | 15 => 2 | 16 => 3 | 17 => 4 | 18 => 5 | 19 => 6 | n => n⟩
theorem Tryz.laysC172 : Go.Proofs.LaysC.n172 Tryz.prog Tryz.laysC172_ren := {
 mixed := by kernel_rfl
 f129 := Tryz.func143.trans (congrArg some (by kernel_rfl))
 f171 := Tryz.func133.trans (congrArg some (by kernel_rfl))
 f172 := Tryz.func120.trans (congrArg some (by kernel_rfl))
 f205 := Tryz.func132.trans (congrArg some (by kernel_rfl))
 f243 := Tryz.func136.trans (congrArg some (by kernel_rfl))
 f244 := Tryz.func123.trans (congrArg some (by kernel_rfl))
 f245 := Tryz.func124.trans (congrArg some (by kernel_rfl))
 f246 := Tryz.func137.trans (congrArg some (by kernel_rfl))
 f247 := Tryz.func125.trans (congrArg some (by kernel_rfl))
 f279 := Tryz.func126.trans (congrArg some (by kernel_rfl))
 f280 := Tryz.func127.trans (congrArg some (by kernel_rfl))
 f281 := Tryz.func128.trans (congrArg some (by kernel_rfl))
 f282 := Tryz.func129.trans (congrArg some (by kernel_rfl))
 f283 := Tryz.func138.trans (congrArg some (by kernel_rfl))
 f284 := Tryz.func139.trans (congrArg some (by kernel_rfl))
 f285 := Tryz.func140.trans (congrArg some (by kernel_rfl))
 f286 := Tryz.func141.trans (congrArg some (by kernel_rfl))
 f287 := Tryz.func130.trans (congrArg some (by kernel_rfl))
 f316 := Tryz.func131.trans (congrArg some (by kernel_rfl))
 f317 := Tryz.func142.trans (congrArg some (by kernel_rfl))
 f318 := Tryz.func144.trans (congrArg some (by kernel_rfl))
 f319 := Tryz.func145.trans (congrArg some (by kernel_rfl))
 f320 := Tryz.func146.trans (congrArg some (by kernel_rfl))
 f321 := Tryz.func134.trans (congrArg some (by kernel_rfl))
 f322 := Tryz.func135.trans (congrArg some (by kernel_rfl))
 f337 := Tryz.func147.trans (congrArg some (by kernel_rfl))
 f338 := Tryz.func148.trans (congrArg some (by kernel_rfl))
 t0 := Tryz.underlying0
 a0 := Tryz.isAgg0
 z0 := Tryz.sizeOf0
 v0 := Tryz.zeroValue0
 t2 := Tryz.underlying2
 a2 := Tryz.isAgg2
 z2 := Tryz.sizeOf2
 v2 := Tryz.zeroValue2
 t3 := Tryz.underlying3
 a3 := Tryz.isAgg3
 z3 := Tryz.sizeOf3
 v3 := Tryz.zeroValue3
 t4 := Tryz.underlying4
 a4 := Tryz.isAgg4
 z4 := Tryz.sizeOf4
 v4 := Tryz.zeroValue4
 t5 := Tryz.underlying5
 a5 := Tryz.isAgg5
 z5 := Tryz.sizeOf5
 v5 := Tryz.zeroValue5
 t9 := Tryz.underlying9
 a9 := Tryz.isAgg9
 z9 := Tryz.sizeOf9
 v9 := Tryz.zeroValue9
 t20 := Tryz.underlying20
 a20 := Tryz.isAgg20
 z20 := Tryz.sizeOf20
 v20 := Tryz.zeroValue20
 t21 := Tryz.underlying21
 a21 := Tryz.isAgg21
 z21 := Tryz.sizeOf21
 v21 := Tryz.zeroValue21
 t37 := Tryz.underlying97
 a37 := Tryz.isAgg97
 z37 := Tryz.sizeOf97
 v37 := Tryz.zeroValue97
 t46 := Tryz.underlying159
 a46 := Tryz.isAgg159
 z46 := Tryz.sizeOf159
 v46 := Tryz.zeroValue159
 t51 := Tryz.underlying177
 a51 := Tryz.isAgg177
 z51 := Tryz.sizeOf177
 v51 := Tryz.zeroValue177
 t53 := Tryz.underlying156
 a53 := Tryz.isAgg156
 z53 := Tryz.sizeOf156
 v53 := Tryz.zeroValue156
 t75 := Tryz.underlying145
 a75 := Tryz.isAgg145
 z75 := Tryz.sizeOf145
 v75 := Tryz.zeroValue145
 t76 := Tryz.underlying146
 a76 := Tryz.isAgg146
 z76 := Tryz.sizeOf146
 v76 := Tryz.zeroValue146
 t85 := Tryz.underlying151
 a85 := Tryz.isAgg151
 z85 := Tryz.sizeOf151
 v85 := Tryz.zeroValue151
 t127 := Tryz.underlying165
 a127 := Tryz.isAgg165
 z127 := Tryz.sizeOf165
 v127 := Tryz.zeroValue165
 t143 := Tryz.underlying166
 a143 := Tryz.isAgg166
 z143 := Tryz.sizeOf166
 v143 := Tryz.zeroValue166
 t145 := Tryz.underlying168
 a145 := Tryz.isAgg168
 z145 := Tryz.sizeOf168
 v145 := Tryz.zeroValue168
 t167 := Tryz.underlying150
 a167 := Tryz.isAgg150
 z167 := Tryz.sizeOf150
 v167 := Tryz.zeroValue150
 t168 := Tryz.underlying153
 a168 := Tryz.isAgg153
 z168 := Tryz.sizeOf153
 v168 := Tryz.zeroValue153
 t171 := Tryz.underlying170
 a171 := Tryz.isAgg170
 z171 := Tryz.sizeOf170
 v171 := Tryz.zeroValue170
 t173 := Tryz.underlying173
 a173 := Tryz.isAgg173
 z173 := Tryz.sizeOf173
 v173 := Tryz.zeroValue173
 t175 := Tryz.underlying157
 a175 := Tryz.isAgg157
 z175 := Tryz.sizeOf157
 v175 := Tryz.zeroValue157
 t210 := Tryz.underlying162
 a210 := Tryz.isAgg162
 z210 := Tryz.sizeOf162
 v210 := Tryz.zeroValue162
 t212 := Tryz.underlying176
 a212 := Tryz.isAgg176
 z212 := Tryz.sizeOf176
 v212 := Tryz.zeroValue176
 t213 := Tryz.underlying178
 a213 := Tryz.isAgg178
 z213 := Tryz.sizeOf178
 t232 := Tryz.underlying182
 a232 := Tryz.isAgg182
 z232 := Tryz.sizeOf182
 v232 := Tryz.zeroValue182
 t233 := Tryz.underlying183
 a233 := Tryz.isAgg183
 z233 := Tryz.sizeOf183
 v233 := Tryz.zeroValue183
 g15 := by kernel_rfl
 g16 := by kernel_rfl
 g17 := by kernel_rfl
 g18 := by kernel_rfl
 g19 := by kernel_rfl
 t80 := Tryz.underlying119
 a80 := Tryz.isAgg119
 z80 := Tryz.sizeOf119
 v80 := Tryz.zeroValue119
 i0 := by kernel_rfl
 i2 := by kernel_rfl
 i3 := by kernel_rfl
 i4 := by kernel_rfl
 i5 := by kernel_rfl
 i9 := by kernel_rfl
 i20 := by kernel_rfl
 i21 := by kernel_rfl
 i37 := by kernel_rfl
 i46 := by kernel_rfl
 i51 := by kernel_rfl
 i53 := by kernel_rfl
 i75 := by kernel_rfl
 i76 := by kernel_rfl
 i80 := by kernel_rfl
 i85 := by kernel_rfl
 i127 := by kernel_rfl
 i143 := by kernel_rfl
 i145 := by kernel_rfl
 i167 := by kernel_rfl
 i168 := by kernel_rfl
 i171 := by kernel_rfl
 i173 := by kernel_rfl
 i175 := by kernel_rfl
 i210 := by kernel_rfl
 i212 := by kernel_rfl
 i232 := by kernel_rfl
 i233 := by kernel_rfl
 m15 := by kernel_rfl
 m16 := by kernel_rfl
 m17 := by kernel_rfl
 m18 := by kernel_rfl
 m19 := by kernel_rfl
 c0 := by kernel_rfl
 c2 := by kernel_rfl
 c3 := by kernel_rfl
 c4 := by kernel_rfl
 c5 := by kernel_rfl
 c9 := by kernel_rfl
 c20 := by kernel_rfl
 c21 := by kernel_rfl
 c37 := by kernel_rfl
 c46 := by kernel_rfl
 c51 := by kernel_rfl
 c53 := by kernel_rfl
 c75 := by kernel_rfl
 c76 := by kernel_rfl
 c80 := by kernel_rfl
 c85 := by kernel_rfl
 c127 := by kernel_rfl
 c143 := by kernel_rfl
 c145 := by kernel_rfl
 c167 := by kernel_rfl
 c168 := by kernel_rfl
 c171 := by kernel_rfl
 c173 := by kernel_rfl
 c175 := by kernel_rfl
 c210 := by kernel_rfl
 c212 := by kernel_rfl
 c213 := by kernel_rfl
 c232 := by kernel_rfl
 c233 := by kernel_rfl }
open Go.RowKit in
theorem Tryz.strconv_Atoi_ok (s : ByteArray) (hmax : s.size ≤ 9223372036854775806) (v : Int) (h : Lib.atoiAll s.data.toList = .ok v) (w : World) :
 Calls Tryz.prog 120 #[.string s] w fun e w' => e = .returned (.tuple #[.int .i64 v, .nilIface]) ∧ (w' = w ∨ ∃ t, w' = Lib.bytesWorld w 5 t) := Any.strconv_Atoi_ok Tryz.laysC172 s hmax v h w
open Go.RowKit in
theorem Tryz.strconv_Atoi_range (s : ByteArray) (hlim : s.size ≤ 281474976710656) (h : Lib.atoiAll s.data.toList = .range) (ev : Value) (w : World) (hv : w.cell? ⟨3, 0, none⟩ = some ev) (hev : ev = .nilIface ∨ ∃ te pe, ev = .iface te pe) :
 Calls Tryz.prog 120 #[.string s] w fun e w' => ∃ N, e = .returned (.tuple #[.int .i64 (Lib.atoiSat s.data.toList), .iface 153 (.pointer (some ⟨N, 0, none⟩))]) ∧ w.heap.size ≤ N ∧ w'.heap[N]? = some (.cells #[.string ⟨#[65, 116, 111, 105]⟩, .string s, ev] 162 (0, 0)) ∧ Below w.heap.size w w' := Any.strconv_Atoi_range Tryz.laysC172 s hlim h ev w hv hev
def Tryz.lays99_ren : Go.Shelf.Ren := ⟨fun | 99 => 100 | 206 => 106 | n => n, fun | 9 => 9 | 4 => 4 | 3 => 3 | n => n, fun | n => n⟩
theorem Tryz.lays99 : Go.Proofs.Lays.n99 Tryz.prog Tryz.lays99_ren := {
 mixed := by kernel_rfl
 f99 := Tryz.func100.trans (congrArg some (by kernel_rfl))
 f206 := Tryz.func106.trans (congrArg some (by kernel_rfl))
 t3 := Tryz.underlying3
 a3 := Tryz.isAgg3
 z3 := Tryz.sizeOf3
 v3 := Tryz.zeroValue3
 t4 := Tryz.underlying4
 a4 := Tryz.isAgg4
 z4 := Tryz.sizeOf4
 v4 := Tryz.zeroValue4
 t9 := Tryz.underlying9
 a9 := Tryz.isAgg9
 z9 := Tryz.sizeOf9
 v9 := Tryz.zeroValue9 }
open Go.RowKit Go.Lib in
theorem Tryz.strings_HasPrefix (s p : ByteArray) (w : World) :
 Calls Tryz.prog 100 #[.string s, .string p] w fun e w' => e = .returned (.bool (Lib.hasPrefix s.data.toList p.data.toList)) ∧ w' = w := Any.strings_HasPrefix Tryz.lays99 s p w
end Go.Proofs
namespace Bk
open Go Go.RowKit Go.Proofs
theorem ret_int {k : IntKind} {a b : Int} (h : a = b) : Ending.returned (.int k a) = .returned (.int k b) := by rw [h]
theorem ret_bool {a b : Bool} (h : a = b) : Ending.returned (.bool a) = .returned (.bool b) := by rw [h]
theorem arith_Level_c (k : Int) (w : World) (h0 : 0 ≤ k) (h1 : k ≤ 255) : Calls Tryz.prog 105 #[.int .u8 k] w fun e w' => e = .returned (.int .i64 (level k)) ∧ w = w' := by
 go_enter Tryz.func105, Tryz.ntmps105
 go_wp2_with fail
 all_goals go_ret
 all_goals (refine ⟨ret_int ?_, rfl⟩; (try simp only [beq_iff_eq, beq_eq_false_iff_ne, ne_eq, bne_iff_ne, decide_eq_true_eq, decide_eq_false_iff_not] at *); first | (subst k; rfl) | (unfold level; (repeat' split) <;> omega))
structure Syms (w : World) : Prop where
 sym : ∀ i, i < 43 → w.cell? ⟨0, i, none⟩ = some (str (symbols.getD i []))
theorem Syms.ext {w w' : World} (h : Syms w) (x : Ext w w') : Syms w' := ⟨fun i hi => x.keep (h.sym i hi)⟩
theorem Syms.fr {S : Nat → Prop} {w w' : World} (h : Syms w) (x : Fr S w w') (hs : ∀ k, S k → 0 < k) : Syms w' := ⟨fun i hi => x.keep (fun e => by have := hs _ e; omega) (h.sym i hi)⟩
theorem symbol_out (k : Int) (h : 43 ≤ k) : symbol k = [] := by
 unfold symbol
 rw [List.getD_eq_getElem?_getD, List.getElem?_eq_none (show 43 ≤ k.toNat by omega)]
 rfl
theorem arith_Symbol_s (k : Int) (w : World) (h0 : 0 ≤ k) (h1 : k ≤ 255) (ht : Syms w) : Calls Tryz.prog 54 #[.int .u8 k] w fun e w' => e = .returned (str (symbol k)) ∧ w = w' := by
 by_cases hk : k < 43
 · have g := ht.sym k.toNat (by omega)
   have G : Hid (symbols.getD k.toNat [] = symbol k) := Lib.hid rfl; clear ht
   go_enter Tryz.func54, Tryz.ntmps54
   go_wp2_with fail
   go_ret
   rw [← G.out]
   exact ⟨by simp [go_sem], rfl⟩
 · have hn := symbol_out k (by omega)
   have HN := Lib.hid hn; clear hn ht
   go_enter Tryz.func54, Tryz.ntmps54
   go_wp2_with fail
   go_ret
   rw [HN.out]
   exact ⟨rfl, rfl⟩
end Bk
namespace Bk
open Go Go.RowKit Go.Proofs
theorem letter_c (c : UInt8) (w : World) : Calls Tryz.prog 74 #[.int .u8 c.toNat] w fun e w' => e = .returned (.bool (letter c)) ∧ w = w' := by
 go_enter Tryz.func74, Tryz.ntmps74
 go_wp2_with fail
 all_goals go_ret
 all_goals (refine ⟨ret_bool ?_, rfl⟩; unfold letter; rw [Bool.eq_iff_iff]; simp; try omega)
theorem digit_c (c : UInt8) (w : World) : Calls Tryz.prog 77 #[.int .u8 c.toNat] w fun e w' => e = .returned (.bool (digit c)) ∧ w = w' := by
 go_enter Tryz.func77, Tryz.ntmps77
 go_wp2_with fail
 all_goals go_ret
 all_goals (refine ⟨ret_bool ?_, rfl⟩; unfold digit; rw [Bool.eq_iff_iff]; simp; try omega)
theorem blank_c (c : UInt8) (w : World) : Calls Tryz.prog 78 #[.int .u8 c.toNat] w fun e w' => e = .returned (.bool (blank c)) ∧ w = w' := by
 go_enter Tryz.func78, Tryz.ntmps78
 go_wp2_with fail
 all_goals go_ret
 all_goals (refine ⟨ret_bool ?_, rfl⟩; unfold blank; rw [Bool.eq_iff_iff]; simp; try omega)
theorem notLf_c (c : UInt8) (w : World) : Calls Tryz.prog 79 #[.int .u8 c.toNat] w fun e w' => e = .returned (.bool (notLf c)) ∧ w = w' := by
 go_enter Tryz.func79, Tryz.ntmps79
 go_wp2_with fail
 all_goals go_ret
 all_goals (refine ⟨ret_bool ?_, rfl⟩; unfold notLf; rw [Bool.eq_iff_iff]; simp; try omega)
theorem wordish_c (c : UInt8) (w : World) : Calls Tryz.prog 76 #[.int .u8 c.toNat] w fun e w' => e = .returned (.bool (wordish c)) ∧ w = w' := by
 go_enter Tryz.func76, Tryz.ntmps76
 cases hl : letter c
 all_goals have HL := Lib.hid hl; clear hl
 all_goals go_wp2_with (first | (go_at_call 74; refine (letter_c c _).mono ?_; rintro e w' ⟨rfl, rfl⟩; rw [HL.out]) | (go_at_call 77; refine (digit_c c _).mono ?_; rintro e w' ⟨rfl, rfl⟩))
 all_goals go_ret
 all_goals (refine ⟨ret_bool ?_, rfl⟩; unfold wordish; rw [HL.out]; simp)
theorem span_c (f : FuncId) (p : UInt8 → Bool) (hp : ∀ (c : UInt8) (w : World), Calls Tryz.prog f #[.int .u8 c.toNat] w fun e w' => e = .returned (.bool (p c)) ∧ w = w')
 (he : ∀ args w, (callFunc f args).run Tryz.prog w = .ok (.enter f args) w) (s : List UInt8) (w : World) (hs : s.length ≤ 9223372036854775807) :
 Calls Tryz.prog 75 #[str s, .func (.func f) #[] #[]] w fun e w' => e = .returned (.int .i64 (span p s)) ∧ w = w' := by
 have HP := Lib.hid hp; clear hp
 go_enter Tryz.func75, Tryz.ntmps75
 go_wp2_with fail
 go_loop [8] (fun i => ∃ j : Nat, j ≤ s.length ∧ i = .int .i64 j ∧ Hid (span p s = j + span p (s.drop j))) (fun i => s.length - (intOf i).toNat)
 case atStart => exact ⟨0, Nat.zero_le _, rfl, Lib.hid (by simp)⟩
 case round =>
  obtain ⟨j, hj, rfl, HJ⟩ := hrel
  by_cases hlt : j < s.length
  · go_wp2_with fail
    refine (HP.out s[j] _).mono ?_; rintro e w' ⟨rfl, rfl⟩; have hd := List.drop_eq_getElem_cons hlt
    have hsp : span p (s.drop j) = if p s[j] then 1 + span p (s.drop (j + 1)) else 0 := by
     rw [hd]; unfold span; rw [List.takeWhile_cons]; split <;> simp; omega
    have HSP := Lib.hid hsp; clear hsp hd
    cases hb : p s[j]
    · have HB := Lib.hid hb; clear hb
      go_wp2_with fail
      go_ret
      refine ⟨ret_int ?_, rfl⟩
      rw [HJ.out, HSP.out, HB.out]; simp
    · have HB := Lib.hid hb; clear hb
      go_wp2_with fail
      go_round
      case rel => exact ⟨j + 1, by omega, by go_num, Lib.hid (by rw [HJ.out, HSP.out, HB.out]; simp; omega)⟩
      case measure => simp [intOf]; omega
  · go_wp2_with fail
    go_ret
    refine ⟨ret_int ?_, rfl⟩
    rw [HJ.out, List.drop_eq_nil_of_le (by omega)]; simp [span]; omega
end Bk
namespace Bk
open Go Go.RowKit Go.Proofs
theorem take2_eq (s : List UInt8) (n : Int) (hn : n.toNat = min 2 s.length) : (⟨s.toArray⟩ : ByteArray).extract 0 n.toNat = ⟨(s.take 2).toArray⟩ := by
 apply ByteArray.ext
 rw [hn]; simp only [ByteArray.data_extract]
 apply Array.ext'
 simp only [List.extract_toArray, List.extract_eq_take_drop, Nat.sub_zero, List.drop_zero]
 rcases Nat.le_total 2 s.length with h | h
 · rw [Nat.min_eq_left h]
 · rw [Nat.min_eq_right h, List.take_of_length_le h, List.take_length]
theorem indexByte_ge : ∀ (l : List UInt8) (c : UInt8), -1 ≤ Lib.indexByte l c
 | [], c => by simp [Lib.indexByte]
 | b :: l, c => by
  have := indexByte_ge l c
  unfold Lib.indexByte
  split
  · omega
  · split <;> omega
theorem indexByte_contains : ∀ (l : List UInt8) (c : UInt8), (0 ≤ Lib.indexByte l c) ↔ l.contains c = true
 | [], c => by simp [Lib.indexByte]
 | b :: l, c => by
  have ih := indexByte_contains l c; have hg := indexByte_ge l c
  unfold Lib.indexByte
  rw [List.contains_cons]
  by_cases hb : b = c
  · simp [hb]
  · have hb' : ¬ c = b := fun e => hb e.symm
    simp only [beq_iff_eq, hb, hb', if_false, Bool.or_eq_true, false_or, ← ih]
    split <;> omega
theorem sign_c (c : UInt8) (r : List UInt8) (w : World) (hs : (c :: r).length ≤ 9223372036854775807) :
 Calls Tryz.prog 80 #[str (c :: r)] w fun e w' => e = .returned (.int .i64 (signLen (c :: r))) ∧ w = w' := by
 simp only [List.length_cons] at hs; have hx := take2_eq (c :: r) (min 2 ((r.length : Int) + 1)) (by simp only [List.length_cons]; omega)
 have hsl : signLen (c :: r) = if List.isPrefixOf [60, 61, 62] (c :: r) then 3 else if pairs.contains ((c :: r).take 2) then 2 else if singles.contains c then 1 else 0 := rfl
 have HSL := Lib.hid hsl; clear hsl
 generalize (c :: r).take 2 = t at *
 cases h3 : List.isPrefixOf [60, 61, 62] (c :: r)
 · have H3 := Lib.hid h3; clear h3
   cases hp : pairs.contains t
   · have HP := Lib.hid hp
     simp only [pairs, List.contains_cons, List.contains_nil, Bool.or_eq_false_iff, Bool.or_false] at hp; obtain ⟨p0, p1, p2, p3, p4, p5, p6, p7, p8, p9⟩ := hp
     go_enter Tryz.func80, Tryz.ntmps80
     go_wp2_with (go_at_call 100; refine (Tryz.strings_HasPrefix _ _ _).mono ?_; rintro e w' ⟨rfl, rfl⟩; rw [show Lib.hasPrefix (⟨(c :: r).toArray⟩ : ByteArray).data.toList (⟨#[60, 61, 62]⟩ : ByteArray).data.toList = false from H3.out])
     refine (Tryz.strings_IndexByte _ _ _).mono ?_; rintro e w2 ⟨rfl, rfl⟩
     have e0 : (((c.toNat : Nat) : Int)).toNat.toUInt8 = c := by simp
     have e1 : ∀ h, (((((⟨(c :: r).toArray⟩ : ByteArray)[0]'h).toNat : Nat) : Int)).toNat.toUInt8 = c := fun _ => e0
     rw [e1]; have hi := indexByte_contains singles c; rw [show Lib.indexByte (⟨#[43, 45, 42, 47, 37, 38, 124, 94, 33, 61, 60, 62, 40, 41, 123, 125, 91, 93, 59, 44]⟩ : ByteArray).data.toList c = Lib.indexByte singles c from rfl]
     generalize Lib.indexByte singles c = ix at *
     cases hc : singles.contains c
     · have hlt : ix < 0 := by rw [hc] at hi; simp at hi; omega
       have HC := Lib.hid hc; clear hc hi
       simp only
       go_wp2_with fail
       go_ret
       rw [HSL.out, H3.out, HP.out, HC.out]; exact ⟨rfl, rfl⟩
     · have hge : 0 ≤ ix := hi.2 hc
       have HC := Lib.hid hc; clear hc hi
       simp only
       go_wp2_with fail
       go_ret
       rw [HSL.out, H3.out, HP.out, HC.out]; exact ⟨rfl, rfl⟩
   · go_enter Tryz.func80, Tryz.ntmps80
     go_wp2_with (go_at_call 100; refine (Tryz.strings_HasPrefix _ _ _).mono ?_; rintro e w' ⟨rfl, rfl⟩; rw [show Lib.hasPrefix (⟨(c :: r).toArray⟩ : ByteArray).data.toList (⟨#[60, 61, 62]⟩ : ByteArray).data.toList = false from H3.out])
     all_goals first | (go_ret; rw [HSL.out, H3.out, hp]; exact ⟨rfl, rfl⟩) | (exfalso; simp_all [pairs]; done)
 · have H3 := Lib.hid h3; clear h3
   go_enter Tryz.func80, Tryz.ntmps80
   go_wp2_with (go_at_call 100; refine (Tryz.strings_HasPrefix _ _ _).mono ?_; rintro e w' ⟨rfl, rfl⟩; rw [show Lib.hasPrefix (⟨(c :: r).toArray⟩ : ByteArray).data.toList (⟨#[60, 61, 62]⟩ : ByteArray).data.toList = true from H3.out])
   go_ret
   rw [HSL.out, H3.out]; exact ⟨rfl, rfl⟩
end Bk
namespace Bk
open Go Go.RowKit Go.Proofs
def kwEntries : List (List UInt8) → Nat → List MapEntry
 | [], _ => []
 | k :: r, i => { key := str k, val := .bool true, born := i } :: kwEntries r (i + 1)
def kwMap (ks : List (List UInt8)) : Obj := .map (kwEntries ks 0).toArray ks.length
theorem kwEntries_snoc (ks : List (List UInt8)) (k : List UInt8) : ∀ i, kwEntries (ks ++ [k]) i = kwEntries ks i ++ [{ key := str k, val := .bool true, born := i + ks.length }] := by
 induction ks with
 | nil => intro i; simp [kwEntries]
 | cons x r ih => intro i; simp [kwEntries, ih, Nat.add_assoc, Nat.add_comm 1]
theorem ba_beq (b : ByteArray) (x : List UInt8) : (b == (⟨x.toArray⟩ : ByteArray)) = (b.data.toList == x) := by
 show (b.data == x.toArray) = _
 rw [Bool.eq_iff_iff]; simp
 constructor
 · intro h; rw [h]
 · intro h; rw [← h]
theorem findNow_kw (b : ByteArray) (ks : List (List UInt8)) : ∀ i j, (ks.contains b.data.toList = false → Instr.findNow .string (.string b) (kwEntries ks i) j = some none) ∧
 (ks.contains b.data.toList = true → ∃ n, Instr.findNow .string (.string b) (kwEntries ks i) j = some (some (n, .bool true))) := by
 induction ks with
 | nil => intro i j; simp [kwEntries, Instr.findNow]
 | cons x r ih =>
  intro i j; simp only [kwEntries, Instr.findNow, Instr.sameNow, ba_beq, List.contains_cons]
  cases h : b.data.toList == x
  · simpa using ih (i + 1) (j + 1)
  · simp
theorem push_set (h : Array Obj) (a b : Obj) : (h.push a).setIfInBounds h.size b = h.push b := by
 apply Array.ext'
 simp
theorem underMap : Tryz.prog.underlying 113 = some (.map 9 4) := by kernel_rfl
theorem underStr : Tryz.prog.underlying 9 = some .string := by kernel_rfl
theorem run_kw_ins (w : World) (ks : List (List UInt8)) (b : ByteArray) (h : ks.contains b.data.toList = false) :
 (Instr.mapUpdate 113 (.map (some w.heap.size)) (.string b) (.bool true)).run Tryz.prog (w.alloc (kwMap ks)) = .ok () (w.alloc (kwMap (ks ++ [b.data.toList]))) := by
 have hb : (w.alloc (kwMap ks)).heap[w.heap.size]? = some (.map (kwEntries ks 0).toArray ks.length) := by show (w.heap.push (kwMap ks))[w.heap.size]? = _; simp [kwMap]
 have hf : Instr.findNow .string (.string b) (kwEntries ks 0) 0 = some none := (findNow_kw b ks 0 0).1 h; have hc : (Instr.checkKey false 10000 9 (.string b)).run Tryz.prog (w.alloc (kwMap ks)) = .ok () (w.alloc (kwMap ks)) := MapKept.run_checkKey (k := .string b) underStr (by simp [MapKept.IsKey]) false 9999
 simp [Instr.mapUpdate, run_underlying underMap, MapKept.run_getObj_map hb, hc, MapKept.run_findKey underStr hf, MapKept.run_setObj_map _ hb, Result.andThen]
 show ({ w with heap := (w.heap.push (kwMap ks)).setIfInBounds w.heap.size _ } : World) = { w with heap := w.heap.push _ }
 rw [push_set]
 unfold kwMap
 rw [kwEntries_snoc]
 simp
theorem run_kw_look (w : World) (ks : List (List UInt8)) (b : ByteArray) :
 (Instr.lookup 113 (.map (some w.heap.size)) (.string b) false).run Tryz.prog (w.alloc (kwMap ks)) = .ok (.bool (ks.contains b.data.toList)) (w.alloc (kwMap ks)) := by
 have hb : (w.alloc (kwMap ks)).heap[w.heap.size]? = some (.map (kwEntries ks 0).toArray ks.length) := by show (w.heap.push (kwMap ks))[w.heap.size]? = _; simp [kwMap]
 have hc : ∀ q, (Instr.checkKey q 10000 9 (.string b)).run Tryz.prog (w.alloc (kwMap ks)) = .ok () (w.alloc (kwMap ks)) := fun q => MapKept.run_checkKey (k := .string b) underStr (by simp [MapKept.IsKey]) q 9999
 have hz : (zeroValue 4).run Tryz.prog (w.alloc (kwMap ks)) = .ok (.bool false) (w.alloc (kwMap ks)) := by kernel_rfl
 cases hk : ks.contains b.data.toList
 · have hf := (findNow_kw b ks 0 0).1 hk
   simp [Instr.lookup, run_underlying underMap, MapKept.run_getObj_map hb, hc, MapKept.run_findKey underStr hf, hz, Result.andThen]
 · obtain ⟨n, hf⟩ := (findNow_kw b ks 0 0).2 hk
   simp [Instr.lookup, run_underlying underMap, MapKept.run_getObj_map hb, hc, MapKept.run_findKey underStr hf, Result.andThen]
theorem run_kw_make (w : World) : (Instr.makeMap 113 none).run Tryz.prog w = .ok (.map (some w.heap.size)) (w.alloc (kwMap [])) := run_makeMap _ w
theorem keyword_len (s : List UInt8) (h : keyword s = true) : 2 ≤ s.length ∧ s.length ≤ 7 := by
 have key : ∀ k ∈ keywords, 2 ≤ k.length ∧ k.length ≤ 7 := by decide
 exact key s (by simpa [keyword] using h)
set_option maxRecDepth 100000 in
theorem Keyword_c (s : List UInt8) (w : World) (hs : s.length ≤ 9223372036854775807) :
 Calls Tryz.prog 39 #[str s] w fun e w' => e = .returned (.bool (keyword s)) ∧ Ext w w' := by
 by_cases h2 : s.length < 2 ∨ 7 < s.length
 · have hk : keyword s = false := by
    cases h : keyword s
    · rfl
    · have := keyword_len s h; omega
   have HK := Lib.hid hk; clear hk
   by_cases h3 : s.length < 2
   · have d1 : decide ((s.length : Int) < 2) = true := by simp; omega
     clear h2
     go_enter Tryz.func39, Tryz.ntmps39
     go_wp2_with fail
     go_ret
     rw [HK.out]; exact ⟨rfl, Ext.refl _⟩
   · have d1 : decide ((s.length : Int) < 2) = false := by simp; omega
     have d2 : decide ((7 : Int) < s.length) = true := by simp; omega
     clear h2
     go_enter Tryz.func39, Tryz.ntmps39
     go_wp2_with fail
     go_ret
     rw [HK.out]; exact ⟨rfl, Ext.refl _⟩
 · have d1 : decide ((s.length : Int) < 2) = false := by simp; omega
   have d2 : decide ((7 : Int) < s.length) = false := by simp; omega
   have r1 := run_kw_make; have r2 := run_kw_ins w; have r3 := run_kw_look w
   go_enter Tryz.func39, Tryz.ntmps39
   go_wp2_with fail
   go_ret
   exact ⟨ret_bool (by simp [keyword, keywords]), (by refine Ext.alloc ?_ _; exact Ext.refl _)⟩
end Bk
namespace Bk
open Go Go.RowKit Go.Proofs
theorem en_digit : ∀ args w, (callFunc 77 args).run Tryz.prog w = .ok (.enter 77 args) w := enters_of Tryz.func77 (by kernel_rfl) rfl
theorem en_blank : ∀ args w, (callFunc 78 args).run Tryz.prog w = .ok (.enter 78 args) w := enters_of Tryz.func78 (by kernel_rfl) rfl
theorem en_first1 : ∀ args w, (callFunc 76 args).run Tryz.prog w = .ok (.enter 76 args) w := enters_of Tryz.func76 (by kernel_rfl) rfl
theorem en_first2 : ∀ args w, (callFunc 79 args).run Tryz.prog w = .ok (.enter 79 args) w := enters_of Tryz.func79 (by kernel_rfl) rfl
theorem first_c (c : UInt8) (r : List UInt8) (w : World) (hs : (c :: r).length ≤ 9223372036854775807) :
 Calls Tryz.prog 38 #[str (c :: r)] w fun e w' => e = .returned (.tuple #[.int .u8 (firstTok (c :: r)).1, .int .i64 (firstTok (c :: r)).2]) ∧ w = w' := by
 have hf : firstTok (c :: r) = if letter c then (1, span wordish (c :: r)) else if digit c then (2, span digit (c :: r)) else if blank c then (4, span blank (c :: r)) else if c = 35 then (5, span notLf (c :: r)) else (3, signLen (c :: r)) := rfl
 have HF := Lib.hid hf; clear hf
 have HS := Lib.hid hs; simp only [List.length_cons] at hs
 go_enter Tryz.func38, Tryz.ntmps38
 go_wp2_with fail
 refine (letter_c c _).mono ?_; rintro e w1 ⟨rfl, rfl⟩
 cases hl : letter c
 · have HL := Lib.hid hl; clear hl
   simp only
   go_wp2_with fail
   refine (digit_c c _).mono ?_; rintro e w1 ⟨rfl, rfl⟩
   cases hd : digit c
   · have HD := Lib.hid hd; clear hd
     simp only
     go_wp2_with fail
     refine (blank_c c _).mono ?_; rintro e w1 ⟨rfl, rfl⟩
     cases hb : blank c
     · have HB := Lib.hid hb; clear hb
       simp only
       by_cases h35 : c = 35
       · have H35 := Lib.hid h35
         have e35 : (({ data := (c :: r).toArray } : ByteArray)[0]'(by simp [ByteArray.size])).toNat = 35 := by show c.toNat = 35; rw [h35]; rfl
         clear h35
         go_wp2_with fail
         refine (span_c 79 notLf notLf_c en_first2 _ _ HS.out).mono ?_; rintro e w1 ⟨rfl, rfl⟩; simp only
         go_wp2_with fail
         go_ret2
         rw [HF.out, HL.out, HD.out, HB.out, if_pos H35.out]; exact ⟨rfl, rfl⟩
       · have H35 := Lib.hid h35
         have e35 : ((({ data := (c :: r).toArray } : ByteArray)[0]'(by simp [ByteArray.size])).toNat : Int) ≠ 35 := by
          show (c.toNat : Int) ≠ 35
          intro h; apply h35; apply UInt8.toNat_inj.1; show c.toNat = 35; omega
         clear h35
         go_wp2_with fail
         refine (sign_c c r _ HS.out).mono ?_; rintro e w1 ⟨rfl, rfl⟩; simp only
         go_wp2_with fail
         go_ret2
         rw [HF.out, HL.out, HD.out, HB.out, if_neg H35.out]; exact ⟨rfl, rfl⟩
     · have HB := Lib.hid hb; clear hb
       simp only
       go_wp2_with fail
       refine (span_c 78 blank blank_c en_blank _ _ HS.out).mono ?_; rintro e w1 ⟨rfl, rfl⟩; simp only
       go_wp2_with fail
       go_ret2
       rw [HF.out, HL.out, HD.out, HB.out]; exact ⟨rfl, rfl⟩
   · have HD := Lib.hid hd; clear hd
     simp only
     go_wp2_with fail
     refine (span_c 77 digit digit_c en_digit _ _ HS.out).mono ?_; rintro e w1 ⟨rfl, rfl⟩; simp only
     go_wp2_with fail
     go_ret2
     rw [HF.out, HL.out, HD.out]; exact ⟨rfl, rfl⟩
 · have HL := Lib.hid hl; clear hl
   simp only
   go_wp2_with fail
   refine (span_c 76 wordish wordish_c en_first1 _ _ HS.out).mono ?_; rintro e w1 ⟨rfl, rfl⟩; simp only
   go_wp2_with fail
   go_ret2
   rw [HF.out, HL.out]; exact ⟨rfl, rfl⟩
theorem Name_c (s : List UInt8) (w : World) (hs : s.length ≤ 9223372036854775807) :
 Calls Tryz.prog 17 #[str s] w fun e w' => e = .returned (.bool (isName s)) ∧ Ext w w' := by
 cases s with
 | nil =>
  go_enter Tryz.func17, Tryz.ntmps17
  go_wp2_with fail
  go_ret
  exact ⟨rfl, Ext.refl _⟩
 | cons c r =>
  have hn : isName (c :: r) = (decide ((c :: r).length ≤ 16) && ((firstTok (c :: r)).1 == 1) && ((firstTok (c :: r)).2 == (c :: r).length) && !keyword (c :: r)) := by simp [isName]
  have HN := Lib.hid hn; clear hn
  have HS := Lib.hid hs; simp only [List.length_cons] at hs
  by_cases h16 : 16 < (c :: r).length
  · simp only [List.length_cons] at h16
    have d1 : decide ((16 : Int) < (r.length : Int) + 1) = true := by simp; omega
    have H16 := Lib.hid h16; clear h16
    go_enter Tryz.func17, Tryz.ntmps17
    go_wp2_with fail
    go_ret
    rw [HN.out]
    exact ⟨ret_bool (by have := H16.out; simp; omega), Ext.refl _⟩
  · simp only [List.length_cons] at h16
    have d1 : decide ((16 : Int) < (r.length : Int) + 1) = false := by simp; omega
    go_enter Tryz.func17, Tryz.ntmps17
    go_wp2_with fail
    refine (first_c c r _ HS.out).mono ?_; rintro e w1 ⟨rfl, rfl⟩
    generalize firstTok (c :: r) = ft at *
    obtain ⟨k, n⟩ := ft
    by_cases hk : k = 1
    · by_cases hl : n = (c :: r).length
      · subst hk hl
        simp only [List.length_cons]
        go_wp2_with fail
        refine (Keyword_c _ _ HS.out).mono ?_; rintro e w2 ⟨rfl, hx⟩; simp only
        go_wp2_with fail
        go_ret
        rw [HN.out]
        exact ⟨ret_bool (by simp; omega), hx⟩
      · subst hk
        have dl : ((n : Int) == (r.length : Int) + 1) = false := by simp only [List.length_cons] at hl; rw [beq_eq_false_iff_ne]; omega
        have HL := Lib.hid hl; clear hl
        simp only
        go_wp2_with fail
        go_ret
        rw [HN.out]
        exact ⟨ret_bool (by have := HL.out; simp at this ⊢; simp [this]), Ext.refl _⟩
    · have dk : ((k : Int) == 1) = false := by rw [beq_eq_false_iff_ne]; omega
      have HK := Lib.hid hk; clear hk
      simp only
      go_wp2_with fail
      go_ret
      rw [HN.out]
      exact ⟨ret_bool (by have := HK.out; simp [this]), Ext.refl _⟩
theorem plain_c (k n : Int) (s : List UInt8) (a : Option Addr) (l c : Nat) (w : World) :
 Calls Tryz.prog 65 #[.agg #[.int .u8 k, .int .i64 n, str s, .slice a l c]] w fun e w' => e = .returned (.bool (plain n s)) ∧ Ext w w' := by
 go_enter Tryz.func65, Tryz.ntmps65
 go_wp2_with fail
 all_goals go_ret
 all_goals exact ⟨ret_bool (by unfold plain; simp [*]), (by repeat (first | exact Ext.refl _ | assumption | refine Ext.alloc ?_ _ | refine Ext.drew ?_ | refine Ext.trans ?_ (by assumption)))⟩
theorem named_c (k n : Int) (s : List UInt8) (a : Option Addr) (l c : Nat) (w : World) (hs : s.length ≤ 9223372036854775807) :
 Calls Tryz.prog 69 #[.agg #[.int .u8 k, .int .i64 n, str s, .slice a l c]] w fun e w' => e = .returned (.bool (named n s)) ∧ Ext w w' := by
 by_cases h0 : n = 0
 · subst h0
   go_enter Tryz.func69, Tryz.ntmps69
   go_wp2_with (go_at_call 17; refine (Name_c _ _ hs).mono ?_; rintro e w2 ⟨rfl, hx⟩)
   go_ret
   exact ⟨ret_bool (by simp [named]), (by refine Ext.trans ?_ (by assumption); refine Ext.alloc ?_ _; exact Ext.refl _)⟩
 · have d0 : (n == 0) = false := by simp [h0]
   go_enter Tryz.func69, Tryz.ntmps69
   go_wp2_with fail
   go_ret
   exact ⟨ret_bool (by simp [named, h0]), (by refine Ext.alloc ?_ _; exact Ext.refl _)⟩
end Bk
namespace Bk
open Go Go.RowKit Go.Proofs
def Tests (S : Nat → Prop) (f : FuncId) (p : Nd → Bool) (t : Nd) : Prop :=
 ∀ (a : Option Addr) (c : Nat) (w : World), t.sits S w a → Calls Tryz.prog f #[t.val a c] w fun e w' => e = .returned (.bool (p t)) ∧ Ext w w'
def Enters (f : FuncId) : Prop := ∀ args w, (callFunc f args).run Tryz.prog w = .ok (.enter f args) w
theorem every_c (f : FuncId) (p : Nd → Bool) (he : Enters f) (l : List Nd) (a : Option Addr) (c : Nat) (S : Nat → Prop) (w : World) (hl : l.length ≤ 9223372036854775807) (hs : rowSits S w l a) (ht : ∀ t ∈ l, Tests S f p t) :
 Calls Tryz.prog 70 #[.slice a l.length c, .func (.func f) #[] #[]] w fun e w' => e = .returned (.bool (l.all p)) ∧ Ext w w' := by
 have HT := Lib.hid ht; clear ht
 unfold Enters at he
 go_enter Tryz.func70, Tryz.ntmps70
 go_wp2_with fail
 go_loopw [9] (fun i wr => ∃ j : Nat, j ≤ l.length ∧ i = .int .i64 j ∧ Hid (l.all p = (l.drop j).all p) ∧ Ext w wr) (fun i _ => l.length - (intOf i).toNat)
 case atStart => exact ⟨0, Nat.zero_le _, rfl, Lib.hid rfl, Ext.refl _⟩
 case round =>
  obtain ⟨j, hj, rfl, HJ, hx⟩ := hrel
  by_cases hlt : j < l.length
  · have hg : l[j]? = some l[j] := List.getElem?_eq_getElem hlt
    have hmem : l[j] ∈ l := List.getElem_mem hlt; have hdrop := List.drop_eq_getElem_cons hlt
    generalize l[j] = t at *
    obtain ⟨b, o, a', c', rfl, hSb, g0, g1, g2, g3, hsk⟩ := rowSits_get (hs.ext hx) hg
    have HG := Lib.hid hg; clear hg
    have hall : l.all p = (p t && (l.drop (j + 1)).all p) := by rw [HJ.out, hdrop, List.all_cons]
    have HA := Lib.hid hall; clear hdrop hall
    go_wp2_with fail
    refine (HT.out t hmem a' c' _ (hsk.ext ((Ext.refl _).alloc _))).mono ?_; rintro e w1 ⟨rfl, hx1⟩
    cases hp : p t
    · have HP := Lib.hid hp; clear hp
      simp only
      go_wp2_with fail
      go_ret
      rw [HA.out, HP.out]
      exact ⟨rfl, (by refine Ext.trans ?_ (by assumption); refine Ext.alloc ?_ _; assumption)⟩
    · have HP := Lib.hid hp; clear hp
      simp only
      go_wp2_with fail
      go_roundw
      case rel => exact ⟨j + 1, by omega, by go_num, Lib.hid (by rw [HA.out, HP.out]; simp), (by refine Ext.trans ?_ (by assumption); refine Ext.alloc ?_ _; assumption)⟩
      case measure => simp [intOf]; omega
  · go_wp2_with fail
    go_ret
    rw [HJ.out, List.drop_eq_nil_of_le (by omega)]
    exact ⟨rfl, hx⟩
def kidsOk : List Nd → List (FuncId × (Nd → Bool)) → Bool
 | [], [] => true
 | t :: r, f :: fs => f.2 t && kidsOk r fs
 | _, _ => false
theorem kidsOk_len : ∀ (l : List Nd) (fs : List (FuncId × (Nd → Bool))), l.length ≠ fs.length → kidsOk l fs = false
 | [], [], h => absurd rfl h
 | [], _ :: _, _ => rfl
 | _ :: _, [], _ => rfl
 | t :: r, f :: fs, h => by simp only [kidsOk]; rw [kidsOk_len r fs (by simpa using h)]; simp
theorem kids_c (k n : Int) (s : List UInt8) (l : List Nd) (a : Option Addr) (c : Nat) (fs : List (FuncId × (Nd → Bool))) (tb tc : Nat) (S : Nat → Prop) (w : World)
 (hl : l.length ≤ 9223372036854775807) (hfl : fs.length ≤ 100) (hs : rowSits S w l a)
 (htb : ∀ i f, fs[i]? = some f → w.cell? ⟨tb, i, none⟩ = some (.func (.func f.1) #[] #[])) (he : ∀ f ∈ fs, Enters f.1) (ht : ∀ f ∈ fs, ∀ t ∈ l, Tests S f.1 f.2 t) :
 Calls Tryz.prog 66 #[.agg #[.int .u8 k, .int .i64 n, str s, .slice a l.length c], .slice (some ⟨tb, 0, none⟩) fs.length tc] w fun e w' => e = .returned (.bool (kidsOk l fs)) ∧ Ext w w' := by
 have HT := Lib.hid ht; clear ht
 have HE := Lib.hid he; clear he
 have HB := Lib.hid htb; clear htb
 by_cases hlen : l.length = fs.length
 · have dn : ((l.length : Int) != (fs.length : Int)) = false := by rw [hlen]; simp
   have HL := Lib.hid hlen
   have hlen1 : l.length ≤ fs.length := by omega
   have hlen2 : fs.length ≤ l.length := by omega
   clear hlen
   go_enter Tryz.func66, Tryz.ntmps66
   go_wp2_with fail
   go_loopw [15] (fun i wr => ∃ j : Nat, j ≤ fs.length ∧ i = .int .i64 j ∧ Hid (kidsOk l fs = kidsOk (l.drop j) (fs.drop j)) ∧ Ext (w.alloc (.cells #[.int .u8 k, .int .i64 n, str s, .slice a l.length c] 26)) wr) (fun i _ => fs.length - (intOf i).toNat)
   case atStart => exact ⟨0, Nat.zero_le _, rfl, Lib.hid rfl, Ext.refl _⟩
   case round =>
    obtain ⟨j, hj, rfl, HJ, hx⟩ := hrel; have hcs := hx.cells
    by_cases hlt : j < fs.length
    · have hlt' : j < l.length := by omega
      have hg : l[j]? = some l[j] := List.getElem?_eq_getElem hlt'; have hmem : l[j] ∈ l := List.getElem_mem hlt'; have hdrop := List.drop_eq_getElem_cons hlt'; have hgf : fs[j]? = some fs[j] := List.getElem?_eq_getElem hlt; have hmemf : fs[j] ∈ fs := List.getElem_mem hlt; have hdropf := List.drop_eq_getElem_cons hlt
      generalize l[j] = t at *
      generalize fs[j] = f at *
      have hxx : Ext w wr := Ext.trans ((Ext.refl _).alloc _) hx; obtain ⟨b, o, a', c', rfl, hSb, g0, g1, g2, g3, hsk⟩ := rowSits_get (hs.ext hxx) hg
      have HG := Lib.hid hg; clear hg
      have ht0 := hxx.keep (HB.out j f hgf)
      have HGF := Lib.hid hgf; clear hgf
      have hall : kidsOk l fs = (f.2 t && kidsOk (l.drop (j + 1)) (fs.drop (j + 1))) := by rw [HJ.out, hdrop, hdropf]; rfl
      have HA := Lib.hid hall; clear hdrop hall hdropf
      have hen := HE.out f hmemf
      unfold Enters at hen
      go_wp2_with fail
      refine (HT.out f hmemf t hmem a' c' _ hsk).mono ?_; rintro e w1 ⟨rfl, hx1⟩
      cases hp : f.2 t
      · have HP := Lib.hid hp; clear hp
        simp only
        go_wp2_with fail
        go_ret
        rw [HA.out, HP.out]
        exact ⟨rfl, (by refine Ext.trans ?_ (by assumption); assumption)⟩
      · have HP := Lib.hid hp; clear hp
        simp only
        go_wp2_with fail
        go_roundw
        case rel => exact ⟨j + 1, by omega, by go_num, Lib.hid (by rw [HA.out, HP.out]; simp), (by refine Ext.trans ?_ (by assumption); assumption)⟩
        case measure => simp [intOf]; omega
    · go_wp2_with fail
      go_ret
      rw [HJ.out, List.drop_eq_nil_of_le (by omega), List.drop_eq_nil_of_le (by omega)]
      exact ⟨rfl, (by refine Ext.trans ?_ (by assumption); refine Ext.alloc ?_ _; exact Ext.refl _)⟩
 · have dn : ((l.length : Int) != (fs.length : Int)) = true := by rw [bne_iff_ne]; omega
   have hk := kidsOk_len l fs hlen
   have HK := Lib.hid hk; clear hk hlen
   go_enter Tryz.func66, Tryz.ntmps66
   go_wp2_with fail
   go_ret
   rw [HK.out]
   exact ⟨rfl, (by refine Ext.alloc ?_ _; exact Ext.refl _)⟩
end Bk
namespace Bk
open Go Go.RowKit Go.Proofs
theorem get1 {α : Type} {Q : Nat → α → Prop} {x : α} (h : Q 0 x) : ∀ i f, [x][i]? = some f → Q i f := by
 intro i f hf
 rcases i with _ | i
 · simp at hf; exact hf ▸ h
 · simp at hf
theorem get2 {α : Type} {Q : Nat → α → Prop} {x y : α} (h : Q 0 x) (h1 : Q 1 y) : ∀ i f, [x, y][i]? = some f → Q i f := by
 intro i f hf
 rcases i with _ | _ | i
 · simp at hf; exact hf ▸ h
 · simp at hf; exact hf ▸ h1
 · simp at hf
theorem get3 {α : Type} {Q : Nat → α → Prop} {x y z : α} (h : Q 0 x) (h1 : Q 1 y) (h2 : Q 2 z) : ∀ i f, [x, y, z][i]? = some f → Q i f := by
 intro i f hf
 rcases i with _ | _ | _ | i
 · simp at hf; exact hf ▸ h
 · simp at hf; exact hf ▸ h1
 · simp at hf; exact hf ▸ h2
 · simp at hf
theorem get4 {α : Type} {Q : Nat → α → Prop} {x y z u : α} (h : Q 0 x) (h1 : Q 1 y) (h2 : Q 2 z) (h3 : Q 3 u) : ∀ i f, [x, y, z, u][i]? = some f → Q i f := by
 intro i f hf
 rcases i with _ | _ | _ | _ | i
 · simp at hf; exact hf ▸ h
 · simp at hf; exact hf ▸ h1
 · simp at hf; exact hf ▸ h2
 · simp at hf; exact hf ▸ h3
 · simp at hf
theorem mem1 {α : Type} {Q : α → Prop} {x : α} (h : Q x) : ∀ f ∈ [x], Q f := by intro f hf; simp at hf; exact hf ▸ h
theorem mem2 {α : Type} {Q : α → Prop} {x y : α} (h : Q x) (h1 : Q y) : ∀ f ∈ [x, y], Q f := by
 intro f hf; simp at hf; rcases hf with rfl | rfl <;> assumption
theorem mem3 {α : Type} {Q : α → Prop} {x y z : α} (h : Q x) (h1 : Q y) (h2 : Q z) : ∀ f ∈ [x, y, z], Q f := by
 intro f hf; simp at hf; rcases hf with rfl | rfl | rfl <;> assumption
theorem mem4 {α : Type} {Q : α → Prop} {x y z u : α} (h : Q x) (h1 : Q y) (h2 : Q z) (h3 : Q u) : ∀ f ∈ [x, y, z, u], Q f := by
 intro f hf; simp at hf; rcases hf with rfl | rfl | rfl | rfl <;> assumption
theorem en_IsExpr : Enters 68 := enters_of Tryz.func68 (by kernel_rfl) rfl
theorem isExpr_leaf (n : Int) (s : List UInt8) (l : List Nd) : (Nd.mk 1 n s l).isExpr = (decide (0 ≤ n) && s.isEmpty && l.isEmpty) := by rw [Nd.isExpr.eq_def]; simp
theorem isExpr_name (k n : Int) (s : List UInt8) (l : List Nd) (h : k = 2 ∨ k = 4 ∨ k = 5) : (Nd.mk k n s l).isExpr = (named n s && l.isEmpty) := by
 rcases h with rfl | rfl | rfl <;> rw [Nd.isExpr.eq_def] <;> simp
theorem isExpr_item (f : FuncId) (n : Int) (s : List UInt8) (l : List Nd) : (Nd.mk 3 n s l).isExpr = (named n s && kidsOk l [(f, Nd.isExpr)]) := by
 rcases l with _ | ⟨x, _ | ⟨y, l⟩⟩ <;> rw [Nd.isExpr.eq_def] <;> simp [kidsOk]
theorem isExpr_un (f : FuncId) (k n : Int) (s : List UInt8) (l : List Nd) (h : k = 6 ∨ k = 7) : (Nd.mk k n s l).isExpr = (plain n s && kidsOk l [(f, Nd.isExpr)]) := by
 rcases l with _ | ⟨x, _ | ⟨y, l⟩⟩ <;> rcases h with rfl | rfl <;> rw [Nd.isExpr.eq_def] <;> simp [kidsOk]
theorem isExpr_bin (f : FuncId) (k n : Int) (s : List UInt8) (l : List Nd) (h : 8 ≤ k) (h' : k ≤ 23) : (Nd.mk k n s l).isExpr = (plain n s && kidsOk l [(f, Nd.isExpr), (f, Nd.isExpr)]) := by
 have e1 : ¬ k = 1 := by omega
 have e2 : ¬ (k = 2 ∨ k = 4 ∨ k = 5) := by omega
 have e3 : ¬ k = 3 := by omega
 have e4 : ¬ (k = 6 ∨ k = 7) := by omega
 rcases l with _ | ⟨x, _ | ⟨y, _ | ⟨z, l⟩⟩⟩ <;> rw [Nd.isExpr.eq_def] <;> simp [kidsOk, e1, e2, e3, e4, h, h']
theorem isExpr_else (k n : Int) (s : List UInt8) (l : List Nd) (h : k < 1 ∨ 23 < k) : (Nd.mk k n s l).isExpr = false := by
 have e1 : ¬ k = 1 := by omega
 have e2 : ¬ (k = 2 ∨ k = 4 ∨ k = 5) := by omega
 have e3 : ¬ k = 3 := by omega
 have e4 : ¬ (k = 6 ∨ k = 7) := by omega
 have e5 : ¬ (8 ≤ k ∧ k ≤ 23) := by omega
 rw [Nd.isExpr.eq_def]; simp [e1, e2, e3, e4, e5]
set_option maxHeartbeats 2000000 in
theorem IsExpr_c (S : Nat → Prop) (N : Nat) : ∀ t : Nd, t.size < N → t.wf → Tests S 68 Nd.isExpr t := by
 induction N with
 | zero => intro t h; omega
 | succ N ih =>
  rintro ⟨k, n, s, l⟩ hN hwf a c w hs; simp only [Nd.wf, Nd.size, Nd.sits, Nd.kind, Nd.num, Nd.name, Nd.kids, Nd.val] at *; obtain ⟨hk0, hk1, hn0, hn1, hsl, hll, hrw⟩ := hwf
  have hkid : ∀ t ∈ l, Tests S 68 Nd.isExpr t := fun t ht => ih t (by have := size_mem ht; omega) (rowWf_get hrw t ht)
  have HKID := Lib.hid hkid; clear hkid ih hrw
  have HSL := Lib.hid hsl; clear hsl
  by_cases c1 : k = 1
  · subst c1
    have hr := isExpr_leaf n s l
    have HR := Lib.hid hr; clear hr
    go_enter Tryz.func68, Tryz.ntmps68
    go_wp2_with fail
    all_goals go_ret
    all_goals rw [HR.out]
    all_goals exact ⟨ret_bool (by rw [Bool.eq_iff_iff]; first | (simp [*]; done) | (simp [*]; intros; omega)), (by repeat (first | exact Ext.refl _ | assumption | refine Ext.alloc ?_ _ | refine Ext.drew ?_ | refine Ext.trans ?_ (by assumption)))⟩
  by_cases c2 : k = 2 ∨ k = 4 ∨ k = 5
  · have hr := isExpr_name k n s l c2
    have HR := Lib.hid hr; clear hr
    cases hnm : named n s
    all_goals have HNM := Lib.hid hnm; clear hnm
    all_goals rcases c2 with rfl | rfl | rfl
    all_goals go_enter Tryz.func68, Tryz.ntmps68
    all_goals go_wp2_with (go_at_call 69; refine (named_c _ _ _ _ _ _ _ HSL.out).mono ?_; rintro e w1 ⟨rfl, hx1⟩; have hc1 := hx1.cells; rw [HNM.out])
    all_goals go_ret
    all_goals rw [HR.out, HNM.out]
    all_goals exact ⟨ret_bool (by first | rfl | (rw [Bool.eq_iff_iff]; simp)), (by repeat (first | exact Ext.refl _ | assumption | refine Ext.alloc ?_ _ | refine Ext.drew ?_ | refine Ext.trans ?_ (by assumption)))⟩
  by_cases c3 : k = 3
  · subst c3
    have hr := isExpr_item 68 n s l
    have HR := Lib.hid hr; clear hr
    cases hnm : named n s
    all_goals have HNM := Lib.hid hnm; clear hnm
    all_goals go_enter Tryz.func68, Tryz.ntmps68
    all_goals go_wp2_with (first | (go_at_call 69; refine (named_c _ _ _ _ _ _ _ HSL.out).mono ?_; rintro e w1 ⟨rfl, hx1⟩; have hc1 := hx1.cells; rw [HNM.out]) | (go_at_call 66; refine (kids_c _ _ _ l a c [(68, Nd.isExpr)] _ _ S _ hll (by decide) (hs.ext (by refine Ext.alloc ?_ _; refine Ext.trans ?_ (by assumption); refine Ext.alloc ?_ _; exact Ext.refl _)) (get1 (by go_simp)) (mem1 en_IsExpr) (mem1 HKID.out)).mono ?_; rintro e w2 ⟨rfl, hx2⟩))
    all_goals go_ret
    all_goals rw [HR.out, HNM.out]
    all_goals exact ⟨ret_bool (by simp), (by repeat (first | exact Ext.refl _ | assumption | refine Ext.alloc ?_ _ | refine Ext.drew ?_ | refine Ext.trans ?_ (by assumption)))⟩
  by_cases c4 : k = 6 ∨ k = 7
  · have hr := isExpr_un 68 k n s l c4
    have HR := Lib.hid hr; clear hr
    cases hnm : plain n s
    all_goals have HNM := Lib.hid hnm; clear hnm
    all_goals rcases c4 with rfl | rfl
    all_goals go_enter Tryz.func68, Tryz.ntmps68
    all_goals go_wp2_with (first | (go_at_call 65; refine (plain_c _ _ _ _ _ _ _).mono ?_; rintro e w1 ⟨rfl, hx1⟩; have hc1 := hx1.cells; rw [HNM.out]) | (go_at_call 66; refine (kids_c _ _ _ l a c [(68, Nd.isExpr)] _ _ S _ hll (by decide) (hs.ext (by repeat (first | exact Ext.refl _ | assumption | refine Ext.alloc ?_ _ | refine Ext.drew ?_ | refine Ext.trans ?_ (by assumption)))) (get1 (by go_simp)) (mem1 en_IsExpr) (mem1 HKID.out)).mono ?_; rintro e w2 ⟨rfl, hx2⟩))
    all_goals go_ret
    all_goals rw [HR.out, HNM.out]
    all_goals exact ⟨ret_bool (by simp), (by repeat (first | exact Ext.refl _ | assumption | refine Ext.alloc ?_ _ | refine Ext.drew ?_ | refine Ext.trans ?_ (by assumption)))⟩
  by_cases c5 : 8 ≤ k ∧ k ≤ 23
  · obtain ⟨c5a, c5b⟩ := c5
    have d1 : (k == 1) = false := by rw [beq_eq_false_iff_ne]; omega
    have d2 : (k == 2) = false := by rw [beq_eq_false_iff_ne]; omega
    have d3 : (k == 3) = false := by rw [beq_eq_false_iff_ne]; omega
    have d4 : (k == 4) = false := by rw [beq_eq_false_iff_ne]; omega
    have d5 : (k == 5) = false := by rw [beq_eq_false_iff_ne]; omega
    have d6 : (k == 6) = false := by rw [beq_eq_false_iff_ne]; omega
    have d7 : (k == 7) = false := by rw [beq_eq_false_iff_ne]; omega
    clear c1 c2 c3 c4; have hr := isExpr_bin 68 k n s l c5a c5b
    have HR := Lib.hid hr; clear hr
    cases hnm : plain n s
    all_goals have HNM := Lib.hid hnm; clear hnm
    all_goals go_enter Tryz.func68, Tryz.ntmps68
    all_goals go_wp2_with (first | (go_at_call 65; refine (plain_c _ _ _ _ _ _ _).mono ?_; rintro e w1 ⟨rfl, hx1⟩; have hc1 := hx1.cells; rw [HNM.out]) | (go_at_call 66; refine (kids_c _ _ _ l a c [(68, Nd.isExpr), (68, Nd.isExpr)] _ _ S _ hll (by decide) (hs.ext (by refine Ext.alloc ?_ _; refine Ext.trans ?_ (by assumption); refine Ext.alloc ?_ _; exact Ext.refl _)) (get2 (by go_simp) (by go_simp)) (mem2 en_IsExpr en_IsExpr) (mem2 HKID.out HKID.out)).mono ?_; rintro e w2 ⟨rfl, hx2⟩))
    all_goals go_ret
    all_goals rw [HR.out, HNM.out]
    all_goals exact ⟨ret_bool (by simp), (by repeat (first | exact Ext.refl _ | assumption | refine Ext.alloc ?_ _ | refine Ext.drew ?_ | refine Ext.trans ?_ (by assumption)))⟩
  · have hr := isExpr_else k n s l (by omega)
    have HR := Lib.hid hr; clear hr
    have d1 : (k == 1) = false := by rw [beq_eq_false_iff_ne]; omega
    have d2 : (k == 2) = false := by rw [beq_eq_false_iff_ne]; omega
    have d3 : (k == 3) = false := by rw [beq_eq_false_iff_ne]; omega
    have d4 : (k == 4) = false := by rw [beq_eq_false_iff_ne]; omega
    have d5 : (k == 5) = false := by rw [beq_eq_false_iff_ne]; omega
    have d6 : (k == 6) = false := by rw [beq_eq_false_iff_ne]; omega
    have d7 : (k == 7) = false := by rw [beq_eq_false_iff_ne]; omega
    clear c1 c2 c3 c4
    go_enter Tryz.func68, Tryz.ntmps68
    go_wp2_with fail
    all_goals go_ret
    all_goals rw [HR.out]
    all_goals exact ⟨ret_bool (by first | rfl | (simp; omega)), (by repeat (first | exact Ext.refl _ | assumption | refine Ext.alloc ?_ _ | refine Ext.drew ?_ | refine Ext.trans ?_ (by assumption)))⟩
end Bk
