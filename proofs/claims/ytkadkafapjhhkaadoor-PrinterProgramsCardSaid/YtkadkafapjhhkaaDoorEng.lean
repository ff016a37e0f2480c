/- The engine of the walks: states as lists of known slots; one rule for each form of code and each operation; regions that draw their order. No condition. -/
import Derived.WalkKit
import Derived.Orders
import Derived.OrdersHeld
import Derived.Lib.Hide
import Derived.Test.YtkadkafapjhhkaaDoorBase
namespace Bk
open Go Go.RowKit

/-- What is known of the slots: the first entry of a number counts. -/
abbrev Sl := List (Nat × Value)
def look : Sl → Nat → Option Value
  | [], _ => none
  | (k, v) :: r, d => match Nat.beq k d with
    | true => some v
    | false => look r d
def ev (l : Sl) : Operand → Option Value
  | .tmp t => look l t
  | .const v => some v
  | .global g => some (.pointer (some ⟨g, 0, none⟩))
  | .func f => some (.func (.func f) #[] #[])
def evs (l : Sl) : List Operand → Option (List Value)
  | [] => some []
  | x :: r => match ev l x with
    | none => none
    | some v => match evs l r with
      | none => none
      | some vs => some (v :: vs)
structure Env (n : Nat) (l : Sl) (a : Act) : Prop where
  size : a.tmps.size = n
  defers : a.defers = []
  has : ∀ d v, look l d = some v → a.tmps.getD d undef = v
theorem Env.ev {n : Nat} {l : Sl} {a : Act} (h : Env n l a) {x : Operand} {v : Value} (hx : ev l x = some v) : a.eval x = v := by
  cases x with
  | tmp t => exact h.has t v hx
  | const c => simpa [Bk.ev, Act.eval] using hx
  | global g => simpa [Bk.ev, Act.eval] using hx
  | func f => simpa [Bk.ev, Act.eval] using hx
theorem Env.evs {n : Nat} {l : Sl} {a : Act} (h : Env n l a) : ∀ {xs : List Operand} {vs : List Value}, evs l xs = some vs → xs.map a.eval = vs
  | [], vs, hx => by simp [Bk.evs] at hx; simp [hx]
  | x :: r, vs, hx => by
    simp only [Bk.evs] at hx
    cases h1 : Bk.ev l x with
    | none => simp [h1] at hx
    | some v =>
      cases h2 : Bk.evs l r with
      | none => simp [h1, h2] at hx
      | some us =>
        simp [h1, h2] at hx
        subst hx
        simp [h.ev h1, Env.evs h h2]
theorem look_cons (k : Nat) (v : Value) (l : Sl) (d : Nat) : look ((k, v) :: l) d = if k = d then some v else look l d := by
  simp only [look]
  by_cases h : k = d
  · subst h; simp
  · have : Nat.beq k d = false := by
      cases hb : Nat.beq k d
      · rfl
      · exact absurd (Nat.eq_of_beq_eq_true hb) h
    rw [this, if_neg h]
theorem Env.put {n : Nat} {l : Sl} {a : Act} (h : Env n l a) {d : Nat} (hd : Nat.blt d n = true) (v : Value) : Env n ((d, v) :: l) (a.put (some d) v) := by
  have hd' : d < n := Nat.le_of_ble_eq_true hd
  refine ⟨by simp [Act.put, h.size], by simp [Act.put, h.defers], fun k u hk => ?_⟩
  rw [look_cons] at hk
  simp only [Act.put]
  by_cases e : d = k
  · subst e
    simp at hk
    subst hk
    simp [h.size, hd']
  · rw [if_neg e] at hk
    have := h.has k u hk
    simpa [Array.getElem?_setIfInBounds_ne e] using this
theorem Env.put0 {n : Nat} {l : Sl} {a : Act} (h : Env n l a) (v : Value) : Env n l (a.put none v) := h
/-- The one list knows no more than the other. -/
def Sub (m l : Sl) : Prop := ∀ d v, look m d = some v → look l d = some v
theorem Env.sub {n : Nat} {m l : Sl} {a : Act} (h : Env n l a) (hs : Sub m l) : Env n m a := ⟨h.size, h.defers, fun d v hv => h.has d v (hs d v hv)⟩
theorem sub_nil {l : Sl} : Sub [] l := fun _ _ h => by simp [look] at h
theorem sub_cons {m l : Sl} {d : Nat} {v : Value} (h : look l d = some v) (r : Sub m l) : Sub ((d, v) :: m) l := fun k u hk => by
  rw [look_cons] at hk
  by_cases e : d = k
  · subst e; simp at hk; subst hk; exact h
  · rw [if_neg e] at hk; exact r k u hk
theorem sub_cons' {m l : Sl} {d : Nat} {v v' : Value} (h : look l d = some v') (e : v' = v) (r : Sub m l) : Sub ((d, v) :: m) l := sub_cons (e ▸ h) r
theorem sub_refl {l : Sl} : Sub l l := fun _ _ h => h

/-! ### Judgements -/
def CW (P : Program) (n : Nat) (c : Code) (Q : Exit → Act → World → Prop) (l : Sl) (w : World) : Prop := ∀ a, Env n l a → c.wp P Q a w
def LW (P : Program) (n : Nat) (ops : Array Oper) (Q : Exit → Act → World → Prop) (os : List Oper) (l : Sl) (w : World) : Prop := ∀ a, Env n l a → wpList P ops Q os a w
def QW (n : Nat) (Q : Exit → Act → World → Prop) (e : Exit) (l : Sl) (w : World) : Prop := ∀ a, Env n l a → Q e a w

section code
variable {P : Program} {n : Nat} {Q : Exit → Act → World → Prop} {l : Sl} {w : World}
theorem CW.sub {c : Code} {m : Sl} (h : CW P n c Q m w) (hs : Sub m l) : CW P n c Q l w := fun a ha => h a (ha.sub hs)
theorem cw_seq {x y : Code} (h : CW P n x (Exit.then (y.wp P Q) Q) l w) : CW P n (.seq x y) Q l w := fun a ha => wp_seq (h a ha)
/-- The ways through x meet again where I holds. -/
theorem cw_cut {x y : Code} (I : Act → World → Prop) (h : CW P n x (Exit.then I Q) l w) (k : ∀ a w, I a w → y.wp P Q a w) : CW P n (.seq x y) Q l w := fun a ha =>
  wp_seq (Code.wp_mono (fun e a w q => by cases e <;> first | exact k _ _ q | exact q) (h a ha))
theorem qw_then {y : Code} (h : CW P n y Q l w) : QW n (Exit.then (y.wp P Q) Q) .normal l w := h
theorem qw_then_I {I : Act → World → Prop} (h : ∀ a, Env n l a → I a w) : QW n (Exit.then I Q) .normal l w := h
theorem qw_then_ret {K : Act → World → Prop} (h : QW n Q .ret l w) : QW n (Exit.then K Q) .ret l w := h
theorem qw_then_exit {K : Act → World → Prop} {i : Nat} (h : QW n Q (.exit i) l w) : QW n (Exit.then K Q) (.exit i) l w := h
theorem cw_skip (h : QW n Q .normal l w) : CW P n .skip Q l w := fun a ha => wp_skip (h a ha)
theorem cw_exit {i : Nat} (h : QW n Q (.exit i) l w) : CW P n (.exit i) Q l w := fun a ha => wp_exit (h a ha)
theorem cw_ret (h : QW n Q .ret l w) : CW P n .ret Q l w := fun a ha => wp_ret (h a ha)
theorem cw_block {i : Nat} {c : Code} (h : CW P n c (Exit.inBlock i Q) l w) : CW P n (.block i c) Q l w := fun a ha => wp_block (h a ha)
theorem qw_block_norm {i : Nat} (h : QW n Q .normal l w) : QW n (Exit.inBlock i Q) .normal l w := h
theorem qw_block_ret {i : Nat} (h : QW n Q .ret l w) : QW n (Exit.inBlock i Q) .ret l w := h
theorem qw_block_exit {i : Nat} (h : QW n Q .normal l w) : QW n (Exit.inBlock i Q) (.exit i) l w := fun a ha => by simp only [Exit.inBlock, if_true]; exact h a ha
theorem qw_block_pass {i j : Nat} (hij : Nat.beq j i = false) (h : QW n Q (.exit j) l w) : QW n (Exit.inBlock i Q) (.exit j) l w := fun a ha => by
  have : j ≠ i := fun e => by subst e; simp at hij
  simp only [Exit.inBlock, if_neg this]; exact h a ha
theorem cw_cond_t {c : Operand} {x y : Code} (hc : ev l c = some (.bool true)) (h : CW P n x Q l w) : CW P n (.cond c x y) Q l w := fun a ha => wp_cond_true (ha.ev hc) (h a ha)
theorem cw_cond_f {c : Operand} {x y : Code} (hc : ev l c = some (.bool false)) (h : CW P n y Q l w) : CW P n (.cond c x y) Q l w := fun a ha => wp_cond_false (ha.ev hc) (h a ha)
theorem cw_cond {c : Operand} {x y : Code} {b : Bool} (hc : ev l c = some (.bool b)) (ht : b = true → CW P n x Q l w) (hf : b = false → CW P n y Q l w) : CW P n (.cond c x y) Q l w :=
  fun a ha => wp_cond_split (ha.ev hc) (fun e => ht e a ha) (fun e => hf e a ha)
theorem cw_dec {c : Operand} {x y : Code} {p : Prop} [Decidable p] (hc : ev l c = some (.bool (decide p))) (ht : p → CW P n x Q l w) (hf : ¬ p → CW P n y Q l w) : CW P n (.cond c x y) Q l w :=
  cw_cond hc (fun e => ht (of_decide_eq_true e)) (fun e => hf (of_decide_eq_false e))
theorem cw_yes {c : Operand} {x y : Code} {p : Prop} [Decidable p] (hc : ev l c = some (.bool (decide p))) (hp : p) (h : CW P n x Q l w) : CW P n (.cond c x y) Q l w :=
  cw_dec hc (fun _ => h) (fun e => absurd hp e)
theorem cw_no {c : Operand} {x y : Code} {p : Prop} [Decidable p] (hc : ev l c = some (.bool (decide p))) (hp : ¬ p) (h : CW P n y Q l w) : CW P n (.cond c x y) Q l w :=
  cw_dec hc (fun e => absurd e hp) (fun _ => h)
theorem cw_bt {c : Operand} {x y : Code} {b : Bool} (hc : ev l c = some (.bool b)) (hb : b = true) (h : CW P n x Q l w) : CW P n (.cond c x y) Q l w := cw_cond_t (hb ▸ hc) h
theorem cw_bf {c : Operand} {x y : Code} {b : Bool} (hc : ev l c = some (.bool b)) (hb : b = false) (h : CW P n y Q l w) : CW P n (.cond c x y) Q l w := cw_cond_f (hb ▸ hc) h
theorem cw_region {id : Nat} {os : List Oper} (h : LW P n os.toArray Q os l w) : CW P n (.region id os.toArray false) Q l w := fun a ha => wp_region_lit (h a ha)
/-- A loop: at its head the slots and the world are those of some state x. -/
theorem cw_loop {ι : Type} {c : Code} (L : ι → Sl) (I : ι → World → Prop) (μ : ι → Nat) (x₀ : ι) (hs : Sub (L x₀) l) (h₀ : I x₀ w)
    (round : ∀ x w, I x w → CW P n c (Exit.then (fun a' w' => ∃ y, Env n (L y) a' ∧ I y w' ∧ μ y < μ x) Q) (L x) w) : CW P n (.loop c) Q l w := by
  intro a ha
  intro b k cs
  have key : ∀ m x a w, μ x = m → I x w → Env n (L x) a →
      ∃ e a' w', Q e a' w' ∧ Arrives P (lone (b.at a (.code c :: .inLoop c :: k)) cs w) b k cs e a' w' := by
    intro m
    induction m using Nat.strongRecOn with
    | _ m ih =>
      intro x a w hm hI hE
      obtain ⟨e, a₁, w₁, hq, harr⟩ := round x w hI a hE b (.inLoop c :: k) cs
      cases e with
      | normal =>
        obtain ⟨y, hE₁, hI₁, hlt⟩ := hq
        obtain ⟨e₂, a₂, w₂, hq₂, harr₂⟩ := ih (μ y) (hm ▸ hlt) y a₁ w₁ rfl hI₁ hE₁
        exact ⟨e₂, a₂, w₂, hq₂, .of_steps (Steps.trans harr (.one step_inLoop)) harr₂⟩
      | exit id => exact ⟨_, a₁, w₁, hq, .pass (x := .inLoop c) rfl (fun _ _ => .inl (by simp)) harr⟩
      | goto l => exact ⟨_, a₁, w₁, hq, .pass (x := .inLoop c) rfl (fun _ _ => .inl (by simp)) harr⟩
      | ret => exact ⟨_, a₁, w₁, hq, .pass (x := .inLoop c) rfl (fun _ _ => .inl (by simp)) harr⟩
      | panic ch => exact ⟨_, a₁, w₁, hq, .pass (x := .inLoop c) rfl (fun _ _ => .inl (by simp)) harr⟩
      | outgrown => exact ⟨_, a₁, w₁, hq, harr⟩
  obtain ⟨e, a', w', hq, harr⟩ := key (μ x₀) x₀ a w rfl h₀ (ha.sub hs)
  exact ⟨e, a', w', hq, .of_steps (.one step_loop) harr⟩
theorem qw_round {ι : Type} {L : ι → Sl} {I : ι → World → Prop} {μ : ι → Nat} {x : ι} (y : ι) (hs : Sub (L y) l) (h : I y w) (hm : μ y < μ x) :
    QW n (Exit.then (fun a' w' => ∃ y, Env n (L y) a' ∧ I y w' ∧ μ y < μ x) Q) .normal l w := fun _ ha => ⟨y, ha.sub hs, h, hm⟩
end code
/-! ### The beginning and the end of a call -/
def enumSl : Nat → List Value → Sl
  | _, [] => []
  | i, v :: r => (i, v) :: enumSl (i + 1) r
theorem look_enum (d : Nat) (v : Value) : ∀ (vs : List Value) (i : Nat), look (enumSl i vs) d = some v → i ≤ d ∧ vs[d - i]? = some v
  | [], _, h => by simp [enumSl, look] at h
  | u :: r, i, h => by
    simp only [enumSl] at h
    rw [look_cons] at h
    by_cases e : i = d
    · subst e; simp at h; subst h; simp
    · rw [if_neg e] at h
      obtain ⟨h1, h2⟩ := look_enum d v r (i + 1) h
      refine ⟨by omega, ?_⟩
      rw [show d - i = (d - (i + 1)) + 1 from by omega]
      simpa using h2
theorem calls_in {P : Program} {f : FuncId} {fn : Func} {c : Code} {args : List Value} {n : Nat} {w : World} {R : Ending → World → Prop}
    (hf : P.funcs[f]? = some fn) (hn : fn.ntmps = n) (hb : fn.body = some c) (hl : Nat.ble args.length n = true) (h : CW P n c (bodyPost P fn R) (enumSl 0 args) w) : Calls P f args.toArray w R := by
  refine calls_of_wp hf hb (h _ ?_)
  have hl' : args.length ≤ n := by simpa using hl
  refine ⟨by simp; omega, rfl, fun d v hv => ?_⟩
  obtain ⟨-, h2⟩ := look_enum d v args 0 hv
  simp only [Nat.sub_zero] at h2
  have : d < args.length := by
    rcases Nat.lt_or_ge d args.length with h | h
    · exact h
    · rw [List.getElem?_eq_none h] at h2; cases h2
  rw [List.getElem?_eq_getElem this] at h2
  simp only [Option.some.injEq] at h2
  simp [Array.getElem?_append, this, h2]
section ends
variable {P : Program} {fn : Func} {n : Nat} {R : Ending → World → Prop} {l : Sl} {w : World}
theorem qw_ret0 (h : fn.results = #[]) (hR : R (.returned (.tuple #[])) w) : QW n (bodyPost P fn R) .ret l w := fun a ha => ⟨ha.defers, _, results_none h _ _ _, hR⟩
theorem qw_end0 (h : fn.results = #[]) (hR : R (.returned (.tuple #[])) w) : QW n (bodyPost P fn R) .normal l w := fun a ha => ⟨ha.defers, _, results_none h _ _ _, hR⟩
theorem qw_ret1 {t : Nat} {v : Value} (h : fn.results = #[.tmp t]) (hv : look l t = some v) (hR : R (.returned v) w) : QW n (bodyPost P fn R) .ret l w := fun a ha =>
  ⟨ha.defers, _, results_tmp h _ _ _, by rw [ha.has t v hv]; exact hR⟩
theorem qw_ret2 {t u : Nat} {v x : Value} (h : fn.results = #[.tmp t, .tmp u]) (hv : look l t = some v) (hx : look l u = some x) (hR : R (.returned (.tuple #[v, x])) w) : QW n (bodyPost P fn R) .ret l w := fun a ha =>
  ⟨ha.defers, _, results_tmp2 h _ _ _, by rw [ha.has t v hv, ha.has u x hx]; exact hR⟩
end ends

/-! ### What is known of the types -/
inductive Sk where
  | int (k : IntKind) | bool | str | slice (e : Nat) | struct (fs : List (Nat × Nat)) | array (len e : Nat) | ptr (e : Nat) | map (k e : Nat) | func
abbrev Tab := List (Nat × Sk × Nat)
def lookT : Tab → Nat → Option (Sk × Nat)
  | [], _ => none
  | p :: r, t => match Nat.beq p.1 t with
    | true => some p.2
    | false => lookT r t
def Sk.ok (P : Program) (t : Nat) : Sk → Prop
  | .int k => P.underlying t = some (.int k)
  | .bool => P.underlying t = some .bool
  | .str => P.underlying t = some .string
  | .slice e => P.underlying t = some (.slice e)
  | .array n e => P.underlying t = some (.array n e)
  | .ptr e => P.underlying t = some (.pointer e)
  | .map k e => P.underlying t = some (.map k e)
  | .func => ∃ a b c, P.underlying t = some (.func a b c)
  | .struct fs => ∃ gs, P.underlying t = some (.struct gs) ∧ gs.size = fs.length ∧ ∀ (i o ft : Nat), fs[i]? = some (o, ft) → ∃ g : Field, gs[i]? = some g ∧ g.offset = o ∧ g.type = ft ∧ ∃ j : TypeInfo, P.info? ft = some j ∧ j.size ≠ 0
def Sk.check (P : Program) (t : Nat) : Sk → Bool
  | .int k => match P.underlying t with | some (.int k') => decide (k = k') | _ => false
  | .bool => match P.underlying t with | some .bool => true | _ => false
  | .str => match P.underlying t with | some .string => true | _ => false
  | .slice e => match P.underlying t with | some (.slice e') => Nat.beq e' e | _ => false
  | .array n e => match P.underlying t with | some (.array n' e') => Nat.beq n' n && Nat.beq e' e | _ => false
  | .ptr e => match P.underlying t with | some (.pointer e') => Nat.beq e' e | _ => false
  | .map k e => match P.underlying t with | some (.map k' e') => Nat.beq k' k && Nat.beq e' e | _ => false
  | .func => match P.underlying t with | some (.func _ _ _) => true | _ => false
  | .struct fs => match P.underlying t with
    | some (.struct gs) => Nat.beq gs.size fs.length && (List.range fs.length).all fun i => match fs[i]?, gs[i]? with
      | some (o, ft), some g => Nat.beq g.offset o && Nat.beq g.type ft && match P.info? ft with | some j => !Nat.beq j.size 0 | none => false
      | _, _ => false
    | _ => false
theorem Sk.ok_of_check {P : Program} {t : Nat} {s : Sk} (h : s.check P t = true) : s.ok P t := by
  cases s with
  | struct fs =>
    simp only [Sk.check] at h
    split at h
    · rename_i gs hg
      simp only [Bool.and_eq_true, List.all_eq_true, List.mem_range] at h
      refine ⟨gs, hg, Nat.eq_of_beq_eq_true h.1, fun i o ft hi => ?_⟩
      have hlt : i < fs.length := by
        rcases Nat.lt_or_ge i fs.length with h' | h'
        · exact h'
        · rw [List.getElem?_eq_none h'] at hi; cases hi
      have hh := h.2 i hlt
      rw [hi] at hh
      split at hh
      · rename_i o' ft' g e1 e2
        simp only [Option.some.injEq, Prod.mk.injEq] at e1
        obtain ⟨rfl, rfl⟩ := e1
        simp only [Bool.and_eq_true] at hh
        refine ⟨g, e2, Nat.eq_of_beq_eq_true hh.1.1, Nat.eq_of_beq_eq_true hh.1.2, ?_⟩
        have h3 := hh.2
        split at h3
        · rename_i j hj
          exact ⟨j, hj, fun e => by rw [e] at h3; simp at h3⟩
        · cases h3
      · cases hh
    · cases h
  | func =>
    simp only [Sk.check] at h
    split at h
    · exact ⟨_, _, _, by assumption⟩
    · cases h
  | int k => simp only [Sk.check] at h; split at h <;> simp_all [Sk.ok]
  | bool => simp only [Sk.check] at h; split at h <;> simp_all [Sk.ok]
  | str => simp only [Sk.check] at h; split at h <;> simp_all [Sk.ok]
  | slice e => simp only [Sk.check] at h; split at h <;> simp_all [Sk.ok]
  | ptr e => simp only [Sk.check] at h; split at h <;> simp_all [Sk.ok]
  | array n e => simp only [Sk.check] at h; split at h <;> simp_all [Sk.ok]
  | map n e => simp only [Sk.check] at h; split at h <;> simp_all [Sk.ok]
structure TyOk (P : Program) (t : Nat) (s : Sk) (sz : Nat) : Prop where
  under : s.ok P t
  info : ∃ i, P.info? t = some i ∧ i.size = sz
def TabOk (P : Program) (tab : Tab) : Prop := ∀ t s sz, lookT tab t = some (s, sz) → TyOk P t s sz
def Tab.check (P : Program) (tab : Tab) : Bool := tab.all fun p => p.2.1.check P p.1 && match P.info? p.1 with | some i => Nat.beq i.size p.2.2 | none => false
theorem lookT_mem {tab : Tab} {t : Nat} {x : Sk × Nat} (h : lookT tab t = some x) : (t, x) ∈ tab := by
  induction tab with
  | nil => simp [lookT] at h
  | cons p r ih =>
    simp only [lookT] at h
    split at h
    · rename_i hb
      have := Nat.eq_of_beq_eq_true hb
      simp only [Option.some.injEq] at h
      subst h this
      exact List.mem_cons_self
    · exact List.mem_cons_of_mem _ (ih h)
theorem TabOk.of_check {P : Program} {tab : Tab} (h : tab.check P = true) : TabOk P tab := fun t s sz hl => by
  have := List.all_eq_true.1 h _ (lookT_mem hl)
  simp only [Bool.and_eq_true] at this
  refine ⟨Sk.ok_of_check this.1, ?_⟩
  have h2 := this.2
  split at h2
  · rename_i i hi
    exact ⟨i, hi, Nat.eq_of_beq_eq_true h2⟩
  · cases h2

/-! ### Operations that yield a value and leave the world as it is -/
def Pur (P : Program) (n : Nat) (l : Sl) (S : World → Prop) (op : Op) (ty : TypeId) (v : Value) : Prop :=
  ∀ a w dst pos after g, Env n l a → S w → (execOp a.eval ⟨dst, op, ty, pos, after, g⟩).run P w = .ok (.value v) w
section pur
variable {P : Program} {n : Nat} {l : Sl} {S : World → Prop} {ty : TypeId} {tab : Tab}
theorem pur_move {x : Operand} {v : Value} (h : ev l x = some v) : Pur P n l S (.move x) ty v := fun a w dst pos after g ha _ => by
  simp [execOp, ha.ev h]
theorem pur_assign {x : Operand} {v : Value} (h : ev l x = some v) : Pur P n l S (.assign x) ty v := fun a w dst pos after g ha _ => by
  simp [execOp, ha.ev h]
theorem run_underlying {t : Nat} {d : TypeDesc} (h : P.underlying t = some d) (w : World) : (underlying t).run P w = .ok d w := by
  simp [underlying, program, Sem.run, h, bind, Sem.bind, pure]
theorem run_size {t : Nat} {i : TypeInfo} (h : P.info? t = some i) (w : World) : (Go.sizeOf t).run P w = .ok i.size w := by
  simp [Go.sizeOf, typeInfo, program, Sem.run, h, bind, Sem.bind, pure]
theorem run_sizeOf {t : Nat} {s : Sk} {sz : Nat} (h : TyOk P t s sz) (w : World) : (Go.sizeOf t).run P w = .ok sz w := by
  obtain ⟨i, hi, hs⟩ := h.info
  simp [Go.sizeOf, typeInfo, program, Sem.run, hi, bind, Sem.bind, pure, hs]
theorem pur_fieldAddr {x : Operand} {s f b o off ft sz : Nat} {fs : List (Nat × Nat)} (T : TabOk P tab) (hx : ev l x = some (.pointer (some ⟨b, o, none⟩)))
    (ht : lookT tab s = some (.struct fs, sz)) (hf : fs[f]? = some (off, ft)) : Pur P n l S (.fieldAddr s x f) ty (.pointer (some ⟨b, o + off, none⟩)) := fun a w dst pos after g ha _ => by
  obtain ⟨gs, h1, -, h2⟩ := (T _ _ _ ht).under
  obtain ⟨fd, h3, h4, h5, j, h6, h7⟩ := h2 f off ft hf
  have e : (Instr.fieldAt s (.pointer (some ⟨b, o, none⟩)) f).run P w = .ok (.pointer (some ⟨b, o + off, none⟩)) w := by
    simp only [Instr.fieldAt, Sem.run_bind, run_underlying h1, Result.andThen, h3, Instr.sureAddr, Sem.run_pure, fieldPlace, h5, h4]
    simp only [run_size h6, h7, if_false, Sem.run_pure, Addr.add]
    by_cases h0 : off = 0
    · subst h0; simp
    · simp [h0]
  simp [execOp, ha.ev hx, e]
theorem pur_fieldAddr0 {x : Operand} {s f b o ft sz : Nat} {fs : List (Nat × Nat)} (T : TabOk P tab) (hx : ev l x = some (.pointer (some ⟨b, o, none⟩)))
    (ht : lookT tab s = some (.struct fs, sz)) (hf : fs[f]? = some (0, ft)) : Pur P n l S (.fieldAddr s x f) ty (.pointer (some ⟨b, o, none⟩)) := pur_fieldAddr T hx ht hf
def Sk.agg : Sk → Bool
  | .struct _ | .array _ _ => true
  | _ => false
theorem run_isAgg {t : Nat} {s : Sk} {sz : Nat} (h : TyOk P t s sz) (w : World) : (isAgg t).run P w = .ok s.agg w := by
  have := h.under
  cases s with
  | struct fs => obtain ⟨gs, h1, -⟩ := this; simp [isAgg, run_underlying h1, Result.andThen, Sk.agg]
  | func => obtain ⟨_, _, _, h1⟩ := this; simp [isAgg, run_underlying h1, Result.andThen, Sk.agg]
  | _ => simp [isAgg, run_underlying this, Result.andThen, Sk.agg]
theorem pur_load {x : Operand} {t sz : Nat} {s : Sk} {p : Addr} {v : Value} (T : TabOk P tab) (ht : lookT tab t = some (s, sz)) (hs : s.agg = false) (hx : ev l x = some (.pointer (some p)))
    (hc : ∀ w, S w → w.cell? p = some v) : Pur P n l S (.load t x) ty v := fun a w dst pos after g ha hS => by
  have e : (Instr.loadAt t (.pointer (some p))).run P w = .ok v w := by
    simp only [Instr.loadAt, Instr.sureAddr, Sem.run_bind, Sem.run_pure, Result.andThen, loadVar, run_isAgg (T _ _ _ ht), hs]
    simp [load, Sem.run, hc w hS]
  simp [execOp, ha.ev hx, e]
/-- The cells from p on are these. -/
def Row (w : World) (p : Addr) (vs : List Value) : Prop := ∀ i v, vs[i]? = some v → w.cell? (p.add i) = some v
theorem run_loadCells' {w : World} {p : Addr} {vs : List Value} (h : Row w p vs) : (loadCells p vs.length).run P w = .ok vs.toArray w :=
  run_loadCells_list w p vs h
theorem pur_loads {x : Operand} {t sz : Nat} {s : Sk} {p : Addr} {vs : List Value} (T : TabOk P tab) (ht : lookT tab t = some (s, sz)) (hs : s.agg = true) (hx : ev l x = some (.pointer (some p)))
    (hl : vs.length = sz) (hc : ∀ w, S w → Row w p vs) : Pur P n l S (.load t x) ty (.agg vs.toArray) := fun a w dst pos after g ha hS => by
  have e : (Instr.loadAt t (.pointer (some p))).run P w = .ok (.agg vs.toArray) w := by
    simp only [Instr.loadAt, Instr.sureAddr, Sem.run_bind, Sem.run_pure, Result.andThen, loadVar, run_isAgg (T _ _ _ ht), hs, if_true, run_sizeOf (T _ _ _ ht)]
    rw [← hl, run_loadCells' (hc w hS)]
  simp [execOp, ha.ev hx, e]
theorem pur_loads' {x : Operand} {t sz : Nat} {s : Sk} {p : Addr} {vs : List Value} (T : TabOk P tab) (ht : lookT tab t = some (s, sz)) (hs : s.agg = true) (hx : ev l x = some (.pointer (some p)))
    (hc : ∀ w, S w → Row w p vs) (hl : vs.length = sz) : Pur P n l S (.load t x) ty (.agg vs.toArray) := pur_loads T ht hs hx hl hc
theorem pur_indexAddr {x i : Operand} {t e sz szE b o len cap : Nat} {k : IntKind} {j : Int} {sE : Sk} (T : TabOk P tab) (ht : lookT tab t = some (.slice e, sz)) (hE : lookT tab e = some (sE, szE))
    (hx : ev l x = some (.slice (some ⟨b, o, none⟩) len cap)) (hi : ev l i = some (.int k j)) (h0 : 0 ≤ j) (h1 : j < len) : Pur P n l S (.indexAddr t x i) ty (.pointer (some ⟨b, o + j.toNat * szE, none⟩)) := fun a w dst pos after g ha _ => by
  have hu : P.underlying t = some (.slice e) := (T _ _ _ ht).under
  have e : (Instr.indexAt t (.slice (some ⟨b, o, none⟩) len cap) (.int k j)).run P w = .ok (.pointer (some ⟨b, o + j.toNat * szE, none⟩)) w := by
    simp only [Instr.indexAt, asIntOf, Sem.run_bind, Sem.run_pure, Result.andThen, run_underlying hu]
    simp only [h0, h1, and_self, if_true, Sem.run_bind, run_sizeOf (T _ _ _ hE), Result.andThen, Sem.run_pure, Addr.add]
    by_cases hz : j.toNat * szE = 0
    · simp [hz]
    · simp [hz]
  simp [execOp, ha.ev hx, ha.ev hi, e]
/-- Ints. -/
theorem run_binOp_int {op : BinOp} {t : Nat} {k : IntKind} {a b : Int} {w : World} : (eqGuard op t (.const (.int k a)) (.const (.int k b)) (.int k a) (.int k b)).run P w = .ok () w := by
  unfold eqGuard; cases op <;> simp
theorem run_guard_int {op : BinOp} {t : Nat} {x y : Operand} {k k' : IntKind} {a b : Int} {w : World} : (eqGuard op t x y (.int k a) (.int k' b)).run P w = .ok () w := by
  unfold eqGuard; cases op <;> simp
theorem run_guard_str {op : BinOp} {t : Nat} {x y : Operand} {a b : ByteArray} {w : World} : (eqGuard op t x y (.string a) (.string b)).run P w = .ok () w := by
  unfold eqGuard; cases op <;> simp
theorem beq_dec {α : Type} [BEq α] [LawfulBEq α] [DecidableEq α] (a b : α) : (a == b) = decide (a = b) := by
  rw [Bool.eq_iff_iff]; simp
section ints
variable {x y : Operand} {t t' : Nat} {k : IntKind} {a b c : Int}
theorem pur_add (hx : ev l x = some (.int k a)) (hy : ev l y = some (.int k b)) (hc : k.wrap (a + b) = c) : Pur P n l S (.binOp .add t x y t') ty (.int k c) := fun a w dst pos after g ha _ => by
  subst hc; simp [execOp, ha.ev hx, ha.ev hy, run_guard_int, binOp, Op.intArith]
theorem pur_sub (hx : ev l x = some (.int k a)) (hy : ev l y = some (.int k b)) (hc : k.wrap (a - b) = c) : Pur P n l S (.binOp .sub t x y t') ty (.int k c) := fun a w dst pos after g ha _ => by
  subst hc; simp [execOp, ha.ev hx, ha.ev hy, run_guard_int, binOp, Op.intArith]
theorem pur_mul (hx : ev l x = some (.int k a)) (hy : ev l y = some (.int k b)) (hc : k.wrap (a * b) = c) : Pur P n l S (.binOp .mul t x y t') ty (.int k c) := fun a w dst pos after g ha _ => by
  subst hc; simp [execOp, ha.ev hx, ha.ev hy, run_guard_int, binOp, Op.intArith]
theorem pur_eql (hx : ev l x = some (.int k a)) (hy : ev l y = some (.int k b)) : Pur P n l S (.binOp .eql t x y t') ty (.bool (decide (a = b))) := fun a w dst pos after g ha _ => by
  simp [execOp, ha.ev hx, ha.ev hy, run_guard_int, binOp, Op.intCmp, beq_dec]
theorem pur_neq (hx : ev l x = some (.int k a)) (hy : ev l y = some (.int k b)) : Pur P n l S (.binOp .neq t x y t') ty (.bool (decide (a ≠ b))) := fun a w dst pos after g ha _ => by
  simp [execOp, ha.ev hx, ha.ev hy, run_guard_int, binOp, Op.intCmp, bne, beq_dec]
theorem pur_lss (hx : ev l x = some (.int k a)) (hy : ev l y = some (.int k b)) : Pur P n l S (.binOp .lss t x y t') ty (.bool (decide (a < b))) := fun a w dst pos after g ha _ => by
  simp [execOp, ha.ev hx, ha.ev hy, run_guard_int, binOp, Op.intCmp]
theorem pur_leq (hx : ev l x = some (.int k a)) (hy : ev l y = some (.int k b)) : Pur P n l S (.binOp .leq t x y t') ty (.bool (decide (a ≤ b))) := fun a w dst pos after g ha _ => by
  simp [execOp, ha.ev hx, ha.ev hy, run_guard_int, binOp, Op.intCmp]
theorem pur_gtr (hx : ev l x = some (.int k a)) (hy : ev l y = some (.int k b)) : Pur P n l S (.binOp .gtr t x y t') ty (.bool (decide (b < a))) := fun a w dst pos after g ha _ => by
  simp [execOp, ha.ev hx, ha.ev hy, run_guard_int, binOp, Op.intCmp]
theorem pur_geq (hx : ev l x = some (.int k a)) (hy : ev l y = some (.int k b)) : Pur P n l S (.binOp .geq t x y t') ty (.bool (decide (b ≤ a))) := fun a w dst pos after g ha _ => by
  simp [execOp, ha.ev hx, ha.ev hy, run_guard_int, binOp, Op.intCmp]
end ints
/-- Strings. -/
theorem str_app (a b : List UInt8) : (⟨a.toArray⟩ : ByteArray) ++ ⟨b.toArray⟩ = ⟨(a ++ b).toArray⟩ := by
  apply ByteArray.ext; simp
theorem str_toList (a : List UInt8) : (⟨a.toArray⟩ : ByteArray).toList = a := by
  simp [ByteArray.toList_eq]
section strs
variable {x y : Operand} {t t' : Nat} {a b : List UInt8}
theorem pur_sadd (hx : ev l x = some (str a)) (hy : ev l y = some (str b)) (hl : a.length + b.length ≤ 9223372036854775807) : Pur P n l S (.binOp .add t x y t') ty (str (a ++ b)) := fun _ w dst pos after g ha _ => by
  have h : ¬ IntKind.i64.max < (((⟨a.toArray⟩ : ByteArray).size + (⟨b.toArray⟩ : ByteArray).size : Nat) : Int) := by
    have e1 : (⟨a.toArray⟩ : ByteArray).size = a.length := by simp [ByteArray.size]
    have e2 : (⟨b.toArray⟩ : ByteArray).size = b.length := by simp [ByteArray.size]
    rw [e1, e2]
    simp only [IntKind.max, IntKind.signed, IntKind.bits]
    omega
  simp only [execOp, ha.ev hx, ha.ev hy, Sem.run_bind, run_guard_str, Result.andThen, binOp, Op.stringOp, gt_iff_lt, if_neg h, Sem.run_pure, str_app]
theorem pur_seql (hx : ev l x = some (str a)) (hy : ev l y = some (str b)) : Pur P n l S (.binOp .eql t x y t') ty (.bool (decide (a = b))) := fun _ w dst pos after g ha _ => by
  simp only [execOp, ha.ev hx, ha.ev hy, Sem.run_bind, run_guard_str, Result.andThen, binOp, Op.stringOp, Sem.run_pure, str_toList, beq_dec]
theorem pur_sneq (hx : ev l x = some (str a)) (hy : ev l y = some (str b)) : Pur P n l S (.binOp .neq t x y t') ty (.bool (decide (a ≠ b))) := fun _ w dst pos after g ha _ => by
  simp only [execOp, ha.ev hx, ha.ev hy, Sem.run_bind, run_guard_str, Result.andThen, binOp, Op.stringOp, Sem.run_pure, str_toList]
  congr 3
  by_cases h : a = b <;> simp [h]
theorem pur_not {q : Bool} (hx : ev l x = some (.bool q)) : Pur P n l S (.unOp .not t x) ty (.bool !q) := fun _ w dst pos after g ha _ => by
  simp [execOp, ha.ev hx, Op.unary]
theorem pur_pick {c : Operand} {q : Bool} {u v r : Value} (hc : ev l c = some (.bool q)) (hx : ev l x = some u) (hy : ev l y = some v) (hr : (if q then u else v) = r) : Pur P n l S (.pick c x y) ty r := fun _ w dst pos after g ha _ => by
  subst hr
  cases q <;> simp [execOp, ha.ev hc, ha.ev hx, ha.ev hy, asBool]
theorem pur_pick_t {c : Operand} {q : Bool} {u : Value} (hc : ev l c = some (.bool q)) (hx : ev l x = some u) (hq : q = true) : Pur P n l S (.pick c x y) ty u := fun _ w dst pos after g ha _ => by
  subst hq
  simp [execOp, ha.ev hc, ha.ev hx, asBool]
theorem pur_pick_f {c : Operand} {q : Bool} {v : Value} (hc : ev l c = some (.bool q)) (hy : ev l y = some v) (hq : q = false) : Pur P n l S (.pick c x y) ty v := fun _ w dst pos after g ha _ => by
  subst hq
  simp [execOp, ha.ev hc, ha.ev hy, asBool]
theorem pur_pick_yes {c : Operand} {p : Prop} [Decidable p] {u : Value} (hc : ev l c = some (.bool (decide p))) (hx : ev l x = some u) (hp : p) : Pur P n l S (.pick c x y) ty u := pur_pick_t hc hx (decide_eq_true hp)
theorem pur_pick_no {c : Operand} {p : Prop} [Decidable p] {v : Value} (hc : ev l c = some (.bool (decide p))) (hy : ev l y = some v) (hp : ¬ p) : Pur P n l S (.pick c x y) ty v := pur_pick_f hc hy (decide_eq_false hp)
theorem pur_extract {i : Nat} {v : Value} {vs : List Value} (hx : ev l x = some (.tuple vs.toArray)) (hi : vs[i]? = some v) : Pur P n l S (.extract x i) ty v := fun _ w dst pos after g ha _ => by
  simp [execOp, ha.ev hx, Instr.extract, hi]
theorem pur_len_str (T : TabOk P tab) {sz : Nat} {pt : Bool} (ht : lookT tab t = some (.str, sz)) (hx : ev l x = some (str a)) : Pur P n l S (.call ⟨.builtin .len, #[x], #[t]⟩) ty (.int .i64 a.length) := fun _ w dst pos after g ha _ => by
  have hu : P.underlying t = some .string := (T _ _ _ ht).under
  have e1 : (⟨a.toArray⟩ : ByteArray).size = a.length := by simp [ByteArray.size]
  simp [execOp, resolve, invoke, builtin, Builtin.len_, ha.ev hx, run_underlying hu, Result.andThen, goInt, e1]
theorem pur_len_slice (T : TabOk P tab) {e sz : Nat} {p : Option Addr} {len cap : Nat} (ht : lookT tab t = some (.slice e, sz)) (hx : ev l x = some (.slice p len cap)) : Pur P n l S (.call ⟨.builtin .len, #[x], #[t]⟩) ty (.int .i64 len) := fun _ w dst pos after g ha _ => by
  have hu : P.underlying t = some (.slice e) := (T _ _ _ ht).under
  simp [execOp, resolve, invoke, builtin, Builtin.len_, ha.ev hx, run_underlying hu, Result.andThen, goInt]
end strs
end pur

/-! ### Blocks of one's own -/
/-- Block b holds exactly these cells, and they may be written. -/
def Blk (w : World) (b : Nat) (vs : List Value) : Prop := ∃ ty, w.heap[b]? = some (.cells vs.toArray ty (0, 0))
theorem Blk.lt {w : World} {b : Nat} {vs : List Value} (h : Blk w b vs) : b < w.heap.size := by
  obtain ⟨ty, h⟩ := h
  rcases Nat.lt_or_ge b w.heap.size with h' | h'
  · exact h'
  · rw [Array.getElem?_eq_none h'] at h; cases h
theorem Blk.cell {w : World} {b i : Nat} {vs : List Value} {v : Value} (h : Blk w b vs) (hi : vs[i]? = some v) : w.cell? ⟨b, i, none⟩ = some v := by
  obtain ⟨ty, h⟩ := h
  simp [World.cell?, h, hi]
theorem Blk.row {w : World} {b : Nat} {vs : List Value} (h : Blk w b vs) : Row w ⟨b, 0, none⟩ vs := fun i v hi => by
  have : (⟨b, 0, none⟩ : Addr).add i = ⟨b, i, none⟩ := by unfold Addr.add; by_cases h0 : i = 0 <;> simp [h0]
  rw [this]; exact h.cell hi
theorem Blk.free {w : World} {b o : Nat} {vs : List Value} (h : Blk w b vs) : w.frozen? ⟨b, o, none⟩ = false := by
  obtain ⟨ty, h⟩ := h
  simp [World.frozen?, h]
theorem Blk.ext {w w' : World} {b : Nat} {vs : List Value} (h : Blk w b vs) (e : Ext w w') : Blk w' b vs := by
  have hl := h.lt
  obtain ⟨ty, h⟩ := h
  exact ⟨ty, by rw [e.block hl]; exact h⟩
theorem Blk.fr {S : Nat → Prop} {w w' : World} {b : Nat} {vs : List Value} (h : Blk w b vs) (e : Fr S w w') (hs : ¬ S b) : Blk w' b vs := by
  have hl := h.lt
  obtain ⟨ty, h⟩ := h
  exact ⟨ty, by rw [e.block b hl hs]; exact h⟩
theorem Blk.set {w : World} {b i : Nat} {vs : List Value} (h : Blk w b vs) (v : Value) : Blk (w.setCell ⟨b, i, none⟩ v) b (vs.set i v) := by
  have hl := h.lt
  obtain ⟨ty, h⟩ := h
  refine ⟨ty, ?_⟩
  simp [World.setCell, Array.getElem?_modify, h]
theorem Row.at {w : World} {b o i : Nat} {vs : List Value} {v : Value} (h : Row w ⟨b, o, none⟩ vs) (hi : vs[i]? = some v) : w.cell? ⟨b, o + i, none⟩ = some v := by
  have := h i v hi
  have e : (⟨b, o, none⟩ : Addr).add i = ⟨b, o + i, none⟩ := by unfold Addr.add; by_cases h0 : i = 0 <;> simp [h0]
  rwa [e] at this
theorem Row.at0 {w : World} {b o : Nat} {vs : List Value} {v : Value} (h : Row w ⟨b, o, none⟩ vs) (hi : vs[0]? = some v) : w.cell? ⟨b, o, none⟩ = some v := h.at hi
theorem add_block (p : Addr) (i : Nat) : (p.add i).block = p.block := by unfold Addr.add; split <;> rfl
theorem add_spot {p : Addr} (h : p.spot = none) (i : Nat) : (p.add i).spot = none := by unfold Addr.add; split <;> simp [h]
theorem cell_spot {w : World} {p : Addr} {v : Value} (h : w.cell? p = some v) : p.spot = none := by
  unfold World.cell? at h
  split at h
  · cases hs : p.spot with
    | none => rfl
    | some q => simp [hs] at h
  · cases h
theorem Row.ext {w w' : World} {p : Addr} {vs : List Value} (h : Row w p vs) (e : Ext w w') : Row w' p vs := fun i v hi => by
  have hc := h i v hi
  have hl := cell_lt hc
  rw [Below.cell e hl]; exact hc
theorem Row.fr {S : Nat → Prop} {w w' : World} {p : Addr} {vs : List Value} (h : Row w p vs) (e : Fr S w w') (hs : ¬ S p.block) : Row w' p vs := fun i v hi => by
  have hc := h i v hi
  have hl := cell_lt hc
  rw [World.cell?_of_block (w := w) (e.block _ hl (by rw [add_block]; exact hs))]; exact hc
/-- w1 is w with one new block. -/
structure New (w w1 : World) (b : Nat) (vs : List Value) : Prop where
  pos : b = w.heap.size
  blk : Blk w1 b vs
  ext : Ext w w1
  size : w1.heap.size = b + 1
theorem new_alloc (w : World) (vs : List Value) (ty : TypeId) : New w (w.alloc (.cells vs.toArray ty (0, 0))) w.heap.size vs :=
  ⟨rfl, ⟨ty, by show (w.heap.push _)[w.heap.size]? = _; simp⟩, (Ext.refl w).alloc _, by show (w.heap.push _).size = _; simp⟩
def setMany : List Value → Nat → List Value → List Value
  | vs, _, [] => vs
  | vs, o, u :: r => setMany (vs.set o u) (o + 1) r
theorem setMany_length : ∀ (us vs : List Value) (o : Nat), (setMany vs o us).length = vs.length
  | [], _, _ => rfl
  | u :: r, vs, o => by simp only [setMany]; rw [setMany_length r]; simp
/-- Only block b was written. -/
structure Put (w w1 : World) (b : Nat) (vs : List Value) : Prop where
  blk : Blk w1 b vs
  fr : Fr (· = b) w w1
  size : w1.heap.size = w.heap.size
/-- Values that fit one cell. -/
def Value.one : Value → Bool
  | .agg _ | .tuple _ => false
  | _ => true
theorem run_store {P : Program} {w : World} {b o : Nat} {vs : List Value} (h : Blk w b vs) (ho : o < vs.length) {v : Value} (hv : Value.one v = true) {α : Type} (k : Sem α) :
    (Sem.store .plain ⟨b, o, none⟩ v k).run P w = k.run P (w.setCell ⟨b, o, none⟩ v) := by
  have hc := h.cell (List.getElem?_eq_getElem ho)
  have hz := h.free (o := o)
  cases v <;> first | (simp [Value.one] at hv; done) | simp [Sem.run, hc, hz]
theorem run_storeCells {P : Program} : ∀ (us : List Value) (w : World) (b o i : Nat) (vs : List Value), Blk w b vs → o + i + us.length ≤ vs.length → us.all Value.one = true →
    ∃ w1, (storeCells ⟨b, o, none⟩ us i).run P w = .ok () w1 ∧ Put w w1 b (setMany vs (o + i) us)
  | [], w, b, o, i, vs, h, _, _ => ⟨w, rfl, h, Fr.refl _ _, rfl⟩
  | u :: r, w, b, o, i, vs, h, hl, hv => by
    simp only [List.length_cons] at hl
    simp only [List.all_cons, Bool.and_eq_true] at hv
    have ha : (⟨b, o, none⟩ : Addr).add i = ⟨b, o + i, none⟩ := by unfold Addr.add; by_cases h0 : i = 0 <;> simp [h0]
    have e : (storeCells ⟨b, o, none⟩ (u :: r) i).run P w = (storeCells ⟨b, o, none⟩ r (i + 1)).run P (w.setCell ⟨b, o + i, none⟩ u) := by
      simp only [storeCells, store, ha, bind, Sem.bind]
      exact run_store h (by omega) hv.1 _
    obtain ⟨w1, h1, h2⟩ := run_storeCells (P := P) r _ b o (i + 1) _ (h.set (i := o + i) u) (by simp; omega) hv.2
    refine ⟨w1, by rw [e, h1], h2.blk, ((Fr.refl (· = b) w).setCell ⟨b, o + i, none⟩ u (Or.inl rfl)).trans h2.fr, ?_⟩
    rw [h2.size]; simp [World.setCell]

theorem wanted_plain {o : Oper} {y : Nat → Option Bool} (h : o.guard = none) : Region.wanted o y = true := by unfold Region.wanted; rw [h]
/-! ### Sequences -/
section seqs
variable {P : Program} {n : Nat} {ops : Array Oper} {Q : Exit → Act → World → Prop} {rest : List Oper} {l : Sl} {w : World} {tab : Tab}
  {d : Nat} {ty : TypeId} {pos : String} {after : Array Edge}
theorem lw_nil (h : QW n Q .normal l w) : LW P n ops Q [] l w := h
theorem lw_pure {op : Op} {v : Value} (hp : Pur P n l (fun x => x = w) op ty v) (hd : Nat.blt d n = true) (k : LW P n ops Q rest ((d, v) :: l) w) :
    LW P n ops Q (⟨some d, op, ty, pos, after, none⟩ :: rest) l w := fun a ha => by
  unfold wpList
  rw [if_pos (wanted_plain rfl)]
  left
  unfold Oper.wp
  rw [hp a w _ _ _ _ ha rfl]
  exact k _ (ha.put hd v)
def guardAt (ops : Array Oper) (j : Nat) : Option Nat := (ops.toList[j]?).bind (·.dst)
theorem wanted_at {n : Nat} {l : Sl} {a : Act} (ha : Env n l a) {ops : Array Oper} {j dj : Nat} {want b : Bool} {o : Oper} (hg : o.guard = some (j, want)) (hj : guardAt ops j = some dj) (hn : Nat.blt dj n = true) (hb : look l dj = some (.bool b)) :
    Region.wanted o (yielded ops a.tmps) = (b == want) := by
  have h1 := ha.has dj _ hb
  have hn' : dj < a.tmps.size := by rw [ha.size]; exact Nat.le_of_ble_eq_true hn
  have h2 : a.tmps[dj]? = some (.bool b) := by
    rw [Array.getD_eq_getD_getElem?, Array.getElem?_eq_getElem hn'] at h1
    rw [Array.getElem?_eq_getElem hn']
    simpa using h1
  have h3 : (ops[j]?).bind (·.dst) = some dj := by simpa [guardAt] using hj
  unfold Region.wanted yielded
  simp only [hg, h3, Option.bind_some, h2]
  cases b <;> cases want <;> rfl
/-- A guarded operation that is not wanted. -/
theorem lw_off {op : Op} {j dj : Nat} {want b : Bool} (hj : guardAt ops j = some dj) (hn : Nat.blt dj n = true) (hb : look l dj = some (.bool b)) (hw : (b == want) = false) (hd : Nat.blt d n = true)
    (k : LW P n ops Q rest ((d, undef) :: l) w) : LW P n ops Q (⟨some d, op, ty, pos, after, some (j, want)⟩ :: rest) l w := fun a ha => by
  unfold wpList
  rw [wanted_at ha rfl hj hn hb, hw]
  exact k _ (ha.put hd undef)
/-- A guarded operation that is wanted. -/
theorem lw_on {op : Op} {j dj : Nat} {want b : Bool} (hj : guardAt ops j = some dj) (hn : Nat.blt dj n = true) (hb : look l dj = some (.bool b)) (hw : (b == want) = true)
    (k : LW P n ops Q (⟨some d, op, ty, pos, after, none⟩ :: rest) l w) : LW P n ops Q (⟨some d, op, ty, pos, after, some (j, want)⟩ :: rest) l w := fun a ha => by
  have := k a ha
  unfold wpList at this ⊢
  rw [if_pos (by rw [wanted_at ha rfl hj hn hb, hw])]
  rw [if_pos (wanted_plain rfl)] at this
  exact this
section guards
variable {op : Op} {j dj : Nat} {p : Prop} [Decidable p]
theorem lw_on_yes (hj : guardAt ops j = some dj) (hn : Nat.blt dj n = true) (hb : look l dj = some (.bool (decide p))) (hp : p)
    (k : LW P n ops Q (⟨some d, op, ty, pos, after, none⟩ :: rest) l w) : LW P n ops Q (⟨some d, op, ty, pos, after, some (j, true)⟩ :: rest) l w := lw_on hj hn hb (by simp [hp]) k
theorem lw_on_no (hj : guardAt ops j = some dj) (hn : Nat.blt dj n = true) (hb : look l dj = some (.bool (decide p))) (hp : ¬ p)
    (k : LW P n ops Q (⟨some d, op, ty, pos, after, none⟩ :: rest) l w) : LW P n ops Q (⟨some d, op, ty, pos, after, some (j, false)⟩ :: rest) l w := lw_on hj hn hb (by simp [hp]) k
theorem lw_off_no (hj : guardAt ops j = some dj) (hn : Nat.blt dj n = true) (hb : look l dj = some (.bool (decide p))) (hp : ¬ p) (hd : Nat.blt d n = true)
    (k : LW P n ops Q rest ((d, undef) :: l) w) : LW P n ops Q (⟨some d, op, ty, pos, after, some (j, true)⟩ :: rest) l w := lw_off hj hn hb (by simp [hp]) hd k
theorem lw_off_yes (hj : guardAt ops j = some dj) (hn : Nat.blt dj n = true) (hb : look l dj = some (.bool (decide p))) (hp : p) (hd : Nat.blt d n = true)
    (k : LW P n ops Q rest ((d, undef) :: l) w) : LW P n ops Q (⟨some d, op, ty, pos, after, some (j, false)⟩ :: rest) l w := lw_off hj hn hb (by simp [hp]) hd k
end guards
/-- What a world-changing operation does in the state l, w: behind it K holds of the value and the world. -/
def Does (P : Program) (n : Nat) (l : Sl) (op : Op) (ty : TypeId) (w : World) (K : Option Value → World → Prop) : Prop :=
  ∀ a dst pos after g (next : Act → World → Prop) (Q : Exit → Act → World → Prop), Env n l a → (∀ v w', K (some v) w' → next (a.put dst v) w') → (∀ w', K none w' → next (a.put dst undef) w') → (⟨dst, op, ty, pos, after, g⟩ : Oper).wp P a w next Q
theorem lw_does {op : Op} {K : Option Value → World → Prop} (hp : Does P n l op ty w K) (hd : Nat.blt d n = true) (k : ∀ v w1, K (some v) w1 → LW P n ops Q rest ((d, v) :: l) w1) (k0 : ∀ w1, ¬ K none w1) :
    LW P n ops Q (⟨some d, op, ty, pos, after, none⟩ :: rest) l w := fun a ha => by
  unfold wpList
  rw [if_pos (wanted_plain rfl)]
  left
  exact hp a _ _ _ _ _ _ ha (fun v w1 hK => k v w1 hK _ (ha.put hd v)) (fun w1 h => absurd h (k0 w1))
theorem lw_does0 {op : Op} {K : Option Value → World → Prop} (hp : Does P n l op ty w K) (k : ∀ v w1, K v w1 → LW P n ops Q rest l w1) :
    LW P n ops Q (⟨none, op, ty, pos, after, none⟩ :: rest) l w := fun a ha => by
  unfold wpList
  rw [if_pos (wanted_plain rfl)]
  left
  exact hp a _ _ _ _ _ _ ha (fun v w1 hK => k _ w1 hK _ ha) (fun w1 h => k _ w1 h _ ha)
end seqs
section does
variable {P : Program} {n : Nat} {l : Sl} {w : World} {tab : Tab} {ty : TypeId}
/-- A new block with the cells of v. -/
def NewAt (w : World) (vs : List Value) : Option Value → World → Prop
  | some v, w1 => ∃ b, v = .pointer (some ⟨b, 0, none⟩) ∧ New w w1 b vs
  | none, _ => False
theorem does_box {x : Operand} {t : Nat} {v : Value} {vs : List Value} (hx : ev l x = some v) (hv : v.cells = vs.toArray) : Does P n l (.box t x) ty w (NewAt w vs) := fun a dst pos after g next Q ha hn _ => by
  have e : (execOp a.eval ⟨dst, .box t x, ty, pos, after, g⟩).run P w = .ok (.value (.pointer (some ⟨w.heap.size, 0, none⟩))) (w.alloc (.cells vs.toArray t (0, 0))) := by
    simp [execOp, ha.ev hx, Instr.box, newVar, newRow, newObj, Sem.run, hv, bind, Sem.bind, pure]
  unfold Oper.wp
  rw [e]
  exact hn _ _ ⟨_, rfl, new_alloc _ _ _⟩
/-- Zero values. -/
abbrev ZTab := List (Nat × List Value)
def ZTabOk (P : Program) : ZTab → Prop
  | [] => True
  | p :: r => ((P.info? p.1).bind (·.zero)).map Value.cells = some p.2.toArray ∧ ZTabOk P r
def lookZ : ZTab → Nat → Option (List Value)
  | [], _ => none
  | p :: r, t => match Nat.beq p.1 t with
    | true => some p.2
    | false => lookZ r t
theorem lookZ_ok {zt : ZTab} (h : ZTabOk P zt) {t : Nat} {vs : List Value} (hl : lookZ zt t = some vs) : ∃ i v, P.info? t = some i ∧ i.zero = some v ∧ v.cells = vs.toArray := by
  induction zt with
  | nil => simp [lookZ] at hl
  | cons p r ih =>
    simp only [lookZ] at hl
    split at hl
    · rename_i hb
      have := Nat.eq_of_beq_eq_true hb
      simp only [Option.some.injEq] at hl
      subst hl this
      have h1 := h.1
      cases hi : P.info? p.1 with
      | none => rw [hi] at h1; simp at h1
      | some i =>
        rw [hi] at h1
        cases hz : i.zero with
        | none => simp [hz] at h1
        | some v => exact ⟨i, v, rfl, hz, by simpa [hz] using h1⟩
    · exact ih h.2 hl
theorem does_alloc {zt : ZTab} {t : Nat} {vs : List Value} (Z : ZTabOk P zt) (hz : lookZ zt t = some vs) : Does P n l (.alloc t) ty w (NewAt w vs) := fun a dst pos after g next Q ha hn _ => by
  obtain ⟨i, v, h1, h2, h3⟩ := lookZ_ok Z hz
  have e : (execOp a.eval ⟨dst, .alloc t, ty, pos, after, g⟩).run P w = .ok (.value (.pointer (some ⟨w.heap.size, 0, none⟩))) (w.alloc (.cells vs.toArray t (0, 0))) := by
    simp [execOp, Instr.alloc, zeroValue, typeInfo, program, newVar, newRow, newObj, Sem.run, h1, h2, h3, bind, Sem.bind, pure]
  unfold Oper.wp
  rw [e]
  exact hn _ _ ⟨_, rfl, new_alloc _ _ _⟩
def PutAt (w : World) (b : Nat) (vs : List Value) : Option Value → World → Prop
  | none, w1 => Put w w1 b vs
  | some _, _ => False
theorem does_store {x y : Operand} {t sz b o : Nat} {s : Sk} {v : Value} {vs us : List Value} (T : TabOk P tab) (ht : lookT tab t = some (s, sz)) (hx : ev l x = some (.pointer (some ⟨b, o, none⟩))) (hy : ev l y = some v)
    (hv : v.cells = us.toArray) (hl : us.length = sz) (h1 : us.all Value.one = true) (hb : Blk w b vs) (ho : Nat.ble (o + us.length) vs.length = true) : Does P n l (.store t x y) ty w (PutAt w b (setMany vs o us)) := fun a dst pos after g next Q ha _ hn => by
  obtain ⟨w1, e1, e2⟩ := run_storeCells (P := P) us w b o 0 vs hb (by simpa using ho) h1
  have e : (execOp a.eval ⟨dst, .store t x y, ty, pos, after, g⟩).run P w = .ok .skip w1 := by
    have hcs : v.cells.toList = us := by rw [hv]
    have hsz : v.cells.size = sz := by rw [hv]; simpa using hl
    simp only [execOp, ha.ev hx, ha.ev hy, Instr.storeAt, Instr.sureAddr, Sem.run_bind, Sem.run_pure, Result.andThen, storeVar, run_sizeOf (T _ _ _ ht), hsz, hcs, e1]
    simp only [ne_eq, not_true, if_false, Sem.run_bind, Sem.run_pure, Result.andThen, e1]
  unfold Oper.wp
  rw [e]
  exact hn _ e2
/-- A call of a Go function. -/
def bodied (P : Program) (f : FuncId) : Bool := match P.funcs[f]? with
  | some fn => !(fn.name == "runtime.NumGoroutine") && fn.body.isSome
  | none => false
theorem run_callFunc {f : FuncId} {args : Array Value} (hb : bodied P f = true) (w : World) : (callFunc f args).run P w = .ok (.enter f args) w := by
  unfold bodied at hb
  split at hb
  · rename_i fn hf
    simp only [Bool.and_eq_true, Bool.not_eq_true', Option.isSome_iff_ne_none] at hb
    have h2 : fn.body.isNone = false := by cases h : fn.body <;> simp_all
    have h1 : fn.name ≠ "runtime.NumGoroutine" := by simpa using hb.1
    simp [callFunc, program, Sem.run, hf, bind, Sem.bind, h1, hb.2, pure]
  · cases hb
def Ret (R : Ending → World → Prop) : Option Value → World → Prop
  | some v, w1 => R (.returned v) w1
  | none, _ => False
theorem does_call {f : FuncId} {xs : List Operand} {tys : Array TypeId} {vs : List Value} {R : Ending → World → Prop} (hb : bodied P f = true) (hxs : evs l xs = some vs) (C : Calls P f vs.toArray w R)
    (hR : ∀ e w1, R e w1 → ∃ v, e = .returned v) : Does P n l (.call ⟨.value (.func f), xs.toArray, tys⟩) ty w (Ret R) := fun a dst pos after g next Q ha hn _ => by
  have hargs : xs.map a.eval = vs := ha.evs hxs
  have e : (execOp a.eval ⟨dst, .call ⟨.value (.func f), xs.toArray, tys⟩, ty, pos, after, g⟩).run P w = .ok (.enter f vs.toArray) w := by
    simp only [execOp, resolve, Act.eval, Deferred.ofValue, Sem.run_bind, Sem.run_pure, Result.andThen, invoke]
    rw [run_callFunc hb]
    simp [← hargs]
  unfold Oper.wp
  rw [e]
  refine Calls.mono C fun e w1 h => ?_
  obtain ⟨v, rfl⟩ := hR e w1 h
  exact hn v w1 h
theorem does_callv {f : FuncId} {x : Operand} {fi ca : List Value} {xs : List Operand} {tys : Array TypeId} {vs : List Value} {R : Ending → World → Prop} (hb : bodied P f = true) (hx : ev l x = some (.func (.func f) fi.toArray ca.toArray)) (hxs : evs l xs = some vs) (C : Calls P f (fi ++ vs ++ ca).toArray w R)
    (hR : ∀ e w1, R e w1 → ∃ v, e = .returned v) : Does P n l (.call ⟨.value x, xs.toArray, tys⟩) ty w (Ret R) := fun a dst pos after g next Q ha hn _ => by
  have hargs : xs.map a.eval = vs := ha.evs hxs
  have e : (execOp a.eval ⟨dst, .call ⟨.value x, xs.toArray, tys⟩, ty, pos, after, g⟩).run P w = .ok (.enter f (fi ++ vs ++ ca).toArray) w := by
    simp only [execOp, resolve, ha.ev hx, Deferred.ofValue, Sem.run_bind, Sem.run_pure, Result.andThen, invoke]
    rw [run_callFunc hb]
    simp [← hargs]
  unfold Oper.wp
  rw [e]
  refine Calls.mono C fun e w1 h => ?_
  obtain ⟨v, rfl⟩ := hR e w1 h
  exact hn v w1 h
end does
/-! ### Regions that draw their order -/
inductive Sch where
  | done
  | pure (i : Nat) (r : Sch)
  | fork (i : Nat) (x r : Sch)
  | none
def Sch.alts : Sch → List Nat
  | .fork i _ r => i :: r.alts
  | _ => []
def Sch.ok (ops : Array Oper) : Bool → Sch → Nat → Array Bool → Bool
  | true, .done, _, listed => (Region.ready .any ops listed).isEmpty
  | true, .pure i r, f + 1, listed => (Region.ready .any ops listed).contains i && Region.free .any ops listed i && Sch.ok ops true r f (listed.setIfInBounds i true)
  | true, .fork i x r, f + 1, listed => (Region.ready .any ops listed).all (fun j => (i :: r.alts).contains j) && Sch.ok ops true x f (listed.setIfInBounds i true) && Sch.ok ops false r (f + 1) listed && !(Region.ready .any ops listed).isEmpty
  | false, .fork i x r, f + 1, listed => Sch.ok ops true x f (listed.setIfInBounds i true) && Sch.ok ops false r (f + 1) listed
  | false, .none, _, _ => true
  | _, _, _, _ => false
def HW (P : Program) (ops : Array Oper) (Q : Exit → Act → World → Prop) (S : World → Prop) : Sch → Act → World → Prop
  | .done, a, w => Q .normal a w
  | .pure i r, a, w => ∃ o v, ops.toList[i]? = some o ∧ YieldsIf P ops S o v a ∧ HW P ops Q S r (a.put o.dst v) w
  | .fork i x r, a, w => wpOp P ops Q i (fun a' w' => S w' ∧ HW P ops Q S x a' w') a w ∧ HW P ops Q S r a w
  | .none, _, _ => True
def PanicOk (Q : Exit → Act → World → Prop) : Prop := ∀ d v c a w, Q (.panic c) (Act.put a d v) w → Q (.panic c) a w
theorem panicOk_body {P : Program} {fn : Func} {R : Ending → World → Prop} : PanicOk (bodyPost P fn R) := fun d v c a w h => by
  cases d <;> exact h
theorem panicOk_then {K : Act → World → Prop} {Q : Exit → Act → World → Prop} (h : PanicOk Q) : PanicOk (Exit.then K Q) := h
theorem panicOk_block {i : Nat} {Q : Exit → Act → World → Prop} (h : PanicOk Q) : PanicOk (Exit.inBlock i Q) := h
theorem HW.any {P : Program} {ops : Array Oper} {Q : Exit → Act → World → Prop} {S : World → Prop} (hs : Region.noSelect ops = true) (hQ : PanicOk Q) :
    ∀ (s : Sch) (f : Nat) (listed : Array Bool) (a : Act) (w : World), S w → HW P ops Q S s a w →
      (Sch.ok ops true s f listed = true → wpAnyH P .any ops Q S f listed a w) ∧
      (Sch.ok ops false s f listed = true → ∀ i ∈ s.alts, ∀ f', f = f' + 1 → wpOp P ops Q i (fun a' w' => S w' ∧ wpAnyH P .any ops Q S f' (listed.setIfInBounds i true) a' w') a w)
  | .done, f, listed, a, w, hS, h => ⟨fun hk => wpAnyH_done (by simpa [Sch.ok] using hk) h f, fun hk => by simp [Sch.ok] at hk⟩
  | .none, f, listed, a, w, hS, h => ⟨fun hk => by simp [Sch.ok] at hk, fun hk => by simp [Sch.alts]⟩
  | .pure i r, 0, listed, a, w, hS, h => ⟨fun hk => by simp [Sch.ok] at hk, fun hk => by simp [Sch.ok] at hk⟩
  | .pure i r, f + 1, listed, a, w, hS, h => ⟨fun hk => by
      simp only [Sch.ok, Bool.and_eq_true] at hk
      obtain ⟨o, v, ho, hy, hr⟩ := h
      exact wpAnyH_take (by simpa using ho) hs hk.1.2 hk.1.1 (fun c a w => hQ o.dst v c a w) hy hS ((HW.any hs hQ r f _ _ w hS hr).1 hk.2), fun hk => by simp [Sch.ok] at hk⟩
  | .fork i x r, 0, listed, a, w, hS, h => ⟨fun hk => by simp [Sch.ok] at hk, fun hk => by simp [Sch.ok] at hk⟩
  | .fork i x r, f + 1, listed, a, w, hS, h => by
      have key : Sch.ok ops true x f (listed.setIfInBounds i true) = true → wpOp P ops Q i (fun a' w' => S w' ∧ wpAnyH P .any ops Q S f (listed.setIfInBounds i true) a' w') a w := fun hk =>
        wpOp_mono (fun a' w' h' => ⟨h'.1, (HW.any hs hQ x f _ a' w' h'.1 h'.2).1 hk⟩) h.1
      have hr := HW.any hs hQ r (f + 1) listed a w hS h.2
      refine ⟨fun hk => ?_, fun hk j hj f' hf => ?_⟩
      · simp only [Sch.ok, Bool.and_eq_true] at hk
        obtain ⟨⟨⟨h1, h2⟩, h3⟩, h4⟩ := hk
        refine wpAnyH_all (rs := Region.ready .any ops listed) rfl (by intro e; simp [e] at h4) (fun j hj => ?_)
        have := List.all_eq_true.1 h1 j hj
        simp only [List.contains_eq_mem, List.mem_cons, decide_eq_true_eq] at this
        rcases this with rfl | hj'
        · exact key h2
        · exact hr.2 h3 j hj' f rfl
      · simp only [Sch.ok, Bool.and_eq_true] at hk
        obtain rfl : f = f' := by omega
        simp only [Sch.alts, List.mem_cons] at hj
        rcases hj with rfl | hj
        · exact key hk.1
        · exact hr.2 hk.2 j hj f rfl
def DW (P : Program) (n : Nat) (ops : Array Oper) (Q : Exit → Act → World → Prop) (S : World → Prop) (s : Sch) (l : Sl) (w : World) : Prop := ∀ a, Env n l a → HW P ops Q S s a w
section draws
variable {P : Program} {n : Nat} {ops : Array Oper} {Q : Exit → Act → World → Prop} {S : World → Prop} {l : Sl} {w : World}
  {d i : Nat} {ty : TypeId} {pos : String} {after : Array Edge} {r x : Sch}
theorem cw_draw {id : Nat} {os : List Oper} (S : World → Prop) (s : Sch) (hm : P.follows .mixedOrders = true) (hs : (Region.noSelect os.toArray && Sch.ok os.toArray true s os.length (Array.replicate os.length false)) = true) (hQ : PanicOk Q)
    (h : ∀ w1, Ext w w1 → w1.heap = w.heap → S w1 ∧ DW P n os.toArray Q S s l w1) : CW P n (.region id os.toArray true) Q l w := fun a ha => by
  simp only [Bool.and_eq_true] at hs
  obtain ⟨h1, h2⟩ := h w.drew (Ext.refl w).drew rfl
  refine wp_region_held (S := S) hm ?_
  have := (HW.any hs.1 hQ s os.length (Array.replicate os.length false) a w.drew h1 (h2 a ha)).1 hs.2
  simpa using this
theorem dw_done (h : QW n Q .normal l w) : DW P n ops Q S .done l w := h
theorem dw_none : DW P n ops Q S .none l w := fun _ _ => trivial
theorem dw_pure {op : Op} {v : Value} (hi : ops.toList[i]? = some ⟨some d, op, ty, pos, after, none⟩) (hp : Pur P n l S op ty v) (hd : Nat.blt d n = true) (k : DW P n ops Q S r ((d, v) :: l) w) :
    DW P n ops Q S (.pure i r) l w := fun a ha =>
  ⟨_, v, hi, Or.inl ⟨rfl, fun w hS => hp a w _ _ _ _ ha hS⟩, k _ (ha.put hd v)⟩
theorem dw_on {op : Op} {v : Value} {j dj : Nat} {want b : Bool} (hi : ops.toList[i]? = some ⟨some d, op, ty, pos, after, some (j, want)⟩) (hj : guardAt ops j = some dj) (hn : Nat.blt dj n = true) (hb : look l dj = some (.bool b)) (hw : (b == want) = true)
    (hp : Pur P n l S op ty v) (hd : Nat.blt d n = true) (k : DW P n ops Q S r ((d, v) :: l) w) : DW P n ops Q S (.pure i r) l w := fun a ha =>
  ⟨_, v, hi, Or.inl ⟨by rw [wanted_at ha rfl hj hn hb, hw], fun w hS => hp a w _ _ _ _ ha hS⟩, k _ (ha.put hd v)⟩
theorem dw_off {op : Op} {j dj : Nat} {want b : Bool} (hi : ops.toList[i]? = some ⟨some d, op, ty, pos, after, some (j, want)⟩) (hj : guardAt ops j = some dj) (hn : Nat.blt dj n = true) (hb : look l dj = some (.bool b)) (hw : (b == want) = false)
    (hd : Nat.blt d n = true) (k : DW P n ops Q S r ((d, undef) :: l) w) : DW P n ops Q S (.pure i r) l w := fun a ha =>
  ⟨_, undef, hi, Or.inr ⟨by rw [wanted_at ha rfl hj hn hb, hw], rfl⟩, k _ (ha.put hd undef)⟩
theorem dw_does {op : Op} {K : Option Value → World → Prop} (hi : ops.toList[i]? = some ⟨some d, op, ty, pos, after, none⟩) (hp : Does P n l op ty w K) (hd : Nat.blt d n = true)
    (k : ∀ v w1, K (some v) w1 → S w1 ∧ DW P n ops Q S x ((d, v) :: l) w1) (k0 : ∀ w1, ¬ K none w1) (kr : DW P n ops Q S r l w) : DW P n ops Q S (.fork i x r) l w := fun a ha => by
  refine ⟨?_, kr a ha⟩
  have hi' : ops[i]? = some ⟨some d, op, ty, pos, after, none⟩ := by simpa using hi
  unfold wpOp
  rw [hi']
  simp only
  rw [if_pos (wanted_plain rfl)]
  left
  exact hp a _ _ _ _ _ _ ha (fun v w1 hK => ⟨(k v w1 hK).1, (k v w1 hK).2 _ (ha.put hd v)⟩) (fun w1 h => absurd h (k0 w1))
theorem dw_does_on {op : Op} {K : Option Value → World → Prop} {j dj : Nat} {want b : Bool} (hi : ops.toList[i]? = some ⟨some d, op, ty, pos, after, some (j, want)⟩) (hj : guardAt ops j = some dj) (hn : Nat.blt dj n = true) (hb : look l dj = some (.bool b)) (hw : (b == want) = true) (hp : Does P n l op ty w K) (hd : Nat.blt d n = true)
    (k : ∀ v w1, K (some v) w1 → S w1 ∧ DW P n ops Q S x ((d, v) :: l) w1) (k0 : ∀ w1, ¬ K none w1) (kr : DW P n ops Q S r l w) : DW P n ops Q S (.fork i x r) l w := fun a ha => by
  refine ⟨?_, kr a ha⟩
  have hi' : ops[i]? = some ⟨some d, op, ty, pos, after, some (j, want)⟩ := by simpa using hi
  unfold wpOp
  rw [hi']
  simp only
  rw [if_pos (by rw [wanted_at ha rfl hj hn hb, hw])]
  left
  exact hp a _ _ _ _ _ _ ha (fun v w1 hK => ⟨(k v w1 hK).1, (k v w1 hK).2 _ (ha.put hd v)⟩) (fun w1 h => absurd h (k0 w1))
theorem dw_does0 {op : Op} {K : Option Value → World → Prop} (hi : ops.toList[i]? = some ⟨none, op, ty, pos, after, none⟩) (hp : Does P n l op ty w K)
    (k : ∀ v w1, K v w1 → S w1 ∧ DW P n ops Q S x l w1) (kr : DW P n ops Q S r l w) : DW P n ops Q S (.fork i x r) l w := fun a ha => by
  refine ⟨?_, kr a ha⟩
  have hi' : ops[i]? = some ⟨none, op, ty, pos, after, none⟩ := by simpa using hi
  unfold wpOp
  rw [hi']
  simp only
  rw [if_pos (wanted_plain rfl)]
  left
  exact hp a _ _ _ _ _ _ ha (fun v w1 hK => ⟨(k _ w1 hK).1, (k _ w1 hK).2 _ ha⟩) (fun w1 h => ⟨(k _ w1 h).1, (k _ w1 h).2 _ ha⟩)
end draws
/-- These two only look at the goal's form. -/
theorem cw_is {P : Program} {n : Nat} {c : Operand} {x y : Code} {Q : Exit → Act → World → Prop} {l : Sl} {w : World} (h : CW P n (.cond c x y) Q l w) : CW P n (.cond c x y) Q l w := h
theorem lw_is {P : Program} {n d : Nat} {ops : Array Oper} {Q : Exit → Act → World → Prop} {op : Op} {ty : TypeId} {pos : String} {after : Array Edge} {rest : List Oper} {l : Sl} {w : World} (h : LW P n ops Q (⟨some d, op, ty, pos, after, none⟩ :: rest) l w) : LW P n ops Q (⟨some d, op, ty, pos, after, none⟩ :: rest) l w := h
theorem lw_isg {P : Program} {n d : Nat} {ops : Array Oper} {Q : Exit → Act → World → Prop} {op : Op} {ty : TypeId} {pos : String} {after : Array Edge} {g : Nat × Bool} {rest : List Oper} {l : Sl} {w : World} (h : LW P n ops Q (⟨some d, op, ty, pos, after, some g⟩ :: rest) l w) : LW P n ops Q (⟨some d, op, ty, pos, after, some g⟩ :: rest) l w := h
attribute [irreducible] CW LW QW DW Pur Does
end Bk
