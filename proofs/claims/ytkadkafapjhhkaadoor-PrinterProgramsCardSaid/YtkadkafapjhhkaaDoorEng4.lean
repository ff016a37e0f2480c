/- The engine of the walks, more rules: new blocks and stores in one step, literals of slices and structs, rows of elements. No condition. -/
import Derived.Test.YtkadkafapjhhkaaDoorTab
namespace Bk
open Go Go.RowKit

theorem New.put {w w1 w2 : World} {b : Nat} {vs us : List Value} (h : New w w1 b vs) (p : Put w1 w2 b us) : New w w2 b us :=
  ⟨h.pos, p.blk, ⟨p.fr.os.trans (Below.os h.ext), p.fr.tape.trans (Below.tape h.ext), p.fr.output.trans (Below.output h.ext), Nat.le_trans h.ext.size p.fr.size,
    fun k hk => (p.fr.block k (Nat.lt_of_lt_of_le hk h.ext.size) (by have := h.pos; omega)).trans (h.ext.block hk)⟩, by rw [p.size, h.size]⟩
theorem Ext.put {a w w1 : World} {b : Nat} {vs : List Value} (h : Ext a w) (p : Put w w1 b vs) (hb : a.heap.size ≤ b) : Ext a w1 :=
  ⟨p.fr.os.trans (Below.os h), p.fr.tape.trans (Below.tape h), p.fr.output.trans (Below.output h), Nat.le_trans h.size p.fr.size,
    fun k hk => (p.fr.block k (Nat.lt_of_lt_of_le hk h.size) (by omega)).trans (h.block hk)⟩
theorem Blk.put {w w1 : World} {b c : Nat} {vs us : List Value} (h : Blk w c us) (p : Put w w1 b vs) (hb : c ≠ b) : Blk w1 c us := h.fr p.fr hb
section seqs
variable {P : Program} {n : Nat} {ops : Array Oper} {Q : Exit → Act → World → Prop} {rest : List Oper} {l : Sl} {w : World} {tab : Tab}
  {d : Nat} {ty : TypeId} {pos : String} {after : Array Edge}
theorem lw_box {x : Operand} {t : Nat} {v : Value} {vs : List Value} (hx : ev l x = some v) (hv : v.cells = vs.toArray) (hd : Nat.blt d n = true)
    (k : ∀ b w1, New w w1 b vs → LW P n ops Q rest ((d, .pointer (some ⟨b, 0, none⟩)) :: l) w1) : LW P n ops Q (⟨some d, .box t x, ty, pos, after, none⟩ :: rest) l w :=
  lw_does (does_box hx hv) hd (fun _ w1 ⟨b, h, hn⟩ => h ▸ k b w1 hn) (fun _ h => h)
theorem lw_alloc {zt : ZTab} {t : Nat} {vs : List Value} (Z : ZTabOk P zt) (hz : lookZ zt t = some vs) (hd : Nat.blt d n = true)
    (k : ∀ b w1, New w w1 b vs → LW P n ops Q rest ((d, .pointer (some ⟨b, 0, none⟩)) :: l) w1) : LW P n ops Q (⟨some d, .alloc t, ty, pos, after, none⟩ :: rest) l w :=
  lw_does (does_alloc Z hz) hd (fun _ w1 ⟨b, h, hn⟩ => h ▸ k b w1 hn) (fun _ h => h)
theorem lw_store {x y : Operand} {t sz b o : Nat} {s : Sk} {v : Value} {vs us : List Value} (T : TabOk P tab) (ht : lookT tab t = some (s, sz)) (hx : ev l x = some (.pointer (some ⟨b, o, none⟩))) (hy : ev l y = some v)
    (hv : v.cells = us.toArray) (hl : us.length = sz) (h1 : us.all Value.one = true) (hb : Blk w b vs) (ho : Nat.ble (o + us.length) vs.length = true)
    (k : ∀ w1, Put w w1 b (setMany vs o us) → LW P n ops Q rest l w1) : LW P n ops Q (⟨none, .store t x y, ty, pos, after, none⟩ :: rest) l w :=
  lw_does0 (does_store T ht hx hy hv hl h1 hb ho) (fun v w1 h => by cases v with | none => exact k w1 h | some _ => exact h.elim)
/-- What is written is the whole of a block that has just been made: it is a new block with these cells. -/
theorem lw_init {w0 : World} {x y : Operand} {t sz b : Nat} {s : Sk} {v : Value} {vs us : List Value} (T : TabOk P tab) (ht : lookT tab t = some (s, sz)) (hx : ev l x = some (.pointer (some ⟨b, 0, none⟩))) (hy : ev l y = some v)
    (hv : v.cells = us.toArray) (hl : us.length = sz) (h1 : us.all Value.one = true) (hb : New w0 w b vs) (ho : us.length = vs.length)
    (k : ∀ w1, New w0 w1 b us → LW P n ops Q rest l w1) : LW P n ops Q (⟨none, .store t x y, ty, pos, after, none⟩ :: rest) l w :=
  lw_store T ht hx hy hv hl h1 hb.blk (by simp [ho]) (fun w1 p => k w1 (hb.put (by
    have e : setMany vs 0 us = us := by
      have key : ∀ (us vs pre : List Value), us.length = vs.length → setMany (pre ++ vs) pre.length us = pre ++ us := by
        intro us
        induction us with
        | nil => intro vs pre h; cases vs with | nil => simp [setMany] | cons _ _ => simp at h
        | cons u r ih =>
          intro vs pre h
          cases vs with
          | nil => simp at h
          | cons x vs =>
            simp only [setMany]
            have : (pre ++ x :: vs).set pre.length u = (pre ++ [u]) ++ vs := by simp
            rw [this]
            have := ih vs (pre ++ [u]) (by simpa using h)
            simp only [List.length_append, List.length_cons, List.length_nil] at this
            rw [this]; simp
      simpa using key us vs [] ho
    rw [e] at p; exact p)))
end seqs
/-! ### Literals of slices and structs -/
theorem fold_set (v : List Value) : ∀ (cells : Array Value) (off j : Nat), ((v.zipIdx j).foldl (fun cs (c : Value × Nat) => cs.setIfInBounds (off + c.2) c.1) cells).toList = setMany cells.toList (off + j) v := by
  induction v with
  | nil => intro cells off j; simp [setMany]
  | cons x r ih =>
    intro cells off j
    simp only [List.zipIdx_cons, List.foldl_cons, setMany]
    rw [ih]
    simp only [Array.toList_setIfInBounds]
    rw [show off + (j + 1) = off + j + 1 from by omega]
def fillL : List (Nat × Nat × List Value) → List Value → Option (List Value)
  | [], cells => some cells
  | (off, size, v) :: r, cells => match Nat.beq v.length size with
    | true => match Nat.ble (off + size) cells.length with
      | true => fillL r (setMany cells off v)
      | false => none
    | false => none
theorem fill_of {place : Nat → Option (Nat × Nat)} : ∀ (ps : List (Nat × Value)) (qs : List (Nat × Nat × List Value)) (cells : Array Value) (out : List Value),
    ps.length = qs.length → (∀ (i : Nat) (p : Nat × Value) (q : Nat × Nat × List Value), ps[i]? = some p → qs[i]? = some q → place p.1 = some (q.1, q.2.1) ∧ p.2.cells = q.2.2.toArray) → fillL qs cells.toList = some out → Instr.fill place cells ps = some out.toArray
  | [], [], cells, out, _, _, h => by simp only [fillL, Option.some.injEq] at h; subst h; simp [Instr.fill]
  | [], _ :: _, _, _, hl, _, _ => by simp at hl
  | _ :: _, [], _, _, hl, _, _ => by simp at hl
  | (i, v) :: ps, (off, size, us) :: qs, cells, out, hl, hp, h => by
    obtain ⟨h1, h2⟩ := hp 0 _ _ rfl rfl
    simp only at h1 h2
    simp only [fillL] at h
    split at h
    · rename_i e1
      split at h
      · rename_i e2
        have e1' := Nat.eq_of_beq_eq_true e1
        have e2' := Nat.le_of_ble_eq_true e2
        simp only [Array.length_toList] at e2'
        have hsz : v.cells.size = us.length := by rw [h2]; simp
        simp only [Instr.fill, h1]
        have hc : ¬ (decide (v.cells.size ≠ size) || decide (off + v.cells.size > cells.size)) = true := by simp [hsz, e1']; omega
        rw [if_neg (by simpa using hc)]
        refine fill_of ps qs _ out (by simpa using hl) (fun j p q hj hq => hp (j + 1) p q hj hq) ?_
        have hz : v.cells.zipIdx.foldl (fun cs (c : Value × Nat) => cs.setIfInBounds (off + c.2) c.1) cells = (setMany cells.toList off us).toArray := by
          apply Array.ext'
          rw [← Array.foldl_toList]
          have := fold_set us cells off 0
          simpa [h2, Array.toList_zipIdx] using this
        rw [show (v.cells.zipIdx.foldl (fun cs x => match x with | (c, j) => cs.setIfInBounds (off + j) c) cells) = (setMany cells.toList off us).toArray from hz]
        simpa using h
      · cases h
    · cases h
theorem setMany_mid : ∀ (us vs pre post : List Value), us.length = vs.length → setMany (pre ++ vs ++ post) pre.length us = pre ++ us ++ post := by
  intro us
  induction us with
  | nil => intro vs pre post h; cases vs with | nil => simp [setMany] | cons _ _ => simp at h
  | cons u r ih =>
    intro vs pre post h
    cases vs with
    | nil => simp at h
    | cons x vs =>
      simp only [setMany]
      have e : (pre ++ x :: vs ++ post).set pre.length u = (pre ++ [u]) ++ vs ++ post := by simp
      rw [e]
      have := ih vs (pre ++ [u]) post (by simpa using h)
      simp only [List.length_append, List.length_cons, List.length_nil] at this
      rw [this]; simp
def enumQ (size : Nat) : Nat → List (List Value) → List (Nat × Nat × List Value)
  | _, [] => []
  | k, v :: r => (k * size, size, v) :: enumQ size (k + 1) r
theorem fill_enum (size : Nat) : ∀ (vss : List (List Value)) (k : Nat) (pre rest : List Value), pre.length = k * size → (∀ v ∈ vss, v.length = size) → rest.length = vss.length * size →
    fillL (enumQ size k vss) (pre ++ rest) = some (pre ++ vss.flatten)
  | [], k, pre, rest, _, _, h => by
    have : rest = [] := by simpa using h
    subst this; simp [enumQ, fillL]
  | v :: r, k, pre, rest, hp, hv, hr => by
    have hv0 := hv v List.mem_cons_self
    simp only [List.length_cons, Nat.add_mul, Nat.one_mul] at hr
    have hsp : rest = rest.take size ++ rest.drop size := (List.take_append_drop _ _).symm
    have htl : (rest.take size).length = v.length := by rw [List.length_take, hv0]; omega
    simp only [enumQ, fillL]
    have b1 : Nat.beq v.length size = true := by rw [hv0]; exact Nat.beq_refl size
    have b2 : Nat.ble (k * size + size) (pre ++ rest).length = true := Nat.ble_eq_true_of_le (by rw [List.length_append]; omega)
    rw [b1]; simp only; rw [b2]; simp only
    have e : setMany (pre ++ rest) (k * size) v = pre ++ v ++ rest.drop size := by
      have := setMany_mid v (rest.take size) pre (rest.drop size) htl.symm
      rw [List.append_assoc, ← hsp, hp] at this
      exact this
    rw [e]
    have := fill_enum size r (k + 1) (pre ++ v) (rest.drop size) (by rw [List.length_append, hp, hv0, Nat.add_mul, Nat.one_mul]) (fun u hu => hv u (List.mem_cons_of_mem _ hu)) (by rw [List.length_drop]; omega)
    rw [this]; simp
/-- The parts of a literal, in order from k on. -/
def evParts (l : Sl) : Nat → List (Nat × Operand) → Option (List Value)
  | _, [] => some []
  | k, (i, x) :: r => match Nat.beq i k with
    | true => match ev l x with
      | some v => match evParts l (k + 1) r with
        | some vs => some (v :: vs)
        | none => none
      | none => none
    | false => none
theorem evParts_spec {n : Nat} {l : Sl} {a : Act} (ha : Env n l a) : ∀ (ps : List (Nat × Operand)) (k : Nat) (vs : List Value), evParts l k ps = some vs → ps.map (fun p => (p.1, a.eval p.2)) = (vs.zipIdx k).map (fun v => (v.2, v.1))
  | [], k, vs, h => by simp only [evParts, Option.some.injEq] at h; subst h; rfl
  | (i, x) :: r, k, vs, h => by
    simp only [evParts] at h
    split at h
    · rename_i hb
      have hik := Nat.eq_of_beq_eq_true hb
      split at h
      · rename_i v hv
        split at h
        · rename_i us hu
          simp only [Option.some.injEq] at h
          subst h hik
          simp [ha.ev hv, evParts_spec ha r _ _ hu]
        · cases h
      · cases h
    · cases h
def SliceAt (w : World) (len : Nat) (vs : List Value) (T : TypeId) : Option Value → World → Prop
  | some v, w1 => ∃ b, v = .slice (some ⟨b, 0, none⟩) len len ∧ New w w1 b vs ∧ w1.heap[b]? = some (.cells vs.toArray T (0, 0))
  | none, _ => False
theorem enumQ_get (size : Nat) : ∀ (vss : List (List Value)) (k i : Nat) (q : Nat × Nat × List Value), (enumQ size k vss)[i]? = some q → ∃ v, vss[i]? = some v ∧ q = ((k + i) * size, size, v)
  | [], _, _, _, h => by simp [enumQ] at h
  | v :: r, k, 0, q, h => by simp [enumQ] at h; exact ⟨v, rfl, by simp [h]⟩
  | v :: r, k, i + 1, q, h => by
    simp only [enumQ, List.getElem?_cons_succ] at h
    obtain ⟨u, h1, h2⟩ := enumQ_get size r (k + 1) i q h
    exact ⟨u, by simpa using h1, by rw [h2]; congr 2; omega⟩
theorem enumQ_length (size : Nat) : ∀ (vss : List (List Value)) (k : Nat), (enumQ size k vss).length = vss.length
  | [], _ => rfl
  | _ :: r, k => by simp [enumQ, enumQ_length size r]
section does
variable {P : Program} {n : Nat} {l : Sl} {w : World} {tab : Tab} {zt : ZTab} {ty : TypeId}
theorem does_slice {t e sz szE len : Nat} {sE : Sk} {zs : List Value} {ps : List (Nat × Operand)} {vs : List Value} (T : TabOk P tab) (Z : ZTabOk P zt) (ht : lookT tab t = some (.slice e, sz)) (hE : lookT tab e = some (sE, szE))
    (hz : lookZ zt e = some zs) (hp : evParts l 0 ps = some vs) (hl : vs.length = len) (hc : vs.all (fun v => Nat.beq v.cells.size szE) = true) (hm : Nat.ble (len * szE) 10000 = true) (hn0 : Nat.blt 0 (len * szE) = true) :
    Does P n l (.buildSlice t len ps.toArray) ty w (SliceAt w len (vs.map (·.cells.toList)).flatten e) := by
  unfold Does
  intro a dst pos after g next Q ha hn _
  have hu : P.underlying t = some (.slice e) := (T _ _ _ ht).under
  have hm' := Nat.le_of_ble_eq_true hm
  have hn0' : 0 < len * szE := Nat.le_of_ble_eq_true hn0
  obtain ⟨i0, v0, z1, z2, z3⟩ := lookZ_ok Z hz
  have hps := evParts_spec ha ps 0 vs hp
  have hlen : ∀ v ∈ vs, v.cells.size = szE := fun v hv => Nat.eq_of_beq_eq_true (List.all_eq_true.1 hc v hv)
  have hfill : ∀ cells : Array Value, cells.size = len * szE → Instr.fill (fun i => some (i * szE, szE)) cells ((vs.zipIdx 0).map (fun v => (v.2, v.1))) = some (vs.map (·.cells.toList)).flatten.toArray := fun cells hcs => by
    refine fill_of _ (enumQ szE 0 (vs.map (·.cells.toList))) cells _ (by simp [enumQ_length]) ?_ ?_
    · intro i p q hi hq
      obtain ⟨v, hv, rfl⟩ := enumQ_get szE _ 0 i q hq
      simp only [List.getElem?_map, Option.map_eq_some_iff] at hv hi
      obtain ⟨x, hx, rfl⟩ := hv
      obtain ⟨y, hy, rfl⟩ := hi
      rw [List.getElem?_zipIdx] at hy
      rw [hx] at hy
      simp only [Option.map_some, Option.some.injEq] at hy
      subst hy
      simp
    · have := fill_enum szE (vs.map (·.cells.toList)) 0 [] cells.toList (by simp) (by simpa using hlen) (by simp [hcs, hl])
      simpa using this
  have e1 : (execOp a.eval ⟨dst, .buildSlice t len ps.toArray, ty, pos, after, g⟩).run P w = .ok (.value (.slice (some ⟨w.heap.size, 0, none⟩) len len)) (w.alloc (.cells (vs.map (·.cells.toList)).flatten.toArray e (0, 0))) := by
    have hpa : (ps.toArray.map fun (p : Nat × Operand) => (p.1, a.eval p.2)).toList = (vs.zipIdx 0).map (fun v => (v.2, v.1)) := by simpa using hps
    have hb : (Instr.buildSlice t len (ps.toArray.map fun (p : Nat × Operand) => (p.1, a.eval p.2))).run P w = .ok (.slice (some ⟨w.heap.size, 0, none⟩) len len) (w.alloc (.cells (vs.map (·.cells.toList)).flatten.toArray e (0, 0))) := by
      simp only [Instr.buildSlice, Sem.run_bind, run_underlying hu, Result.andThen, run_sizeOf (T _ _ _ hE), hpa]
      rw [if_neg (by omega)]
      simp only [if_neg (show ¬ len * szE = 0 by omega), zeroValue, typeInfo, program, Sem.run, z1, z2, bind, Sem.bind, pure]
      rw [hfill _ (by simp)]
      simp only [newRow, newObj, bind, Sem.bind, Sem.run, pure]
      rfl
    simp only [execOp, Sem.run_bind]
    rw [show (ps.toArray.map fun x => match x with | (i, x) => (i, a.eval x)) = ps.toArray.map fun (p : Nat × Operand) => (p.1, a.eval p.2) from rfl, hb]
    rfl
  unfold Oper.wp
  rw [e1]
  exact hn _ _ ⟨_, rfl, new_alloc _ _ _, by show (w.heap.push _)[w.heap.size]? = _; simp⟩
theorem pur_nilCheck {S : World → Prop} {x : Operand} {a : Addr} (hx : ev l x = some (.pointer (some a))) : Pur P n l S (.nilCheck x) ty (.pointer (some a)) := by
  unfold Pur
  intro a w dst pos after g ha _
  simp [execOp, ha.ev hx]
/-- The parts of a struct's literal: where each goes, how long it is, what it is. -/
def partsS (tab : Tab) (fs : List (Nat × Nat)) (l : Sl) : List (Nat × Operand) → Option (List (Nat × Value) × List (Nat × Nat × List Value))
  | [] => some ([], [])
  | (i, x) :: r => match fs[i]? with
    | some (off, ft) => match lookT tab ft with
      | some (_, sz) => match ev l x with
        | some v => match partsS tab fs l r with
          | some (ps, qs) => some ((i, v) :: ps, (off, sz, v.cells.toList) :: qs)
          | none => none
        | none => none
      | none => none
    | none => none
theorem partsS_spec {a : Act} {fs : List (Nat × Nat)} {gs : Array Field} (T : TabOk P tab) (ha : Env n l a) (hg : ∀ (i o ft : Nat), fs[i]? = some (o, ft) → ∃ g : Field, gs[i]? = some g ∧ g.offset = o ∧ g.type = ft ∧ ∃ j : TypeInfo, P.info? ft = some j ∧ j.size ≠ 0)
    {pl : Array (Nat × Nat)} (hpl : ∀ (i : Nat) (g : Field) (s : Sk) (sz : Nat), gs[i]? = some g → TyOk P g.type s sz → pl[i]? = some (g.offset, sz)) : ∀ (xs : List (Nat × Operand)) (ps : List (Nat × Value)) (qs : List (Nat × Nat × List Value)), partsS tab fs l xs = some (ps, qs) →
      xs.map (fun p => (p.1, a.eval p.2)) = ps ∧ ps.length = qs.length ∧ ∀ (i : Nat) (p : Nat × Value) (q : Nat × Nat × List Value), ps[i]? = some p → qs[i]? = some q → pl[p.1]? = some (q.1, q.2.1) ∧ p.2.cells = q.2.2.toArray
  | [], ps, qs, h => by simp only [partsS, Option.some.injEq, Prod.mk.injEq] at h; obtain ⟨rfl, rfl⟩ := h; simp
  | (i, x) :: r, ps, qs, h => by
    simp only [partsS] at h
    split at h
    · rename_i off ft hf
      split at h
      · rename_i s sz ht
        split at h
        · rename_i v hv
          split at h
          · rename_i ps' qs' hr
            simp only [Option.some.injEq, Prod.mk.injEq] at h
            obtain ⟨rfl, rfl⟩ := h
            obtain ⟨h1, h2, h3⟩ := partsS_spec T ha hg hpl r ps' qs' hr
            refine ⟨by simp [ha.ev hv, h1], by simp [h2], ?_⟩
            rintro (_ | j) p q hp hq
            · simp only [List.getElem?_cons_zero, Option.some.injEq] at hp hq
              subst hp hq
              obtain ⟨g, g1, g2, g3, -⟩ := hg i off ft hf
              refine ⟨?_, by simp⟩
              have := hpl i g s sz g1 (by rw [g3]; exact T _ _ _ ht)
              rw [g2] at this; exact this
            · exact h3 j p q (by simpa using hp) (by simpa using hq)
          · cases h
        · cases h
      · cases h
    · cases h
theorem places_of : ∀ (fs : List Field), (∀ f ∈ fs, ∃ i, P.info? f.type = some i) → ∃ pl : List (Nat × Nat), fs.mapM (fun f => (P.info? f.type).map fun i => (f.offset, i.size)) = some pl ∧ ∀ (i : Nat) (g : Field) (s : Sk) (sz : Nat), fs[i]? = some g → TyOk P g.type s sz → pl[i]? = some (g.offset, sz)
  | [], _ => ⟨[], by simp, by simp⟩
  | f :: r, h => by
    obtain ⟨i, hi⟩ := h f List.mem_cons_self
    obtain ⟨pl, h1, h2⟩ := places_of r (fun g hg => h g (List.mem_cons_of_mem _ hg))
    refine ⟨(f.offset, i.size) :: pl, by simp [hi, h1], ?_⟩
    rintro (_ | j) g s sz hg ht
    · simp only [List.getElem?_cons_zero, Option.some.injEq] at hg
      subst hg
      obtain ⟨i', e1, e2⟩ := ht.info
      rw [hi] at e1
      injection e1 with e1
      subst e1
      simp [e2]
    · exact h2 j g s sz (by simpa using hg) ht
theorem pur_build {S : World → Prop} {t sz : Nat} {fs : List (Nat × Nat)} {xs : List (Nat × Operand)} {ps : List (Nat × Value)} {qs : List (Nat × Nat × List Value)} {zs out : List Value} (T : TabOk P tab) (Z : ZTabOk P zt)
    (ht : lookT tab t = some (.struct fs, sz)) (hz : lookZ zt t = some zs) (hp : partsS tab fs l xs = some (ps, qs)) (ho : fillL qs zs = some out) : Pur P n l S (.build t xs.toArray) ty (.agg out.toArray) := by
  unfold Pur
  intro a w dst pos after g ha _
  obtain ⟨gs, h1, h2, h3⟩ := (T _ _ _ ht).under
  obtain ⟨i0, v0, z1, z2, z3⟩ := lookZ_ok Z hz
  obtain ⟨pl, p1, p2⟩ := places_of (P := P) gs.toList (fun f hf => by
    obtain ⟨i, hi, rfl⟩ := List.mem_iff_getElem.1 hf
    have hlt : i < fs.length := by simpa [h2] using hi
    obtain ⟨g, g1, g2, g3, j, g4, -⟩ := h3 i fs[i].1 fs[i].2 (List.getElem?_eq_getElem hlt)
    have : gs.toList[i] = g := by
      have := Array.getElem?_eq_some_iff.1 g1
      simpa using this.2
    rw [this, g3]; exact ⟨j, g4⟩)
  obtain ⟨q1, q2, q3⟩ := partsS_spec T ha h3 (pl := pl.toArray) (fun i g s sz hg hk => by simpa using p2 i g s sz (by simpa using hg) hk) xs ps qs hp
  have hb : P.built t (xs.toArray.map fun (p : Nat × Operand) => (p.1, a.eval p.2)).toList = some out.toArray := by
    unfold Program.built
    simp only [z1, h1, z2, p1]
    rw [show (xs.toArray.map fun (p : Nat × Operand) => (p.1, a.eval p.2)).toList = ps from by simpa using q1]
    exact fill_of ps qs v0.cells out q2 q3 (by rw [z3]; simpa using ho)
  have := run_build w t _ _ hb
  simp only [execOp, Sem.run_bind]
  rw [show (xs.toArray.map fun x => match x with | (i, x) => (i, a.eval x)) = xs.toArray.map fun (p : Nat × Operand) => (p.1, a.eval p.2) from rfl, this]
  rfl
end does
/-! ### Parts of blocks and rows -/
theorem Row.sub {w : World} {b o : Nat} {vs : List Value} (h : Row w ⟨b, o, none⟩ vs) (i k : Nat) : Row w ⟨b, o + i, none⟩ ((vs.drop i).take k) := fun j v hj => by
  have hj' : vs[i + j]? = some v := by
    rw [List.getElem?_take] at hj
    split at hj
    · rwa [List.getElem?_drop] at hj
    · cases hj
  have := h.at hj'
  have e : (⟨b, o + i, none⟩ : Addr).add j = ⟨b, o + (i + j), none⟩ := by unfold Addr.add; by_cases h0 : j = 0 <;> simp [h0, Nat.add_assoc]
  rw [e]; exact this
section parts
variable {P : Program} {n : Nat} {l : Sl} {S : World → Prop} {ty : TypeId} {tab : Tab}
theorem pur_loads_blk {x : Operand} {t sz b o : Nat} {s : Sk} {vs : List Value} (T : TabOk P tab) (ht : lookT tab t = some (s, sz)) (hs : s.agg = true) (hx : ev l x = some (.pointer (some ⟨b, o, none⟩)))
    (hc : ∀ w, S w → Blk w b vs) (hl : Nat.ble (o + sz) vs.length = true) : Pur P n l S (.load t x) ty (.agg ((vs.drop o).take sz).toArray) :=
  pur_loads T ht hs hx (by have := Nat.le_of_ble_eq_true hl; simp; omega) (fun w hS => by have := (hc w hS).row.sub o sz; simpa using this)
theorem pur_loads_row {x : Operand} {t sz b o i : Nat} {s : Sk} {vs : List Value} (T : TabOk P tab) (ht : lookT tab t = some (s, sz)) (hs : s.agg = true) (hx : ev l x = some (.pointer (some ⟨b, o + i, none⟩)))
    (hc : ∀ w, S w → Row w ⟨b, o, none⟩ vs) (hl : Nat.ble (i + sz) vs.length = true) : Pur P n l S (.load t x) ty (.agg ((vs.drop i).take sz).toArray) :=
  pur_loads T ht hs hx (by have := Nat.le_of_ble_eq_true hl; simp; omega) (fun w hS => (hc w hS).sub i sz)
end parts
theorem pur_len_s {P : Program} {n : Nat} {l : Sl} {S : World → Prop} {ty : TypeId} {tab : Tab} {x : Operand} {t sz : Nat} {a : List UInt8} (T : TabOk P tab) (ht : lookT tab t = some (.str, sz)) (hx : ev l x = some (str a)) : Pur P n l S (.call ⟨.builtin .len, #[x], #[t]⟩) ty (.int .i64 a.length) := pur_len_str T (pt := true) ht hx
/-! ### Rows of elements -/
/-- The elements of l lie one behind the other from a on, each where E says, in a block that S admits. -/
def Arr {α : Type} (S : Nat → Prop) (sz : Nat) (E : World → Nat → Nat → α → Prop) (w : World) (l : List α) (a : Option Addr) : Prop :=
  l = [] ∨ ∃ b o, a = some ⟨b, o, none⟩ ∧ S b ∧ ∀ i x, l[i]? = some x → E w b (o + i * sz) x
theorem Arr.mono {α : Type} {S S' : Nat → Prop} {sz : Nat} {E E' : World → Nat → Nat → α → Prop} {w w' : World} {l : List α} {a : Option Addr} (h : Arr S sz E w l a) (hS : ∀ b, S b → S' b) (hE : ∀ b o x, x ∈ l → S b → E w b o x → E' w' b o x) : Arr S' sz E' w' l a := by
  rcases h with h | ⟨b, o, h1, h2, h3⟩
  · exact Or.inl h
  · exact Or.inr ⟨b, o, h1, hS b h2, fun i x hx => hE _ _ _ (List.mem_of_getElem? hx) h2 (h3 i x hx)⟩
theorem Arr.get {α : Type} {S : Nat → Prop} {sz : Nat} {E : World → Nat → Nat → α → Prop} {w : World} {l : List α} {a : Option Addr} (h : Arr S sz E w l a) (hl : 0 < l.length) :
    ∃ b o, a = some ⟨b, o, none⟩ ∧ S b ∧ ∀ i x, l[i]? = some x → E w b (o + i * sz) x := by
  rcases h with h | h
  · subst h; simp at hl
  · exact h
/-! ### Blocks whose type is known -/
/-- Block b is a row of T's with exactly these cells. -/
def TB (w : World) (b : Nat) (vs : List Value) (T : TypeId) : Prop := w.heap[b]? = some (.cells vs.toArray T (0, 0))
theorem TB.blk {w : World} {b : Nat} {vs : List Value} {T : TypeId} (h : TB w b vs T) : Blk w b vs := ⟨T, h⟩
theorem TB.ext {w w' : World} {b : Nat} {vs : List Value} {T : TypeId} (h : TB w b vs T) (e : Ext w w') : TB w' b vs T := (e.block h.blk.lt).trans h
theorem TB.set {w : World} {b i : Nat} {vs : List Value} {T : TypeId} (h : TB w b vs T) (v : Value) : TB (w.setCell ⟨b, i, none⟩ v) b (vs.set i v) T := by
  have h' : w.heap[b]? = some (.cells vs.toArray T (0, 0)) := h
  unfold TB
  simp [World.setCell, Array.getElem?_modify, h']
theorem run_storeCellsT {P : Program} {T : TypeId} : ∀ (us : List Value) (w : World) (b o i : Nat) (vs : List Value), TB w b vs T → o + i + us.length ≤ vs.length → us.all Value.one = true →
    ∃ w1, (storeCells ⟨b, o, none⟩ us i).run P w = .ok () w1 ∧ Put w w1 b (setMany vs (o + i) us) ∧ TB w1 b (setMany vs (o + i) us) T
  | [], w, b, o, i, vs, h, _, _ => ⟨w, rfl, ⟨h.blk, Fr.refl _ _, rfl⟩, h⟩
  | u :: r, w, b, o, i, vs, h, hl, hv => by
    simp only [List.length_cons] at hl
    simp only [List.all_cons, Bool.and_eq_true] at hv
    have ha : (⟨b, o, none⟩ : Addr).add i = ⟨b, o + i, none⟩ := by unfold Addr.add; by_cases h0 : i = 0 <;> simp [h0]
    have e : (storeCells ⟨b, o, none⟩ (u :: r) i).run P w = (storeCells ⟨b, o, none⟩ r (i + 1)).run P (w.setCell ⟨b, o + i, none⟩ u) := by
      simp only [storeCells, store, ha, bind, Sem.bind]
      exact run_store h.blk (by omega) hv.1 _
    obtain ⟨w1, h1, h2, h3⟩ := run_storeCellsT (P := P) r _ b o (i + 1) _ (h.set (i := o + i) u) (by simp; omega) hv.2
    refine ⟨w1, by rw [e, h1], ⟨h2.blk, ((Fr.refl (· = b) w).setCell ⟨b, o + i, none⟩ u (Or.inl rfl)).trans h2.fr, ?_⟩, h3⟩
    rw [h2.size]; simp [World.setCell]
section typed
variable {P : Program} {n : Nat} {ops : Array Oper} {Q : Exit → Act → World → Prop} {rest : List Oper} {l : Sl} {w : World} {tab : Tab}
  {d : Nat} {ty : TypeId} {pos : String} {after : Array Edge}
def NewAtT (w : World) (vs : List Value) (T : TypeId) : Option Value → World → Prop
  | some v, w1 => ∃ b, v = .pointer (some ⟨b, 0, none⟩) ∧ New w w1 b vs ∧ TB w1 b vs T
  | none, _ => False
theorem tb_alloc (w : World) (vs : List Value) (T : TypeId) : TB (w.alloc (.cells vs.toArray T (0, 0))) w.heap.size vs T := by show (w.heap.push _)[w.heap.size]? = _; simp
theorem does_boxT {x : Operand} {t : Nat} {v : Value} {vs : List Value} (hx : ev l x = some v) (hv : v.cells = vs.toArray) : Does P n l (.box t x) ty w (NewAtT w vs t) := by
  unfold Does
  intro a dst pos after g next Q ha hn _
  have e : (execOp a.eval ⟨dst, .box t x, ty, pos, after, g⟩).run P w = .ok (.value (.pointer (some ⟨w.heap.size, 0, none⟩))) (w.alloc (.cells vs.toArray t (0, 0))) := by
    simp [execOp, ha.ev hx, Instr.box, newVar, newRow, newObj, Sem.run, hv, bind, Sem.bind, pure]
  unfold Oper.wp
  rw [e]
  exact hn _ _ ⟨_, rfl, new_alloc _ _ _, tb_alloc _ _ _⟩
theorem does_allocT {zt : ZTab} {t : Nat} {vs : List Value} (Z : ZTabOk P zt) (hz : lookZ zt t = some vs) : Does P n l (.alloc t) ty w (NewAtT w vs t) := by
  unfold Does
  intro a dst pos after g next Q ha hn _
  obtain ⟨i, v, h1, h2, h3⟩ := lookZ_ok Z hz
  have e : (execOp a.eval ⟨dst, .alloc t, ty, pos, after, g⟩).run P w = .ok (.value (.pointer (some ⟨w.heap.size, 0, none⟩))) (w.alloc (.cells vs.toArray t (0, 0))) := by
    simp [execOp, Instr.alloc, zeroValue, typeInfo, program, newVar, newRow, newObj, Sem.run, h1, h2, h3, bind, Sem.bind, pure]
  unfold Oper.wp
  rw [e]
  exact hn _ _ ⟨_, rfl, new_alloc _ _ _, tb_alloc _ _ _⟩
theorem lw_boxT {x : Operand} {t : Nat} {v : Value} {vs : List Value} (hx : ev l x = some v) (hv : v.cells = vs.toArray) (hd : Nat.blt d n = true)
    (k : ∀ b w1, New w w1 b vs → TB w1 b vs t → LW P n ops Q rest ((d, .pointer (some ⟨b, 0, none⟩)) :: l) w1) : LW P n ops Q (⟨some d, .box t x, ty, pos, after, none⟩ :: rest) l w :=
  lw_does (does_boxT hx hv) hd (fun _ w1 ⟨b, h, hn, ht⟩ => h ▸ k b w1 hn ht) (fun _ h => h)
theorem lw_allocT {zt : ZTab} {t : Nat} {vs : List Value} (Z : ZTabOk P zt) (hz : lookZ zt t = some vs) (hd : Nat.blt d n = true)
    (k : ∀ b w1, New w w1 b vs → TB w1 b vs t → LW P n ops Q rest ((d, .pointer (some ⟨b, 0, none⟩)) :: l) w1) : LW P n ops Q (⟨some d, .alloc t, ty, pos, after, none⟩ :: rest) l w :=
  lw_does (does_allocT Z hz) hd (fun _ w1 ⟨b, h, hn, ht⟩ => h ▸ k b w1 hn ht) (fun _ h => h)
theorem setMany_all (us vs : List Value) (h : us.length = vs.length) : setMany vs 0 us = us := by
  have := setMany_mid us vs [] [] h
  simpa using this
theorem lw_storeT {x y : Operand} {t sz b o : Nat} {T : TypeId} {s : Sk} {v : Value} {vs us : List Value} (TT : TabOk P tab) (ht : lookT tab t = some (s, sz)) (hx : ev l x = some (.pointer (some ⟨b, o, none⟩))) (hy : ev l y = some v)
    (hv : v.cells = us.toArray) (hl : us.length = sz) (h1 : us.all Value.one = true) (hb : TB w b vs T) (ho : Nat.ble (o + us.length) vs.length = true)
    (k : ∀ w1, Put w w1 b (setMany vs o us) → TB w1 b (setMany vs o us) T → LW P n ops Q rest l w1) : LW P n ops Q (⟨none, .store t x y, ty, pos, after, none⟩ :: rest) l w := by
  refine lw_does0 (K := fun v w1 => v = none ∧ Put w w1 b (setMany vs o us) ∧ TB w1 b (setMany vs o us) T) ?_ (fun v w1 h => k w1 h.2.1 h.2.2)
  unfold Does
  intro a dst pos after g next Q ha _ hn
  obtain ⟨w1, e1, e2, e3⟩ := run_storeCellsT (P := P) us w b o 0 vs hb (by simpa using ho) h1
  have e : (execOp a.eval ⟨dst, .store t x y, ty, pos, after, g⟩).run P w = .ok .skip w1 := by
    have hcs : v.cells.toList = us := by rw [hv]
    have hsz : v.cells.size = sz := by rw [hv]; simpa using hl
    simp only [execOp, ha.ev hx, ha.ev hy, Instr.storeAt, Instr.sureAddr, Sem.run_bind, Sem.run_pure, Result.andThen, storeVar, run_sizeOf (TT _ _ _ ht), hsz, hcs]
    simp only [ne_eq, not_true, if_false, e1]
  unfold Oper.wp
  rw [e]
  exact hn _ ⟨rfl, e2, e3⟩
theorem lw_initT {w0 : World} {x y : Operand} {t sz b : Nat} {T : TypeId} {s : Sk} {v : Value} {vs us : List Value} (TT : TabOk P tab) (ht : lookT tab t = some (s, sz)) (hx : ev l x = some (.pointer (some ⟨b, 0, none⟩))) (hy : ev l y = some v)
    (hv : v.cells = us.toArray) (hl : us.length = sz) (h1 : us.all Value.one = true) (hb : New w0 w b vs) (hT : TB w b vs T) (ho : us.length = vs.length)
    (k : ∀ w1, New w0 w1 b us → TB w1 b us T → LW P n ops Q rest l w1) : LW P n ops Q (⟨none, .store t x y, ty, pos, after, none⟩ :: rest) l w :=
  lw_storeT TT ht hx hy hv hl h1 hT (by simp [ho]) (fun w1 p q => by
    rw [setMany_all us vs ho] at p q
    exact k w1 (hb.put p) q)
end typed
end Bk
