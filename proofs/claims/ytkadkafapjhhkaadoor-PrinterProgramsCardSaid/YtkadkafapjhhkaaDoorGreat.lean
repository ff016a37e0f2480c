/- Contracts of the statements' own great and small (layer 5): the bound on the trees that are looked at. -/
import Derived.Test.YtkadkafapjhhkaaDoorPExpr5
namespace Bk
open Go Go.RowKit Go.Proofs
mutual
def Nd.small : Nd → Int → Int → Bool × Int
  | .mk _ _ s l, d, m => if m < 1 ∨ d = 0 ∨ 40 < s.length then (false, m - 1) else rowSmall l (d - 1) (m - 1)
def rowSmall : List Nd → Int → Int → Bool × Int
  | [], _, m => (true, m)
  | t :: r, d, m => if (t.small d m).1 then rowSmall r d (t.small d m).2 else (false, (t.small d m).2)
end
mutual
theorem small_le : ∀ (t : Nd) (d m : Int), 0 ≤ m → ((t.small d m).1 = true → 0 ≤ (t.small d m).2 ∧ (t.small d m).2 ≤ m)
  | .mk _ _ s l, d, m, hm, h => by
    simp only [Nd.small] at h ⊢
    split at h
    · simp at h
    · rename_i hn
      rw [if_neg hn]
      have := rowSmall_le l (d - 1) (m - 1) (by omega) h
      omega
theorem rowSmall_le : ∀ (l : List Nd) (d m : Int), 0 ≤ m → ((rowSmall l d m).1 = true → 0 ≤ (rowSmall l d m).2 ∧ (rowSmall l d m).2 ≤ m)
  | [], _, m, hm, _ => by simp [rowSmall, hm]
  | t :: r, d, m, hm, h => by
    simp only [rowSmall] at h ⊢
    split at h
    · rename_i ht
      rw [if_pos ht]
      have h1 := small_le t d m hm ht
      have h2 := rowSmall_le r d (t.small d m).2 h1.1 h
      omega
    · simp at h
end
set_option maxHeartbeats 1000000 in
theorem small_c (N : Nat) : ∀ (k n d m : Int) (s : List UInt8) (l : List Nd) (a : Option Addr) (c pb po : Nat) (S : Nat → Prop) (w : World),
   rowSize l < N → (Nd.mk k n s l).wf → rowSits S w l a → ¬ S pb →
   w.cell? ⟨pb, po, none⟩ = some (.int .i64 m) → w.frozen? ⟨pb, po, none⟩ = false → 0 ≤ m → m ≤ 1000 → 0 ≤ d → d ≤ 1000 →
   Calls Tryd.prog 21 #[.agg #[.int .u8 k, .int .i64 n, str s, .slice a l.length c], .int .i64 d, .pointer (some ⟨pb, po, none⟩)] w fun e w' =>
     e = .returned (.bool ((Nd.mk k n s l).small d m).1) ∧ w'.cell? ⟨pb, po, none⟩ = some (.int .i64 ((Nd.mk k n s l).small d m).2) ∧ w'.frozen? ⟨pb, po, none⟩ = false ∧ Fr (· = pb) w w' := by
  induction N with
  | zero => intro k n d m s l a c pb po S w h; omega
  | succ N ih =>
    intro k n d m s l a c pb po S w hN hwf hs hS hc hf hm0 hm1 hd0 hd1
    have hpb := cell_lt hc
    simp only [Nd.wf] at hwf
    obtain ⟨hk0, hk1, hn0, hn1, hsl, hll, hrw⟩ := hwf
    have hpne : ¬ w.heap.size = pb := by simp at hpb; omega
    have hpne' : ¬ pb = w.heap.size := by simp at hpb; omega
    by_cases h1 : m < 1 ∨ d = 0 ∨ 40 < s.length
    · have hr : (Nd.mk k n s l).small d m = (false, m - 1) := by simp only [Nd.small]; rw [if_pos h1]
      have HR := Lib.hid hr; clear hr ih hs hrw
      by_cases e1 : m < 1
      · have d1 : decide (m - 1 < 0) = true := by simp; omega
        clear h1
        go_enter Tryd.func21, Tryd.ntmps21
        go_wp2_with fail
        go_ret
        rw [HR.out]
        exact ⟨rfl, by go_simp, by go_simp, (by repeat (first | exact Fr.refl _ _ | assumption | refine Fr.alloc ?_ _ | refine Fr.drew ?_ | refine Fr.setCell ?_ _ _ (Or.inl rfl) | refine Fr.trans ?_ (by assumption)))⟩
      · have d1 : decide (m - 1 < 0) = false := by simp; omega
        by_cases e2 : d = 0
        · have d2 : (d == 0) = true := by simp [e2]
          clear h1 e2
          go_enter Tryd.func21, Tryd.ntmps21
          go_wp2_with fail
          go_ret
          rw [HR.out]
          exact ⟨rfl, by go_simp, by go_simp, (by repeat (first | exact Fr.refl _ _ | assumption | refine Fr.alloc ?_ _ | refine Fr.drew ?_ | refine Fr.setCell ?_ _ _ (Or.inl rfl) | refine Fr.trans ?_ (by assumption)))⟩
        · have d2 : (d == 0) = false := by simp [e2]
          have d3 : decide ((40 : Int) < s.length) = true := by simp; omega
          clear h1
          go_enter Tryd.func21, Tryd.ntmps21
          go_wp2_with fail
          go_ret
          rw [HR.out]
          exact ⟨rfl, by go_simp, by go_simp, (by repeat (first | exact Fr.refl _ _ | assumption | refine Fr.alloc ?_ _ | refine Fr.drew ?_ | refine Fr.setCell ?_ _ _ (Or.inl rfl) | refine Fr.trans ?_ (by assumption)))⟩
    · have hr : (Nd.mk k n s l).small d m = rowSmall l (d - 1) (m - 1) := by simp only [Nd.small]; rw [if_neg h1]
      have HR := Lib.hid hr; clear hr
      have IH := Lib.hid ih; clear ih
      have d1 : decide (m - 1 < 0) = false := by simp; omega
      have d2 : (d == 0) = false := by simp; omega
      have d3 : decide ((40 : Int) < s.length) = false := by simp; omega
      have hm2 : 1 ≤ m := by omega
      have hd2 : 1 ≤ d := by omega
      clear h1
      go_enter Tryd.func21, Tryd.ntmps21
      go_wp2_with fail
      go_loopw [31] (fun i wr => ∃ (j : Nat) (mj : Int), j ≤ l.length ∧ i = .int .i64 j ∧ 0 ≤ mj ∧ mj ≤ 1000 ∧ Hid (rowSmall l (d - 1) (m - 1) = rowSmall (l.drop j) (d - 1) mj) ∧
        wr.cell? ⟨pb, po, none⟩ = some (.int .i64 mj) ∧ wr.frozen? ⟨pb, po, none⟩ = false ∧ Fr (· = pb) w wr) (fun i _ => l.length - (intOf i).toNat)
      case atStart => exact ⟨0, m - 1, Nat.zero_le _, rfl, by omega, by omega, Lib.hid rfl, by go_simp, by go_simp, (by repeat (first | exact Fr.refl _ _ | assumption | refine Fr.alloc ?_ _ | refine Fr.drew ?_ | refine Fr.setCell ?_ _ _ (Or.inl rfl) | refine Fr.trans ?_ (by assumption)))⟩
      case round =>
        obtain ⟨j, mj, hj, rfl, hmj0, hmj1, HJ, hcj, hfj, hfr⟩ := hrel
        clear hc hf d1 d2 d3
        have hpb' : pb < wr.heap.size := cell_lt hcj
        by_cases hlt : j < l.length
        · have hg : l[j]? = some l[j] := List.getElem?_eq_getElem hlt
          have hmem : l[j] ∈ l := List.getElem_mem hlt
          have hwf := rowWf_get hrw _ hmem
          have hsz := size_mem hmem
          have hdrop := List.drop_eq_getElem_cons hlt
          generalize l[j] = t at *
          obtain ⟨b, o, a', c', rfl, hSb, g0, g1, g2, g3, hsk⟩ := rowSits_get (hs.fr hfr (fun b hb e => hS (e ▸ hb))) hg
          obtain ⟨k', n', s', l'⟩ := t
          simp only [Nd.kind, Nd.num, Nd.name, Nd.kids, Nd.sits, Nd.size] at g0 g1 g2 g3 hsk hsz
          have HG := Lib.hid hg; clear hg
          have HD := Lib.hid hdrop; clear hdrop
          go_wp2_with fail
          refine (IH.out k' n' (d - 1) mj s' l' a' c' pb po S _ (by omega) hwf (hsk.ext ((Ext.refl _).alloc _)) hS (by go_simp) (by go_simp) hmj0 hmj1 (by omega) (by omega)).mono ?_
          rintro e w1 ⟨rfl, hc1, hf1, hfr1⟩
          have hle := small_le (Nd.mk k' n' s' l') (d - 1) mj hmj0
          have hro : rowSmall (Nd.mk k' n' s' l' :: l.drop (j + 1)) (d - 1) mj = if ((Nd.mk k' n' s' l').small (d - 1) mj).1 then rowSmall (l.drop (j + 1)) (d - 1) ((Nd.mk k' n' s' l').small (d - 1) mj).2 else (false, ((Nd.mk k' n' s' l').small (d - 1) mj).2) := rfl
          rw [← HD.out, ← HJ.out] at hro
          generalize (Nd.mk k' n' s' l').small (d - 1) mj = bm at *
          obtain ⟨bb, mm⟩ := bm
          clear hcj hfj g0 g1 g2 g3
          simp only at hc1 hle hro
          have HRO := Lib.hid hro; clear hro
          cases bb
          · clear hle
            simp only
            go_wp2_with fail
            go_ret
            rw [HR.out, HRO.out]
            exact ⟨rfl, hc1, hf1, (by repeat (first | exact Fr.refl _ _ | assumption | refine Fr.alloc ?_ _ | refine Fr.drew ?_ | refine Fr.setCell ?_ _ _ (Or.inl rfl) | refine Fr.trans ?_ (by assumption)))⟩
          · obtain ⟨hle0, hle1⟩ := hle rfl
            simp only
            go_wp2_with fail
            go_roundw
            case rel => exact ⟨j + 1, mm, by omega, by go_num, hle0, by omega, HRO, hc1, hf1, (by repeat (first | exact Fr.refl _ _ | assumption | refine Fr.alloc ?_ _ | refine Fr.drew ?_ | refine Fr.setCell ?_ _ _ (Or.inl rfl) | refine Fr.trans ?_ (by assumption)))⟩
            case measure => simp [intOf]; omega
        · go_wp2_with fail
          go_ret
          have e1 : l.drop j = [] := List.drop_eq_nil_of_le (by omega)
          rw [HR.out, HJ.out, e1]
          exact ⟨rfl, hcj, hfj, hfr⟩
mutual
/-- What the bound gives: a small tree has few nodes. -/
theorem small_size : ∀ (t : Nd) (d m : Int), 0 ≤ m → (t.small d m).1 = true → (t.size : Int) + (t.small d m).2 ≤ m
  | .mk _ _ s l, d, m, hm, h => by
    simp only [Nd.small, Nd.size] at h ⊢
    split at h
    · simp at h
    · rename_i hn
      rw [if_neg hn]
      have := rowSmall_size l (d - 1) (m - 1) (by omega) h
      omega
theorem rowSmall_size : ∀ (l : List Nd) (d m : Int), 0 ≤ m → (rowSmall l d m).1 = true → (rowSize l : Int) + (rowSmall l d m).2 ≤ m
  | [], _, m, _, _ => by simp [rowSmall, rowSize]
  | t :: r, d, m, hm, h => by
    simp only [rowSmall, rowSize] at h ⊢
    split at h
    · rename_i ht
      rw [if_pos ht]
      have h0 := small_le t d m hm ht
      have h1 := small_size t d m hm ht
      have h2 := rowSmall_size r d (t.small d m).2 h0.1 h
      omega
    · simp at h
end
theorem Ext.fr {S : Nat → Prop} {a b c : World} (h : Ext a b) (k : Fr S b c) (hS : ∀ i, S i → a.heap.size ≤ i) : Ext a c :=
  ⟨k.os.trans (Below.os h), k.tape.trans (Below.tape h), k.output.trans (Below.output h), Nat.le_trans h.size k.size, fun i hi => (k.block i (Nat.lt_of_lt_of_le hi h.size) (fun e => by have := hS i e; omega)).trans (h.block hi)⟩
theorem great_c (t : Nd) (hwf : t.wf) (S : Nat → Prop) (a : Option Addr) (c : Nat) (w : World) (hs : t.sits S w a) :
    Calls Tryd.prog 7 #[t.val a c] w fun e w' => e = .returned (.bool (!(t.small 24 200).1)) ∧ Ext w w' := by
  obtain ⟨k, n, s, l⟩ := t
  simp only [Nd.kind, Nd.num, Nd.name, Nd.kids, Nd.val]
  have hs' := sits_lt _ _ hs
  simp only [Nd.sits] at hs'
  go_enter Tryd.func7, Tryd.ntmps7
  go_wp2_with fail
  refine (small_c (rowSize l + 1) k n 24 200 s l a c (w.heap.size + 1) 0 (· < w.heap.size) _ (by omega) hwf (hs'.ext (by repeat (first | exact Ext.refl _ | assumption | refine Ext.alloc ?_ _ | refine Ext.drew ?_ | refine Ext.trans ?_ (by assumption)))) (by omega) (by go_simp) (by go_simp) (by omega) (by omega) (by omega) (by omega)).mono ?_
  rintro e w1 ⟨rfl, -, -, hf1⟩
  simp only
  go_wp2_with fail
  go_ret
  exact ⟨rfl, Ext.fr (a := w) (by repeat (first | exact Ext.refl _ | assumption | refine Ext.alloc ?_ _ | refine Ext.drew ?_ | refine Ext.trans ?_ (by assumption))) hf1 (by rintro k rfl; omega)⟩
end Bk
