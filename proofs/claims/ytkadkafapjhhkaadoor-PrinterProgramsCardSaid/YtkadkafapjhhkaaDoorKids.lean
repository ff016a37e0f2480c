/- Contracts of ast.kids and ast.every: tests handed over as functions. -/
import Derived.Test.YtkadkafapjhhkaaDoorName
namespace Bk
open Go Go.RowKit Go.Proofs
/-- The value of a node whose children lie at a. -/
abbrev Nd.val (t : Nd) (a : Option Addr) (c : Nat) : Value := .agg #[.int .u8 t.kind, .int .i64 t.num, str t.name, .slice a t.kids.length c]
/-- The function f decides p at t. -/
def Tests (S : Nat → Prop) (f : FuncId) (p : Nd → Bool) (t : Nd) : Prop :=
  ∀ (a : Option Addr) (c : Nat) (w : World), t.sits S w a → Calls Tryd.prog f #[t.val a c] w fun e w' => e = .returned (.bool (p t)) ∧ Ext w w'
def Enters (f : FuncId) : Prop := ∀ args w, (callFunc f args).run Tryd.prog w = .ok (.enter f args) w

theorem every_c (f : FuncId) (p : Nd → Bool) (he : Enters f) (l : List Nd) (a : Option Addr) (c : Nat) (S : Nat → Prop) (w : World) (hl : l.length ≤ 9223372036854775807) (hs : rowSits S w l a) (ht : ∀ t ∈ l, Tests S f p t) :
    Calls Tryd.prog 33 #[.slice a l.length c, .func (.func f) #[] #[]] w fun e w' => e = .returned (.bool (l.all p)) ∧ Ext w w' := by
  have HT := Lib.hid ht; clear ht
  unfold Enters at he
  go_enter Tryd.func33, Tryd.ntmps33
  go_wp2_with fail
  go_loopw [9] (fun i wr => ∃ j : Nat, j ≤ l.length ∧ i = .int .i64 j ∧ Hid (l.all p = (l.drop j).all p) ∧ Ext w wr) (fun i _ => l.length - (intOf i).toNat)
  case atStart => exact ⟨0, Nat.zero_le _, rfl, Lib.hid rfl, Ext.refl _⟩
  case round =>
    obtain ⟨j, hj, rfl, HJ, hx⟩ := hrel
    by_cases hlt : j < l.length
    · have hg : l[j]? = some l[j] := List.getElem?_eq_getElem hlt
      have hmem : l[j] ∈ l := List.getElem_mem hlt
      have hdrop := List.drop_eq_getElem_cons hlt
      generalize l[j] = t at *
      obtain ⟨b, o, a', c', rfl, hSb, g0, g1, g2, g3, hsk⟩ := rowSits_get (hs.ext hx) hg
      have HG := Lib.hid hg; clear hg
      have hall : l.all p = (p t && (l.drop (j + 1)).all p) := by rw [HJ.out, hdrop, List.all_cons]
      have HA := Lib.hid hall; clear hdrop hall
      go_wp2_with fail
      refine (HT.out t hmem a' c' _ (hsk.ext ((Ext.refl _).alloc _))).mono ?_
      rintro e w1 ⟨rfl, hx1⟩
      cases hp : p t
      · have HP := Lib.hid hp; clear hp
        simp only
        go_wp2_with fail
        go_ret
        rw [HA.out, HP.out]
        exact ⟨rfl, (by repeat (first | exact Ext.refl _ | assumption | refine Ext.alloc ?_ _ | refine Ext.drew ?_ | refine Ext.trans ?_ (by assumption)))⟩
      · have HP := Lib.hid hp; clear hp
        simp only
        go_wp2_with fail
        go_roundw
        case rel => exact ⟨j + 1, by omega, by go_num, Lib.hid (by rw [HA.out, HP.out]; simp), (by repeat (first | exact Ext.refl _ | assumption | refine Ext.alloc ?_ _ | refine Ext.drew ?_ | refine Ext.trans ?_ (by assumption)))⟩
        case measure => simp [intOf]; omega
    · go_wp2_with fail
      go_ret
      rw [HJ.out, List.drop_eq_nil_of_le (by omega)]
      exact ⟨rfl, hx⟩

def kidsOk : List Nd → List (FuncId × (Nd → Bool)) → Bool
  | [], [] => true
  | t :: r, f :: fs => f.2 t && kidsOk r fs
  | _, _ => false
theorem kidsOk_len : ∀ (l : List Nd) (fs : List (FuncId × (Nd → Bool))), l.length ≠ fs.length → kidsOk l fs = false
  | [], [], h => absurd rfl h
  | [], _ :: _, _ => rfl
  | _ :: _, [], _ => rfl
  | t :: r, f :: fs, h => by simp only [kidsOk]; rw [kidsOk_len r fs (by simpa using h)]; simp

theorem kids_c (k n : Int) (s : List UInt8) (l : List Nd) (a : Option Addr) (c : Nat) (fs : List (FuncId × (Nd → Bool))) (tb tc : Nat) (S : Nat → Prop) (w : World)
    (hl : l.length ≤ 9223372036854775807) (hfl : fs.length ≤ 100) (hs : rowSits S w l a)
    (htb : ∀ i f, fs[i]? = some f → w.cell? ⟨tb, i, none⟩ = some (.func (.func f.1) #[] #[])) (he : ∀ f ∈ fs, Enters f.1) (ht : ∀ f ∈ fs, ∀ t ∈ l, Tests S f.1 f.2 t) :
    Calls Tryd.prog 25 #[.agg #[.int .u8 k, .int .i64 n, str s, .slice a l.length c], .slice (some ⟨tb, 0, none⟩) fs.length tc] w fun e w' => e = .returned (.bool (kidsOk l fs)) ∧ Ext w w' := by
  have HT := Lib.hid ht; clear ht
  have HE := Lib.hid he; clear he
  have HB := Lib.hid htb; clear htb
  by_cases hlen : l.length = fs.length
  · have dn : ((l.length : Int) != (fs.length : Int)) = false := by rw [hlen]; simp
    have HL := Lib.hid hlen
    have hlen1 : l.length ≤ fs.length := by omega
    have hlen2 : fs.length ≤ l.length := by omega
    clear hlen
    go_enter Tryd.func25, Tryd.ntmps25
    go_wp2_with fail
    go_loopw [15] (fun i wr => ∃ j : Nat, j ≤ fs.length ∧ i = .int .i64 j ∧ Hid (kidsOk l fs = kidsOk (l.drop j) (fs.drop j)) ∧ Ext (w.alloc (.cells #[.int .u8 k, .int .i64 n, str s, .slice a l.length c] 24)) wr) (fun i _ => fs.length - (intOf i).toNat)
    case atStart => exact ⟨0, Nat.zero_le _, rfl, Lib.hid rfl, Ext.refl _⟩
    case round =>
      obtain ⟨j, hj, rfl, HJ, hx⟩ := hrel
      have hcs := hx.cells
      by_cases hlt : j < fs.length
      · have hlt' : j < l.length := by omega
        have hg : l[j]? = some l[j] := List.getElem?_eq_getElem hlt'
        have hmem : l[j] ∈ l := List.getElem_mem hlt'
        have hdrop := List.drop_eq_getElem_cons hlt'
        have hgf : fs[j]? = some fs[j] := List.getElem?_eq_getElem hlt
        have hmemf : fs[j] ∈ fs := List.getElem_mem hlt
        have hdropf := List.drop_eq_getElem_cons hlt
        generalize l[j] = t at *
        generalize fs[j] = f at *
        have hxx : Ext w wr := Ext.trans ((Ext.refl _).alloc _) hx
        obtain ⟨b, o, a', c', rfl, hSb, g0, g1, g2, g3, hsk⟩ := rowSits_get (hs.ext hxx) hg
        have HG := Lib.hid hg; clear hg
        have ht0 := hxx.keep (HB.out j f hgf)
        have HGF := Lib.hid hgf; clear hgf
        have hall : kidsOk l fs = (f.2 t && kidsOk (l.drop (j + 1)) (fs.drop (j + 1))) := by rw [HJ.out, hdrop, hdropf]; rfl
        have HA := Lib.hid hall; clear hdrop hall hdropf
        have hen := HE.out f hmemf
        unfold Enters at hen
        go_wp2_with fail
        refine (HT.out f hmemf t hmem a' c' _ hsk).mono ?_
        rintro e w1 ⟨rfl, hx1⟩
        cases hp : f.2 t
        · have HP := Lib.hid hp; clear hp
          simp only
          go_wp2_with fail
          go_ret
          rw [HA.out, HP.out]
          exact ⟨rfl, (by repeat (first | exact Ext.refl _ | assumption | refine Ext.alloc ?_ _ | refine Ext.drew ?_ | refine Ext.trans ?_ (by assumption)))⟩
        · have HP := Lib.hid hp; clear hp
          simp only
          go_wp2_with fail
          go_roundw
          case rel => exact ⟨j + 1, by omega, by go_num, Lib.hid (by rw [HA.out, HP.out]; simp), (by repeat (first | exact Ext.refl _ | assumption | refine Ext.alloc ?_ _ | refine Ext.drew ?_ | refine Ext.trans ?_ (by assumption)))⟩
          case measure => simp [intOf]; omega
      · go_wp2_with fail
        go_ret
        rw [HJ.out, List.drop_eq_nil_of_le (by omega), List.drop_eq_nil_of_le (by omega)]
        exact ⟨rfl, (by repeat (first | exact Ext.refl _ | assumption | refine Ext.alloc ?_ _ | refine Ext.drew ?_ | refine Ext.trans ?_ (by assumption)))⟩
  · have dn : ((l.length : Int) != (fs.length : Int)) = true := by rw [bne_iff_ne]; omega
    have hk := kidsOk_len l fs hlen
    have HK := Lib.hid hk; clear hk hlen
    go_enter Tryd.func25, Tryd.ntmps25
    go_wp2_with fail
    go_ret
    rw [HK.out]
    exact ⟨rfl, (by repeat (first | exact Ext.refl _ | assumption | refine Ext.alloc ?_ _ | refine Ext.drew ?_ | refine Ext.trans ?_ (by assumption)))⟩
end Bk
