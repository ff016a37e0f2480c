/- Contracts of the reference of layer 5: Decimal, wrap, binary. -/
import Derived.Test.YtkadkafapjhhkaaDoorPExpr5
namespace Bk
open Go Go.RowKit Go.Proofs
theorem str_app (a b : List UInt8) : (⟨a.toArray⟩ : ByteArray) ++ ⟨b.toArray⟩ = ⟨(a ++ b).toArray⟩ := by
  apply ByteArray.ext; simp
theorem ref_binary_c (k n : Int) (s : List UInt8) (a : Option Addr) (l c : Nat) (w : World) :
    Calls Tryd.prog 30 #[.agg #[.int .u8 k, .int .i64 n, str s, .slice a l c]] w fun e w' => e = .returned (.bool (isBin k)) ∧ Ext w w' := by
  go_enter Tryd.func30, Tryd.ntmps30
  go_wp2_with fail
  all_goals go_ret
  all_goals exact ⟨ret_bool (by unfold isBin; rw [Bool.eq_iff_iff]; simp; try omega), (by repeat (first | exact Ext.refl _ | assumption | refine Ext.alloc ?_ _ | refine Ext.drew ?_ | refine Ext.trans ?_ (by assumption)))⟩
theorem ref_wrap_c (s : List UInt8) (q : Bool) (w : World) (hs : s.length ≤ 9223372036854775000) :
    Calls Tryd.prog 29 #[str s, .bool q] w fun e w' => e = .returned (str (wrap s q)) ∧ w = w' := by
  cases q
  · go_enter Tryd.func29, Tryd.ntmps29
    go_wp2_with fail
    go_ret
    exact ⟨rfl, rfl⟩
  · go_enter Tryd.func29, Tryd.ntmps29
    go_wp2_with fail
    go_ret
    refine ⟨ret_eq ?_, rfl⟩
    show Value.string ((⟨#[40]⟩ : ByteArray) ++ ⟨s.toArray⟩ ++ ⟨#[41]⟩) = _
    rw [show (⟨#[40]⟩ : ByteArray) = ⟨([40] : List UInt8).toArray⟩ from rfl, show (⟨#[41]⟩ : ByteArray) = ⟨([41] : List UInt8).toArray⟩ from rfl, str_app, str_app]
    rfl
theorem run_conv1 (W : World) (b : Nat) (c : Int) (h : W.cell? ⟨b, 0, none⟩ = some (.int .u8 c)) :
    (convert 46 9 (.slice (some ⟨b, 0, none⟩) 1 1)).run Tryd.prog W = .ok (str [UInt8.ofNat c.toNat]) W := by
  have hl : (loadCells ⟨b, 0, none⟩ 1).run Tryd.prog W = .ok ([c].map (Value.int .u8)).toArray W := by
    refine run_loadCells_list W ⟨b, 0, none⟩ [.int .u8 c] ?_
    intro j v hj
    rcases j with _ | j
    · simp at hj; subst hj; simpa [Addr.add] using h
    · simp at hj
  rw [run_convert_bytes_string W 46 9 5 _ _ _ (by kernel_rfl) (by kernel_rfl) (by kernel_rfl), run_bytesToString W ⟨b, 0, none⟩ 1 1 [c] hl]
  rfl
set_option maxRecDepth 100000 in
theorem Decimal_c (N : Nat) : ∀ (n : Int) (w : World), n < N → 0 ≤ n → n ≤ 9223372036854775807 →
    Calls Tryd.prog 27 #[.int .i64 n] w fun e w' => e = .returned (str (Lib.decDigits n.toNat)) ∧ Ext w w' := by
  induction N with
  | zero => intro n w h h0; omega
  | succ N ih =>
    intro n w hN h0 h1
    have IH := Lib.hid ih; clear ih
    have hcv := run_conv1
    by_cases h10 : n < 10
    · have hd : Lib.decDigits n.toNat = [UInt8.ofNat (48 + n.toNat)] := by rw [Lib.decDigits, dif_pos (by omega)]
      have HD := Lib.hid hd; clear hd
      go_enter Tryd.func27, Tryd.ntmps27
      go_wp2_with fail
      go_ret
      rw [HD.out]
      exact ⟨ret_str (by rw [show (48 + n).toNat = 48 + n.toNat by omega]), (by repeat (first | exact Ext.refl _ | assumption | refine Ext.alloc ?_ _ | refine Ext.drew ?_ | refine Ext.trans ?_ (by assumption)))⟩
    · have hd : Lib.decDigits n.toNat = Lib.decDigits (n / 10).toNat ++ [UInt8.ofNat (48 + n.toNat % 10)] := by
        rw [Lib.decDigits, dif_neg (by omega), show n.toNat / 10 = (n / 10).toNat by omega]
      have HD := Lib.hid hd; clear hd
      have q1 : n.tdiv 10 = n / 10 := Int.tdiv_eq_ediv_of_nonneg h0
      have q2 : n.tmod 10 = n % 10 := Int.tmod_eq_emod_of_nonneg h0
      have q3 : IntKind.i64.wrap (48 + n % 10) = 48 + n % 10 := IntWalk.i64_in _ (by omega)
      have q4 : IntKind.i64.wrap (n / 10) = n / 10 := IntWalk.i64_in _ (by omega)
      have q5 : IntKind.u8.wrap (48 + n % 10) = 48 + n % 10 := by rw [IntKind.wrap]; simp [IntKind.signed, IntKind.bits]; omega
      have hdl : (Lib.decDigits (n / 10).toNat).length ≤ 21 := by
        have := Lib.itoa_length_le (n / 10) (by omega) (by omega)
        unfold Lib.itoa at this
        rw [if_neg (by omega)] at this
        exact this
      have hsz : ¬ 9223372036854775807 < (Lib.decDigits (n / 10).toNat).length + 1 := by omega
      have hfin : Ending.returned (Value.string ((⟨(Lib.decDigits (n / 10).toNat).toArray⟩ : ByteArray) ++ ⟨#[UInt8.ofNat (48 + n % 10).toNat]⟩)) = .returned (str (Lib.decDigits n.toNat)) := by
        refine ret_eq ?_
        rw [HD.out, show (⟨#[UInt8.ofNat (48 + n % 10).toNat]⟩ : ByteArray) = ⟨[UInt8.ofNat (48 + n % 10).toNat].toArray⟩ from rfl, str_app, show (48 + n % 10).toNat = 48 + n.toNat % 10 by omega]
      have HFIN := Lib.hid hfin; clear hfin
      go_enter Tryd.func27, Tryd.ntmps27
      go_wp2_with fail
      refine wp_region_held_drew (S := fun _ => True) (by kernel_rfl) trivial (fun hHeld => ?_)
      ((refine wpAnyH_take (i := 0) (oi := _) (v := ?v0_1) rfl (by kernel_rfl) (by kernel_rfl) (by kernel_rfl) (fun _ _ _ h => h) (Or.inl ⟨by rfl, ?y0_1⟩) (by assumption) ?r0_1); (case y0_1 => (intro w hSw; (try dsimp only at hSw); go_simp; try (with_reducible rfl))); (try simp only [Act.put, List.getElem_toArray, List.getElem_cons_zero, List.getElem_cons_succ, List.setIfInBounds_toArray, List.set_cons_zero, List.set_cons_succ]))
      ((refine wpAnyH_take (i := 1) (oi := _) (v := ?v1_2) rfl (by kernel_rfl) (by kernel_rfl) (by kernel_rfl) (fun _ _ _ h => h) (Or.inl ⟨by rfl, ?y1_2⟩) (by assumption) ?r1_2); (case y1_2 => (intro w hSw; (try dsimp only at hSw); go_simp; try (with_reducible rfl))); (try simp only [Act.put, List.getElem_toArray, List.getElem_cons_zero, List.getElem_cons_succ, List.setIfInBounds_toArray, List.set_cons_zero, List.set_cons_succ]))
      ((refine wpAnyH_take (i := 3) (oi := _) (v := ?v3_3) rfl (by kernel_rfl) (by kernel_rfl) (by kernel_rfl) (fun _ _ _ h => h) (Or.inl ⟨by rfl, ?y3_3⟩) (by assumption) ?r3_3); (case y3_3 => (intro w hSw; (try dsimp only at hSw); go_simp; try (with_reducible rfl))); (try simp only [Act.put, List.getElem_toArray, List.getElem_cons_zero, List.getElem_cons_succ, List.setIfInBounds_toArray, List.set_cons_zero, List.set_cons_succ]))
      ((refine wpAnyH_take (i := 4) (oi := _) (v := ?v4_4) rfl (by kernel_rfl) (by kernel_rfl) (by kernel_rfl) (fun _ _ _ h => h) (Or.inl ⟨by rfl, ?y4_4⟩) (by assumption) ?r4_4); (case y4_4 => (intro w hSw; (try dsimp only at hSw); go_simp; try (with_reducible rfl))); (try simp only [Act.put, List.getElem_toArray, List.getElem_cons_zero, List.getElem_cons_succ, List.setIfInBounds_toArray, List.set_cons_zero, List.set_cons_succ]))
      ((refine wpAnyH_take (i := 5) (oi := _) (v := ?v5_5) rfl (by kernel_rfl) (by kernel_rfl) (by kernel_rfl) (fun _ _ _ h => h) (Or.inl ⟨by rfl, ?y5_5⟩) (by assumption) ?r5_5); (case y5_5 => (intro w hSw; (try dsimp only at hSw); go_simp; try (with_reducible rfl))); (try simp only [Act.put, List.getElem_toArray, List.getElem_cons_zero, List.getElem_cons_succ, List.setIfInBounds_toArray, List.set_cons_zero, List.set_cons_succ]))
      ((refine wpAnyH_take (i := 6) (oi := _) (v := ?v6_6) rfl (by kernel_rfl) (by kernel_rfl) (by kernel_rfl) (fun _ _ _ h => h) (Or.inl ⟨by rfl, ?y6_6⟩) (by assumption) ?r6_6); (case y6_6 => (intro w hSw; (try dsimp only at hSw); go_simp; try (with_reducible rfl))); (try simp only [Act.put, List.getElem_toArray, List.getElem_cons_zero, List.getElem_cons_succ, List.setIfInBounds_toArray, List.set_cons_zero, List.set_cons_succ]))
      ((refine wpAnyH_ready (rs := [2, 7]) (by kernel_rfl) (by simp) ?_); (refine AllReadyH.cons (o := _) rfl (fun K hK => ?_) (AllReadyH.cons (o := _) rfl (fun K hK => ?_) AllReadyH.nil)) <;> go_simp)
      · refine (IH.out (n / 10) _ (by omega) (by omega) (by omega)).mono ?_
        rintro e w1 ⟨rfl, hx1⟩
        (refine hK.out _ _ trivial (fun hHeld => ?_); clear hK K; (try simp only [Act.put, List.getElem_toArray, List.getElem_cons_zero, List.getElem_cons_succ, List.setIfInBounds_toArray, List.set_cons_zero, List.set_cons_succ]))
        ((refine wpAnyH_ready (rs := [7]) (by kernel_rfl) (by simp) ?_); (refine AllReadyH.cons (o := _) rfl (fun K hK => ?_) AllReadyH.nil); go_simp)
        (refine hK.out _ _ trivial (fun hHeld => ?_); clear hK K; (try simp only [Act.put, List.getElem_toArray, List.getElem_cons_zero, List.getElem_cons_succ, List.setIfInBounds_toArray, List.set_cons_zero, List.set_cons_succ]))
        ((refine wpAnyH_ready (rs := [8]) (by kernel_rfl) (by simp) ?_); (refine AllReadyH.cons (o := _) rfl (fun K hK => ?_) AllReadyH.nil); go_simp)
        (refine hK.out _ _ trivial (fun hHeld => ?_); clear hK K; (try simp only [Act.put, List.getElem_toArray, List.getElem_cons_zero, List.getElem_cons_succ, List.setIfInBounds_toArray, List.set_cons_zero, List.set_cons_succ]))
        ((refine wpAnyH_take (i := 9) (oi := _) (v := ?v9_7) rfl (by kernel_rfl) (by kernel_rfl) (by kernel_rfl) (fun _ _ _ h => h) (Or.inl ⟨by rfl, ?y9_7⟩) (by assumption) ?r9_7); (case y9_7 => (intro w hSw; (try dsimp only at hSw); go_simp; try (with_reducible rfl))); (try simp only [Act.put, List.getElem_toArray, List.getElem_cons_zero, List.getElem_cons_succ, List.setIfInBounds_toArray, List.set_cons_zero, List.set_cons_succ]))
        ((refine wpAnyH_take (i := 10) (oi := _) (v := ?v10_8) rfl (by kernel_rfl) (by kernel_rfl) (by kernel_rfl) (fun _ _ _ h => h) (Or.inl ⟨by rfl, ?y10_8⟩) (by assumption) ?r10_8); (case y10_8 => (intro w hSw; (try dsimp only at hSw); go_simp; try (with_reducible rfl))); (try simp only [Act.put, List.getElem_toArray, List.getElem_cons_zero, List.getElem_cons_succ, List.setIfInBounds_toArray, List.set_cons_zero, List.set_cons_succ]))
        (refine wpAnyH_done (by kernel_rfl) ?_ _)
        go_wp2_with fail
        go_ret
        exact ⟨HFIN.out, (by repeat (first | exact Ext.refl _ | assumption | refine Ext.alloc ?_ _ | refine Ext.drew ?_ | refine Ext.trans ?_ (by assumption)))⟩
      · (refine hK.out _ _ trivial (fun hHeld => ?_); clear hK K; (try simp only [Act.put, List.getElem_toArray, List.getElem_cons_zero, List.getElem_cons_succ, List.setIfInBounds_toArray, List.set_cons_zero, List.set_cons_succ]))
        ((refine wpAnyH_ready (rs := [2, 8]) (by kernel_rfl) (by simp) ?_); (refine AllReadyH.cons (o := _) rfl (fun K hK => ?_) (AllReadyH.cons (o := _) rfl (fun K hK => ?_) AllReadyH.nil)) <;> go_simp)
        · refine (IH.out (n / 10) _ (by omega) (by omega) (by omega)).mono ?_
          rintro e w1 ⟨rfl, hx1⟩
          have hc1 := hx1.cells
          (refine hK.out _ _ trivial (fun hHeld => ?_); clear hK K; (try simp only [Act.put, List.getElem_toArray, List.getElem_cons_zero, List.getElem_cons_succ, List.setIfInBounds_toArray, List.set_cons_zero, List.set_cons_succ]))
          ((refine wpAnyH_ready (rs := [8]) (by kernel_rfl) (by simp) ?_); (refine AllReadyH.cons (o := _) rfl (fun K hK => ?_) AllReadyH.nil); go_simp)
          (refine hK.out _ _ trivial (fun hHeld => ?_); clear hK K; (try simp only [Act.put, List.getElem_toArray, List.getElem_cons_zero, List.getElem_cons_succ, List.setIfInBounds_toArray, List.set_cons_zero, List.set_cons_succ]))
          ((refine wpAnyH_take (i := 9) (oi := _) (v := ?v9_9) rfl (by kernel_rfl) (by kernel_rfl) (by kernel_rfl) (fun _ _ _ h => h) (Or.inl ⟨by rfl, ?y9_9⟩) (by assumption) ?r9_9); (case y9_9 => (intro w hSw; (try dsimp only at hSw); go_simp; try (with_reducible rfl))); (try simp only [Act.put, List.getElem_toArray, List.getElem_cons_zero, List.getElem_cons_succ, List.setIfInBounds_toArray, List.set_cons_zero, List.set_cons_succ]))
          ((refine wpAnyH_take (i := 10) (oi := _) (v := ?v10_10) rfl (by kernel_rfl) (by kernel_rfl) (by kernel_rfl) (fun _ _ _ h => h) (Or.inl ⟨by rfl, ?y10_10⟩) (by assumption) ?r10_10); (case y10_10 => (intro w hSw; (try dsimp only at hSw); go_simp; try (with_reducible rfl))); (try simp only [Act.put, List.getElem_toArray, List.getElem_cons_zero, List.getElem_cons_succ, List.setIfInBounds_toArray, List.set_cons_zero, List.set_cons_succ]))
          (refine wpAnyH_done (by kernel_rfl) ?_ _)
          go_wp2_with fail
          go_ret
          exact ⟨HFIN.out, (by repeat (first | exact Ext.refl _ | assumption | refine Ext.alloc ?_ _ | refine Ext.drew ?_ | refine Ext.trans ?_ (by assumption)))⟩
        · (refine hK.out _ _ trivial (fun hHeld => ?_); clear hK K; (try simp only [Act.put, List.getElem_toArray, List.getElem_cons_zero, List.getElem_cons_succ, List.setIfInBounds_toArray, List.set_cons_zero, List.set_cons_succ]))
          ((refine wpAnyH_ready (rs := [2]) (by kernel_rfl) (by simp) ?_); (refine AllReadyH.cons (o := _) rfl (fun K hK => ?_) AllReadyH.nil); go_simp)
          refine (IH.out (n / 10) _ (by omega) (by omega) (by omega)).mono ?_
          rintro e w1 ⟨rfl, hx1⟩
          (refine hK.out _ _ trivial (fun hHeld => ?_); clear hK K; (try simp only [Act.put, List.getElem_toArray, List.getElem_cons_zero, List.getElem_cons_succ, List.setIfInBounds_toArray, List.set_cons_zero, List.set_cons_succ]))
          ((refine wpAnyH_take (i := 9) (oi := _) (v := ?v9_11) rfl (by kernel_rfl) (by kernel_rfl) (by kernel_rfl) (fun _ _ _ h => h) (Or.inl ⟨by rfl, ?y9_11⟩) (by assumption) ?r9_11); (case y9_11 => (intro w hSw; (try dsimp only at hSw); go_simp; try (with_reducible rfl))); (try simp only [Act.put, List.getElem_toArray, List.getElem_cons_zero, List.getElem_cons_succ, List.setIfInBounds_toArray, List.set_cons_zero, List.set_cons_succ]))
          ((refine wpAnyH_take (i := 10) (oi := _) (v := ?v10_12) rfl (by kernel_rfl) (by kernel_rfl) (by kernel_rfl) (fun _ _ _ h => h) (Or.inl ⟨by rfl, ?y10_12⟩) (by assumption) ?r10_12); (case y10_12 => (intro w hSw; (try dsimp only at hSw); go_simp; try (with_reducible rfl))); (try simp only [Act.put, List.getElem_toArray, List.getElem_cons_zero, List.getElem_cons_succ, List.setIfInBounds_toArray, List.set_cons_zero, List.set_cons_succ]))
          (refine wpAnyH_done (by kernel_rfl) ?_ _)
          go_wp2_with fail
          go_ret
          exact ⟨HFIN.out, (by repeat (first | exact Ext.refl _ | assumption | refine Ext.alloc ?_ _ | refine Ext.drew ?_ | refine Ext.trans ?_ (by assumption)))⟩
end Bk
