/- Contracts of lexer.first and lexer.Name, ast.plain and ast.named. No condition beyond the types' ranges. -/
import Derived.Test.YtkadkafapjhhkaaDoorKey
namespace Bk
open Go Go.RowKit Go.Proofs
theorem en_letter : ∀ args w, (callFunc 64 args).run Tryd.prog w = .ok (.enter 64 args) w := enters_of Tryd.func64 (by kernel_rfl) rfl
theorem en_digit : ∀ args w, (callFunc 67 args).run Tryd.prog w = .ok (.enter 67 args) w := enters_of Tryd.func67 (by kernel_rfl) rfl
theorem en_blank : ∀ args w, (callFunc 68 args).run Tryd.prog w = .ok (.enter 68 args) w := enters_of Tryd.func68 (by kernel_rfl) rfl
theorem en_first1 : ∀ args w, (callFunc 66 args).run Tryd.prog w = .ok (.enter 66 args) w := enters_of Tryd.func66 (by kernel_rfl) rfl
theorem en_first2 : ∀ args w, (callFunc 69 args).run Tryd.prog w = .ok (.enter 69 args) w := enters_of Tryd.func69 (by kernel_rfl) rfl

theorem first_c (c : UInt8) (r : List UInt8) (w : World) (hs : (c :: r).length ≤ 9223372036854775807) :
    Calls Tryd.prog 55 #[str (c :: r)] w fun e w' => e = .returned (.tuple #[.int .u8 (firstTok (c :: r)).1, .int .i64 (firstTok (c :: r)).2]) ∧ w = w' := by
  have hf : firstTok (c :: r) = if letter c then (1, span wordish (c :: r)) else if digit c then (2, span digit (c :: r)) else if blank c then (4, span blank (c :: r)) else if c = 35 then (5, span notLf (c :: r)) else (3, signLen (c :: r)) := rfl
  have HF := Lib.hid hf; clear hf
  have HS := Lib.hid hs
  simp only [List.length_cons] at hs
  go_enter Tryd.func55, Tryd.ntmps55
  go_wp2_with fail
  refine (letter_c c _).mono ?_
  rintro e w1 ⟨rfl, rfl⟩
  cases hl : letter c
  · have HL := Lib.hid hl; clear hl
    simp only
    go_wp2_with fail
    refine (digit_c c _).mono ?_
    rintro e w1 ⟨rfl, rfl⟩
    cases hd : digit c
    · have HD := Lib.hid hd; clear hd
      simp only
      go_wp2_with fail
      refine (blank_c c _).mono ?_
      rintro e w1 ⟨rfl, rfl⟩
      cases hb : blank c
      · have HB := Lib.hid hb; clear hb
        simp only
        by_cases h35 : c = 35
        · have H35 := Lib.hid h35
          have e35 : (({ data := (c :: r).toArray } : ByteArray)[0]'(by simp [ByteArray.size])).toNat = 35 := by show c.toNat = 35; rw [h35]; rfl
          clear h35
          go_wp2_with fail
          refine (span_c 69 notLf notLf_c en_first2 _ _ HS.out).mono ?_
          rintro e w1 ⟨rfl, rfl⟩
          simp only
          go_wp2_with fail
          go_ret2
          rw [HF.out, HL.out, HD.out, HB.out, if_pos H35.out]; exact ⟨rfl, rfl⟩
        · have H35 := Lib.hid h35
          have e35 : ((({ data := (c :: r).toArray } : ByteArray)[0]'(by simp [ByteArray.size])).toNat : Int) ≠ 35 := by
            show (c.toNat : Int) ≠ 35
            intro h; apply h35; apply UInt8.toNat_inj.1; show c.toNat = 35; omega
          clear h35
          go_wp2_with fail
          refine (sign_c c r _ HS.out).mono ?_
          rintro e w1 ⟨rfl, rfl⟩
          simp only
          go_wp2_with fail
          go_ret2
          rw [HF.out, HL.out, HD.out, HB.out, if_neg H35.out]; exact ⟨rfl, rfl⟩
      · have HB := Lib.hid hb; clear hb
        simp only
        go_wp2_with fail
        refine (span_c 68 blank blank_c en_blank _ _ HS.out).mono ?_
        rintro e w1 ⟨rfl, rfl⟩
        simp only
        go_wp2_with fail
        go_ret2
        rw [HF.out, HL.out, HD.out, HB.out]; exact ⟨rfl, rfl⟩
    · have HD := Lib.hid hd; clear hd
      simp only
      go_wp2_with fail
      refine (span_c 67 digit digit_c en_digit _ _ HS.out).mono ?_
      rintro e w1 ⟨rfl, rfl⟩
      simp only
      go_wp2_with fail
      go_ret2
      rw [HF.out, HL.out, HD.out]; exact ⟨rfl, rfl⟩
  · have HL := Lib.hid hl; clear hl
    simp only
    go_wp2_with fail
    refine (span_c 66 wordish wordish_c en_first1 _ _ HS.out).mono ?_
    rintro e w1 ⟨rfl, rfl⟩
    simp only
    go_wp2_with fail
    go_ret2
    rw [HF.out, HL.out]; exact ⟨rfl, rfl⟩
theorem isName_nil : isName [] = false := rfl
theorem Name_c (s : List UInt8) (w : World) (hs : s.length ≤ 9223372036854775807) :
    Calls Tryd.prog 40 #[str s] w fun e w' => e = .returned (.bool (isName s)) ∧ Ext w w' := by
  cases s with
  | nil =>
    go_enter Tryd.func40, Tryd.ntmps40
    go_wp2_with fail
    go_ret
    exact ⟨rfl, Ext.refl _⟩
  | cons c r =>
    have hn : isName (c :: r) = (decide ((c :: r).length ≤ 16) && ((firstTok (c :: r)).1 == 1) && ((firstTok (c :: r)).2 == (c :: r).length) && !keyword (c :: r)) := by simp [isName]
    have HN := Lib.hid hn; clear hn
    have HS := Lib.hid hs
    simp only [List.length_cons] at hs
    by_cases h16 : 16 < (c :: r).length
    · simp only [List.length_cons] at h16
      have d1 : decide ((16 : Int) < (r.length : Int) + 1) = true := by simp; omega
      have H16 := Lib.hid h16; clear h16
      go_enter Tryd.func40, Tryd.ntmps40
      go_wp2_with fail
      go_ret
      rw [HN.out]
      exact ⟨ret_bool (by have := H16.out; simp; omega), Ext.refl _⟩
    · simp only [List.length_cons] at h16
      have d1 : decide ((16 : Int) < (r.length : Int) + 1) = false := by simp; omega
      go_enter Tryd.func40, Tryd.ntmps40
      go_wp2_with fail
      refine (first_c c r _ HS.out).mono ?_
      rintro e w1 ⟨rfl, rfl⟩
      generalize firstTok (c :: r) = ft at *
      obtain ⟨k, n⟩ := ft
      by_cases hk : k = 1
      · by_cases hl : n = (c :: r).length
        · subst hk hl
          simp only [List.length_cons]
          go_wp2_with fail
          refine (Keyword_c _ _ HS.out).mono ?_
          rintro e w2 ⟨rfl, hx⟩
          simp only
          go_wp2_with fail
          go_ret
          rw [HN.out]
          exact ⟨ret_bool (by simp; omega), hx⟩
        · subst hk
          have dl : ((n : Int) == (r.length : Int) + 1) = false := by simp only [List.length_cons] at hl; rw [beq_eq_false_iff_ne]; omega
          have HL := Lib.hid hl; clear hl
          simp only
          go_wp2_with fail
          go_ret
          rw [HN.out]
          exact ⟨ret_bool (by have := HL.out; simp at this ⊢; simp [this]), Ext.refl _⟩
      · have dk : ((k : Int) == 1) = false := by rw [beq_eq_false_iff_ne]; omega
        have HK := Lib.hid hk; clear hk
        simp only
        go_wp2_with fail
        go_ret
        rw [HN.out]
        exact ⟨ret_bool (by have := HK.out; simp [this]), Ext.refl _⟩
theorem plain_c (k n : Int) (s : List UInt8) (a : Option Addr) (l c : Nat) (w : World) :
    Calls Tryd.prog 26 #[.agg #[.int .u8 k, .int .i64 n, str s, .slice a l c]] w fun e w' => e = .returned (.bool (plain n s)) ∧ Ext w w' := by
  go_enter Tryd.func26, Tryd.ntmps26
  go_wp2_with fail
  all_goals go_ret
  all_goals exact ⟨ret_bool (by unfold plain; simp [*]), (by repeat (first | exact Ext.refl _ | assumption | refine Ext.alloc ?_ _ | refine Ext.drew ?_ | refine Ext.trans ?_ (by assumption)))⟩
theorem named_c (k n : Int) (s : List UInt8) (a : Option Addr) (l c : Nat) (w : World) (hs : s.length ≤ 9223372036854775807) :
    Calls Tryd.prog 24 #[.agg #[.int .u8 k, .int .i64 n, str s, .slice a l c]] w fun e w' => e = .returned (.bool (named n s)) ∧ Ext w w' := by
  by_cases h0 : n = 0
  · subst h0
    go_enter Tryd.func24, Tryd.ntmps24
    go_wp2_with (go_at_call 40; refine (Name_c _ _ hs).mono ?_; rintro e w2 ⟨rfl, hx⟩)
    go_ret
    exact ⟨ret_bool (by simp [named]), (by repeat (first | exact Ext.refl _ | assumption | refine Ext.alloc ?_ _ | refine Ext.drew ?_ | refine Ext.trans ?_ (by assumption)))⟩
  · have d0 : (n == 0) = false := by simp [h0]
    go_enter Tryd.func24, Tryd.ntmps24
    go_wp2_with fail
    go_ret
    exact ⟨ret_bool (by simp [named, h0]), (by repeat (first | exact Ext.refl _ | assumption | refine Ext.alloc ?_ _ | refine Ext.drew ?_ | refine Ext.trans ?_ (by assumption)))⟩
end Bk
