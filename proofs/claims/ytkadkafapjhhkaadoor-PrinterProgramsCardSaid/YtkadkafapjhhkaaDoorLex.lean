/- Contracts of the lexer's small functions: classes of bytes, spans, signs, keywords, names. No condition beyond the types' ranges. -/
import Derived.Test.YtkadkafapjhhkaaDoorLeaf
namespace Bk
open Go Go.RowKit Go.Proofs

theorem letter_c (c : UInt8) (w : World) : Calls Tryd.prog 64 #[.int .u8 c.toNat] w fun e w' => e = .returned (.bool (letter c)) ∧ w = w' := by
  go_enter Tryd.func64, Tryd.ntmps64
  go_wp2_with fail
  all_goals go_ret
  all_goals (refine ⟨ret_bool ?_, rfl⟩; unfold letter; rw [Bool.eq_iff_iff]; simp; try omega)
theorem digit_c (c : UInt8) (w : World) : Calls Tryd.prog 67 #[.int .u8 c.toNat] w fun e w' => e = .returned (.bool (digit c)) ∧ w = w' := by
  go_enter Tryd.func67, Tryd.ntmps67
  go_wp2_with fail
  all_goals go_ret
  all_goals (refine ⟨ret_bool ?_, rfl⟩; unfold digit; rw [Bool.eq_iff_iff]; simp; try omega)
theorem blank_c (c : UInt8) (w : World) : Calls Tryd.prog 68 #[.int .u8 c.toNat] w fun e w' => e = .returned (.bool (blank c)) ∧ w = w' := by
  go_enter Tryd.func68, Tryd.ntmps68
  go_wp2_with fail
  all_goals go_ret
  all_goals (refine ⟨ret_bool ?_, rfl⟩; unfold blank; rw [Bool.eq_iff_iff]; simp; try omega)
theorem notLf_c (c : UInt8) (w : World) : Calls Tryd.prog 69 #[.int .u8 c.toNat] w fun e w' => e = .returned (.bool (notLf c)) ∧ w = w' := by
  go_enter Tryd.func69, Tryd.ntmps69
  go_wp2_with fail
  all_goals go_ret
  all_goals (refine ⟨ret_bool ?_, rfl⟩; unfold notLf; rw [Bool.eq_iff_iff]; simp; try omega)
theorem wordish_c (c : UInt8) (w : World) : Calls Tryd.prog 66 #[.int .u8 c.toNat] w fun e w' => e = .returned (.bool (wordish c)) ∧ w = w' := by
  go_enter Tryd.func66, Tryd.ntmps66
  cases hl : letter c
  all_goals have HL := Lib.hid hl; clear hl
  all_goals go_wp2_with (first | (go_at_call 64; refine (letter_c c _).mono ?_; rintro e w' ⟨rfl, rfl⟩; rw [HL.out]) | (go_at_call 67; refine (digit_c c _).mono ?_; rintro e w' ⟨rfl, rfl⟩))
  all_goals go_ret
  all_goals (refine ⟨ret_bool ?_, rfl⟩; unfold wordish; rw [HL.out]; simp)
theorem span_c (f : FuncId) (p : UInt8 → Bool) (hp : ∀ (c : UInt8) (w : World), Calls Tryd.prog f #[.int .u8 c.toNat] w fun e w' => e = .returned (.bool (p c)) ∧ w = w')
    (he : ∀ args w, (callFunc f args).run Tryd.prog w = .ok (.enter f args) w) (s : List UInt8) (w : World) (hs : s.length ≤ 9223372036854775807) :
    Calls Tryd.prog 65 #[str s, .func (.func f) #[] #[]] w fun e w' => e = .returned (.int .i64 (span p s)) ∧ w = w' := by
  have HP := Lib.hid hp; clear hp
  go_enter Tryd.func65, Tryd.ntmps65
  go_wp2_with fail
  go_loop [8] (fun i => ∃ j : Nat, j ≤ s.length ∧ i = .int .i64 j ∧ Hid (span p s = j + span p (s.drop j))) (fun i => s.length - (intOf i).toNat)
  case atStart => exact ⟨0, Nat.zero_le _, rfl, Lib.hid (by simp)⟩
  case round =>
    obtain ⟨j, hj, rfl, HJ⟩ := hrel
    by_cases hlt : j < s.length
    · go_wp2_with fail
      refine (HP.out s[j] _).mono ?_
      rintro e w' ⟨rfl, rfl⟩
      have hd := List.drop_eq_getElem_cons hlt
      have hsp : span p (s.drop j) = if p s[j] then 1 + span p (s.drop (j + 1)) else 0 := by
        rw [hd]; unfold span; rw [List.takeWhile_cons]; split <;> simp; omega
      have HSP := Lib.hid hsp; clear hsp hd
      cases hb : p s[j]
      · have HB := Lib.hid hb; clear hb
        go_wp2_with fail
        go_ret
        refine ⟨ret_int ?_, rfl⟩
        rw [HJ.out, HSP.out, HB.out]; simp
      · have HB := Lib.hid hb; clear hb
        go_wp2_with fail
        go_round
        case rel => exact ⟨j + 1, by omega, by go_num, Lib.hid (by rw [HJ.out, HSP.out, HB.out]; simp; omega)⟩
        case measure => simp [intOf]; omega
    · go_wp2_with fail
      go_ret
      refine ⟨ret_int ?_, rfl⟩
      rw [HJ.out, List.drop_eq_nil_of_le (by omega)]; simp [span]; omega
end Bk
