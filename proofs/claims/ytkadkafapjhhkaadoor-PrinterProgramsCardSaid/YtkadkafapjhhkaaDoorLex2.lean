/- Contracts of lexer.sign, Keyword, first, Name. No condition beyond the types' ranges. -/
import Derived.Test.YtkadkafapjhhkaaDoorLex
namespace Bk
open Go Go.RowKit Go.Proofs
theorem take2_eq (s : List UInt8) (n : Int) (hn : n.toNat = min 2 s.length) : (⟨s.toArray⟩ : ByteArray).extract 0 n.toNat = ⟨(s.take 2).toArray⟩ := by
  apply ByteArray.ext
  rw [hn]
  simp only [ByteArray.data_extract]
  apply Array.ext'
  simp only [List.extract_toArray, List.extract_eq_take_drop, Nat.sub_zero, List.drop_zero]
  rcases Nat.le_total 2 s.length with h | h
  · rw [Nat.min_eq_left h]
  · rw [Nat.min_eq_right h, List.take_of_length_le h, List.take_length]
theorem indexByte_ge : ∀ (l : List UInt8) (c : UInt8), -1 ≤ Lib.indexByte l c
  | [], c => by simp [Lib.indexByte]
  | b :: l, c => by
    have := indexByte_ge l c
    unfold Lib.indexByte
    split
    · omega
    · split <;> omega
theorem indexByte_contains : ∀ (l : List UInt8) (c : UInt8), (0 ≤ Lib.indexByte l c) ↔ l.contains c = true
  | [], c => by simp [Lib.indexByte]
  | b :: l, c => by
    have ih := indexByte_contains l c
    have hg := indexByte_ge l c
    unfold Lib.indexByte
    rw [List.contains_cons]
    by_cases hb : b = c
    · simp [hb]
    · have hb' : ¬ c = b := fun e => hb e.symm
      simp only [beq_iff_eq, hb, hb', if_false, Bool.or_eq_true, false_or, ← ih]
      split <;> omega
theorem sign_c (c : UInt8) (r : List UInt8) (w : World) (hs : (c :: r).length ≤ 9223372036854775807) :
    Calls Tryd.prog 70 #[str (c :: r)] w fun e w' => e = .returned (.int .i64 (signLen (c :: r))) ∧ w = w' := by
  simp only [List.length_cons] at hs
  have hx := take2_eq (c :: r) (min 2 ((r.length : Int) + 1)) (by simp only [List.length_cons]; omega)
  have hsl : signLen (c :: r) = if List.isPrefixOf [60, 61, 62] (c :: r) then 3 else if pairs.contains ((c :: r).take 2) then 2 else if singles.contains c then 1 else 0 := rfl
  have HSL := Lib.hid hsl; clear hsl
  generalize (c :: r).take 2 = t at *
  cases h3 : List.isPrefixOf [60, 61, 62] (c :: r)
  · have H3 := Lib.hid h3; clear h3
    cases hp : pairs.contains t
    · have HP := Lib.hid hp
      simp only [pairs, List.contains_cons, List.contains_nil, Bool.or_eq_false_iff, Bool.or_false] at hp
      obtain ⟨p0, p1, p2, p3, p4, p5, p6, p7, p8, p9⟩ := hp
      go_enter Tryd.func70, Tryd.ntmps70
      go_wp2_with (go_at_call 73; refine (Tryd.strings_HasPrefix _ _ _).mono ?_; rintro e w' ⟨rfl, rfl⟩; rw [show Lib.hasPrefix (⟨(c :: r).toArray⟩ : ByteArray).data.toList (⟨#[60, 61, 62]⟩ : ByteArray).data.toList = false from H3.out])
      refine (Tryd.strings_IndexByte _ _ _).mono ?_
      rintro e w2 ⟨rfl, rfl⟩
      have e0 : (((c.toNat : Nat) : Int)).toNat.toUInt8 = c := by simp
      have e1 : ∀ h, (((((⟨(c :: r).toArray⟩ : ByteArray)[0]'h).toNat : Nat) : Int)).toNat.toUInt8 = c := fun _ => e0
      rw [e1]
      have hi := indexByte_contains singles c
      rw [show Lib.indexByte (⟨#[43, 45, 42, 47, 37, 38, 124, 94, 33, 61, 60, 62, 40, 41, 123, 125, 91, 93, 59, 44]⟩ : ByteArray).data.toList c = Lib.indexByte singles c from rfl]
      generalize Lib.indexByte singles c = ix at *
      cases hc : singles.contains c
      · have hlt : ix < 0 := by rw [hc] at hi; simp at hi; omega
        have HC := Lib.hid hc; clear hc hi
        simp only
        go_wp2_with fail
        go_ret
        rw [HSL.out, H3.out, HP.out, HC.out]; exact ⟨rfl, rfl⟩
      · have hge : 0 ≤ ix := hi.2 hc
        have HC := Lib.hid hc; clear hc hi
        simp only
        go_wp2_with fail
        go_ret
        rw [HSL.out, H3.out, HP.out, HC.out]; exact ⟨rfl, rfl⟩
    · go_enter Tryd.func70, Tryd.ntmps70
      go_wp2_with (go_at_call 73; refine (Tryd.strings_HasPrefix _ _ _).mono ?_; rintro e w' ⟨rfl, rfl⟩; rw [show Lib.hasPrefix (⟨(c :: r).toArray⟩ : ByteArray).data.toList (⟨#[60, 61, 62]⟩ : ByteArray).data.toList = false from H3.out])
      all_goals first | (go_ret; rw [HSL.out, H3.out, hp]; exact ⟨rfl, rfl⟩) | (exfalso; simp_all [pairs]; done)
  · have H3 := Lib.hid h3; clear h3
    go_enter Tryd.func70, Tryd.ntmps70
    go_wp2_with (go_at_call 73; refine (Tryd.strings_HasPrefix _ _ _).mono ?_; rintro e w' ⟨rfl, rfl⟩; rw [show Lib.hasPrefix (⟨(c :: r).toArray⟩ : ByteArray).data.toList (⟨#[60, 61, 62]⟩ : ByteArray).data.toList = true from H3.out])
    go_ret
    rw [HSL.out, H3.out]; exact ⟨rfl, rfl⟩
end Bk
