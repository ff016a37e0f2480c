/- The statement ParserBlock holds: texts that its proof needs. No condition beyond the row's own. (Part 4 of 7.) -/
import Derived.Test.YtihgojmblldifaaGreatDoorPParserBlock3
set_option linter.unusedSimpArgs false
set_option linter.unusedVariables false
namespace Bk
open Go
theorem takeWhile_len {α : Type} (p : α → Bool) (l : List α) : (l.takeWhile p).length ≤ l.length := by
 induction l with
 | nil => simp
 | cons x r ih => simp only [List.takeWhile_cons]; split <;> simp; exact ih
theorem signLen_le (s : List UInt8) : signLen s ≤ s.length := by
 unfold signLen
 split
 · rename_i h
   rw [List.isPrefixOf_iff_prefix] at h
   exact h.length_le
 · split
   · rename_i h
     rcases s with _ | ⟨a, _ | ⟨b, r⟩⟩
     · exact absurd h (by decide)
     · exfalso
       simp [pairs] at h
     · simp
   · split
     · rename_i h
       cases s with
       | nil => simp at h
       | cons a r => simp
     · omega
theorem firstTok_le (s : List UInt8) : (firstTok s).2 ≤ s.length := by
 cases s with
 | nil => simp [firstTok]
 | cons c r =>
  simp only [firstTok, span]
  split
  · exact takeWhile_len _ _
  · split
    · exact takeWhile_len _ _
    · split
      · exact takeWhile_len _ _
      · split
        · exact takeWhile_len _ _
        · exact signLen_le _
theorem take_takeWhile {α : Type} (p : α → Bool) (l : List α) : l.take (l.takeWhile p).length = l.takeWhile p := by
 induction l with
 | nil => simp
 | cons x r ih => simp only [List.takeWhile_cons]; split <;> simp [ih]
theorem mem_takeWhile {α : Type} (p : α → Bool) (l : List α) : ∀ x ∈ l.takeWhile p, p x = true := by
 induction l with
 | nil => simp
 | cons y r ih =>
  simp only [List.takeWhile_cons]
  split
  · rename_i h
    intro x hx
    rcases List.mem_cons.1 hx with rfl | hx
    · exact h
    · exact ih x hx
  · simp
theorem letter_digit (c : UInt8) (h : letter c = true) : digit c = false := by
 simp only [letter, digit, Bool.and_eq_true, decide_eq_true_eq, Bool.and_eq_false_iff, decide_eq_false_iff_not] at h ⊢
 omega
theorem firstTok_num (s : List UInt8) (h : (firstTok s).1 = 2) : s.take (firstTok s).2 ≠ [] ∧ ∀ x ∈ s.take (firstTok s).2, digit x = true := by
 cases s with
 | nil => simp [firstTok] at h
 | cons c r =>
  simp only [firstTok] at h ⊢
  by_cases h1 : letter c = true
  · simp [h1] at h
  · by_cases h2 : digit c = true
    · simp only [h1, h2, if_true, Bool.false_eq_true, if_false, span]
      rw [take_takeWhile]
      refine ⟨by simp [List.takeWhile_cons, h2], mem_takeWhile _ _⟩
    · exfalso
      simp only [h1, h2, Bool.false_eq_true, if_false] at h
      by_cases h3 : blank c = true
      · simp [h3] at h
      · by_cases h4 : c = 35
        · subst h4; simp [h3] at h
        · simp [h3, h4] at h
theorem firstTok_kind (s : List UInt8) (hs : s ≠ []) (h0 : (firstTok s).2 ≠ 0) : (firstTok s).1 = 2 ↔ startsDigit (s.take (firstTok s).2) = true := by
 cases s with
 | nil => exact absurd rfl hs
 | cons c r =>
  obtain ⟨m, hm⟩ : ∃ m, (firstTok (c :: r)).2 = m + 1 := ⟨(firstTok (c :: r)).2 - 1, by omega⟩
  rw [hm]
  simp only [List.take_succ_cons, startsDigit, firstTok]
  by_cases h1 : letter c = true
  · simp [h1, letter_digit c h1]
  · by_cases h2 : digit c = true
    · simp [h1, h2]
    · simp only [h1, h2, Bool.false_eq_true, if_false, iff_false]
      by_cases h3 : blank c = true
      · simp [h3]
      · by_cases h4 : c = 35
        · subst h4; simp [h3]
        · simp [h3, h4]
structure TokOk (n : Nat) (t : Tok) : Prop where
 len : t.text.length ≤ n
 num : t.kind = 2 → t.text ≠ [] ∧ ∀ x ∈ t.text, digit x = true
 dig : t.kind = 2 ↔ startsDigit t.text = true
 pos : 0 ≤ t.pos ∧ t.pos ≤ n
theorem lexGo_ok (s : List UInt8) : ∀ (k p : Nat) (acc : List Tok), (∀ t ∈ acc, TokOk s.length t) → ∀ t ∈ (lexGo k s p acc).1, TokOk s.length t
 | 0, p, acc, h => by rw [lexGo]; exact h
 | k + 1, p, acc, h => by
  rw [lexGo]
  split
  · rename_i hp
    split
    · simp
    · rename_i h0
      refine lexGo_ok s k _ _ ?_
      intro t ht
      rcases List.mem_append.1 ht with ht | ht
      · exact h t ht
      · simp only [List.mem_singleton] at ht
        subst ht
        have hne : s.drop p ≠ [] := by
         intro e
         have := congrArg List.length e
         simp at this; omega
        refine ⟨?_, ?_, ?_, ?_⟩
        · simp only [List.length_take, List.length_drop]; omega
        · intro hk
          have hk' : (firstTok (s.drop p)).1 = 2 := by simp only at hk; omega
          exact firstTok_num _ hk'
        · have := firstTok_kind (s.drop p) hne h0
          simp only
          rw [← this]
          omega
        · simp only; omega
  · exact h
theorem lexT_ok (s : List UInt8) : ∀ t ∈ (lexT s).1, TokOk s.length t := by
 unfold lexT
 split
 · simp
 · have := lexGo_ok s (s.length + 1) 0 [] (by simp)
   split
   · rename_i l h; rw [h] at this; exact this
   · simp
theorem solid_ok (s : List UInt8) : ∀ t ∈ (startP s).1, TokOk s.length t := fun t ht => lexT_ok s t (List.mem_filter.1 ht).1
theorem digitKinds_start (s : List UInt8) : DigitKinds (startP s).1 := fun t ht => (solid_ok s t ht).dig
theorem lexGo_len (s : List UInt8) : ∀ (k p : Nat) (acc : List Tok), acc.length ≤ p → p ≤ s.length → (lexGo k s p acc).1.length ≤ s.length
 | 0, p, acc, h, hp => by rw [lexGo]; simp; omega
 | k + 1, p, acc, h, hp => by
  rw [lexGo]
  split
  · split
    · simp
    · rename_i h0
      have := firstTok_le (s.drop p)
      rw [List.length_drop] at this
      exact lexGo_len s k _ _ (by simp; omega) (by omega)
  · simp only; omega
theorem lexT_len (s : List UInt8) : (lexT s).1.length ≤ s.length := by
 unfold lexT
 split
 · simp
 · have := lexGo_len s (s.length + 1) 0 [] (by simp) (by omega)
   split
   · rename_i l h; rw [h] at this; exact this
   · simp
theorem start_len (s : List UInt8) : (startP s).1.length ≤ s.length := Nat.le_trans (List.length_filter_le _ _) (lexT_len s)
end Bk
namespace Bk
open Go Go.RowKit Go.Proofs
attribute [local irreducible] Go.Calls
def Toks (S : Nat → Prop) (w : World) (l : List Tok) (a : Option Addr) : Prop := Arr S 3 TokAt w l a
theorem Toks.ext {S : Nat → Prop} {w w' : World} {l : List Tok} {a : Option Addr} (h : Toks S w l a) (x : Ext w w') : Toks S w' l a := h.mono (fun _ h => h) (fun _ _ _ _ _ h => Row.ext h x)
theorem Toks.fr {S T : Nat → Prop} {w w' : World} {l : List Tok} {a : Option Addr} (h : Toks S w l a) (x : Fr T w w') (hs : ∀ b, S b → ¬ T b) : Toks S w' l a := h.mono (fun _ h => h) (fun b _ _ _ hb h => Row.fr h x (hs b hb))
theorem Toks.wide {S S' : Nat → Prop} {w : World} {l : List Tok} {a : Option Addr} (h : Toks S w l a) (hs : ∀ b, S b → S' b) : Toks S' w l a := h.mono hs (fun _ _ _ _ _ h => h)
theorem Toks.lt2 {S : Nat → Prop} {w : World} {l : List Tok} {a : Option Addr} (h : Toks S w l a) : Toks (fun b => S b ∧ b < w.heap.size) w l a := by
 rcases h with h | ⟨b, o, h1, h2, h3⟩
 · exact Or.inl h
 · cases l with
   | nil => exact Or.inl rfl
   | cons v r => exact Or.inr ⟨b, o, h1, ⟨h2, cell_lt (Row.at0 (h3 0 v rfl) rfl)⟩, h3⟩
def tokShape : Shape Tok where
 sz := 3
 rep := fun _ _ v cs => cs = v.cells
 len := fun h => by rw [h]; rfl
 one := fun h => by rw [h]; rfl
 mono := fun h _ _ => h
 lt := fun h => h
theorem OwnL.toks {w : World} {B e : Nat} {a : Option Addr} {len cap : Nat} {xs : List Tok} {S : Nat → Prop} (h : OwnL tokShape w B e (.slice a len cap) xs) (hS : ∀ b, B ≤ b → S b) : Toks S w xs a := by
 by_cases hx : xs = []
 · exact Or.inl hx
 · obtain ⟨g, cap', hv, hg, hall⟩ := h.rows hx
   simp only [Value.slice.injEq] at hv
   obtain ⟨rfl, -, -⟩ := hv
   refine Or.inr ⟨g, 0, rfl, hS g hg, fun i x hi => ?_⟩
   obtain ⟨cs, hr, rfl⟩ := hall i x hi
   simpa [tokShape, TokAt] using hr
theorem first_s (t : List UInt8) (w : World) (ht : t ≠ []) (hl : t.length ≤ 9223372036854775807) : Calls Tryz.prog 100 #[str t] w fun e w' => e = .returned (.tuple #[.int .u8 (firstTok t).1, .int .i64 (firstTok t).2]) ∧ w = w' := by
 cases t with
 | nil => exact absurd rfl ht
 | cons c r => exact first_c c r w hl
def LexR (w : World) (r : List Tok × Int × Int) : Ending → World → Prop := fun e w' => ∃ a k, e = .returned (.tuple #[.slice a r.1.length k, .int .i64 r.2.1, .int .i64 r.2.2]) ∧ Toks (fun b => w.heap.size ≤ b ∧ b < w'.heap.size) w' r.1 a ∧ Ext w w'
theorem LexR.ret {w : World} {r : List Tok × Int × Int} {e : Ending} {w' : World} (h : LexR w r e w') : ∃ v, e = .returned v := by
 obtain ⟨_, _, h, -⟩ := h
 exact ⟨_, h⟩
set_option maxRecDepth 100000 in
set_option maxHeartbeats 2000000 in
theorem Lex_c (s : List UInt8) (w : World) (hs : s.length ≤ 1000000) : Calls Tryz.prog 63 #[str s] w (LexR w (lexT s)) := by
 have X := Ext.refl w
 by_cases h0 : 65536 < s.length
 · rw [show lexT s = ([], 0, 5) from by simp [lexT, h0]]
   refine calls_in Tryz.func63 Tryz.ntmps63 rfl rfl ?_
   focus
    refine cS (cA rfl rfl (cA rfl rfl (cA rfl rfl (cT (cw_seq (cS (cM rfl rfl (lw_pure (pur_len_s tabOk rfl rfl) rfl (lw_pure (pur_gtr rfl rfl) rfl (cT ?_))))))))))
    refine cw_yes rfl (by omega) ?_
    refine cS (cA rfl rfl (cA rfl rfl (cA rfl rfl (cT (cw_ret (qw_then_ret (qw_ret3 rfl rfl rfl rfl ?_)))))))
    rotate_left 1
   exact ⟨_, _, rfl, Or.inl rfl, X⟩
 have hun : ∀ r, lexGo (s.length + 1) s 0 [] = r → lexT s = match r with | (l, none) => (l, 0, 0) | (_, some p) => ([], (p : Int), 3) := fun r hr => by
  obtain ⟨l, o⟩ := r
  cases o <;> simp [lexT, h0, hr]
 have HU := Lib.hid hun; clear hun
 refine calls_in Tryz.func63 Tryz.ntmps63 rfl rfl ?_
 focus
  refine cS (cA rfl rfl (cA rfl rfl (cA rfl rfl (cT (cw_seq (cS (cM rfl rfl (lw_pure (pur_len_s tabOk rfl rfl) rfl (lw_pure (pur_gtr rfl rfl) rfl (cT ?_))))))))))
  refine cw_no rfl (by omega) ?_
  refine cw_skip (qw_then (cS (cA rfl rfl (cT (cw_seq (cS (cA rfl rfl (cT (cw_block ?_)))))))))
  rotate_left 1
 refine cw_loop (ι := Nat × Nat × List Tok × Option Addr × Nat) (fun x => [(0, str s), (5, .slice x.2.2.2.1 x.2.2.1.length x.2.2.2.2), (6, .int .i64 x.2.1)])
  (fun x w' => OwnL tokShape w' w.heap.size 96 (.slice x.2.2.2.1 x.2.2.1.length x.2.2.2.2) x.2.2.1 ∧ Ext w w' ∧ x.2.1 ≤ s.length ∧ x.2.2.1.length ≤ x.2.1 ∧ s.length + 1 ≤ x.1 + x.2.1 ∧
   lexGo (s.length + 1) s 0 [] = lexGo x.1 s x.2.1 x.2.2.1) (fun x => x.1) (s.length + 1, 0, [], none, 0) (by (refine sub_cons rfl ?_; refine sub_cons rfl ?_; refine sub_cons rfl ?_; exact sub_nil)) ⟨OwnL.nil, X, Nat.zero_le _, Nat.le_refl _, Nat.le_refl _, rfl⟩ ?_
 rintro ⟨j, p, acc, a, cap⟩ w1 ⟨hown, X, hp, hacc, hj, he⟩
 simp only at hown hp hacc hj he
 refine CW.sub (m := [(0, str s), (5, .slice a acc.length cap), (6, .int .i64 p)]) ?_ (by (refine sub_cons rfl ?_; refine sub_cons rfl ?_; refine sub_cons rfl ?_; exact sub_nil))
 obtain ⟨j, rfl⟩ : ∃ i, j = i + 1 := ⟨j - 1, by omega⟩
 by_cases hlt : p < s.length
 · have hne : s.drop p ≠ [] := by
    intro e
    have := congrArg List.length e
    simp at this; omega
   have hdl : (s.drop p).length = s.length - p := List.length_drop
   have hfl := firstTok_le (s.drop p)
   rw [hdl] at hfl
   by_cases hz : (firstTok (s.drop p)).2 = 0
   · rw [HU.out ([], some p) (by rw [he, lexGo]; simp [hlt, hz])]
     focus
      refine cw_seq (cS (cM rfl rfl (cM rfl rfl (lw_pure (pur_len_s tabOk rfl rfl) rfl (lw_pure (pur_lss rfl rfl) rfl (cT ?_))))))
      refine cw_yes rfl (by omega) ?_
      refine cw_skip (qw_then (cw_block (cS (cM rfl rfl (cM rfl rfl ?_)))))
      refine lw_pure (pur_sfromN tabOk rfl rfl rfl (by omega)) rfl ?_
      refine lw_does (does_call (by kernel_rfl) rfl (first_s _ _ hne (by omega)) (fun _ _ h => ⟨_, h.1⟩)) rfl ?_ (fun _ h => h)
      rintro _ wb1 ⟨⟨⟩, rfl⟩
      refine cM rfl rfl (lw_pure (pur_extract rfl rfl) rfl (lw_pure (pur_extract rfl rfl) rfl (cA rfl rfl (cA rfl rfl (cT (cw_seq (cS (cM rfl rfl (lw_pure (pur_eql rfl rfl) rfl (cT ?_))))))))))
      refine cw_yes rfl (by omega) ?_
      refine cS (cM rfl rfl (cA rfl rfl (cA rfl rfl (cA rfl rfl (cT (cw_ret (qw_then_ret (qw_block_ret (qw_then_ret (qw_block_ret (qw_then_ret ?_)))))))))))
      refine qw_ret3 rfl rfl rfl rfl ?_
      rotate_left 1
     exact ⟨_, _, rfl, Or.inl rfl, X⟩
   · have he2 : lexGo (s.length + 1) s 0 [] = lexGo j s (p + (firstTok (s.drop p)).2) (acc ++ [⟨((firstTok (s.drop p)).1 : Nat), (s.drop p).take (firstTok (s.drop p)).2, (p : Int)⟩]) := by rw [he, lexGo]; simp [hlt, hz]
     focus
      refine cw_seq (cS (cM rfl rfl (cM rfl rfl (lw_pure (pur_len_s tabOk rfl rfl) rfl (lw_pure (pur_lss rfl rfl) rfl (cT ?_))))))
      refine cw_yes rfl (by omega) ?_
      refine cw_skip (qw_then (cw_block (cS (cM rfl rfl (cM rfl rfl ?_)))))
      refine lw_pure (pur_sfromN tabOk rfl rfl rfl (by omega)) rfl ?_
      refine lw_does (does_call (by kernel_rfl) rfl (first_s _ _ hne (by omega)) (fun _ _ h => ⟨_, h.1⟩)) rfl ?_ (fun _ h => h)
      rintro _ wc1 ⟨⟨⟩, rfl⟩
      refine cM rfl rfl (lw_pure (pur_extract rfl rfl) rfl (lw_pure (pur_extract rfl rfl) rfl (cA rfl rfl (cA rfl rfl (cT (cw_seq (cS (cM rfl rfl (lw_pure (pur_eql rfl rfl) rfl (cT ?_))))))))))
      refine cw_no rfl (by omega) ?_
      refine cw_skip (qw_then (cS (cM rfl rfl (cM rfl rfl (cM rfl rfl (cM rfl rfl (cM rfl rfl (cM rfl rfl ?_))))))))
      refine lw_pure (pur_add rfl rfl (IntWalk.i64_in _ (by omega))) rfl ?_
      refine lw_pure (pur_spartN tabOk rfl rfl rfl rfl (by omega)) rfl ?_
      refine cM rfl rfl (lw_pure (pur_build' [_, _, _] tabOk zOk rfl rfl rfl rfl) rfl ?_)
      (refine lw_does (does_slice' [_, _, _] tabOk zOk rfl rfl rfl rfl rfl rfl rfl rfl rfl) rfl ?_ (fun _ h => h); rintro _ wc3 ⟨bc2, rfl, nc4, tc5⟩)
      clear tc5
      have hc6 := New.blk nc4
      have xc7 := New.ext nc4
      have pc8 := New.pos nc4
      have zc9 := New.size nc4
      clear nc4
      replace hown := OwnL.ext hown xc7
      replace X := Ext.ext X xc7
      clear xc7
      refine lw_appendL (sh := tokShape) (z := ⟨((firstTok (s.drop p)).1 : Nat), (s.drop p).take (firstTok (s.drop p)).2, (p : Int)⟩) tabOk zOk rfl rfl rfl rfl (by kernel_rfl) rfl rfl rfl hown (Blk.row (by assumption)) rfl (by omega) (by have := Ext.size X; omega) rfl ?_
      rintro gc10 cap'c11 wc12 hc13 fc14
      have zc15 := Fr.size fc14
      clear hc6 hown
      replace X := Ext.fr X fc14 (by omega)
      clear fc14
      refine cA rfl rfl (cT (cw_region (cM rfl rfl (cM rfl rfl ?_))))
      refine lw_pure (pur_add rfl rfl (IntWalk.i64_in _ (by omega))) rfl ?_
      refine cA rfl rfl (lw_nil (qw_block_norm ?_))
      rotate_left 1
     refine qw_round (j, p + (firstTok (s.drop p)).2, acc ++ [⟨((firstTok (s.drop p)).1 : Nat), (s.drop p).take (firstTok (s.drop p)).2, (p : Int)⟩], some ⟨_, 0, none⟩, _) (by (refine sub_cons rfl ?_; refine sub_cons rfl ?_; refine sub_cons rfl ?_; exact sub_nil)) ⟨by assumption, X, by simp only; omega, by simp only [List.length_append, List.length_cons, List.length_nil]; omega, by simp only; omega, he2⟩ (by simp)
 · rw [HU.out (acc, none) (by rw [he, lexGo]; simp [hlt])]
   focus
    refine cw_seq (cS (cM rfl rfl (cM rfl rfl (lw_pure (pur_len_s tabOk rfl rfl) rfl (lw_pure (pur_lss rfl rfl) rfl (cT ?_))))))
    refine cw_no rfl (by omega) ?_
    refine cw_exit (qw_then_exit (qw_then_exit (qw_block_exit (qw_then (cS (cM rfl rfl (cA rfl rfl (cA rfl rfl (cA rfl rfl (cT (cw_ret ?_)))))))))))
    refine qw_ret3 rfl rfl rfl rfl ?_
    rotate_left 1
   exact ⟨_, _, rfl, Toks.lt2 (S := (w.heap.size ≤ ·)) (OwnL.toks hown (fun b h => h)), X⟩
theorem solid_snoc (l : List Tok) (t : Tok) : solidT (l ++ [t]) = solidT l ++ (if t.kind ≠ 4 ∧ t.kind ≠ 5 then [t] else []) := by
 unfold solidT
 rw [List.filter_append]
 congr 1
 by_cases h4 : t.kind = 4 <;> by_cases h5 : t.kind = 5 <;> simp [h4, h5]
def SolidR (w : World) (r : List Tok) : Ending → World → Prop := fun e w' => ∃ a k, e = .returned (.slice a r.length k) ∧ Toks (fun b => w.heap.size ≤ b ∧ b < w'.heap.size) w' r a ∧ Ext w w'
theorem SolidR.ret {w : World} {r : List Tok} {e : Ending} {w' : World} (h : SolidR w r e w') : ∃ v, e = .returned v := by
 obtain ⟨_, _, h, -⟩ := h
 exact ⟨_, h⟩
set_option maxRecDepth 100000 in
set_option maxHeartbeats 2000000 in
theorem Solid_c (ts : List Tok) (S : Nat → Prop) (b0 : Option Addr) (k0 : Nat) (w : World) (hl : ts.length ≤ 1000000) (hT : Toks S w ts b0) (hS : ∀ b, S b → b < w.heap.size) : Calls Tryz.prog 64 #[.slice b0 ts.length k0] w (SolidR w (solidT ts)) := by
 have X := Ext.refl w
 refine calls_in Tryz.func64 Tryz.ntmps64 rfl rfl ?_
 focus
  refine cS (cA rfl rfl (cN (cA rfl rfl (cT (cw_seq (cS (cM rfl rfl (lw_pure (pur_len_slice tabOk rfl rfl) rfl (cM rfl rfl (cT (cw_block ?_)))))))))))
  rotate_left 1
 refine cw_loop (ι := Nat × Option Addr × Nat) (fun x => [(3, .slice x.2.1 (solidT (ts.take x.1)).length x.2.2), (6, .slice b0 ts.length k0), (7, .int .i64 ts.length), (8, .int .i64 x.1)])
  (fun x w' => OwnL tokShape w' w.heap.size 96 (.slice x.2.1 (solidT (ts.take x.1)).length x.2.2) (solidT (ts.take x.1)) ∧ Ext w w' ∧ x.1 ≤ ts.length ∧ Toks S w' ts b0) (fun x => ts.length - x.1) (0, none, 0) (by (refine sub_cons rfl ?_; refine sub_cons rfl ?_; refine sub_cons rfl ?_; refine sub_cons rfl ?_; exact sub_nil)) ⟨OwnL.nil, X, Nat.zero_le _, hT⟩ ?_
 rintro ⟨j, a, cap⟩ w1 ⟨hown, X, hj, hT⟩
 simp only at hown hj hT
 have hsz := X.size
 refine CW.sub (m := [(3, .slice a (solidT (ts.take j)).length cap), (6, .slice b0 ts.length k0), (7, .int .i64 ts.length), (8, .int .i64 j)]) ?_ (by (refine sub_cons rfl ?_; refine sub_cons rfl ?_; refine sub_cons rfl ?_; refine sub_cons rfl ?_; exact sub_nil))
 by_cases hlt : j < ts.length
 · have htk : ts.take (j + 1) = ts.take j ++ [ts[j]] := by rw [List.take_add_one, List.getElem?_eq_getElem hlt]; rfl
   have hsn : solidT (ts.take (j + 1)) = solidT (ts.take j) ++ (if ts[j].kind ≠ 4 ∧ ts[j].kind ≠ 5 then [ts[j]] else []) := by rw [htk, solid_snoc]
   have hbd : (solidT (ts.take j)).length ≤ 1000000 := Nat.le_trans (List.length_filter_le _ _) (by rw [List.length_take]; omega)
   obtain ⟨tb, to, rfl, hkS, hrow⟩ := hT.get (by omega)
   have hr : Row w1 ⟨tb, to + j * 3, none⟩ ts[j].cells := hrow j _ (List.getElem?_eq_getElem hlt)
   have htb := hS tb hkS
   clear hrow htk
   generalize ts[j] = t at *
   by_cases h4 : t.kind = 4
   · rw [show (if t.kind ≠ 4 ∧ t.kind ≠ 5 then [t] else []) = [] from by simp [h4], List.append_nil] at hsn
     focus
      refine cS (lw_pure (pur_lss rfl rfl) rfl (cT (cw_seq ?_)))
      refine cw_yes rfl (by omega) ?_
      refine cw_skip (qw_then (cw_seq (cw_block (cS ?_))))
      refine lw_pure (pur_indexAddr tabOk rfl rfl rfl rfl (by omega) (by omega)) rfl ?_
      refine lw_loads_r0 tabOk rfl rfl rfl hr rfl rfl ?_
      (refine lw_alloc' [_, _, _] zOk rfl rfl ?_; intro ba1 wa2 na3)
      (refine lw_init' [_, _, _] tabOk rfl rfl rfl rfl rfl rfl na3 rfl ?_; clear na3; clear wa2; intro wa4 na3)
      have ha5 := New.blk na3
      have xa6 := New.ext na3
      have pa7 := New.pos na3
      have za8 := New.size na3
      clear na3
      replace hown := OwnL.ext hown xa6
      replace X := Ext.ext X xa6
      replace hT := Toks.ext hT xa6
      replace hr := Row.ext hr xa6
      clear xa6
      refine cN (lw_pure (pur_fieldAddr0 tabOk rfl rfl rfl) rfl (lw_load_b tabOk rfl rfl rfl ha5 rfl rfl (lw_pure (pur_neq rfl rfl) rfl (cM rfl rfl ?_))))
      refine lw_off rfl rfl rfl (gd_tf (by omega)) rfl ?_
      refine lw_off rfl rfl rfl (gd_tf (by omega)) rfl ?_
      refine lw_off rfl rfl rfl (gd_tf (by omega)) rfl ?_
      refine lw_pure (pur_pick_no rfl rfl (by omega)) rfl ?_
      refine cT (cw_cond_f rfl (cw_skip (qw_block_norm (qw_then (cw_region ?_)))))
      refine lw_pure (pur_add rfl rfl (IntWalk.i64_in _ (by omega))) rfl ?_
      refine cM rfl rfl (lw_nil ?_)
      rotate_left 1
     refine qw_round (j + 1, a, cap) ?_ ⟨by rw [hsn]; exact hown, X, by simp only; omega, hT⟩ (by simp only; omega)
     refine sub_cons' rfl (by rw [hsn]) (sub_cons rfl (sub_cons rfl (sub_cons rfl sub_nil)))
   by_cases h5 : t.kind = 5
   · rw [show (if t.kind ≠ 4 ∧ t.kind ≠ 5 then [t] else []) = [] from by simp [h5], List.append_nil] at hsn
     focus
      refine cS (lw_pure (pur_lss rfl rfl) rfl (cT (cw_seq ?_)))
      refine cw_yes rfl (by omega) ?_
      refine cw_skip (qw_then (cw_seq (cw_block (cS ?_))))
      refine lw_pure (pur_indexAddr tabOk rfl rfl rfl rfl (by omega) (by omega)) rfl ?_
      refine lw_loads_r0 tabOk rfl rfl rfl hr rfl rfl ?_
      (refine lw_alloc' [_, _, _] zOk rfl rfl ?_; intro bb1 wb2 nb3)
      (refine lw_init' [_, _, _] tabOk rfl rfl rfl rfl rfl rfl nb3 rfl ?_; clear nb3; clear wb2; intro wb4 nb3)
      have hb5 := New.blk nb3
      have xb6 := New.ext nb3
      have pb7 := New.pos nb3
      have zb8 := New.size nb3
      clear nb3
      replace hown := OwnL.ext hown xb6
      replace X := Ext.ext X xb6
      replace hT := Toks.ext hT xb6
      replace hr := Row.ext hr xb6
      clear xb6
      refine cN (lw_pure (pur_fieldAddr0 tabOk rfl rfl rfl) rfl (lw_load_b tabOk rfl rfl rfl hb5 rfl rfl (lw_pure (pur_neq rfl rfl) rfl (cM rfl rfl ?_))))
      refine lw_on rfl rfl rfl (gd_tt (by assumption)) ?_
      refine lw_pure (pur_fieldAddr0 tabOk rfl rfl rfl) rfl ?_
      refine lw_on rfl rfl rfl (gd_tt (by assumption)) ?_
      refine lw_load_b tabOk rfl rfl rfl hb5 rfl rfl ?_
      refine lw_on rfl rfl rfl (gd_tt (by assumption)) ?_
      refine lw_pure (pur_neq rfl rfl) rfl ?_
      refine lw_pure (pur_pick_yes rfl rfl (by assumption)) rfl ?_
      refine cT ?_
      refine cw_no rfl (by omega) ?_
      refine cw_skip (qw_block_norm (qw_then (cw_region ?_)))
      refine lw_pure (pur_add rfl rfl (IntWalk.i64_in _ (by omega))) rfl ?_
      refine cM rfl rfl (lw_nil ?_)
      rotate_left 1
     refine qw_round (j + 1, a, cap) ?_ ⟨by rw [hsn]; exact hown, X, by simp only; omega, hT⟩ (by simp only; omega)
     refine sub_cons' rfl (by rw [hsn]) (sub_cons rfl (sub_cons rfl (sub_cons rfl sub_nil)))
   · rw [show (if t.kind ≠ 4 ∧ t.kind ≠ 5 then [t] else []) = [t] from by simp [h4, h5]] at hsn
     focus
      refine cS (lw_pure (pur_lss rfl rfl) rfl (cT (cw_seq ?_)))
      refine cw_yes rfl (by omega) ?_
      refine cw_skip (qw_then (cw_seq (cw_block (cS ?_))))
      refine lw_pure (pur_indexAddr tabOk rfl rfl rfl rfl (by omega) (by omega)) rfl ?_
      refine lw_loads_r0 tabOk rfl rfl rfl hr rfl rfl ?_
      (refine lw_alloc' [_, _, _] zOk rfl rfl ?_; intro bc1 wc2 nc3)
      (refine lw_init' [_, _, _] tabOk rfl rfl rfl rfl rfl rfl nc3 rfl ?_; clear nc3; clear wc2; intro wc4 nc3)
      have hc5 := New.blk nc3
      have xc6 := New.ext nc3
      have pc7 := New.pos nc3
      have zc8 := New.size nc3
      clear nc3
      replace hown := OwnL.ext hown xc6
      replace X := Ext.ext X xc6
      replace hT := Toks.ext hT xc6
      replace hr := Row.ext hr xc6
      clear xc6
      refine cN (lw_pure (pur_fieldAddr0 tabOk rfl rfl rfl) rfl (lw_load_b tabOk rfl rfl rfl hc5 rfl rfl (lw_pure (pur_neq rfl rfl) rfl (cM rfl rfl ?_))))
      refine lw_on rfl rfl rfl (gd_tt (by assumption)) ?_
      refine lw_pure (pur_fieldAddr0 tabOk rfl rfl rfl) rfl ?_
      refine lw_on rfl rfl rfl (gd_tt (by assumption)) ?_
      refine lw_load_b tabOk rfl rfl rfl hc5 rfl rfl ?_
      refine lw_on rfl rfl rfl (gd_tt (by assumption)) ?_
      refine lw_pure (pur_neq rfl rfl) rfl ?_
      refine lw_pure (pur_pick_yes rfl rfl (by assumption)) rfl ?_
      refine cT ?_
      refine cw_yes rfl (by assumption) ?_
      refine cw_region (cM rfl rfl (lw_loads_b' [_, _, _] tabOk rfl rfl rfl hc5 rfl rfl rfl ?_))
      (refine lw_does (does_slice' [_, _, _] tabOk zOk rfl rfl rfl rfl rfl rfl rfl rfl rfl) rfl ?_ (fun _ h => h); rintro _ wc10 ⟨bc9, rfl, nc11, tc12⟩)
      clear tc12
      have hc13 := New.blk nc11
      have xc14 := New.ext nc11
      have pc15 := New.pos nc11
      have zc16 := New.size nc11
      clear nc11
      replace hc5 := Blk.ext hc5 xc14
      replace hown := OwnL.ext hown xc14
      replace X := Ext.ext X xc14
      replace hT := Toks.ext hT xc14
      replace hr := Row.ext hr xc14
      clear xc14
      refine lw_appendL (sh := tokShape) (z := t) tabOk zOk rfl rfl rfl rfl (by kernel_rfl) rfl rfl rfl hown (Blk.row (by assumption)) rfl (by omega) (by omega) rfl ?_
      rintro gc17 cap'c18 wc19 hc20 fc21
      have zc22 := Fr.size fc21
      clear hc13 hc5 hown
      replace X := Ext.fr X fc21 (by omega)
      replace hT := Toks.fr hT fc21 (fun k hk e => by have := hS k hk; omega)
      replace hr := Row.fr hr fc21 (by simp only; omega)
      clear fc21
      refine cA rfl rfl (lw_nil (qw_block_norm (qw_then (cw_region ?_))))
      refine lw_pure (pur_add rfl rfl (IntWalk.i64_in _ (by omega))) rfl ?_
      refine cM rfl rfl (lw_nil ?_)
      rotate_left 1
     refine qw_round (j + 1, some ⟨_, 0, none⟩, _) ?_ ⟨by rw [hsn]; assumption, X, by simp only; omega, hT⟩ (by simp only; omega)
     refine sub_cons' rfl (by rw [hsn]) (sub_cons rfl (sub_cons rfl (sub_cons rfl sub_nil)))
 · have : j = ts.length := by omega
   subst this
   rw [List.take_length] at hown
   focus
    refine cS (lw_pure (pur_lss rfl rfl) rfl (cT (cw_seq ?_)))
    refine cw_no rfl (by omega) ?_
    refine cw_exit (qw_then_exit (qw_then_exit (qw_block_exit (qw_then (cS (cM rfl rfl (cA rfl rfl (cT (cw_ret (qw_ret1 rfl rfl ?_))))))))))
    rotate_left 1
   rw [List.take_length]
   exact ⟨_, _, rfl, Toks.lt2 (S := (w.heap.size ≤ ·)) (OwnL.toks hown (fun b h => h)), X⟩
end Bk
namespace Bk
open Go Go.RowKit Go.Proofs
attribute [local irreducible] Go.Calls
section
variable {P : Program} {n : Nat} {ops : Array Oper} {Q : Exit → Act → World → Prop} {rest : List Oper} {l : Sl} {w : World} {tab : Tab} {ty : TypeId} {pos : String} {after : Array Edge}
theorem lw_mapput {x y z : Operand} {t kt e sz1 sz2 r : Nat} {k : List UInt8} {v : Value} {kvs : List (List UInt8 × Value)} (T : TabOk P tab) (ht : lookT tab t = some (.map kt e, sz1)) (hkt : lookT tab kt = some (.str, sz2)) (hx : ev l x = some (.map (some r))) (hy : ev l y = some (str k)) (hz : ev l z = some v) (hm : MapIs w r kvs)
 (kk : ∀ w1, MapIs w1 r (setS kvs k v) → Fr (· = r) w w1 → LW P n ops Q rest l w1) : LW P n ops Q (⟨none, .mapUpdate t x y z, ty, pos, after, none⟩ :: rest) l w := by
 refine lw_does0 (K := MapPut w r (setS kvs k v)) ?_ (fun v w1 h => by cases v with | none => exact kk w1 h.1 h.2.1 | some _ => exact h.elim)
 unfold Does
 intro a dst pos after g next Q ha _ hn
 obtain ⟨w1, h1, h2, h3, h4⟩ := run_mapUpdate (P := P) (k := k) (v := v) T ht hkt hm
 have e1 : (execOp a.eval ⟨dst, .mapUpdate t x y z, ty, pos, after, g⟩).run P w = .ok .skip w1 := by
  simp only [execOp, ha.ev hx, ha.ev hy, ha.ev hz, Sem.run_bind, h1, Result.andThen, Sem.run_pure]
 unfold Oper.wp
 rw [e1]
 exact hn w1 ⟨h2, h3, h4⟩
theorem lw_makeMap {t d : Nat} (hd : Nat.blt d n = true) (k : ∀ r w1, r = w.heap.size → MapIs w1 r [] → Ext w w1 → w1.heap.size = r + 1 → LW P n ops Q rest ((d, .map (some r)) :: l) w1) : LW P n ops Q (⟨some d, .makeMap t none, ty, pos, after, none⟩ :: rest) l w :=
 lw_does does_makeMap hd (fun v w1 ⟨r, h1, h2, h3, h4, h5⟩ => by subst h1; exact k r w1 h2 h3 h4 h5) (fun _ h => h)
end
def u8Shape : Shape Int where
 sz := 1
 rep := fun _ _ v cs => cs = [.int .u8 v]
 len := fun h => by rw [h]; rfl
 one := fun h => by rw [h]; rfl
 mono := fun h _ _ => h
 lt := fun h => h
def ops8 (j : Nat) : List Int := (List.range j).map fun (i : Nat) => (8 : Int) + (i : Int)
theorem ops8_snoc (j : Nat) : ops8 (j + 1) = ops8 j ++ [8 + (j : Int)] := by simp [ops8, List.range_succ]
theorem ops8_len (j : Nat) : (ops8 j).length = j := by simp [ops8]
def OpsR (w : World) : Ending → World → Prop := fun e w' => ∃ b k, e = .returned (.slice (some ⟨b, 0, none⟩) 16 k) ∧ w.heap.size ≤ b ∧ b < w'.heap.size ∧ Row w' ⟨b, 0, none⟩ ((ops8 16).map (.int .u8 ·)) ∧ Ext w w'
theorem OpsR.ret {w : World} {e : Ending} {w' : World} (h : OpsR w e w') : ∃ v, e = .returned v := by
 obtain ⟨_, _, h, -⟩ := h
 exact ⟨_, h⟩
set_option maxRecDepth 100000 in
set_option maxHeartbeats 2000000 in
theorem Operators_c (w : World) : Calls Tryz.prog 65 #[] w (OpsR w) := by
 have X := Ext.refl w
 refine calls_in (args := []) Tryz.func65 Tryz.ntmps65 rfl rfl ?_
 focus
  refine cS (cA rfl rfl (cN (cA rfl rfl (cT (cw_seq (cS (cA rfl rfl (cT (cw_block ?_)))))))))
  rotate_left 1
 refine cw_loop (ι := Nat × Option Addr × Nat) (fun x => [(1, .slice x.2.1 (ops8 x.1).length x.2.2), (2, .int .u8 (8 + (x.1 : Int)))])
  (fun x w' => OwnL u8Shape w' w.heap.size 5 (.slice x.2.1 (ops8 x.1).length x.2.2) (ops8 x.1) ∧ Ext w w' ∧ x.1 ≤ 16) (fun x => 16 - x.1) (0, none, 0) (by (refine sub_cons rfl ?_; refine sub_cons rfl ?_; exact sub_nil)) ⟨OwnL.nil, X, Nat.zero_le _⟩ ?_
 rintro ⟨j, a, cap⟩ w1 ⟨hown, X, hj⟩
 simp only at hown hj
 have hsz := X.size
 have hl := ops8_len j
 refine CW.sub (m := [(1, .slice a (ops8 j).length cap), (2, .int .u8 (8 + (j : Int)))]) ?_ (by (refine sub_cons rfl ?_; refine sub_cons rfl ?_; exact sub_nil))
 by_cases hlt : j < 16
 · have hsn := ops8_snoc j
   focus
    refine cw_seq (cS (cM rfl rfl (lw_pure (pur_leq rfl rfl) rfl (cT ?_))))
    refine cw_yes rfl (by omega) ?_
    refine cw_skip (qw_then (cw_seq (cw_block (cw_region (cM rfl rfl (cM rfl rfl ?_))))))
    (refine lw_does (does_slice' [_] tabOk zOk rfl rfl rfl rfl rfl rfl rfl rfl rfl) rfl ?_ (fun _ h => h); rintro _ wa2 ⟨ba1, rfl, na3, ta4⟩)
    clear ta4
    have ha5 := New.blk na3
    have xa6 := New.ext na3
    have pa7 := New.pos na3
    have za8 := New.size na3
    clear na3
    replace hown := OwnL.ext hown xa6
    replace X := Ext.ext X xa6
    clear xa6
    refine lw_appendL (sh := u8Shape) (z := 8 + (j : Int)) tabOk zOk rfl rfl rfl rfl (by kernel_rfl) rfl rfl rfl hown (Blk.row (by assumption)) rfl (by omega) (by omega) rfl ?_
    rintro ga9 cap'a10 wa11 ha12 fa13
    have za14 := Fr.size fa13
    clear ha5 hown
    replace X := Ext.fr X fa13 (by omega)
    clear fa13
    refine cA rfl rfl (lw_nil (qw_block_norm (qw_then (cw_region (cM rfl rfl ?_)))))
    refine lw_pure (pur_add rfl rfl (u8_wrap _ (by omega) (by omega))) rfl ?_
    refine cA rfl rfl (lw_nil ?_)
    rotate_left 1
   refine qw_round (j + 1, some ⟨_, 0, none⟩, _) ?_ ⟨by rw [hsn]; assumption, X, by simp only; omega⟩ (by simp only; omega)
   refine sub_cons' rfl (by rw [hsn]) (sub_cons' rfl ?_ sub_nil)
   simp only [Value.int.injEq, true_and]; omega
 · have : j = 16 := by omega
   subst this
   focus
    refine cw_seq (cS (cM rfl rfl (lw_pure (pur_leq rfl rfl) rfl (cT ?_))))
    refine cw_no rfl (by decide) ?_
    refine cw_exit (qw_then_exit (qw_then_exit (qw_block_exit (qw_then (cS (cM rfl rfl (cA rfl rfl (cT (cw_ret (qw_ret1 rfl rfl ?_))))))))))
    rotate_left 1
   obtain ⟨g, cap', hv, hg, hall⟩ := hown.rows (by decide)
   simp only [Value.slice.injEq] at hv
   obtain ⟨rfl, -, -⟩ := hv
   have hrow : Row w1 ⟨g, 0, none⟩ ((ops8 16).map (.int .u8 ·)) := fun i v hi => by
    rw [List.getElem?_map, Option.map_eq_some_iff] at hi
    obtain ⟨x, hx, rfl⟩ := hi
    obtain ⟨cs, hr, rfl⟩ := hall i x hx
    have := hr.at0 rfl
    have e : (⟨g, 0, none⟩ : Addr).add i = ⟨g, i * u8Shape.sz, none⟩ := by
     have : u8Shape.sz = 1 := rfl
     unfold Addr.add; by_cases h0 : i = 0 <;> simp [h0, this]
    rw [e]; exact this
   exact ⟨g, cap, by rw [ops8_len], hg, hown.lt rfl, hrow, X⟩
set_option maxRecDepth 100000 in
set_option maxHeartbeats 1000000 in
theorem finish_c (c : PC) (σ : PS) (w : World) (hP : PP c σ w) :
 Calls Tryz.prog 26 #[.pointer (some ⟨c.pb, 0, none⟩)] w fun r w' => r = .returned (.tuple #[]) ∧ PP c (finishP c.ts c.n σ) w' ∧ Fr (· = c.pb) w w' := by
 have X := Fr.refl (· = c.pb) w
 have hpb := hP.pbB
 have hB := hP.B
 by_cases h : σ.at_ < c.ts.length
 · rw [show finishP c.ts c.n σ = unexpP c.ts c.n σ from by simp [finishP, h]]
   refine calls_in Tryz.func26 Tryz.ntmps26 rfl rfl ?_
   focus
    refine cw_seq ?_
    (refine cw_tdraw (fun wz => Ext w wz) 9 (.pure 0 (.pure 1 (.pure 2 (.pure 3 (.pure 4 (.pure 5 (.pure 6 (.pure 7 (.pure 8 .tail))))))))) mixed (by kernel_rfl) (panicOk_then panicOk_body) ?_; intro w1 x2 _)
    have qs3 : (fun wz => Ext w wz) w1 := x2
    simp only at qs3
    have d_hP := hP
    have z4 := Ext.size x2
    replace hP := PP.ext hP x2
    replace X := Fr.ext X x2
    clear x2
    refine ⟨qs3, ?_⟩
    refine tw_pure rfl (pur_move rfl) rfl (tw_pure rfl (pur_nilCheck rfl) rfl (tw_pure rfl (pur_fieldAddr tabOk rfl rfl rfl) rfl (tw_pure rfl (pur_load tabOk rfl rfl rfl (fun wz hz => Blk.cell (Blk.ext (PP.blk d_hP) hz) rfl)) rfl (tw_pure rfl (pur_move rfl) rfl (tw_pure rfl (pur_nilCheck rfl) rfl (tw_pure rfl (pur_fieldAddr0 tabOk rfl rfl rfl) rfl (tw_pure rfl (pur_load tabOk rfl rfl rfl (fun wz hz => Blk.cell (Blk.ext (PP.blk d_hP) hz) rfl)) rfl (tw_pure rfl (pur_len_slice tabOk rfl rfl) rfl ?_))))))))
    clear qs3 d_hP
    refine tw_tail rfl (lw_pure (pur_lss rfl rfl) rfl (cT ?_))
    refine cw_yes rfl (by omega) ?_
    refine cw_region (cM rfl rfl ?_)
    refine lw_does (does_call (by kernel_rfl) rfl (unexpected_c _ _ _ (by assumption)) (fun _ _ h => ⟨_, h.1⟩)) rfl ?_ (fun _ h => h)
    rintro _ w7 ⟨⟨⟩, ⟨h5, f6⟩⟩
    have z8 := Fr.size f6
    clear hP
    replace X := Fr.fr X f6 (by omega)
    clear f6
    refine lw_nil (qw_end0 rfl ?_)
    rotate_left 1
   exact ⟨rfl, by assumption, X⟩
 · rw [show finishP c.ts c.n σ = σ from by simp [finishP, h]]
   refine calls_in Tryz.func26 Tryz.ntmps26 rfl rfl ?_
   focus
    refine cw_seq ?_
    (refine cw_tdraw (fun wz => Ext w wz) 9 (.pure 0 (.pure 1 (.pure 2 (.pure 3 (.pure 4 (.pure 5 (.pure 6 (.pure 7 (.pure 8 .tail))))))))) mixed (by kernel_rfl) (panicOk_then panicOk_body) ?_; intro wa1 xa2 _)
    have qsa3 : (fun wz => Ext w wz) wa1 := xa2
    simp only at qsa3
    have d_hP := hP
    have za4 := Ext.size xa2
    replace hP := PP.ext hP xa2
    replace X := Fr.ext X xa2
    clear xa2
    refine ⟨qsa3, ?_⟩
    refine tw_pure rfl (pur_move rfl) rfl (tw_pure rfl (pur_nilCheck rfl) rfl (tw_pure rfl (pur_fieldAddr tabOk rfl rfl rfl) rfl (tw_pure rfl (pur_load tabOk rfl rfl rfl (fun wz hz => Blk.cell (Blk.ext (PP.blk d_hP) hz) rfl)) rfl (tw_pure rfl (pur_move rfl) rfl (tw_pure rfl (pur_nilCheck rfl) rfl (tw_pure rfl (pur_fieldAddr0 tabOk rfl rfl rfl) rfl (tw_pure rfl (pur_load tabOk rfl rfl rfl (fun wz hz => Blk.cell (Blk.ext (PP.blk d_hP) hz) rfl)) rfl (tw_pure rfl (pur_len_slice tabOk rfl rfl) rfl ?_))))))))
    clear qsa3 d_hP
    refine tw_tail rfl (lw_pure (pur_lss rfl rfl) rfl (cT ?_))
    refine cw_no rfl (by omega) ?_
    refine cw_skip (qw_end0 rfl ?_)
    rotate_left 1
   exact ⟨rfl, by assumption, X⟩
def wholeT (t : Nd) (σ : PS) : Nd × Int × Int := if σ.err ≠ 0 then (zeroNd, σ.off, σ.err) else (t, 0, 0)
def WholeR (w : World) (pb : Nat) (S : Nat → Prop) (r : Nd × Int × Int) : Ending → World → Prop := fun e w' => ∃ a k, e = .returned (.tuple #[r.1.val a k, .int .i64 r.2.1, .int .i64 r.2.2]) ∧ r.1.sits S w' a ∧ Fr (· = pb) w w'
theorem WholeR.ret {w : World} {pb : Nat} {S : Nat → Prop} {r : Nd × Int × Int} {e : Ending} {w' : World} (h : WholeR w pb S r e w') : ∃ v, e = .returned v := by
 obtain ⟨_, _, h, -⟩ := h
 exact ⟨_, h⟩
set_option maxRecDepth 100000 in
set_option maxHeartbeats 1000000 in
theorem whole_c (c : PC) (σ : PS) (t : Nd) (S : Nat → Prop) (a : Option Addr) (k : Nat) (w : World) (hP : PP c σ w) (hz : t.size ≤ 1000000000) (hs : t.sits S w a) (hS : ∀ b, S b → b ≠ c.pb ∧ b < w.heap.size) :
 Calls Tryz.prog 40 #[.pointer (some ⟨c.pb, 0, none⟩), t.val a k] w (WholeR w c.pb S (wholeT t (limitP t 0 σ))) := by
 have X := Fr.refl (· = c.pb) w
 have hpb := hP.pbB
 have hB := hP.B
 by_cases h : (limitP t 0 σ).err = 0
 · rw [show wholeT t (limitP t 0 σ) = (t, 0, 0) from by simp [wholeT, h]]
   refine calls_in Tryz.func40 Tryz.ntmps40 rfl rfl ?_
   focus
    refine cS ?_
    (refine lw_box' [_, _, _, _] rfl rfl rfl ?_; intro b1 w2 n3)
    have h4 := New.blk n3
    have x5 := New.ext n3
    have p6 := New.pos n3
    have z7 := New.size n3
    clear n3
    replace hP := PP.ext hP x5
    replace hs := Nd.sits.ext hs x5
    replace X := Fr.ext X x5
    clear x5
    (refine lw_alloc' [_, _, _, _] zOk rfl rfl ?_; intro b8 w9 n10)
    have h12 := New.blk n10
    have x13 := New.ext n10
    have p14 := New.pos n10
    have z15 := New.size n10
    clear n10
    replace h4 := Blk.ext h4 x13
    replace hP := PP.ext hP x13
    replace hs := Nd.sits.ext hs x13
    replace X := Fr.ext X x13
    clear x13
    refine cA rfl rfl (cA rfl rfl (cN (cM rfl rfl (lw_loads_b' [_, _, _, _] tabOk rfl rfl rfl h4 rfl rfl rfl ?_))))
    refine lw_does (does_call (by kernel_rfl) rfl (limit_c _ _ _ _ _ _ _ _ (by assumption) (by omega) (by assumption)) (fun _ _ h => ⟨_, h.1⟩)) rfl ?_ (fun _ h => h)
    rintro _ w18 ⟨⟨⟩, ⟨h16, f17⟩⟩
    have z19 := Fr.size f17
    replace h12 := Blk.fr h12 f17 (by omega)
    replace h4 := Blk.fr h4 f17 (by omega)
    clear hP
    replace hs := Nd.sits.fr hs f17 (fun k hk e => by have := hS k hk; omega)
    replace X := Fr.fr X f17 (by omega)
    clear f17
    refine cT (cw_seq (cS (cM rfl rfl (lw_pure (pur_nilCheck rfl) rfl (lw_pure (pur_fieldAddr tabOk rfl rfl rfl) rfl (lw_load_b tabOk rfl rfl rfl (PP.blk h16) rfl rfl (lw_pure (pur_neq rfl rfl) rfl (cT ?_))))))))
    refine cw_no rfl (by omega) ?_
    refine cw_skip (qw_then (cS (lw_loads_b' [_, _, _, _] tabOk rfl rfl rfl h4 rfl rfl rfl ?_)))
    (refine lw_store' [_, _, _, _] [_, _, _, _] tabOk rfl rfl rfl rfl rfl rfl h12 rfl rfl ?_; intro w20 n21)
    have h24 := Put.blk n21
    have f22 := Put.fr n21
    have z23 := Put.size n21
    clear n21 h12
    replace h16 := PP.fr h16 f22 (by omega)
    replace h4 := Blk.fr h4 f22 (by omega)
    replace hs := Nd.sits.fr hs f22 (fun k hk e => by have := hS k hk; omega)
    replace X := Fr.fr X f22 (by omega)
    clear f22
    refine cA rfl rfl (cA rfl rfl (cT (cw_ret (qw_retc3 rfl tabOk rfl rfl rfl h24 rfl rfl rfl ?_))))
    rotate_left 1
   exact ⟨_, _, rfl, by assumption, X⟩
 · rw [show wholeT t (limitP t 0 σ) = (zeroNd, (limitP t 0 σ).off, (limitP t 0 σ).err) from by simp [wholeT, h]]
   refine calls_in Tryz.func40 Tryz.ntmps40 rfl rfl ?_
   focus
    refine cS ?_
    (refine lw_box' [_, _, _, _] rfl rfl rfl ?_; intro ba1 wa2 na3)
    have ha4 := New.blk na3
    have xa5 := New.ext na3
    have pa6 := New.pos na3
    have za7 := New.size na3
    clear na3
    replace hP := PP.ext hP xa5
    replace hs := Nd.sits.ext hs xa5
    replace X := Fr.ext X xa5
    clear xa5
    (refine lw_alloc' [_, _, _, _] zOk rfl rfl ?_; intro ba8 wa9 na10)
    have ha12 := New.blk na10
    have xa13 := New.ext na10
    have pa14 := New.pos na10
    have za15 := New.size na10
    clear na10
    replace ha4 := Blk.ext ha4 xa13
    replace hP := PP.ext hP xa13
    replace hs := Nd.sits.ext hs xa13
    replace X := Fr.ext X xa13
    clear xa13
    refine cA rfl rfl (cA rfl rfl (cN (cM rfl rfl (lw_loads_b' [_, _, _, _] tabOk rfl rfl rfl ha4 rfl rfl rfl ?_))))
    refine lw_does (does_call (by kernel_rfl) rfl (limit_c _ _ _ _ _ _ _ _ (by assumption) (by omega) (by assumption)) (fun _ _ h => ⟨_, h.1⟩)) rfl ?_ (fun _ h => h)
    rintro _ wa18 ⟨⟨⟩, ⟨ha16, fa17⟩⟩
    have za19 := Fr.size fa17
    replace ha12 := Blk.fr ha12 fa17 (by omega)
    replace ha4 := Blk.fr ha4 fa17 (by omega)
    clear hP
    replace hs := Nd.sits.fr hs fa17 (fun k hk e => by have := hS k hk; omega)
    replace X := Fr.fr X fa17 (by omega)
    clear fa17
    refine cT (cw_seq (cS (cM rfl rfl (lw_pure (pur_nilCheck rfl) rfl (lw_pure (pur_fieldAddr tabOk rfl rfl rfl) rfl (lw_load_b tabOk rfl rfl rfl (PP.blk ha16) rfl rfl (lw_pure (pur_neq rfl rfl) rfl (cT ?_))))))))
    refine cw_yes rfl (by assumption) ?_
    refine cw_seq ?_
    (refine cw_tdraw (fun wz => Fr (fun x => x = ba8) wa18 wz) 11 (.pure 0 (.pure 1 (.pure 2 (.pure 3 (.pure 4 (.pure 5 (.pure 6 (.pure 7 (.pure 8 (.fork 9 (.pure 10 .tail) .none)))))))))) mixed (by kernel_rfl) (panicOk_then (panicOk_then panicOk_body)) ?_; intro wa20 xa21 _)
    have qsa22 : (fun wz => Fr (fun x => x = ba8) wa18 wz) wa20 := Fr.of_ext xa21
    simp only at qsa22
    have d_ha16 := ha16
    have d_ha12 := ha12
    have d_ha4 := ha4
    have d_hs := hs
    have za23 := Ext.size xa21
    replace ha16 := PP.ext ha16 xa21
    replace ha12 := Blk.ext ha12 xa21
    replace ha4 := Blk.ext ha4 xa21
    replace hs := Nd.sits.ext hs xa21
    replace X := Fr.ext X xa21
    clear xa21
    refine ⟨qsa22, ?_⟩
    refine tw_pure rfl (pur_build' [_, _, _, _] tabOk zOk rfl rfl rfl rfl) rfl (tw_pure rfl (pur_move rfl) rfl (tw_pure rfl (pur_nilCheck rfl) rfl (tw_pure rfl (pur_fieldAddr tabOk rfl rfl rfl) rfl ?_)))
    refine tw_pure rfl (pur_load tabOk rfl rfl rfl (fun wz hz => Blk.cell (Blk.fr (PP.blk d_ha16) hz (by omega)) rfl)) rfl ?_
    refine tw_pure rfl (pur_move rfl) rfl (tw_pure rfl (pur_nilCheck rfl) rfl (tw_pure rfl (pur_fieldAddr tabOk rfl rfl rfl) rfl ?_))
    refine tw_pure rfl (pur_load tabOk rfl rfl rfl (fun wz hz => Blk.cell (Blk.fr (PP.blk d_ha16) hz (by omega)) rfl)) rfl ?_
    (refine tw_store [_, _, _, _] [_, _, _, _] rfl tabOk rfl rfl rfl rfl rfl rfl ha12 rfl rfl ?_ tw_none; intro wa24 na25)
    have ha28 := Put.blk na25
    have fa26 := Put.fr na25
    have za27 := Put.size na25
    clear na25 ha12
    replace qsa22 := Fr.fr qsa22 fa26 (by omega)
    replace ha16 := PP.fr ha16 fa26 (by omega)
    replace ha4 := Blk.fr ha4 fa26 (by omega)
    replace hs := Nd.sits.fr hs fa26 (fun k hk e => by have := hS k hk; omega)
    replace X := Fr.fr X fa26 (by omega)
    clear fa26
    refine ⟨qsa22, ?_⟩
    refine tw_pure rfl (pur_assign rfl) rfl ?_
    clear d_ha16 d_ha12 d_ha4 d_hs qsa22
    refine tw_tail rfl (cA rfl rfl (cT (cw_ret (qw_then_ret (qw_retc3 rfl tabOk rfl rfl rfl ha28 rfl rfl rfl ?_)))))
    rotate_left 1
   exact ⟨_, _, rfl, sits_nil, X⟩
end Bk
namespace Bk
open Go Go.RowKit Go.Proofs
attribute [local irreducible] Go.Calls
theorem setS_bin (j : Nat) (h : j < 16) : setS (binMap.take j) (symbol (8 + (j : Int))) (.int .u8 (8 + (j : Int))) = binMap.take (j + 1) := by
 have : j = 0 ∨ j = 1 ∨ j = 2 ∨ j = 3 ∨ j = 4 ∨ j = 5 ∨ j = 6 ∨ j = 7 ∨ j = 8 ∨ j = 9 ∨ j = 10 ∨ j = 11 ∨ j = 12 ∨ j = 13 ∨ j = 14 ∨ j = 15 := by omega
 rcases this with rfl | rfl | rfl | rfl | rfl | rfl | rfl | rfl | rfl | rfl | rfl | rfl | rfl | rfl | rfl | rfl <;> rfl
def StartR (s : List UInt8) (w : World) : Ending → World → Prop := fun e w' => ∃ c : PC, e = .returned (.pointer (some ⟨c.pb, 0, none⟩)) ∧ (c.ts = (startP s).1 ∧ c.n = s.length ∧ w.heap.size ≤ c.pb) ∧ PP c (startP s).2 w' ∧ Ext w w' ∧ c.B ≤ w'.heap.size
theorem StartR.ret {s : List UInt8} {w : World} {e : Ending} {w' : World} (h : StartR s w e w') : ∃ v, e = .returned v := by
 obtain ⟨_, h, -⟩ := h
 exact ⟨_, h⟩
theorem Syms.lt {w : World} (h : Syms w) : 0 < w.heap.size := cell_lt (h.sym 0 (by omega))
theorem Errs.lt {w : World} (h : Errs w) : 3 < w.heap.size := by
 obtain ⟨te, pe, h⟩ := h.ex
 exact cell_lt h
set_option maxRecDepth 100000 in
set_option maxHeartbeats 4000000 in
theorem start_c (s : List UInt8) (w : World) (hs : s.length ≤ 1000000) (hS : Syms w) (hE : Errs w) : Calls Tryz.prog 24 #[str s] w (StartR s w) := by
 have X := Ext.refl w
 have hg1 := hS.lt
 have hg2 := hE.lt
 have hl1 := lexT_len s
 refine calls_in Tryz.func24 Tryz.ntmps24 rfl rfl ?_
 focus
  refine cS (cA rfl rfl (cN (cM rfl rfl ?_)))
  refine lw_does (does_call (by kernel_rfl) rfl (Lex_c _ _ (by omega)) (fun _ _ h => h.ret)) rfl ?_ (fun _ h => h)
  rintro _ w5 ⟨a1, ⟨k2, ⟨⟨⟩, ⟨h3, x4⟩⟩⟩⟩
  have z6 := Ext.size x4
  replace hS := Syms.ext hS x4
  replace hE := Errs.ext hE x4
  replace X := Ext.ext X x4
  clear x4
  refine cM rfl rfl (lw_pure (pur_extract rfl rfl) rfl (lw_pure (pur_extract rfl rfl) rfl (lw_pure (pur_extract rfl rfl) rfl (cA rfl rfl (cA rfl rfl (cA rfl rfl (cN (cM rfl rfl ?_))))))))
  refine lw_does (does_call (by kernel_rfl) rfl (Solid_c _ _ _ _ _ (by omega) (by assumption) (by intro b h; exact h.2)) (fun _ _ h => h.ret)) rfl ?_ (fun _ h => h)
  rintro _ w11 ⟨a7, ⟨k8, ⟨⟨⟩, ⟨h9, x10⟩⟩⟩⟩
  have z12 := Ext.size x10
  replace h3 := Toks.ext h3 x10
  replace hS := Syms.ext hS x10
  replace hE := Errs.ext hE x10
  replace X := Ext.ext X x10
  clear x10
  refine cM rfl rfl (lw_pure (pur_len_s tabOk rfl rfl) rfl (lw_makeMap rfl ?_))
  rintro r13 w14 rfl h15 x16 h17
  have z18 := Ext.size x16
  replace h9 := Toks.ext h9 x16
  replace h3 := Toks.ext h3 x16
  replace hS := Syms.ext hS x16
  replace hE := Errs.ext hE x16
  replace X := Ext.ext X x16
  clear x16
  refine cM rfl rfl (cM rfl rfl (lw_pure (pur_build' [_, _, _, _, _, _] tabOk zOk rfl rfl rfl rfl) rfl ?_))
  (refine lw_box' [_, _, _, _, _, _] rfl rfl rfl ?_; intro b19 w20 n21)
  have h22 := New.blk n21
  have x23 := New.ext n21
  have p24 := New.pos n21
  have z25 := New.size n21
  clear n21
  replace h15 := MapIs.ext h15 x23
  replace h9 := Toks.ext h9 x23
  replace h3 := Toks.ext h3 x23
  replace hS := Syms.ext hS x23
  replace hE := Errs.ext hE x23
  replace X := Ext.ext X x23
  clear x23
  refine cA rfl rfl (cT (cw_seq (cS ?_)))
  refine lw_does (does_call (by kernel_rfl) rfl (Operators_c _) (fun _ _ h => h.ret)) rfl ?_ (fun _ h => h)
  rintro _ w32 ⟨b26, ⟨k27, ⟨⟨⟩, ⟨h28, ⟨h29, ⟨h30, x31⟩⟩⟩⟩⟩⟩
  have z33 := Ext.size x31
  replace h22 := Blk.ext h22 x31
  replace h15 := MapIs.ext h15 x31
  replace h9 := Toks.ext h9 x31
  replace h3 := Toks.ext h3 x31
  replace hS := Syms.ext hS x31
  replace hE := Errs.ext hE x31
  replace X := Ext.ext X x31
  clear x31
  refine lw_pure (pur_len_slice tabOk rfl rfl) rfl (cM rfl rfl (cT (cw_block ?_)))
  rotate_left 1
 generalize hr : w11.heap.size = r at *
 refine cw_loop (ι := Nat) (fun j => [(6, .pointer (some ⟨b19, 0, none⟩)), (24, .slice (some ⟨b26, 0, none⟩) 16 k27), (25, .int .i64 16), (26, .int .i64 j)])
  (fun j w' => j ≤ 16 ∧ MapIs w' r (binMap.take j) ∧ Row w' ⟨b26, 0, none⟩ ((ops8 16).map (.int .u8 ·)) ∧ Blk w' b19 [.slice a7 (solidT (lexT s).1).length k8, .int .i64 0, .int .i64 s.length, .map (some r), .int .i64 (lexT s).2.1, .int .i64 (lexT s).2.2] ∧
   Toks (fun b => w5.heap.size ≤ b ∧ b < r) w' (solidT (lexT s).1) a7 ∧ Syms w' ∧ Errs w' ∧ Ext w w' ∧ w32.heap.size ≤ w'.heap.size) (fun j => 16 - j) 0 (by (refine sub_cons rfl ?_; refine sub_cons rfl ?_; refine sub_cons rfl ?_; refine sub_cons rfl ?_; exact sub_nil)) ⟨Nat.zero_le _, h15, h30, h22, h9, hS, hE, X, Nat.le_refl _⟩ ?_
 rintro j w1 ⟨hj, hM, hrow, hb, hT, hS, hE, X, hz⟩
 clear h15 h30 h22 h9 h3
 by_cases hlt : j < 16
 · have hr1 : Row w1 ⟨b26, 0 + j * 1, none⟩ [.int .u8 (8 + (j : Int))] := by
    have h1 := hrow.sub j 1
    have e : (((ops8 16).map (.int .u8 ·)).drop j).take 1 = [Value.int .u8 (8 + (j : Int))] := by
     have : j = 0 ∨ j = 1 ∨ j = 2 ∨ j = 3 ∨ j = 4 ∨ j = 5 ∨ j = 6 ∨ j = 7 ∨ j = 8 ∨ j = 9 ∨ j = 10 ∨ j = 11 ∨ j = 12 ∨ j = 13 ∨ j = 14 ∨ j = 15 := by omega
     rcases this with rfl | rfl | rfl | rfl | rfl | rfl | rfl | rfl | rfl | rfl | rfl | rfl | rfl | rfl | rfl | rfl <;> rfl
    rw [e] at h1
    rw [Nat.mul_one]; exact h1
   have hset := setS_bin j hlt
   focus
    refine cS (lw_pure (pur_lss rfl rfl) rfl (cT (cw_seq ?_)))
    refine cw_yes rfl (by omega) ?_
    refine cw_skip (qw_then (cw_seq (cw_block (cS ?_))))
    refine lw_pure (pur_indexAddr tabOk rfl rfl rfl rfl (by omega) (by omega)) rfl ?_
    refine lw_load_r0 tabOk rfl rfl rfl hr1 rfl rfl (cA rfl rfl (cT ?_))
    (refine cw_tdraw (fun wz => Ext w1 wz) 7 (.pure 0 (.pure 1 (.pure 2 (.pure 3 (.pure 4 (.pure 6 (.fork 5 .tail .none))))))) mixed (by kernel_rfl) (panicOk_block (panicOk_then (panicOk_then (panicOk_block (panicOk_then panicOk_body))))) ?_; intro wa1 xa2 _)
    have qsa3 : (fun wz => Ext w1 wz) wa1 := xa2
    simp only at qsa3
    have d_hM := hM
    have d_hrow := hrow
    have d_hb := hb
    have d_hT := hT
    have d_hS := hS
    have d_hE := hE
    have d_hr1 := hr1
    have za4 := Ext.size xa2
    replace hM := MapIs.ext hM xa2
    replace hrow := Row.ext hrow xa2
    replace hb := Blk.ext hb xa2
    replace hT := Toks.ext hT xa2
    replace hS := Syms.ext hS xa2
    replace hE := Errs.ext hE xa2
    replace X := Ext.ext X xa2
    replace hr1 := Row.ext hr1 xa2
    clear xa2
    refine ⟨qsa3, ?_⟩
    refine tw_pure rfl (pur_move rfl) rfl (tw_pure rfl (pur_nilCheck rfl) rfl (tw_pure rfl (pur_fieldAddr tabOk rfl rfl rfl) rfl (tw_pure rfl (pur_load tabOk rfl rfl rfl (fun wz hz => Blk.cell (Blk.ext d_hb hz) rfl)) rfl (tw_pure rfl (pur_move rfl) rfl (tw_pure rfl (pur_move rfl) rfl ?_)))))
    refine tw_does rfl (does_call (by kernel_rfl) rfl (arith_Symbol_s _ _ (by omega) (by omega) (by assumption)) (fun _ _ h => ⟨_, h.1⟩)) rfl ?_ (fun _ h => h) tw_none
    rintro _ wa5 ⟨⟨⟩, rfl⟩
    refine ⟨qsa3, ?_⟩
    clear qsa3 d_hM d_hrow d_hb d_hT d_hS d_hE d_hr1
    refine tw_tail rfl (lw_mapput tabOk rfl rfl rfl rfl rfl hM ?_)
    rintro wa6 ha7 fa8
    have za9 := Fr.size fa8
    clear hM
    replace hrow := Row.fr hrow fa8 (by simp only; omega)
    replace hb := Blk.fr hb fa8 (by omega)
    replace hT := Toks.fr hT fa8 (by omega)
    replace hS := Syms.fr hS fa8 (by omega)
    replace hE := Errs.fr hE fa8 (by omega)
    replace X := Ext.fr X fa8 (by omega)
    replace hr1 := Row.fr hr1 fa8 (by simp only; omega)
    clear fa8
    refine lw_nil (qw_block_norm (qw_then (cw_region ?_)))
    refine lw_pure (pur_add rfl rfl (IntWalk.i64_in _ (by omega))) rfl ?_
    refine cM rfl rfl (lw_nil ?_)
    rotate_left 1
   refine qw_round (j + 1) (by (refine sub_cons rfl ?_; refine sub_cons rfl ?_; refine sub_cons rfl ?_; refine sub_cons rfl ?_; exact sub_nil)) ⟨by omega, by rw [← hset]; assumption, hrow, hb, hT, hS, hE, X, by omega⟩ (by omega)
 · have : j = 16 := by omega
   subst this
   focus
    refine cS (lw_pure (pur_lss rfl rfl) rfl (cT (cw_seq ?_)))
    refine cw_no rfl (by decide) ?_
    refine cw_exit (qw_then_exit (qw_then_exit (qw_block_exit (qw_then (cS (cM rfl rfl (cA rfl rfl (cT (cw_ret (qw_ret1 rfl rfl ?_))))))))))
    rotate_left 1
   have hsz := X.size
   refine ⟨⟨b19, w1.heap.size, solidT (lexT s).1, s.length, a7, k8, r⟩, rfl, ⟨rfl, rfl, by simp only; omega⟩, ?_, X, Nat.le_refl _⟩
   refine ⟨hb, hT.wide (fun b h => ⟨by simp only; omega, by simp only; omega⟩), hM, by simp only; omega, by simp only; omega, by simp only; omega, Nat.le_refl _, Nat.zero_le _, ?_, fun t ht => ?_, fun t ht => (solid_ok s t ht).num, hE, by simp only; omega⟩
   · exact Nat.le_trans (start_len s) hs
   · exact Nat.le_trans (solid_ok s t ht).len hs
end Bk
namespace Bk
open Go Go.RowKit Go.Proofs
attribute [local irreducible] Go.Calls
theorem fuel_ok {c : PC} {s : List UInt8} (h : c.ts = (startP s).1) (σ : PS) : 4 * mS c.ts σ + 20 ≤ fuelP s := by
 have h1 := start_len s
 have h2 : mS c.ts σ ≤ c.ts.length := by unfold mS; split <;> omega
 rw [h] at h2
 unfold fuelP
 rw [h]
 omega
def ParseR (w : World) (r : Nd × Int × Int) : Ending → World → Prop := fun e w' => ∃ a k, e = .returned (.tuple #[r.1.val a k, .int .i64 r.2.1, .int .i64 r.2.2]) ∧ r.1.sits (w.heap.size ≤ ·) w' a ∧ Ext w w'
theorem ParseR.ret {w : World} {r : Nd × Int × Int} {e : Ending} {w' : World} (h : ParseR w r e w') : ∃ v, e = .returned v := by
 obtain ⟨_, _, h, -⟩ := h
 exact ⟨_, h⟩
def ParsePR (w : World) (r : PG × Int × Int) : Ending → World → Prop := fun e w' => ∃ va vc pa pc ma mc, e = .returned (.tuple #[.agg (r.1.cells va vc pa pc ma mc).toArray, .int .i64 r.2.1, .int .i64 r.2.2]) ∧ r.1.sits (w.heap.size ≤ ·) w' va pa ma ∧ Ext w w'
theorem ParsePR.ret {w : World} {r : PG × Int × Int} {e : Ending} {w' : World} (h : ParsePR w r e w') : ∃ v, e = .returned v := by
 obtain ⟨_, _, _, _, _, _, h, -⟩ := h
 exact ⟨_, h⟩
theorem PG.sits.wide {S S' : Nat → Prop} {w : World} {g : PG} {va pa ma : Option Addr} (h : g.sits S w va pa ma) (hs : ∀ b, S b → S' b) : g.sits S' w va pa ma := ⟨h.vars.wide hs, h.procs.wide hs, h.main.wide hs⟩
theorem parseExpr_whole (s : List UInt8) (c : PC) (h1 : c.ts = (startP s).1) (h2 : c.n = s.length) : parseExpr s = wholeT (exprP c.ts c.n (fuelP s) 1 (startP s).2).1 (limitP (exprP c.ts c.n (fuelP s) 1 (startP s).2).1 0 (finishP c.ts c.n (exprP c.ts c.n (fuelP s) 1 (startP s).2).2)) := by
 unfold parseExpr wholeT
 rw [h1, h2]
set_option maxRecDepth 100000 in
set_option maxHeartbeats 4000000 in
theorem Expr_p (s : List UInt8) (w : World) (hs : s.length ≤ 1000000) (hS : Syms w) (hE : Errs w) : Calls Tryz.prog 12 #[str s] w (ParseR w (parseExpr s)) := by
 have X := Ext.refl w
 refine calls_in Tryz.func12 Tryz.ntmps12 rfl rfl ?_
 focus
  refine cS ?_
  (refine lw_alloc' [_, _, _, _] zOk rfl rfl ?_; intro b1 w2 n3)
  have h5 := New.blk n3
  have x6 := New.ext n3
  have p7 := New.pos n3
  have z8 := New.size n3
  clear n3
  replace hS := Syms.ext hS x6
  replace hE := Errs.ext hE x6
  replace X := Ext.ext X x6
  clear x6
  refine cA rfl rfl (cA rfl rfl (cN (cM rfl rfl ?_)))
  refine lw_does (does_call (by kernel_rfl) rfl (start_c s _ hs (by assumption) (by assumption)) (fun _ _ h => h.ret)) rfl ?_ (fun _ h => h)
  rintro _ w16 ⟨c9, ⟨⟨⟩, ⟨⟨h10, ⟨h11, h12⟩⟩, ⟨h13, ⟨x14, h15⟩⟩⟩⟩⟩
  have z17 := Ext.size x14
  replace h5 := Blk.ext h5 x14
  replace hS := Syms.ext hS x14
  replace hE := Errs.ext hE x14
  replace X := Ext.ext X x14
  clear x14
  refine cA rfl rfl (cN (cM rfl rfl ?_))
  rotate_left 1
 have hf := fuel_ok h10 (startP s).2
 have hat := h13.at_
 have hlen := h13.len
 have hpb := h13.pbB
 have hB := h13.B
 rw [parseExpr_whole s c9 h10 h11]
 have hle := expr_le (n := c9.n) (k := fuelP s) (lv := 1) hat
 have hsz := exprs_size (n := c9.n) (k := fuelP s) (lv := 1) hat
 have hwf := hle.wf
 have hsz2 : (exprP c9.ts c9.n (fuelP s) 1 (startP s).2).1.size ≤ 1000000000 := by omega
 focus
  refine lw_does (does_call (by kernel_rfl) rfl ((exprs_c c9 (fuelP s)).expr _ _ _ (by assumption) (by omega) (by decide) (by decide)) (fun _ _ h => h.ret)) rfl ?_ (fun _ h => h)
  rintro _ wa6 ⟨aa1, ⟨ka2, ⟨⟨⟩, ⟨ha3, ⟨ha4, fa5⟩⟩⟩⟩⟩
  have za7 := Fr.size fa5
  clear h13
  replace h5 := Blk.fr h5 fa5 (by omega)
  replace hS := Syms.fr hS fa5 (by omega)
  clear hE
  replace X := Ext.fr X fa5 (by omega)
  clear fa5
  (refine lw_alloc' [_, _, _, _] zOk rfl rfl ?_; intro ba8 wa9 na10)
  (refine lw_init' [_, _, _, _] tabOk rfl rfl rfl rfl rfl rfl na10 rfl ?_; clear na10; clear wa9; intro wa11 na10)
  have ha12 := New.blk na10
  have xa13 := New.ext na10
  have pa14 := New.pos na10
  have za15 := New.size na10
  clear na10
  replace ha3 := Nd.sits.ext ha3 xa13
  replace ha4 := PP.ext ha4 xa13
  replace h5 := Blk.ext h5 xa13
  replace hS := Syms.ext hS xa13
  replace X := Ext.ext X xa13
  clear xa13
  refine cN (cM rfl rfl ?_)
  refine lw_does (does_call (by kernel_rfl) rfl (finish_c _ _ _ (by assumption)) (fun _ _ h => ⟨_, h.1⟩)) rfl ?_ (fun _ h => h)
  rintro _ wa18 ⟨⟨⟩, ⟨ha16, fa17⟩⟩
  have za19 := Fr.size fa17
  replace ha12 := Blk.fr ha12 fa17 (by omega)
  replace ha3 := Nd.sits.fr ha3 fa17 (by omega)
  clear ha4
  replace h5 := Blk.fr h5 fa17 (by omega)
  replace hS := Syms.fr hS fa17 (by omega)
  replace X := Ext.fr X fa17 (by omega)
  clear fa17
  refine cN (cM rfl rfl (lw_loads_b' [_, _, _, _] tabOk rfl rfl rfl ha12 rfl rfl rfl ?_))
  refine lw_does (does_call (by kernel_rfl) rfl (whole_c _ _ _ _ _ _ _ (by assumption) (by assumption) (by assumption) (by intro b h; exact ⟨by omega, by omega⟩)) (fun _ _ h => h.ret)) rfl ?_ (fun _ h => h)
  rintro _ wa24 ⟨aa20, ⟨ka21, ⟨⟨⟩, ⟨ha22, fa23⟩⟩⟩⟩
  have za25 := Fr.size fa23
  clear ha16
  replace ha12 := Blk.fr ha12 fa23 (by omega)
  replace ha3 := Nd.sits.fr ha3 fa23 (by omega)
  replace h5 := Blk.fr h5 fa23 (by omega)
  replace hS := Syms.fr hS fa23 (by omega)
  replace X := Ext.fr X fa23 (by omega)
  clear fa23
  refine lw_pure (pur_extract rfl rfl) rfl (lw_pure (pur_extract rfl rfl) rfl (lw_pure (pur_extract rfl rfl) rfl ?_))
  (refine lw_store' [_, _, _, _] [_, _, _, _] tabOk rfl rfl rfl rfl rfl rfl h5 rfl rfl ?_; intro wa26 na27)
  have ha30 := Put.blk na27
  have fa28 := Put.fr na27
  have za29 := Put.size na27
  clear na27 h5
  replace ha22 := Nd.sits.fr ha22 fa28 (by omega)
  replace ha12 := Blk.fr ha12 fa28 (by omega)
  replace ha3 := Nd.sits.fr ha3 fa28 (by omega)
  clear hS
  replace X := Ext.fr X fa28 (by omega)
  clear fa28
  refine cA rfl rfl (cA rfl rfl (cT (cw_ret (qw_retc3 rfl tabOk rfl rfl rfl ha30 rfl rfl rfl ?_))))
  rotate_left 1
 exact ⟨_, _, rfl, Nd.sits.wide (by assumption) (fun b h => by omega), X⟩
section
variable {ts : List Tok} {n : Int}
theorem lines_le (k : Nat) : ∀ acc σ, σ.at_ ≤ ts.length → Le ts σ (linesP ts n k acc σ).2 := by
 induction k with
 | zero => intro acc σ h; rw [linesP]; exact Le.refl h
 | succ k ih =>
  intro acc σ h
  rw [linesP]
  split
  · have l1 := (stmt_inv (ts := ts) (n := n) k).1 σ h
    have l2 := expect_le (n := n) (t := [59]) l1.wf (by decide)
    exact (l1.trans l2).trans (ih _ _ l2.wf)
  · exact Le.refl h
theorem lines_size (k : Nat) : ∀ acc σ, σ.at_ ≤ ts.length → rowSize (linesP ts n k acc σ).1 + 8 * σ.at_ ≤ 8 * (linesP ts n k acc σ).2.at_ + rowSize acc + (if σ.err = 0 then 1 else 0) := by
 induction k with
 | zero => intro acc σ h; rw [linesP]; simp only; split <;> omega
 | succ k ih =>
  intro acc σ h
  rw [linesP]
  split
  · rename_i h0
    have s1 := (stmt_size (ts := ts) (n := n) k).1 σ h
    have l1 := (stmt_inv (ts := ts) (n := n) k).1 σ h
    have l2 := expect_le (n := n) (t := [59]) l1.wf (by decide)
    have s3 := ih (acc ++ [(stmtP ts n k σ).1]) _ l2.wf
    rw [rowSize_append] at s3
    simp only [rowSize] at s3
    have e2 := l2.le
    have e3 : (expectP ts n (stmtP ts n k σ).2 [59]).err = 0 → (stmtP ts n k σ).2.at_ + 1 ≤ (expectP ts n (stmtP ts n k σ).2 [59]).at_ := fun e => expect_lt (n := n) e
    rw [if_pos h0.1]
    split at s3
    · rename_i e; have := e3 e; omega
    · omega
  · simp only; split <;> omega
end
theorem parseBlock_whole (s : List UInt8) (c : PC) (h1 : c.ts = (startP s).1) (h2 : c.n = s.length) : parseBlock s = wholeT (.mk 57 0 [] (linesP c.ts c.n (fuelP s) [] (startP s).2).1) (limitP (.mk 57 0 [] (linesP c.ts c.n (fuelP s) [] (startP s).2).1) 0 (linesP c.ts c.n (fuelP s) [] (startP s).2).2) := by
 unfold parseBlock wholeT
 rw [h1, h2]
set_option maxRecDepth 100000 in
set_option maxHeartbeats 4000000 in
theorem Block_p (s : List UInt8) (w : World) (hs : s.length ≤ 1000000) (hS : Syms w) (hE : Errs w) : Calls Tryz.prog 15 #[str s] w (ParseR w (parseBlock s)) := by
 have X := Ext.refl w
 refine calls_in Tryz.func15 Tryz.ntmps15 rfl rfl ?_
 focus
  refine cS ?_
  (refine lw_alloc' [_, _, _, _] zOk rfl rfl ?_; intro b1 w2 n3)
  have h5 := New.blk n3
  have x6 := New.ext n3
  have p7 := New.pos n3
  have z8 := New.size n3
  clear n3
  replace hS := Syms.ext hS x6
  replace hE := Errs.ext hE x6
  replace X := Ext.ext X x6
  clear x6
  refine cA rfl rfl (cA rfl rfl (cN (cM rfl rfl ?_)))
  refine lw_does (does_call (by kernel_rfl) rfl (start_c s _ hs (by assumption) (by assumption)) (fun _ _ h => h.ret)) rfl ?_ (fun _ h => h)
  rintro _ w16 ⟨c9, ⟨⟨⟩, ⟨⟨h10, ⟨h11, h12⟩⟩, ⟨h13, ⟨x14, h15⟩⟩⟩⟩⟩
  have z17 := Ext.size x14
  replace h5 := Blk.ext h5 x14
  replace hS := Syms.ext hS x14
  replace hE := Errs.ext hE x14
  replace X := Ext.ext X x14
  clear x14
  refine cA rfl rfl (cN (lw_pure (pur_build' [_, _, _, _] tabOk zOk rfl rfl rfl rfl) rfl ?_))
  (refine lw_alloc' [_, _, _, _] zOk rfl rfl ?_; intro b18 w19 n20)
  (refine lw_init' [_, _, _, _] tabOk rfl rfl rfl rfl rfl rfl n20 rfl ?_; clear n20; clear w19; intro w21 n20)
  have h22 := New.blk n20
  have x23 := New.ext n20
  have p24 := New.pos n20
  have z25 := New.size n20
  clear n20
  replace h13 := PP.ext h13 x23
  replace h5 := Blk.ext h5 x23
  replace hS := Syms.ext hS x23
  replace hE := Errs.ext hE x23
  replace X := Ext.ext X x23
  clear x23
  refine cT (cw_seq (cw_block ?_))
  rotate_left 1
 have hf := fuel_ok h10 (startP s).2
 have hat := h13.at_
 have hlen := h13.len
 have hpb := h13.pbB
 have hB := h13.B
 rw [parseBlock_whole s c9 h10 h11]
 have hbs := lines_size (n := c9.n) (fuelP s) [] _ hat
 have hbw := (lines_le (n := c9.n) (fuelP s) [] _ hat).wf
 have hsz : (Nd.mk 57 0 [] (linesP c9.ts c9.n (fuelP s) [] (startP s).2).1).size ≤ 1000000000 := by
  simp only [Nd.size, rowSize] at hbs ⊢
  split at hbs <;> omega
 have hmt : mS c9.ts (startP s).2 ≤ c9.ts.length := by unfold mS; split <;> omega
 clear hbs hbw
 refine cw_loop (ι := Nat × List Nd × Option Addr × Nat × PS) (fun _ => [(2, .pointer (some ⟨b1, 0, none⟩)), (3, .int .i64 0), (4, .int .i64 0), (5, .pointer (some ⟨c9.pb, 0, none⟩)), (6, .pointer (some ⟨b18, 0, none⟩))])
  (fun x w' => PP c9 x.2.2.2.2 w' ∧ Blk w' b18 [.int .u8 57, .int .i64 0, str [], .slice x.2.2.1 x.2.1.length x.2.2.2.1] ∧ OwnL ndShape w' (b18 + 1) 27 (.slice x.2.2.1 x.2.1.length x.2.2.2.1) x.2.1 ∧
   Blk w' b1 [.int .u8 0, .int .i64 0, .string ⟨#[]⟩, .slice none 0 0] ∧ Ext w w' ∧ w21.heap.size ≤ w'.heap.size ∧
   linesP c9.ts c9.n (fuelP s) [] (startP s).2 = linesP c9.ts c9.n x.1 x.2.1 x.2.2.2.2 ∧ (x.2.2.2.2.err = 0 → 4 * mS c9.ts x.2.2.2.2 + 7 ≤ x.1) ∧ 1 ≤ x.1 ∧ (x.2.2.2.2.err = 0 → x.2.1.length + mS c9.ts x.2.2.2.2 ≤ 1000001)) (fun x => x.1) (fuelP s, [], none, 0, (startP s).2) (by (refine sub_cons rfl ?_; refine sub_cons rfl ?_; refine sub_cons rfl ?_; refine sub_cons rfl ?_; refine sub_cons rfl ?_; exact sub_nil))
  ⟨h13, h22, OwnL.nil, h5, X, Nat.le_refl _, rfl, fun _ => by simp only; omega, by simp only; omega, fun _ => by simp only [List.length_nil]; omega⟩ ?_
 rintro ⟨j, acc, a, cap, σ'⟩ w1 ⟨hP, hbn, hown, hbr, X, hz, he, hfj, hj1, hacc⟩
 simp only at hP hbn hown he hfj hj1 hacc
 clear h13 h22 h5 hS hE
 rw [he] at hsz ⊢
 obtain ⟨j, rfl⟩ : ∃ i, j = i + 1 := ⟨j - 1, by omega⟩
 have hob : ∀ g, (Value.slice a acc.length cap).ownBlock = some g → g < w1.heap.size := fun g h => hown.lt h
 by_cases hc : σ'.err = 0 ∧ σ'.at_ < c9.ts.length
 case neg =>
  rw [show linesP c9.ts c9.n (j + 1) acc σ' = (acc, σ') from by rw [linesP]; simp [hc]] at hsz ⊢
  have hst : (Nd.mk 57 0 [] acc).sits (fun b => w.heap.size ≤ b ∧ b ≠ c9.pb ∧ b ≠ b1 ∧ b < w1.heap.size) w1 a := Nd.sits.wide (sits_lt2 _ _ (sits_mk (hown.sits (S := (b18 < ·)) (fun b h => h)))) (fun b h => ⟨by omega, by omega, by omega, h.2⟩)
  by_cases h0 : σ'.err = 0
  · have h1 : ¬ σ'.at_ < c9.ts.length := fun h => hc ⟨h0, h⟩
    focus
     refine cw_seq (cw_seq ?_)
     (refine cw_tdraw (fun wz => Ext w1 wz) 15 (.pure 0 (.pure 1 (.pure 2 (.pure 3 (.pure 4 (.pure 5 (.pure 6 (.pure 7 (.pure 8 (.pure 9 (.pure 10 (.pure 11 (.pure 12 (.pure 13 (.pure 14 .tail))))))))))))))) mixed (by kernel_rfl) (panicOk_then (panicOk_then (panicOk_then (panicOk_block (panicOk_then panicOk_body))))) ?_; intro wa1 xa2 _)
     have qsa3 : (fun wz => Ext w1 wz) wa1 := xa2
     simp only at qsa3
     have d_hP := hP
     have d_hbn := hbn
     have d_hown := hown
     have d_hbr := hbr
     have d_hst := hst
     have za4 := Ext.size xa2
     replace hP := PP.ext hP xa2
     replace hbn := Blk.ext hbn xa2
     replace hown := OwnL.ext hown xa2
     replace hbr := Blk.ext hbr xa2
     replace X := Ext.ext X xa2
     replace hst := Nd.sits.ext hst xa2
     clear xa2
     refine ⟨qsa3, ?_⟩
     refine tw_pure rfl (pur_move rfl) rfl (tw_pure rfl (pur_nilCheck rfl) rfl (tw_pure rfl (pur_fieldAddr tabOk rfl rfl rfl) rfl (tw_pure rfl (pur_load tabOk rfl rfl rfl (fun wz hz => Blk.cell (Blk.ext (PP.blk d_hP) hz) rfl)) rfl (tw_pure rfl (pur_eql rfl rfl) rfl (tw_pure rfl (pur_move rfl) rfl ?_)))))
     refine tw_on rfl rfl rfl rfl (gd_tt (by assumption)) (pur_move rfl) rfl ?_
     refine tw_on rfl rfl rfl rfl (gd_tt (by assumption)) (pur_nilCheck rfl) rfl ?_
     refine tw_on rfl rfl rfl rfl (gd_tt (by assumption)) (pur_fieldAddr tabOk rfl rfl rfl) rfl ?_
     refine tw_on rfl rfl rfl rfl (gd_tt (by assumption)) (pur_load tabOk rfl rfl rfl (fun wz hz => Blk.cell (Blk.ext (PP.blk d_hP) hz) rfl)) rfl ?_
     refine tw_on rfl rfl rfl rfl (gd_tt (by assumption)) (pur_move rfl) rfl ?_
     refine tw_on rfl rfl rfl rfl (gd_tt (by assumption)) (pur_nilCheck rfl) rfl ?_
     refine tw_on rfl rfl rfl rfl (gd_tt (by assumption)) (pur_fieldAddr0 tabOk rfl rfl rfl) rfl ?_
     refine tw_on rfl rfl rfl rfl (gd_tt (by assumption)) (pur_load tabOk rfl rfl rfl (fun wz hz => Blk.cell (Blk.ext (PP.blk d_hP) hz) rfl)) rfl ?_
     refine tw_on rfl rfl rfl rfl (gd_tt (by assumption)) (pur_len_slice tabOk rfl rfl) rfl ?_
     clear qsa3 d_hP d_hbn d_hown d_hbr d_hst
     refine tw_tail rfl ?_
     refine lw_on rfl rfl rfl (gd_tt (by assumption)) ?_
     refine lw_pure (pur_lss rfl rfl) rfl ?_
     refine lw_pure (pur_pick_yes rfl rfl (by assumption)) rfl ?_
     refine cT ?_
     refine cw_no rfl (by omega) ?_
     refine cw_exit (qw_then_exit (qw_then_exit (qw_block_exit (qw_then (cS (cM rfl rfl (lw_loads_b' [_, _, _, _] tabOk rfl rfl rfl hbn rfl rfl rfl ?_)))))))
     refine lw_does (does_call (by kernel_rfl) rfl (whole_c _ _ (.mk 57 0 [] acc) _ _ _ _ (by assumption) hsz (by assumption) (by intro b h; exact ⟨by omega, by omega⟩)) (fun _ _ h => h.ret)) rfl ?_ (fun _ h => h)
     rintro _ wa9 ⟨aa5, ⟨ka6, ⟨⟨⟩, ⟨ha7, fa8⟩⟩⟩⟩
     have za10 := Fr.size fa8
     clear hP
     replace hbn := Blk.fr hbn fa8 (by omega)
     replace hown := OwnL.fr hown fa8 (by omega)
     replace hbr := Blk.fr hbr fa8 (by omega)
     replace X := Ext.fr X fa8 (by omega)
     replace hst := Nd.sits.fr hst fa8 (by omega)
     clear fa8
     refine lw_pure (pur_extract rfl rfl) rfl (lw_pure (pur_extract rfl rfl) rfl (lw_pure (pur_extract rfl rfl) rfl ?_))
     (refine lw_store' [_, _, _, _] [_, _, _, _] tabOk rfl rfl rfl rfl rfl rfl hbr rfl rfl ?_; intro wa11 na12)
     have ha15 := Put.blk na12
     have fa13 := Put.fr na12
     have za14 := Put.size na12
     clear na12 hbr
     replace ha7 := Nd.sits.fr ha7 fa13 (by omega)
     replace hbn := Blk.fr hbn fa13 (by omega)
     replace hown := OwnL.fr hown fa13 (by omega)
     replace X := Ext.fr X fa13 (by omega)
     replace hst := Nd.sits.fr hst fa13 (by omega)
     clear fa13
     refine cA rfl rfl (cA rfl rfl (cT (cw_ret (qw_retc3 rfl tabOk rfl rfl rfl ha15 rfl rfl rfl ?_))))
     rotate_left 1
    exact ⟨_, _, rfl, Nd.sits.wide (by assumption) (fun b h => by omega), X⟩
  · focus
     refine cw_seq (cw_seq ?_)
     (refine cw_tdraw (fun wz => Ext w1 wz) 15 (.pure 0 (.pure 1 (.pure 2 (.pure 3 (.pure 4 (.pure 5 (.pure 6 (.pure 7 (.pure 8 (.pure 9 (.pure 10 (.pure 11 (.pure 12 (.pure 13 (.pure 14 .tail))))))))))))))) mixed (by kernel_rfl) (panicOk_then (panicOk_then (panicOk_then (panicOk_block (panicOk_then panicOk_body))))) ?_; intro wb1 xb2 _)
     have qsb3 : (fun wz => Ext w1 wz) wb1 := xb2
     simp only at qsb3
     have d_hP := hP
     have d_hbn := hbn
     have d_hown := hown
     have d_hbr := hbr
     have d_hst := hst
     have zb4 := Ext.size xb2
     replace hP := PP.ext hP xb2
     replace hbn := Blk.ext hbn xb2
     replace hown := OwnL.ext hown xb2
     replace hbr := Blk.ext hbr xb2
     replace X := Ext.ext X xb2
     replace hst := Nd.sits.ext hst xb2
     clear xb2
     refine ⟨qsb3, ?_⟩
     refine tw_pure rfl (pur_move rfl) rfl (tw_pure rfl (pur_nilCheck rfl) rfl (tw_pure rfl (pur_fieldAddr tabOk rfl rfl rfl) rfl (tw_pure rfl (pur_load tabOk rfl rfl rfl (fun wz hz => Blk.cell (Blk.ext (PP.blk d_hP) hz) rfl)) rfl (tw_pure rfl (pur_eql rfl rfl) rfl (tw_pure rfl (pur_move rfl) rfl ?_)))))
     refine tw_off rfl rfl rfl rfl (gd_tf (by assumption)) rfl ?_
     refine tw_off rfl rfl rfl rfl (gd_tf (by assumption)) rfl ?_
     refine tw_off rfl rfl rfl rfl (gd_tf (by assumption)) rfl ?_
     refine tw_off rfl rfl rfl rfl (gd_tf (by assumption)) rfl ?_
     refine tw_off rfl rfl rfl rfl (gd_tf (by assumption)) rfl ?_
     refine tw_off rfl rfl rfl rfl (gd_tf (by assumption)) rfl ?_
     refine tw_off rfl rfl rfl rfl (gd_tf (by assumption)) rfl ?_
     refine tw_off rfl rfl rfl rfl (gd_tf (by assumption)) rfl ?_
     refine tw_off rfl rfl rfl rfl (gd_tf (by assumption)) rfl ?_
     clear qsb3 d_hP d_hbn d_hown d_hbr d_hst
     refine tw_tail rfl ?_
     refine lw_off rfl rfl rfl (gd_tf (by assumption)) rfl ?_
     refine lw_pure (pur_pick_no rfl rfl (by assumption)) rfl ?_
     refine cT (cw_cond_f rfl (cw_exit (qw_then_exit (qw_then_exit (qw_block_exit (qw_then (cS (cM rfl rfl (lw_loads_b' [_, _, _, _] tabOk rfl rfl rfl hbn rfl rfl rfl ?_)))))))))
     refine lw_does (does_call (by kernel_rfl) rfl (whole_c _ _ (.mk 57 0 [] acc) _ _ _ _ (by assumption) hsz (by assumption) (by intro b h; exact ⟨by omega, by omega⟩)) (fun _ _ h => h.ret)) rfl ?_ (fun _ h => h)
     rintro _ wb9 ⟨ab5, ⟨kb6, ⟨⟨⟩, ⟨hb7, fb8⟩⟩⟩⟩
     have zb10 := Fr.size fb8
     clear hP
     replace hbn := Blk.fr hbn fb8 (by omega)
     replace hown := OwnL.fr hown fb8 (by omega)
     replace hbr := Blk.fr hbr fb8 (by omega)
     replace X := Ext.fr X fb8 (by omega)
     replace hst := Nd.sits.fr hst fb8 (by omega)
     clear fb8
     refine lw_pure (pur_extract rfl rfl) rfl (lw_pure (pur_extract rfl rfl) rfl (lw_pure (pur_extract rfl rfl) rfl ?_))
     (refine lw_store' [_, _, _, _] [_, _, _, _] tabOk rfl rfl rfl rfl rfl rfl hbr rfl rfl ?_; intro wb11 nb12)
     have hb15 := Put.blk nb12
     have fb13 := Put.fr nb12
     have zb14 := Put.size nb12
     clear nb12 hbr
     replace hb7 := Nd.sits.fr hb7 fb13 (by omega)
     replace hbn := Blk.fr hbn fb13 (by omega)
     replace hown := OwnL.fr hown fb13 (by omega)
     replace X := Ext.fr X fb13 (by omega)
     replace hst := Nd.sits.fr hst fb13 (by omega)
     clear fb13
     refine cA rfl rfl (cA rfl rfl (cT (cw_ret (qw_retc3 rfl tabOk rfl rfl rfl hb15 rfl rfl rfl ?_))))
     rotate_left 1
    exact ⟨_, _, rfl, Nd.sits.wide (by assumption) (fun b h => by omega), X⟩
 rw [show linesP c9.ts c9.n (j + 1) acc σ' = linesP c9.ts c9.n j (acc ++ [(stmtP c9.ts c9.n j σ').1]) (expectP c9.ts c9.n (stmtP c9.ts c9.n j σ').2 [59]) from by rw [linesP]; simp [hc]] at hsz ⊢
 obtain ⟨h0, h1⟩ := hc
 have l1 := (stmt_inv (ts := c9.ts) (n := c9.n) j).1 σ' hP.at_
 have l2 := expect_le (n := c9.n) (t := [59]) l1.wf (by decide)
 have hlt : Lt σ' (expectP c9.ts c9.n (stmtP c9.ts c9.n j σ').2 [59]) := Lt.of_le l1 expect_lt
 have hdrop := mS_drop (l1.trans l2) hlt
 have hacc0 := hacc h0
 have hfj0 := hfj h0
 clear l1 l2
 focus
  refine cw_seq (cw_seq ?_)
  (refine cw_tdraw (fun wz => Ext w1 wz) 15 (.pure 0 (.pure 1 (.pure 2 (.pure 3 (.pure 4 (.pure 5 (.pure 6 (.pure 7 (.pure 8 (.pure 9 (.pure 10 (.pure 11 (.pure 12 (.pure 13 (.pure 14 .tail))))))))))))))) mixed (by kernel_rfl) (panicOk_then (panicOk_then (panicOk_then (panicOk_block (panicOk_then panicOk_body))))) ?_; intro wc1 xc2 _)
  have qsc3 : (fun wz => Ext w1 wz) wc1 := xc2
  simp only at qsc3
  have d_hP := hP
  have d_hbn := hbn
  have d_hown := hown
  have d_hbr := hbr
  have zc4 := Ext.size xc2
  replace hP := PP.ext hP xc2
  replace hbn := Blk.ext hbn xc2
  replace hown := OwnL.ext hown xc2
  replace hbr := Blk.ext hbr xc2
  replace X := Ext.ext X xc2
  clear xc2
  refine ⟨qsc3, ?_⟩
  refine tw_pure rfl (pur_move rfl) rfl (tw_pure rfl (pur_nilCheck rfl) rfl (tw_pure rfl (pur_fieldAddr tabOk rfl rfl rfl) rfl (tw_pure rfl (pur_load tabOk rfl rfl rfl (fun wz hz => Blk.cell (Blk.ext (PP.blk d_hP) hz) rfl)) rfl (tw_pure rfl (pur_eql rfl rfl) rfl (tw_pure rfl (pur_move rfl) rfl ?_)))))
  refine tw_on rfl rfl rfl rfl (gd_tt (by assumption)) (pur_move rfl) rfl ?_
  refine tw_on rfl rfl rfl rfl (gd_tt (by assumption)) (pur_nilCheck rfl) rfl ?_
  refine tw_on rfl rfl rfl rfl (gd_tt (by assumption)) (pur_fieldAddr tabOk rfl rfl rfl) rfl ?_
  refine tw_on rfl rfl rfl rfl (gd_tt (by assumption)) (pur_load tabOk rfl rfl rfl (fun wz hz => Blk.cell (Blk.ext (PP.blk d_hP) hz) rfl)) rfl ?_
  refine tw_on rfl rfl rfl rfl (gd_tt (by assumption)) (pur_move rfl) rfl ?_
  refine tw_on rfl rfl rfl rfl (gd_tt (by assumption)) (pur_nilCheck rfl) rfl ?_
  refine tw_on rfl rfl rfl rfl (gd_tt (by assumption)) (pur_fieldAddr0 tabOk rfl rfl rfl) rfl ?_
  refine tw_on rfl rfl rfl rfl (gd_tt (by assumption)) (pur_load tabOk rfl rfl rfl (fun wz hz => Blk.cell (Blk.ext (PP.blk d_hP) hz) rfl)) rfl ?_
  refine tw_on rfl rfl rfl rfl (gd_tt (by assumption)) (pur_len_slice tabOk rfl rfl) rfl ?_
  clear qsc3 d_hP d_hbn d_hown d_hbr
  refine tw_tail rfl ?_
  refine lw_on rfl rfl rfl (gd_tt (by assumption)) ?_
  refine lw_pure (pur_lss rfl rfl) rfl ?_
  refine lw_pure (pur_pick_yes rfl rfl (by assumption)) rfl ?_
  refine cT ?_
  refine cw_yes rfl (by omega) ?_
  refine cw_skip (qw_then (cw_block (cw_seq ?_)))
  (refine cw_tdraw (fun wz => Fr (· = c9.pb) wc1 wz) 5 (.pure 0 (.pure 1 (.pure 2 (.fork 3 (.fork 4 .tail .none) .none)))) mixed (by kernel_rfl) (panicOk_then (panicOk_block (panicOk_then (panicOk_block (panicOk_then panicOk_body))))) ?_; intro wc5 xc6 _)
  have qsc7 : (fun wz => Fr (· = c9.pb) wc1 wz) wc5 := Fr.of_ext xc6
  simp only at qsc7
  have d_hP := hP
  have d_hbn := hbn
  have d_hown := hown
  have d_hbr := hbr
  have zc8 := Ext.size xc6
  replace hP := PP.ext hP xc6
  replace hbn := Blk.ext hbn xc6
  replace hown := OwnL.ext hown xc6
  replace hbr := Blk.ext hbr xc6
  replace X := Ext.ext X xc6
  clear xc6
  refine ⟨qsc7, ?_⟩
  refine tw_pure rfl (pur_fieldAddr tabOk rfl rfl rfl) rfl ?_
  refine tw_pure rfl (pur_load tabOk rfl rfl rfl (fun wz hz => Blk.cell (Blk.fr d_hbn hz (by omega)) rfl)) rfl ?_
  refine tw_pure rfl (pur_move rfl) rfl ?_
  refine tw_does rfl (does_call (by kernel_rfl) rfl ((stmts_c c9 j).stmt _ _ (by assumption) (by omega)) (fun _ _ h => h.ret)) rfl ?_ (fun _ h => h) tw_none
  rintro _ wc14 ⟨ac9, ⟨kc10, ⟨⟨⟩, ⟨hc11, ⟨hc12, fc13⟩⟩⟩⟩⟩
  have zc15 := Fr.size fc13
  replace qsc7 := Fr.fr qsc7 fc13 (by omega)
  clear hP
  replace hbn := Blk.fr hbn fc13 (by omega)
  replace hown := OwnL.fr hown fc13 (by omega)
  replace hbr := Blk.fr hbr fc13 (by omega)
  replace X := Ext.fr X fc13 (by omega)
  clear fc13
  refine ⟨qsc7, ?_⟩
  (refine tw_does rfl (does_slice' [_, _, _, _] tabOk zOk rfl rfl rfl rfl rfl rfl rfl rfl rfl) rfl ?_ (fun _ h => h) tw_none; rintro _ wc17 ⟨bc16, rfl, nc18, tc19⟩)
  clear tc19
  have hc20 := New.blk nc18
  have xc21 := New.ext nc18
  have pc22 := New.pos nc18
  have zc23 := New.size nc18
  clear nc18
  replace hc11 := Nd.sits.ext hc11 xc21
  replace hc12 := PP.ext hc12 xc21
  replace qsc7 := Fr.ext qsc7 xc21
  replace hbn := Blk.ext hbn xc21
  replace hown := OwnL.ext hown xc21
  replace hbr := Blk.ext hbr xc21
  replace X := Ext.ext X xc21
  clear xc21
  refine ⟨qsc7, ?_⟩
  clear d_hP d_hbn d_hown d_hbr qsc7
  refine tw_tail rfl ?_
  refine lw_appendL (sh := ndShape) tabOk zOk rfl rfl rfl rfl (by kernel_rfl) rfl rfl rfl hown (Blk.row (by assumption)) ⟨_, _, rfl, Nd.sits.wide (by assumption) (fun b h => ⟨by omega, fun e => by have := hob _ e; omega⟩)⟩ (by omega) (by omega) rfl ?_
  rintro gc24 cap'c25 wc26 hc27 fc28
  have zc29 := Fr.size fc28
  clear hc20 hc11
  replace hc12 := PP.fr hc12 fc28 (by omega)
  replace hbn := Blk.fr hbn fc28 (by omega)
  clear hown
  replace hbr := Blk.fr hbr fc28 (by omega)
  replace X := Ext.fr X fc28 (by omega)
  clear fc28
  refine lw_pure (pur_fieldAddr tabOk rfl rfl rfl) rfl ?_
  (refine lw_store' [_] [_, _, _, _] tabOk rfl rfl rfl rfl rfl rfl hbn rfl rfl ?_; intro wc30 nc31)
  have hc34 := Put.blk nc31
  have fc32 := Put.fr nc31
  have zc33 := Put.size nc31
  clear nc31 hbn
  replace hc27 := OwnL.fr hc27 fc32 (by omega)
  replace hc12 := PP.fr hc12 fc32 (by omega)
  replace hbr := Blk.fr hbr fc32 (by omega)
  replace X := Ext.fr X fc32 (by omega)
  clear fc32
  refine cT (cw_region (cM rfl rfl ?_))
  refine lw_does (does_call (by kernel_rfl) rfl (expect_c _ _ _ _ (by assumption) (by decide)) (fun _ _ h => ⟨_, h.1⟩)) rfl ?_ (fun _ h => h)
  rintro _ wc37 ⟨⟨⟩, ⟨hc35, fc36⟩⟩
  have zc38 := Fr.size fc36
  replace hc34 := Blk.fr hc34 fc36 (by omega)
  replace hc27 := OwnL.fr hc27 fc36 (by omega)
  clear hc12
  replace hbr := Blk.fr hbr fc36 (by omega)
  replace X := Ext.fr X fc36 (by omega)
  clear fc36
  refine lw_nil (qw_block_norm ?_)
  rotate_left 1
 refine qw_round (j, acc ++ [(stmtP c9.ts c9.n j σ').1], some ⟨_, 0, none⟩, _, expectP c9.ts c9.n (stmtP c9.ts c9.n j σ').2 [59]) (by (refine sub_cons rfl ?_; refine sub_cons rfl ?_; refine sub_cons rfl ?_; refine sub_cons rfl ?_; refine sub_cons rfl ?_; exact sub_nil)) ⟨by assumption, by assumption, by assumption, by assumption, X, by omega, rfl, fun e => by have := hdrop e; simp only; omega, by simp only; omega, fun e => ?_⟩ (by simp)
 have := hdrop e
 simp only [List.length_append, List.length_cons, List.length_nil]
 omega
set_option maxRecDepth 100000 in
set_option maxHeartbeats 4000000 in
theorem Program_p (s : List UInt8) (w : World) (hs : s.length ≤ 1000000) (hS : Syms w) (hE : Errs w) : Calls Tryz.prog 9 #[str s] w (ParsePR w (parseProgram s)) := by
 have X := Ext.refl w
 refine calls_in Tryz.func9 Tryz.ntmps9 rfl rfl ?_
 focus
  refine cS ?_
  (refine lw_alloc' [_, _, _, _, _, _] zOk rfl rfl ?_; intro b1 w2 n3)
  have h5 := New.blk n3
  have x6 := New.ext n3
  have p7 := New.pos n3
  have z8 := New.size n3
  clear n3
  replace hS := Syms.ext hS x6
  replace hE := Errs.ext hE x6
  replace X := Ext.ext X x6
  clear x6
  refine cA rfl rfl (cA rfl rfl (cN (cM rfl rfl ?_)))
  refine lw_does (does_call (by kernel_rfl) rfl (start_c s _ hs (by assumption) (by assumption)) (fun _ _ h => h.ret)) rfl ?_ (fun _ h => h)
  rintro _ w16 ⟨c9, ⟨⟨⟩, ⟨⟨h10, ⟨h11, h12⟩⟩, ⟨h13, ⟨x14, h15⟩⟩⟩⟩⟩
  have z17 := Ext.size x14
  replace h5 := Blk.ext h5 x14
  replace hS := Syms.ext hS x14
  replace hE := Errs.ext hE x14
  replace X := Ext.ext X x14
  clear x14
  refine cA rfl rfl (cN (cM rfl rfl ?_))
  rotate_left 1
 have hf := fuel_ok h10 (startP s).2
 have hat := h13.at_
 have hlen := h13.len
 have hpb := h13.pbB
 have hB := h13.B
 have hpe : parseProgram s = if (finishP c9.ts c9.n (programP c9.ts c9.n (fuelP s) (startP s).2).2).err ≠ 0 then (⟨[], [], zeroNd⟩, (finishP c9.ts c9.n (programP c9.ts c9.n (fuelP s) (startP s).2).2).off, (finishP c9.ts c9.n (programP c9.ts c9.n (fuelP s) (startP s).2).2).err) else ((programP c9.ts c9.n (fuelP s) (startP s).2).1, 0, 0) := by
  unfold parseProgram
  rw [h10, h11]
 rw [hpe]
 by_cases he : (finishP c9.ts c9.n (programP c9.ts c9.n (fuelP s) (startP s).2).2).err = 0
 · rw [if_neg (fun h => h he)]
   focus
    refine lw_does (does_call (by kernel_rfl) rfl (program_c c9 (fuelP s) _ _ (by assumption) (by omega)) (fun _ _ h => h.ret)) rfl ?_ (fun _ h => h)
    rintro _ wa10 ⟨vaa1, ⟨vca2, ⟨paa3, ⟨pca4, ⟨maa5, ⟨mca6, ⟨⟨⟩, ⟨ha7, ⟨ha8, fa9⟩⟩⟩⟩⟩⟩⟩⟩⟩
    have za11 := Fr.size fa9
    clear h13
    replace h5 := Blk.fr h5 fa9 (by omega)
    replace hS := Syms.fr hS fa9 (by omega)
    clear hE
    replace X := Ext.fr X fa9 (by omega)
    clear fa9
    (refine lw_alloc' [_, _, _, _, _, _] zOk rfl rfl ?_; intro ba12 wa13 na14)
    (refine lw_init' [_, _, _, _, _, _] tabOk rfl rfl rfl rfl rfl rfl na14 rfl ?_; clear na14; clear wa13; intro wa15 na14)
    have ha16 := New.blk na14
    have xa17 := New.ext na14
    have pa18 := New.pos na14
    have za19 := New.size na14
    clear na14
    replace ha7 := PG.sits.ext ha7 xa17
    replace ha8 := PP.ext ha8 xa17
    replace h5 := Blk.ext h5 xa17
    replace hS := Syms.ext hS xa17
    replace X := Ext.ext X xa17
    clear xa17
    refine cN (cM rfl rfl ?_)
    refine lw_does (does_call (by kernel_rfl) rfl (finish_c _ _ _ (by assumption)) (fun _ _ h => ⟨_, h.1⟩)) rfl ?_ (fun _ h => h)
    rintro _ wa22 ⟨⟨⟩, ⟨ha20, fa21⟩⟩
    have za23 := Fr.size fa21
    replace ha16 := Blk.fr ha16 fa21 (by omega)
    replace ha7 := PG.sits.fr ha7 fa21 (by omega)
    clear ha8
    replace h5 := Blk.fr h5 fa21 (by omega)
    replace hS := Syms.fr hS fa21 (by omega)
    replace X := Ext.fr X fa21 (by omega)
    clear fa21
    refine cT (cw_seq (cS (cM rfl rfl (lw_pure (pur_nilCheck rfl) rfl (lw_pure (pur_fieldAddr tabOk rfl rfl rfl) rfl (lw_load_b tabOk rfl rfl rfl (PP.blk ha20) rfl rfl (lw_pure (pur_neq rfl rfl) rfl (cT ?_))))))))
    refine cw_no rfl (by omega) ?_
    refine cw_skip (qw_then (cS (lw_loads_b' [_, _, _, _, _, _] tabOk rfl rfl rfl ha16 rfl rfl rfl ?_)))
    (refine lw_store' [_, _, _, _, _, _] [_, _, _, _, _, _] tabOk rfl rfl rfl rfl rfl rfl h5 rfl rfl ?_; intro wa24 na25)
    have ha28 := Put.blk na25
    have fa26 := Put.fr na25
    have za27 := Put.size na25
    clear na25 h5 ha20
    replace ha16 := Blk.fr ha16 fa26 (by omega)
    replace ha7 := PG.sits.fr ha7 fa26 (by omega)
    clear hS
    replace X := Ext.fr X fa26 (by omega)
    clear fa26
    refine cA rfl rfl (cA rfl rfl (cT (cw_ret (qw_retc3 rfl tabOk rfl rfl rfl ha28 rfl rfl rfl ?_))))
    rotate_left 1
   exact ⟨_, _, _, _, _, _, rfl, PG.sits.wide (by assumption) (fun b h => by omega), X⟩
 · rw [if_pos he]
   focus
    refine lw_does (does_call (by kernel_rfl) rfl (program_c c9 (fuelP s) _ _ (by assumption) (by omega)) (fun _ _ h => h.ret)) rfl ?_ (fun _ h => h)
    rintro _ wb10 ⟨vab1, ⟨vcb2, ⟨pab3, ⟨pcb4, ⟨mab5, ⟨mcb6, ⟨⟨⟩, ⟨hb7, ⟨hb8, fb9⟩⟩⟩⟩⟩⟩⟩⟩⟩
    have zb11 := Fr.size fb9
    clear h13
    replace h5 := Blk.fr h5 fb9 (by omega)
    replace hS := Syms.fr hS fb9 (by omega)
    clear hE
    replace X := Ext.fr X fb9 (by omega)
    clear fb9
    (refine lw_alloc' [_, _, _, _, _, _] zOk rfl rfl ?_; intro bb12 wb13 nb14)
    (refine lw_init' [_, _, _, _, _, _] tabOk rfl rfl rfl rfl rfl rfl nb14 rfl ?_; clear nb14; clear wb13; intro wb15 nb14)
    have hb16 := New.blk nb14
    have xb17 := New.ext nb14
    have pb18 := New.pos nb14
    have zb19 := New.size nb14
    clear nb14
    replace hb7 := PG.sits.ext hb7 xb17
    replace hb8 := PP.ext hb8 xb17
    replace h5 := Blk.ext h5 xb17
    replace hS := Syms.ext hS xb17
    replace X := Ext.ext X xb17
    clear xb17
    refine cN (cM rfl rfl ?_)
    refine lw_does (does_call (by kernel_rfl) rfl (finish_c _ _ _ (by assumption)) (fun _ _ h => ⟨_, h.1⟩)) rfl ?_ (fun _ h => h)
    rintro _ wb22 ⟨⟨⟩, ⟨hb20, fb21⟩⟩
    have zb23 := Fr.size fb21
    replace hb16 := Blk.fr hb16 fb21 (by omega)
    replace hb7 := PG.sits.fr hb7 fb21 (by omega)
    clear hb8
    replace h5 := Blk.fr h5 fb21 (by omega)
    replace hS := Syms.fr hS fb21 (by omega)
    replace X := Ext.fr X fb21 (by omega)
    clear fb21
    refine cT (cw_seq (cS (cM rfl rfl (lw_pure (pur_nilCheck rfl) rfl (lw_pure (pur_fieldAddr tabOk rfl rfl rfl) rfl (lw_load_b tabOk rfl rfl rfl (PP.blk hb20) rfl rfl (lw_pure (pur_neq rfl rfl) rfl (cT ?_))))))))
    refine cw_yes rfl (by assumption) ?_
    refine cw_seq ?_
    (refine cw_tdraw (fun wz => Fr (fun x => x = b1) wb22 wz) 11 (.pure 0 (.pure 1 (.pure 2 (.pure 3 (.pure 4 (.pure 5 (.pure 6 (.pure 7 (.pure 8 (.fork 9 (.pure 10 .tail) .none)))))))))) mixed (by kernel_rfl) (panicOk_then (panicOk_then panicOk_body)) ?_; intro wb24 xb25 _)
    have qsb26 : (fun wz => Fr (fun x => x = b1) wb22 wz) wb24 := Fr.of_ext xb25
    simp only at qsb26
    have d_hb20 := hb20
    have d_hb16 := hb16
    have d_hb7 := hb7
    have d_h5 := h5
    have d_hS := hS
    have zb27 := Ext.size xb25
    replace hb20 := PP.ext hb20 xb25
    replace hb16 := Blk.ext hb16 xb25
    replace hb7 := PG.sits.ext hb7 xb25
    replace h5 := Blk.ext h5 xb25
    replace hS := Syms.ext hS xb25
    replace X := Ext.ext X xb25
    clear xb25
    refine ⟨qsb26, ?_⟩
    refine tw_pure rfl (pur_build' [_, _, _, _, _, _] tabOk zOk rfl rfl rfl rfl) rfl (tw_pure rfl (pur_move rfl) rfl (tw_pure rfl (pur_nilCheck rfl) rfl (tw_pure rfl (pur_fieldAddr tabOk rfl rfl rfl) rfl ?_)))
    refine tw_pure rfl (pur_load tabOk rfl rfl rfl (fun wz hz => Blk.cell (Blk.fr (PP.blk d_hb20) hz (by omega)) rfl)) rfl ?_
    refine tw_pure rfl (pur_move rfl) rfl (tw_pure rfl (pur_nilCheck rfl) rfl (tw_pure rfl (pur_fieldAddr tabOk rfl rfl rfl) rfl ?_))
    refine tw_pure rfl (pur_load tabOk rfl rfl rfl (fun wz hz => Blk.cell (Blk.fr (PP.blk d_hb20) hz (by omega)) rfl)) rfl ?_
    (refine tw_store [_, _, _, _, _, _] [_, _, _, _, _, _] rfl tabOk rfl rfl rfl rfl rfl rfl h5 rfl rfl ?_ tw_none; intro wb28 nb29)
    have hb32 := Put.blk nb29
    have fb30 := Put.fr nb29
    have zb31 := Put.size nb29
    clear nb29 h5
    replace qsb26 := Fr.fr qsb26 fb30 (by omega)
    clear hb20
    replace hb16 := Blk.fr hb16 fb30 (by omega)
    replace hb7 := PG.sits.fr hb7 fb30 (by omega)
    clear hS
    replace X := Ext.fr X fb30 (by omega)
    clear fb30
    refine ⟨qsb26, ?_⟩
    refine tw_pure rfl (pur_assign rfl) rfl ?_
    clear d_hb20 d_hb16 d_hb7 d_h5 d_hS qsb26
    refine tw_tail rfl (cA rfl rfl (cT (cw_ret (qw_then_ret (qw_retc3 rfl tabOk rfl rfl rfl hb32 rfl rfl rfl ?_)))))
    rotate_left 1
   exact ⟨_, _, _, _, _, _, rfl, ⟨Or.inl rfl, Or.inl rfl, sits_nil⟩, X⟩
end Bk
namespace Bk
open Go Go.RowKit Go.Proofs
attribute [local irreducible] Go.Calls
def Two (w : World) (k x y : Int) : Ending → World → Prop := fun e w' => ∃ kb ko c x1 x2 x3 y1 y2 y3, e = .returned (.tuple #[.agg #[.int .u8 k, .int .i64 0, str [], .slice (some ⟨kb, ko, none⟩) 2 c], .int .i64 0, .int .i64 0]) ∧ Row w' ⟨kb, ko + 0 * 4, none⟩ [.int .u8 x, x1, x2, x3] ∧ Row w' ⟨kb, ko + 1 * 4, none⟩ [.int .u8 y, y1, y2, y3] ∧ Ext w w'
theorem Two.ret {w : World} {k x y : Int} {e : Ending} {w' : World} (h : Two w k x y e w') : ∃ v, e = .returned v := by
 obtain ⟨_, _, _, _, _, _, _, _, _, h, -⟩ := h
 exact ⟨_, h⟩
theorem aw1_p (w : World) (hS : Syms w) (hE : Errs w) : Calls Tryz.prog 12 #[str [49, 32, 45, 32, 50, 32, 45, 32, 51, 32, 42, 32, 120]] w (Two w 9 9 10) := by
 have := Expr_p [49, 32, 45, 32, 50, 32, 45, 32, 51, 32, 42, 32, 120] w (by decide) hS hE
 rw [aw1] at this
 refine this.mono ?_
 rintro e w' ⟨a, k, rfl, hs, x⟩
 simp only [Nd.sits] at hs
 obtain ⟨b, o, rfl, -, hk⟩ := kidRows hs (by simp)
 obtain ⟨a0, c0, r0, -⟩ := hk 0 _ rfl
 obtain ⟨a1, c1, r1, -⟩ := hk 1 _ rfl
 exact ⟨b, o, k, _, _, _, _, _, _, rfl, r0, r1, x⟩
theorem aw2_p (w : World) (hS : Syms w) (hE : Errs w) : Calls Tryz.prog 12 #[str [49, 32, 43]] w (ParseR w (zeroNd, 3, 4)) := by
 have := Expr_p [49, 32, 43] w (by decide) hS hE
 rw [aw2] at this; exact this
theorem aw3_p (w : World) (hS : Syms w) (hE : Errs w) : Calls Tryz.prog 12 #[str [49, 32, 50]] w (ParseR w (zeroNd, 2, 3)) := by
 have := Expr_p [49, 32, 50] w (by decide) hS hE
 rw [aw3] at this; exact this
def OneS (w : World) (x : Int) : Ending → World → Prop := fun e w' => ∃ va vc pa pc kb ko c x1 x2 x3, e = .returned (.tuple #[.agg #[.slice va 0 vc, .slice pa 0 pc, .int .u8 57, .int .i64 0, str [], .slice (some ⟨kb, ko, none⟩) 1 c], .int .i64 0, .int .i64 0]) ∧ Row w' ⟨kb, ko + 0 * 4, none⟩ [.int .u8 x, x1, x2, x3] ∧ Ext w w'
theorem OneS.ret {w : World} {x : Int} {e : Ending} {w' : World} (h : OneS w x e w') : ∃ v, e = .returned v := by
 obtain ⟨_, _, _, _, _, _, _, _, _, _, h, -⟩ := h
 exact ⟨_, h⟩
theorem aw4_p (w : World) (hS : Syms w) (hE : Errs w) : Calls Tryz.prog 9 #[str [109, 97, 105, 110, 32, 123, 32, 120, 32, 43, 61, 32, 49, 59, 32, 125]] w (OneS w 40) := by
 have := Program_p [109, 97, 105, 110, 32, 123, 32, 120, 32, 43, 61, 32, 49, 59, 32, 125] w (by decide) hS hE
 rw [aw4] at this
 refine this.mono ?_
 rintro e w' ⟨va, vc, pa, pc, ma, mc, rfl, hs, x⟩
 have hm := hs.main
 simp only [Nd.sits] at hm
 obtain ⟨b, o, rfl, -, hk⟩ := kidRows hm (by simp)
 obtain ⟨a0, c0, r0, -⟩ := hk 0 _ rfl
 exact ⟨va, vc, pa, pc, b, o, mc, _, _, _, rfl, r0, x⟩
theorem aw5_p (w : World) (hS : Syms w) (hE : Errs w) : Calls Tryz.prog 9 #[str [109, 97, 105, 110, 32, 123, 32, 120, 32, 43, 61, 32, 49, 32, 125]] w (ParsePR w (⟨[], [], zeroNd⟩, 14, 3)) := by
 have := Program_p [109, 97, 105, 110, 32, 123, 32, 120, 32, 43, 61, 32, 49, 32, 125] w (by decide) hS hE
 rw [aw5] at this; exact this
set_option maxRecDepth 100000 in
set_option maxHeartbeats 4000000 in
theorem awake4_c (w : World) (hS : Syms w) (hE : Errs w) : Calls Tryz.prog 8 #[] w fun e w' => e = .returned (.bool true) ∧ Ext w w' := by
 have X := Ext.refl w
 refine calls_in (args := []) Tryz.func8 Tryz.ntmps8 rfl rfl ?_
 focus
  refine cS (cA rfl rfl (cN ?_))
  refine lw_does (does_call (by kernel_rfl) rfl (aw1_p _ (by assumption) (by assumption)) (fun _ _ h => h.ret)) rfl ?_ (fun _ h => h)
  rintro _ w13 ⟨kb1, ⟨ko2, ⟨c3, ⟨x14, ⟨x25, ⟨x36, ⟨y17, ⟨y28, ⟨y39, ⟨⟨⟩, ⟨h10, ⟨h11, x12⟩⟩⟩⟩⟩⟩⟩⟩⟩⟩⟩⟩
  have z14 := Ext.size x12
  replace hS := Syms.ext hS x12
  replace hE := Errs.ext hE x12
  replace X := Ext.ext X x12
  clear x12
  refine cM rfl rfl (lw_pure (pur_extract rfl rfl) rfl (lw_pure (pur_extract rfl rfl) rfl (lw_pure (pur_extract rfl rfl) rfl ?_)))
  (refine lw_alloc' [_, _, _, _] zOk rfl rfl ?_; intro b15 w16 n17)
  (refine lw_init' [_, _, _, _] tabOk rfl rfl rfl rfl rfl rfl n17 rfl ?_; clear n17; clear w16; intro w18 n17)
  have h19 := New.blk n17
  have x20 := New.ext n17
  have p21 := New.pos n17
  have z22 := New.size n17
  clear n17
  replace h10 := Row.ext h10 x20
  replace h11 := Row.ext h11 x20
  replace hS := Syms.ext hS x20
  replace hE := Errs.ext hE x20
  replace X := Ext.ext X x20
  clear x20
  refine cA rfl rfl (cA rfl rfl (cN ?_))
  refine lw_does (does_call (by kernel_rfl) rfl (aw2_p _ (by assumption) (by assumption)) (fun _ _ h => h.ret)) rfl ?_ (fun _ h => h)
  rintro _ w27 ⟨a23, ⟨k24, ⟨⟨⟩, ⟨h25, x26⟩⟩⟩⟩
  have z28 := Ext.size x26
  replace h19 := Blk.ext h19 x26
  replace h10 := Row.ext h10 x26
  replace h11 := Row.ext h11 x26
  replace hS := Syms.ext hS x26
  replace hE := Errs.ext hE x26
  replace X := Ext.ext X x26
  clear x26
  refine cM rfl rfl (lw_pure (pur_extract rfl rfl) rfl (lw_pure (pur_extract rfl rfl) rfl (lw_pure (pur_extract rfl rfl) rfl ?_)))
  (refine lw_alloc' [_, _, _, _] zOk rfl rfl ?_; intro b29 w30 n31)
  (refine lw_init' [_, _, _, _] tabOk rfl rfl rfl rfl rfl rfl n31 rfl ?_; clear n31; clear w30; intro w32 n31)
  have h33 := New.blk n31
  dsimp only at h33
  have x34 := New.ext n31
  have p35 := New.pos n31
  have z36 := New.size n31
  clear n31
  replace h25 := Nd.sits.ext h25 x34
  replace h19 := Blk.ext h19 x34
  replace h10 := Row.ext h10 x34
  replace h11 := Row.ext h11 x34
  replace hS := Syms.ext hS x34
  replace hE := Errs.ext hE x34
  replace X := Ext.ext X x34
  clear x34
  refine cA rfl rfl (cA rfl rfl (cN ?_))
  refine lw_does (does_call (by kernel_rfl) rfl (aw3_p _ (by assumption) (by assumption)) (fun _ _ h => h.ret)) rfl ?_ (fun _ h => h)
  rintro _ w41 ⟨a37, ⟨k38, ⟨⟨⟩, ⟨h39, x40⟩⟩⟩⟩
  have z42 := Ext.size x40
  replace h33 := Blk.ext h33 x40
  replace h25 := Nd.sits.ext h25 x40
  replace h19 := Blk.ext h19 x40
  replace h10 := Row.ext h10 x40
  replace h11 := Row.ext h11 x40
  replace hS := Syms.ext hS x40
  replace hE := Errs.ext hE x40
  replace X := Ext.ext X x40
  clear x40
  refine cM rfl rfl (lw_pure (pur_extract rfl rfl) rfl (lw_pure (pur_extract rfl rfl) rfl (lw_pure (pur_extract rfl rfl) rfl ?_)))
  (refine lw_alloc' [_, _, _, _] zOk rfl rfl ?_; intro b43 w44 n45)
  (refine lw_init' [_, _, _, _] tabOk rfl rfl rfl rfl rfl rfl n45 rfl ?_; clear n45; clear w44; intro w46 n45)
  have h47 := New.blk n45
  dsimp only at h47
  have x48 := New.ext n45
  have p49 := New.pos n45
  have z50 := New.size n45
  clear n45
  replace h39 := Nd.sits.ext h39 x48
  replace h33 := Blk.ext h33 x48
  replace h25 := Nd.sits.ext h25 x48
  replace h19 := Blk.ext h19 x48
  replace h10 := Row.ext h10 x48
  replace h11 := Row.ext h11 x48
  replace hS := Syms.ext hS x48
  replace hE := Errs.ext hE x48
  replace X := Ext.ext X x48
  clear x48
  refine cA rfl rfl (cA rfl rfl (cN ?_))
  refine lw_does (does_call (by kernel_rfl) rfl (aw4_p _ (by assumption) (by assumption)) (fun _ _ h => h.ret)) rfl ?_ (fun _ h => h)
  rintro _ w63 ⟨va51, ⟨vc52, ⟨pa53, ⟨pc54, ⟨kb55, ⟨ko56, ⟨c57, ⟨x158, ⟨x259, ⟨x360, ⟨⟨⟩, ⟨h61, x62⟩⟩⟩⟩⟩⟩⟩⟩⟩⟩⟩⟩
  have z64 := Ext.size x62
  replace h47 := Blk.ext h47 x62
  replace h39 := Nd.sits.ext h39 x62
  replace h33 := Blk.ext h33 x62
  replace h25 := Nd.sits.ext h25 x62
  replace h19 := Blk.ext h19 x62
  replace h10 := Row.ext h10 x62
  replace h11 := Row.ext h11 x62
  replace hS := Syms.ext hS x62
  replace hE := Errs.ext hE x62
  replace X := Ext.ext X x62
  clear x62
  refine cM rfl rfl (lw_pure (pur_extract rfl rfl) rfl (lw_pure (pur_extract rfl rfl) rfl (lw_pure (pur_extract rfl rfl) rfl ?_)))
  (refine lw_alloc' [_, _, _, _, _, _] zOk rfl rfl ?_; intro b65 w66 n67)
  (refine lw_init' [_, _, _, _, _, _] tabOk rfl rfl rfl rfl rfl rfl n67 rfl ?_; clear n67; clear w66; intro w68 n67)
  have h69 := New.blk n67
  have x70 := New.ext n67
  have p71 := New.pos n67
  have z72 := New.size n67
  clear n67
  replace h61 := Row.ext h61 x70
  replace h47 := Blk.ext h47 x70
  replace h39 := Nd.sits.ext h39 x70
  replace h33 := Blk.ext h33 x70
  replace h25 := Nd.sits.ext h25 x70
  replace h19 := Blk.ext h19 x70
  replace h10 := Row.ext h10 x70
  replace h11 := Row.ext h11 x70
  replace hS := Syms.ext hS x70
  replace hE := Errs.ext hE x70
  replace X := Ext.ext X x70
  clear x70
  refine cA rfl rfl (cA rfl rfl (cN ?_))
  refine lw_does (does_call (by kernel_rfl) rfl (aw5_p _ (by assumption) (by assumption)) (fun _ _ h => h.ret)) rfl ?_ (fun _ h => h)
  rintro _ w81 ⟨va73, ⟨vc74, ⟨pa75, ⟨pc76, ⟨ma77, ⟨mc78, ⟨⟨⟩, ⟨h79, x80⟩⟩⟩⟩⟩⟩⟩⟩
  have z82 := Ext.size x80
  replace h69 := Blk.ext h69 x80
  replace h61 := Row.ext h61 x80
  replace h47 := Blk.ext h47 x80
  replace h39 := Nd.sits.ext h39 x80
  replace h33 := Blk.ext h33 x80
  replace h25 := Nd.sits.ext h25 x80
  replace h19 := Blk.ext h19 x80
  replace h10 := Row.ext h10 x80
  replace h11 := Row.ext h11 x80
  replace hS := Syms.ext hS x80
  replace hE := Errs.ext hE x80
  replace X := Ext.ext X x80
  clear x80
  refine cM rfl rfl (lw_pure (pur_extract rfl rfl) rfl (lw_pure (pur_extract rfl rfl) rfl (lw_pure (pur_extract rfl rfl) rfl ?_)))
  (refine lw_alloc' [_, _, _, _, _, _] zOk rfl rfl ?_; intro b83 w84 n85)
  (refine lw_init' [_, _, _, _, _, _] tabOk rfl rfl rfl rfl rfl rfl n85 rfl ?_; clear n85; clear w84; intro w86 n85)
  have h87 := New.blk n85
  dsimp only at h87
  have x88 := New.ext n85
  have p89 := New.pos n85
  have z90 := New.size n85
  clear n85
  replace h79 := PG.sits.ext h79 x88
  replace h69 := Blk.ext h69 x88
  replace h61 := Row.ext h61 x88
  replace h47 := Blk.ext h47 x88
  replace h39 := Nd.sits.ext h39 x88
  replace h33 := Blk.ext h33 x88
  replace h25 := Nd.sits.ext h25 x88
  replace h19 := Blk.ext h19 x88
  replace h10 := Row.ext h10 x88
  replace h11 := Row.ext h11 x88
  replace hS := Syms.ext hS x88
  replace hE := Errs.ext hE x88
  replace X := Ext.ext X x88
  clear x88
  refine cA rfl rfl (cA rfl rfl (cN (cM rfl rfl (lw_pure (pur_eql rfl rfl) rfl (cM rfl rfl ?_)))))
  refine lw_on rfl rfl rfl (gd_tt (by decide)) ?_
  refine lw_pure (pur_fieldAddr0 tabOk rfl rfl rfl) rfl ?_
  refine lw_on rfl rfl rfl (gd_tt (by decide)) ?_
  refine lw_load_b tabOk rfl rfl rfl h19 rfl rfl ?_
  refine lw_on rfl rfl rfl (gd_tt (by decide)) ?_
  refine lw_pure (pur_eql rfl rfl) rfl ?_
  refine lw_pure (pur_pick_yes rfl rfl (by decide)) rfl ?_
  refine cM rfl rfl ?_
  refine lw_on rfl rfl rfl (gd_tt (by decide)) ?_
  refine lw_pure (pur_fieldAddr tabOk rfl rfl rfl) rfl ?_
  refine lw_on rfl rfl rfl (gd_tt (by decide)) ?_
  refine lw_load_b tabOk rfl rfl rfl h19 rfl rfl ?_
  refine lw_on rfl rfl rfl (gd_tt (by decide)) ?_
  refine lw_pure (pur_len_slice tabOk rfl rfl) rfl ?_
  refine lw_on rfl rfl rfl (gd_tt (by decide)) ?_
  refine lw_pure (pur_eql rfl rfl) rfl ?_
  refine lw_pure (pur_pick_yes rfl rfl (by decide)) rfl ?_
  refine cM rfl rfl ?_
  refine lw_on rfl rfl rfl (gd_tt (by decide)) ?_
  refine lw_pure (pur_fieldAddr tabOk rfl rfl rfl) rfl ?_
  refine lw_on rfl rfl rfl (gd_tt (by decide)) ?_
  refine lw_load_b tabOk rfl rfl rfl h19 rfl rfl ?_
  refine lw_on rfl rfl rfl (gd_tt (by decide)) ?_
  refine lw_pure (pur_indexAddr tabOk rfl rfl rfl rfl (by omega) (by omega)) rfl ?_
  refine lw_on rfl rfl rfl (gd_tt (by decide)) ?_
  refine lw_pure (pur_fieldAddr0 tabOk rfl rfl rfl) rfl ?_
  refine lw_on rfl rfl rfl (gd_tt (by decide)) ?_
  refine lw_load_r tabOk rfl rfl rfl h10 rfl rfl ?_
  refine lw_on rfl rfl rfl (gd_tt (by decide)) ?_
  refine lw_pure (pur_eql rfl rfl) rfl ?_
  refine lw_pure (pur_pick_yes rfl rfl (by decide)) rfl ?_
  refine cM rfl rfl ?_
  refine lw_on rfl rfl rfl (gd_tt (by decide)) ?_
  refine lw_pure (pur_fieldAddr tabOk rfl rfl rfl) rfl ?_
  refine lw_on rfl rfl rfl (gd_tt (by decide)) ?_
  refine lw_load_b tabOk rfl rfl rfl h19 rfl rfl ?_
  refine lw_on rfl rfl rfl (gd_tt (by decide)) ?_
  refine lw_pure (pur_indexAddr tabOk rfl rfl rfl rfl (by omega) (by omega)) rfl ?_
  refine lw_on rfl rfl rfl (gd_tt (by decide)) ?_
  refine lw_pure (pur_fieldAddr0 tabOk rfl rfl rfl) rfl ?_
  refine lw_on rfl rfl rfl (gd_tt (by decide)) ?_
  refine lw_load_r0 tabOk rfl rfl rfl h11 rfl rfl ?_
  refine lw_on rfl rfl rfl (gd_tt (by decide)) ?_
  refine lw_pure (pur_eql rfl rfl) rfl ?_
  refine lw_pure (pur_pick_yes rfl rfl (by decide)) rfl ?_
  refine cM rfl rfl ?_
  refine lw_on rfl rfl rfl (gd_tt (by decide)) ?_
  refine cM rfl rfl ?_
  refine lw_on rfl rfl rfl (gd_tt (by decide)) ?_
  refine lw_pure (pur_eql rfl rfl) rfl ?_
  refine lw_pure (pur_pick_yes rfl rfl (by decide)) rfl ?_
  refine cM rfl rfl ?_
  refine lw_on rfl rfl rfl (gd_tt (by decide)) ?_
  refine cM rfl rfl ?_
  refine lw_on rfl rfl rfl (gd_tt (by decide)) ?_
  refine lw_pure (pur_eql rfl rfl) rfl ?_
  refine lw_pure (pur_pick_yes rfl rfl (by decide)) rfl ?_
  refine cM rfl rfl ?_
  refine lw_on rfl rfl rfl (gd_tt (by decide)) ?_
  refine cM rfl rfl ?_
  refine lw_on rfl rfl rfl (gd_tt (by decide)) ?_
  refine lw_pure (pur_eql rfl rfl) rfl ?_
  refine lw_pure (pur_pick_yes rfl rfl (by decide)) rfl ?_
  refine cM rfl rfl ?_
  refine lw_on rfl rfl rfl (gd_tt (by decide)) ?_
  refine cM rfl rfl ?_
  refine lw_on rfl rfl rfl (gd_tt (by decide)) ?_
  refine lw_pure (pur_eql rfl rfl) rfl ?_
  refine lw_pure (pur_pick_yes rfl rfl (by decide)) rfl ?_
  refine cM rfl rfl ?_
  refine lw_on rfl rfl rfl (gd_tt (by decide)) ?_
  refine cM rfl rfl ?_
  refine lw_on rfl rfl rfl (gd_tt (by decide)) ?_
  refine lw_pure (pur_eql rfl rfl) rfl ?_
  refine lw_pure (pur_pick_yes rfl rfl (by decide)) rfl ?_
  refine cM rfl rfl ?_
  refine lw_on rfl rfl rfl (gd_tt (by decide)) ?_
  refine lw_pure (pur_fieldAddr tabOk rfl rfl rfl) rfl ?_
  refine lw_on rfl rfl rfl (gd_tt (by decide)) ?_
  refine lw_pure (pur_fieldAddr tabOk rfl rfl rfl) rfl ?_
  refine lw_on rfl rfl rfl (gd_tt (by decide)) ?_
  refine lw_load_b tabOk rfl rfl rfl h69 rfl rfl ?_
  refine lw_on rfl rfl rfl (gd_tt (by decide)) ?_
  refine lw_pure (pur_len_slice tabOk rfl rfl) rfl ?_
  refine lw_on rfl rfl rfl (gd_tt (by decide)) ?_
  refine lw_pure (pur_eql rfl rfl) rfl ?_
  refine lw_pure (pur_pick_yes rfl rfl (by decide)) rfl ?_
  refine cM rfl rfl ?_
  refine lw_on rfl rfl rfl (gd_tt (by decide)) ?_
  refine lw_pure (pur_fieldAddr tabOk rfl rfl rfl) rfl ?_
  refine lw_on rfl rfl rfl (gd_tt (by decide)) ?_
  refine lw_pure (pur_fieldAddr tabOk rfl rfl rfl) rfl ?_
  refine lw_on rfl rfl rfl (gd_tt (by decide)) ?_
  refine lw_load_b tabOk rfl rfl rfl h69 rfl rfl ?_
  refine lw_on rfl rfl rfl (gd_tt (by decide)) ?_
  refine lw_pure (pur_indexAddr tabOk rfl rfl rfl rfl (by omega) (by omega)) rfl ?_
  refine lw_on rfl rfl rfl (gd_tt (by decide)) ?_
  refine lw_pure (pur_fieldAddr0 tabOk rfl rfl rfl) rfl ?_
  refine lw_on rfl rfl rfl (gd_tt (by decide)) ?_
  refine lw_load_r tabOk rfl rfl rfl h61 rfl rfl ?_
  refine lw_on rfl rfl rfl (gd_tt (by decide)) ?_
  refine lw_pure (pur_eql rfl rfl) rfl ?_
  refine lw_pure (pur_pick_yes rfl rfl (by decide)) rfl ?_
  refine cM rfl rfl ?_
  refine lw_on rfl rfl rfl (gd_tt (by decide)) ?_
  refine cM rfl rfl ?_
  refine lw_on rfl rfl rfl (gd_tt (by decide)) ?_
  refine lw_pure (pur_eql rfl rfl) rfl ?_
  refine lw_pure (pur_pick_yes rfl rfl (by decide)) rfl ?_
  refine cM rfl rfl ?_
  refine lw_on rfl rfl rfl (gd_tt (by decide)) ?_
  refine cM rfl rfl ?_
  refine lw_on rfl rfl rfl (gd_tt (by decide)) ?_
  refine lw_pure (pur_eql rfl rfl) rfl ?_
  refine lw_pure (pur_pick_yes rfl rfl (by decide)) rfl ?_
  refine cA rfl rfl (cT (cw_ret (qw_ret1 rfl rfl ?_)))
  rotate_left 1
 exact ⟨rfl, X⟩
end Bk
namespace Bk
open Go Go.RowKit Go.Proofs
attribute [local irreducible] Go.Calls
theorem rpeek_off {ts : List Tok} {σ : PS} (h : σ.err ≠ 0 ∨ σ.at_ = ts.length) : peekP ts σ = Tok.zero := by unfold peekP; rw [if_pos h]
theorem rpeek_is {ts : List Tok} {σ : PS} (h : ¬ (σ.err ≠ 0 ∨ σ.at_ = ts.length)) (hl : σ.at_ < ts.length) : peekP ts σ = ts[σ.at_] := by unfold peekP; rw [if_neg h]; simp [hl]
structure RC where
 pb : Nat
 B : Nat
 ts : List Tok
 n : Int
 a : Option Addr
 cap : Nat
abbrev Tok.rcells (t : Tok) : List Value := [str t.text, .int .i64 t.pos]
def RTokAt (w : World) (b o : Nat) (t : Tok) : Prop := Row w ⟨b, o, none⟩ t.rcells
abbrev RC.cells (c : RC) (σ : PS) : List Value := [.slice c.a c.ts.length c.cap, .int .i64 σ.at_, .int .i64 c.n, .int .i64 σ.err, .int .i64 σ.off]
def refName (s : List UInt8) : Bool := decide (s ≠ []) && decide (s.length ≤ 16) && (s.head?.map letter).getD false && !keyword s
structure RP (c : RC) (σ : PS) (w : World) : Prop where
 blk : Blk w c.pb (c.cells σ)
 toks : Arr (fun b => b < c.B ∧ b ≠ c.pb) 2 RTokAt w c.ts c.a
 pbB : c.pb < c.B
 B : c.B ≤ w.heap.size
 at_ : σ.at_ ≤ c.ts.length
 len : c.ts.length ≤ 1000000
 tok : ∀ t ∈ c.ts, t.text.length ≤ 1000000
 nm : ∀ t ∈ c.ts, refName t.text = isName t.text
 num : ∀ t ∈ c.ts, startsDigit t.text = true → ∀ x ∈ t.text, digit x = true
theorem RP.ext {c : RC} {σ : PS} {w w' : World} (h : RP c σ w) (x : Ext w w') : RP c σ w' :=
 ⟨h.blk.ext x, h.toks.mono (fun _ h => h) (fun _ _ _ _ _ h => Row.ext h x), h.pbB, Nat.le_trans h.B x.size, h.at_, h.len, h.tok, h.nm, h.num⟩
theorem RP.fr {c : RC} {σ : PS} {S : Nat → Prop} {w w' : World} (h : RP c σ w) (x : Fr S w w') (hs : ∀ k, S k → c.B ≤ k) : RP c σ w' :=
 ⟨h.blk.fr x (fun e => by have := hs _ e; have := h.pbB; omega), h.toks.mono (fun _ h => h) (fun b _ _ _ hb h => Row.fr h x (fun e => by have h1 := hs _ e; have h2 := hb.1; have h3 : c.B ≤ b := h1; omega)), h.pbB, Nat.le_trans h.B x.size, h.at_, h.len, h.tok, h.nm, h.num⟩
theorem RP.put {c : RC} {σ σ' : PS} {w w' : World} (h : RP c σ w) (p : Put w w' c.pb (c.cells σ')) (ha : σ'.at_ ≤ c.ts.length) : RP c σ' w' :=
 ⟨p.blk, h.toks.mono (fun _ h => h) (fun b _ _ _ hb h => Row.fr h p.fr (fun e => hb.2 e)), h.pbB, Nat.le_trans h.B p.fr.size, ha, h.len, h.tok, h.nm, h.num⟩
section
variable {P : Program} {n : Nat} {ops : Array Oper} {Q : Exit → Act → World → Prop} {rest : List Oper} {l : Sl} {w : World} {tab : Tab} {ty : TypeId} {pos : String} {after : Array Edge}
theorem lw_rp {c : RC} {σ σ' : PS} {x y : Operand} {t sz o : Nat} {s : Sk} {v : Value} (T : TabOk P tab) (ht : lookT tab t = some (s, sz)) (hsz : sz = 1) (hx : ev l x = some (.pointer (some ⟨c.pb, o, none⟩))) (hy : ev l y = some v) (hv : v.cells = #[v]) (h1 : Value.one v = true) (hP : RP c σ w) (ho : Nat.ble (o + 1) 5 = true)
 (he : (c.cells σ).set o v = c.cells σ') (ha : σ'.at_ ≤ c.ts.length) (k : ∀ w1, RP c σ' w1 → Fr (· = c.pb) w w1 → LW P n ops Q rest l w1) : LW P n ops Q (⟨none, .store t x y, ty, pos, after, none⟩ :: rest) l w :=
 lw_store T ht hx hy (us := [v]) hv (by simp [hsz]) (by simp [h1]) hP.blk (by simpa using ho) (fun w1 p => by
  have e : setMany (c.cells σ) o [v] = c.cells σ' := by simp only [setMany]; exact he
  rw [e] at p
  exact k w1 (hP.put p ha) p.fr)
theorem lw_rp_at {c : RC} {σ : PS} {x y : Operand} {t sz : Nat} {s : Sk} (T : TabOk P tab) (ht : lookT tab t = some (s, sz)) (hsz : sz = 1) (hx : ev l x = some (.pointer (some ⟨c.pb, 1, none⟩))) (hy : ev l y = some (.int .i64 ((σ.at_ : Int) + 1))) (hP : RP c σ w) (ha : σ.at_ < c.ts.length)
 (k : ∀ w1, RP c (nextP σ) w1 → Fr (· = c.pb) w w1 → LW P n ops Q rest l w1) : LW P n ops Q (⟨none, .store t x y, ty, pos, after, none⟩ :: rest) l w :=
 lw_rp (σ' := nextP σ) T ht hsz hx hy rfl rfl hP rfl rfl ha k
theorem lw_rp_err {c : RC} {σ : PS} {x y : Operand} {t sz : Nat} {s : Sk} {v : Int} (T : TabOk P tab) (ht : lookT tab t = some (s, sz)) (hsz : sz = 1) (hx : ev l x = some (.pointer (some ⟨c.pb, 3, none⟩))) (hy : ev l y = some (.int .i64 v)) (hP : RP c σ w)
 (k : ∀ w1, RP c ⟨σ.at_, σ.off, v⟩ w1 → Fr (· = c.pb) w w1 → LW P n ops Q rest l w1) : LW P n ops Q (⟨none, .store t x y, ty, pos, after, none⟩ :: rest) l w :=
 lw_rp (σ' := ⟨σ.at_, σ.off, v⟩) T ht hsz hx hy rfl rfl hP rfl rfl hP.at_ k
theorem lw_rp_off {c : RC} {σ : PS} {x y : Operand} {t sz : Nat} {s : Sk} {v : Int} (T : TabOk P tab) (ht : lookT tab t = some (s, sz)) (hsz : sz = 1) (hx : ev l x = some (.pointer (some ⟨c.pb, 4, none⟩))) (hy : ev l y = some (.int .i64 v)) (hP : RP c σ w)
 (k : ∀ w1, RP c ⟨σ.at_, v, σ.err⟩ w1 → Fr (· = c.pb) w w1 → LW P n ops Q rest l w1) : LW P n ops Q (⟨none, .store t x y, ty, pos, after, none⟩ :: rest) l w :=
 lw_rp (σ' := ⟨σ.at_, v, σ.err⟩) T ht hsz hx hy rfl rfl hP rfl rfl hP.at_ k
end
set_option maxRecDepth 100000 in
set_option maxHeartbeats 1000000 in
theorem rpeek_c (c : RC) (σ : PS) (w : World) (hP : RP c σ w) :
 Calls Tryz.prog 30 #[.pointer (some ⟨c.pb, 0, none⟩)] w fun e w' => e = .returned (str (peekP c.ts σ).text) ∧ Ext w w' := by
 have hat := hP.at_
 have X := Ext.refl w
 by_cases h : σ.err ≠ 0 ∨ σ.at_ = c.ts.length
 · rw [rpeek_off h]
   by_cases he : σ.err = 0
   · have ha : σ.at_ = c.ts.length := h.resolve_left (fun e => e he)
     refine calls_in Tryz.func30 Tryz.ntmps30 rfl rfl ?_
     focus
      refine cS (cA rfl rfl (cT (cw_seq (cw_seq ?_))))
      (refine cw_tdraw (fun wz => Ext w wz) 15 (.pure 0 (.pure 1 (.pure 2 (.pure 3 (.pure 4 (.pure 5 (.pure 6 (.pure 7 (.pure 8 (.pure 9 (.pure 10 (.pure 11 (.pure 12 (.pure 13 (.pure 14 .tail))))))))))))))) mixed (by kernel_rfl) (panicOk_then (panicOk_then panicOk_body)) ?_; intro w1 x2 _)
      have qs3 : (fun wz => Ext w wz) w1 := x2
      simp only at qs3
      have d_hP := hP
      have z4 := Ext.size x2
      replace hP := RP.ext hP x2
      replace X := Ext.ext X x2
      clear x2
      refine ⟨qs3, ?_⟩
      refine tw_pure rfl (pur_move rfl) rfl (tw_pure rfl (pur_nilCheck rfl) rfl (tw_pure rfl (pur_fieldAddr tabOk rfl rfl rfl) rfl (tw_pure rfl (pur_load tabOk rfl rfl rfl (fun wz hz => Blk.cell (Blk.ext (RP.blk d_hP) hz) rfl)) rfl (tw_pure rfl (pur_neq rfl rfl) rfl (tw_pure rfl (pur_move rfl) rfl ?_)))))
      refine tw_on rfl rfl rfl rfl (gd_ff (by omega)) (pur_move rfl) rfl ?_
      refine tw_on rfl rfl rfl rfl (gd_ff (by omega)) (pur_nilCheck rfl) rfl ?_
      refine tw_on rfl rfl rfl rfl (gd_ff (by omega)) (pur_fieldAddr tabOk rfl rfl rfl) rfl ?_
      refine tw_on rfl rfl rfl rfl (gd_ff (by omega)) (pur_load tabOk rfl rfl rfl (fun wz hz => Blk.cell (Blk.ext (RP.blk d_hP) hz) rfl)) rfl ?_
      refine tw_on rfl rfl rfl rfl (gd_ff (by omega)) (pur_move rfl) rfl ?_
      refine tw_on rfl rfl rfl rfl (gd_ff (by omega)) (pur_nilCheck rfl) rfl ?_
      refine tw_on rfl rfl rfl rfl (gd_ff (by omega)) (pur_fieldAddr0 tabOk rfl rfl rfl) rfl ?_
      refine tw_on rfl rfl rfl rfl (gd_ff (by omega)) (pur_load tabOk rfl rfl rfl (fun wz hz => Blk.cell (Blk.ext (RP.blk d_hP) hz) rfl)) rfl ?_
      refine tw_on rfl rfl rfl rfl (gd_ff (by omega)) (pur_len_slice tabOk rfl rfl) rfl ?_
      clear qs3 d_hP
      refine tw_tail rfl ?_
      refine lw_on rfl rfl rfl (gd_ff (by omega)) ?_
      refine lw_pure (pur_geq rfl rfl) rfl ?_
      refine lw_pure (pur_pick_no rfl rfl (by omega)) rfl ?_
      refine cT ?_
      refine cw_yes rfl (by omega) ?_
      refine cS (cA rfl rfl (cT (cw_ret (qw_then_ret (qw_ret1 rfl rfl ?_)))))
      rotate_left 1
     exact ⟨rfl, X⟩
   · refine calls_in Tryz.func30 Tryz.ntmps30 rfl rfl ?_
     focus
      refine cS (cA rfl rfl (cT (cw_seq (cw_seq ?_))))
      (refine cw_tdraw (fun wz => Ext w wz) 15 (.pure 0 (.pure 1 (.pure 2 (.pure 3 (.pure 4 (.pure 5 (.pure 6 (.pure 7 (.pure 8 (.pure 9 (.pure 10 (.pure 11 (.pure 12 (.pure 13 (.pure 14 .tail))))))))))))))) mixed (by kernel_rfl) (panicOk_then (panicOk_then panicOk_body)) ?_; intro wa1 xa2 _)
      have qsa3 : (fun wz => Ext w wz) wa1 := xa2
      simp only at qsa3
      have d_hP := hP
      have za4 := Ext.size xa2
      replace hP := RP.ext hP xa2
      replace X := Ext.ext X xa2
      clear xa2
      refine ⟨qsa3, ?_⟩
      refine tw_pure rfl (pur_move rfl) rfl (tw_pure rfl (pur_nilCheck rfl) rfl (tw_pure rfl (pur_fieldAddr tabOk rfl rfl rfl) rfl (tw_pure rfl (pur_load tabOk rfl rfl rfl (fun wz hz => Blk.cell (Blk.ext (RP.blk d_hP) hz) rfl)) rfl (tw_pure rfl (pur_neq rfl rfl) rfl (tw_pure rfl (pur_move rfl) rfl ?_)))))
      refine tw_off rfl rfl rfl rfl (gd_ft (by assumption)) rfl ?_
      refine tw_off rfl rfl rfl rfl (gd_ft (by assumption)) rfl ?_
      refine tw_off rfl rfl rfl rfl (gd_ft (by assumption)) rfl ?_
      refine tw_off rfl rfl rfl rfl (gd_ft (by assumption)) rfl ?_
      refine tw_off rfl rfl rfl rfl (gd_ft (by assumption)) rfl ?_
      refine tw_off rfl rfl rfl rfl (gd_ft (by assumption)) rfl ?_
      refine tw_off rfl rfl rfl rfl (gd_ft (by assumption)) rfl ?_
      refine tw_off rfl rfl rfl rfl (gd_ft (by assumption)) rfl ?_
      refine tw_off rfl rfl rfl rfl (gd_ft (by assumption)) rfl ?_
      clear qsa3 d_hP
      refine tw_tail rfl ?_
      refine lw_off rfl rfl rfl (gd_ft (by assumption)) rfl ?_
      refine lw_pure (pur_pick_yes rfl rfl (by assumption)) rfl ?_
      refine cT (cw_cond_t rfl (cS (cA rfl rfl (cT (cw_ret (qw_then_ret (qw_ret1 rfl rfl ?_)))))))
      rotate_left 1
     exact ⟨rfl, X⟩
 · have he : σ.err = 0 := Decidable.byContradiction fun e => h (Or.inl e)
   have hlt : σ.at_ < c.ts.length := by have : σ.at_ ≠ c.ts.length := fun e => h (Or.inr e); omega
   rw [rpeek_is h hlt]
   obtain ⟨tb, to, hta, -, hrow⟩ := hP.toks.get (by omega)
   have hr : Row w ⟨tb, to + σ.at_ * 2, none⟩ c.ts[σ.at_].rcells := hrow σ.at_ _ (List.getElem?_eq_getElem hlt)
   clear hrow
   refine calls_in Tryz.func30 Tryz.ntmps30 rfl rfl ?_
   focus
    refine cS (cA rfl rfl (cT (cw_seq (cw_seq ?_))))
    (refine cw_tdraw (fun wz => Ext w wz) 15 (.pure 0 (.pure 1 (.pure 2 (.pure 3 (.pure 4 (.pure 5 (.pure 6 (.pure 7 (.pure 8 (.pure 9 (.pure 10 (.pure 11 (.pure 12 (.pure 13 (.pure 14 .tail))))))))))))))) mixed (by kernel_rfl) (panicOk_then (panicOk_then panicOk_body)) ?_; intro wb1 xb2 _)
    have qsb3 : (fun wz => Ext w wz) wb1 := xb2
    simp only at qsb3
    have d_hP := hP
    have d_hr := hr
    have zb4 := Ext.size xb2
    replace hP := RP.ext hP xb2
    replace X := Ext.ext X xb2
    replace hr := Row.ext hr xb2
    clear xb2
    refine ⟨qsb3, ?_⟩
    refine tw_pure rfl (pur_move rfl) rfl (tw_pure rfl (pur_nilCheck rfl) rfl (tw_pure rfl (pur_fieldAddr tabOk rfl rfl rfl) rfl (tw_pure rfl (pur_load tabOk rfl rfl rfl (fun wz hz => Blk.cell (Blk.ext (RP.blk d_hP) hz) rfl)) rfl (tw_pure rfl (pur_neq rfl rfl) rfl (tw_pure rfl (pur_move rfl) rfl ?_)))))
    refine tw_on rfl rfl rfl rfl (gd_ff (by omega)) (pur_move rfl) rfl ?_
    refine tw_on rfl rfl rfl rfl (gd_ff (by omega)) (pur_nilCheck rfl) rfl ?_
    refine tw_on rfl rfl rfl rfl (gd_ff (by omega)) (pur_fieldAddr tabOk rfl rfl rfl) rfl ?_
    refine tw_on rfl rfl rfl rfl (gd_ff (by omega)) (pur_load tabOk rfl rfl rfl (fun wz hz => Blk.cell (Blk.ext (RP.blk d_hP) hz) rfl)) rfl ?_
    refine tw_on rfl rfl rfl rfl (gd_ff (by omega)) (pur_move rfl) rfl ?_
    refine tw_on rfl rfl rfl rfl (gd_ff (by omega)) (pur_nilCheck rfl) rfl ?_
    refine tw_on rfl rfl rfl rfl (gd_ff (by omega)) (pur_fieldAddr0 tabOk rfl rfl rfl) rfl ?_
    refine tw_on rfl rfl rfl rfl (gd_ff (by omega)) (pur_load tabOk rfl rfl rfl (fun wz hz => Blk.cell (Blk.ext (RP.blk d_hP) hz) rfl)) rfl ?_
    refine tw_on rfl rfl rfl rfl (gd_ff (by omega)) (pur_len_slice tabOk rfl rfl) rfl ?_
    clear qsb3 d_hP d_hr
    refine tw_tail rfl ?_
    refine lw_on rfl rfl rfl (gd_ff (by omega)) ?_
    refine lw_pure (pur_geq rfl rfl) rfl ?_
    refine lw_pure (pur_pick_no rfl rfl (by omega)) rfl ?_
    refine cT ?_
    refine cw_no rfl (by omega) ?_
    refine cw_skip (qw_then (cw_seq ?_))
    (refine cw_tdraw (fun wz => Ext wb1 wz) 8 (.pure 0 (.pure 1 (.pure 2 (.pure 3 (.pure 4 (.pure 5 (.pure 6 (.pure 7 .tail)))))))) mixed (by kernel_rfl) (panicOk_then panicOk_body) ?_; intro wb5 xb6 _)
    have qsb7 : (fun wz => Ext wb1 wz) wb5 := xb6
    simp only at qsb7
    have d_hP := hP
    have d_hr := hr
    have zb8 := Ext.size xb6
    replace hP := RP.ext hP xb6
    replace X := Ext.ext X xb6
    replace hr := Row.ext hr xb6
    clear xb6
    refine ⟨qsb7, ?_⟩
    refine tw_pure rfl (pur_move rfl) rfl (tw_pure rfl (pur_nilCheck rfl) rfl (tw_pure rfl (pur_fieldAddr0 tabOk rfl rfl rfl) rfl (tw_pure rfl (pur_load tabOk rfl rfl rfl (fun wz hz => Blk.cell (Blk.ext (RP.blk d_hP) hz) rfl)) rfl (tw_pure rfl (pur_move rfl) rfl (tw_pure rfl (pur_nilCheck rfl) rfl (tw_pure rfl (pur_fieldAddr tabOk rfl rfl rfl) rfl (tw_pure rfl (pur_load tabOk rfl rfl rfl (fun wz hz => Blk.cell (Blk.ext (RP.blk d_hP) hz) rfl)) rfl ?_)))))))
    clear qsb7 d_hP d_hr
    refine tw_tail rfl ?_
    refine lw_pure (pur_indexAddr_eq tabOk rfl rfl rfl (by assumption) rfl (by omega) (by omega)) rfl ?_
    refine lw_pure (pur_fieldAddr0 tabOk rfl rfl rfl) rfl (lw_load_r0 tabOk rfl rfl rfl hr rfl rfl (cA rfl rfl (cT (cw_ret (qw_ret1 rfl rfl ?_)))))
    rotate_left 1
   exact ⟨rfl, X⟩
set_option maxRecDepth 100000 in
set_option maxHeartbeats 1000000 in
theorem rpos_c (c : RC) (σ : PS) (w : World) (hP : RP c σ w) :
 Calls Tryz.prog 32 #[.pointer (some ⟨c.pb, 0, none⟩)] w fun e w' => e = .returned (.int .i64 (posR c.ts c.n σ)) ∧ Ext w w' := by
 have hat := hP.at_
 have X := Ext.refl w
 by_cases hlt : σ.at_ < c.ts.length
 · rw [show posR c.ts c.n σ = (c.ts[σ.at_]).pos from by unfold posR; rw [if_neg (by omega)]; simp [hlt]]
   obtain ⟨tb, to, hta, -, hrow⟩ := hP.toks.get (by omega)
   have hr : Row w ⟨tb, to + σ.at_ * 2, none⟩ c.ts[σ.at_].rcells := hrow σ.at_ _ (List.getElem?_eq_getElem hlt)
   clear hrow
   refine calls_in Tryz.func32 Tryz.ntmps32 rfl rfl ?_
   focus
    refine cS (cA rfl rfl (cT (cw_seq (cw_seq ?_))))
    (refine cw_tdraw (fun wz => Ext w wz) 9 (.pure 0 (.pure 1 (.pure 2 (.pure 3 (.pure 4 (.pure 5 (.pure 6 (.pure 7 (.pure 8 .tail))))))))) mixed (by kernel_rfl) (panicOk_then (panicOk_then panicOk_body)) ?_; intro w1 x2 _)
    have qs3 : (fun wz => Ext w wz) w1 := x2
    simp only at qs3
    have d_hP := hP
    have d_hr := hr
    have z4 := Ext.size x2
    replace hP := RP.ext hP x2
    replace X := Ext.ext X x2
    replace hr := Row.ext hr x2
    clear x2
    refine ⟨qs3, ?_⟩
    refine tw_pure rfl (pur_move rfl) rfl (tw_pure rfl (pur_nilCheck rfl) rfl (tw_pure rfl (pur_fieldAddr tabOk rfl rfl rfl) rfl (tw_pure rfl (pur_load tabOk rfl rfl rfl (fun wz hz => Blk.cell (Blk.ext (RP.blk d_hP) hz) rfl)) rfl (tw_pure rfl (pur_move rfl) rfl (tw_pure rfl (pur_nilCheck rfl) rfl (tw_pure rfl (pur_fieldAddr0 tabOk rfl rfl rfl) rfl (tw_pure rfl (pur_load tabOk rfl rfl rfl (fun wz hz => Blk.cell (Blk.ext (RP.blk d_hP) hz) rfl)) rfl (tw_pure rfl (pur_len_slice tabOk rfl rfl) rfl ?_))))))))
    clear qs3 d_hP d_hr
    refine tw_tail rfl (lw_pure (pur_geq rfl rfl) rfl (cT ?_))
    refine cw_no rfl (by omega) ?_
    refine cw_skip (qw_then (cw_seq ?_))
    (refine cw_tdraw (fun wz => Ext w1 wz) 8 (.pure 0 (.pure 1 (.pure 2 (.pure 3 (.pure 4 (.pure 5 (.pure 6 (.pure 7 .tail)))))))) mixed (by kernel_rfl) (panicOk_then panicOk_body) ?_; intro w5 x6 _)
    have qs7 : (fun wz => Ext w1 wz) w5 := x6
    simp only at qs7
    have d_hP := hP
    have d_hr := hr
    have z8 := Ext.size x6
    replace hP := RP.ext hP x6
    replace X := Ext.ext X x6
    replace hr := Row.ext hr x6
    clear x6
    refine ⟨qs7, ?_⟩
    refine tw_pure rfl (pur_move rfl) rfl (tw_pure rfl (pur_nilCheck rfl) rfl (tw_pure rfl (pur_fieldAddr0 tabOk rfl rfl rfl) rfl (tw_pure rfl (pur_load tabOk rfl rfl rfl (fun wz hz => Blk.cell (Blk.ext (RP.blk d_hP) hz) rfl)) rfl (tw_pure rfl (pur_move rfl) rfl (tw_pure rfl (pur_nilCheck rfl) rfl (tw_pure rfl (pur_fieldAddr tabOk rfl rfl rfl) rfl (tw_pure rfl (pur_load tabOk rfl rfl rfl (fun wz hz => Blk.cell (Blk.ext (RP.blk d_hP) hz) rfl)) rfl ?_)))))))
    clear qs7 d_hP d_hr
    refine tw_tail rfl ?_
    refine lw_pure (pur_indexAddr_eq tabOk rfl rfl rfl (by assumption) rfl (by omega) (by omega)) rfl ?_
    refine lw_pure (pur_fieldAddr tabOk rfl rfl rfl) rfl (lw_load_r tabOk rfl rfl rfl hr rfl rfl (cA rfl rfl (cT (cw_ret (qw_ret1 rfl rfl ?_)))))
    rotate_left 1
   exact ⟨rfl, X⟩
 · rw [show posR c.ts c.n σ = c.n from by unfold posR; rw [if_pos (by omega)]]
   refine calls_in Tryz.func32 Tryz.ntmps32 rfl rfl ?_
   focus
    refine cS (cA rfl rfl (cT (cw_seq (cw_seq ?_))))
    (refine cw_tdraw (fun wz => Ext w wz) 9 (.pure 0 (.pure 1 (.pure 2 (.pure 3 (.pure 4 (.pure 5 (.pure 6 (.pure 7 (.pure 8 .tail))))))))) mixed (by kernel_rfl) (panicOk_then (panicOk_then panicOk_body)) ?_; intro wa1 xa2 _)
    have qsa3 : (fun wz => Ext w wz) wa1 := xa2
    simp only at qsa3
    have d_hP := hP
    have za4 := Ext.size xa2
    replace hP := RP.ext hP xa2
    replace X := Ext.ext X xa2
    clear xa2
    refine ⟨qsa3, ?_⟩
    refine tw_pure rfl (pur_move rfl) rfl (tw_pure rfl (pur_nilCheck rfl) rfl (tw_pure rfl (pur_fieldAddr tabOk rfl rfl rfl) rfl (tw_pure rfl (pur_load tabOk rfl rfl rfl (fun wz hz => Blk.cell (Blk.ext (RP.blk d_hP) hz) rfl)) rfl (tw_pure rfl (pur_move rfl) rfl (tw_pure rfl (pur_nilCheck rfl) rfl (tw_pure rfl (pur_fieldAddr0 tabOk rfl rfl rfl) rfl (tw_pure rfl (pur_load tabOk rfl rfl rfl (fun wz hz => Blk.cell (Blk.ext (RP.blk d_hP) hz) rfl)) rfl (tw_pure rfl (pur_len_slice tabOk rfl rfl) rfl ?_))))))))
    clear qsa3 d_hP
    refine tw_tail rfl (lw_pure (pur_geq rfl rfl) rfl (cT ?_))
    refine cw_yes rfl (by omega) ?_
    refine cS (cM rfl rfl (lw_pure (pur_nilCheck rfl) rfl (lw_pure (pur_fieldAddr tabOk rfl rfl rfl) rfl (lw_load_b tabOk rfl rfl rfl (RP.blk hP) rfl rfl (cA rfl rfl (cT (cw_ret (qw_then_ret (qw_ret1 rfl rfl ?_)))))))))
    rotate_left 1
   exact ⟨rfl, X⟩
set_option maxRecDepth 100000 in
set_option maxHeartbeats 1000000 in
theorem rfail_c (c : RC) (σ : PS) (e off : Int) (w : World) (hP : RP c σ w) :
 Calls Tryz.prog 31 #[.pointer (some ⟨c.pb, 0, none⟩), .int .i64 e, .int .i64 off] w fun r w' => r = .returned (.tuple #[]) ∧ RP c (failP σ off e) w' ∧ Fr (· = c.pb) w w' := by
 have X := Fr.refl (· = c.pb) w
 by_cases he : σ.err = 0
 · rw [show failP σ off e = ⟨σ.at_, off, e⟩ from by simp [failP, he]]
   refine calls_in Tryz.func31 Tryz.ntmps31 rfl rfl ?_
   focus
    refine cS (cM rfl rfl (lw_pure (pur_nilCheck rfl) rfl (lw_pure (pur_fieldAddr tabOk rfl rfl rfl) rfl (lw_load_b tabOk rfl rfl rfl (RP.blk hP) rfl rfl (lw_pure (pur_eql rfl rfl) rfl (cT ?_))))))
    refine cw_yes rfl (by assumption) ?_
    refine cS (cM rfl rfl (cM rfl rfl (lw_pure (pur_nilCheck rfl) rfl (lw_pure (pur_fieldAddr tabOk rfl rfl rfl) rfl (lw_rp_err tabOk rfl rfl rfl rfl hP ?_)))))
    rintro w1 h2 f3
    have z4 := Fr.size f3
    clear hP
    replace X := Fr.fr X f3 (by omega)
    clear f3
    refine cT (cw_region (cM rfl rfl (cM rfl rfl (lw_pure (pur_nilCheck rfl) rfl (lw_pure (pur_fieldAddr tabOk rfl rfl rfl) rfl ?_)))))
    refine lw_rp_off tabOk rfl rfl rfl rfl (by assumption) ?_
    rintro w5 h6 f7
    have z8 := Fr.size f7
    clear h2
    replace X := Fr.fr X f7 (by omega)
    clear f7
    refine lw_nil (qw_end0 rfl ?_)
    rotate_left 1
   exact ⟨rfl, by assumption, X⟩
 · rw [show failP σ off e = σ from by simp [failP, he]]
   refine calls_in Tryz.func31 Tryz.ntmps31 rfl rfl ?_
   focus
    refine cS (cM rfl rfl (lw_pure (pur_nilCheck rfl) rfl (lw_pure (pur_fieldAddr tabOk rfl rfl rfl) rfl (lw_load_b tabOk rfl rfl rfl (RP.blk hP) rfl rfl (lw_pure (pur_eql rfl rfl) rfl (cT ?_))))))
    refine cw_no rfl (by assumption) ?_
    refine cw_skip (qw_end0 rfl ?_)
    rotate_left 1
   exact ⟨rfl, hP, X⟩
theorem posR_in {ts : List Tok} {n : Int} {σ : PS} (h : σ.at_ < ts.length) : posR ts n σ = (ts.getD σ.at_ Tok.zero).pos := by unfold posR; rw [if_neg (by omega)]
set_option maxRecDepth 100000 in
set_option maxHeartbeats 1000000 in
theorem rwrong_c (c : RC) (σ : PS) (w : World) (hP : RP c σ w) :
 Calls Tryz.prog 42 #[.pointer (some ⟨c.pb, 0, none⟩)] w fun r w' => r = .returned (.tuple #[]) ∧ RP c (unexpP c.ts c.n σ) w' ∧ Fr (· = c.pb) w w' := by
 have X := Fr.refl (· = c.pb) w
 by_cases hlt : σ.at_ < c.ts.length
 · rw [show unexpP c.ts c.n σ = failP σ (posR c.ts c.n σ) 3 from by rw [posR_in hlt]; simp [unexpP, hlt]]
   refine calls_in Tryz.func42 Tryz.ntmps42 rfl rfl ?_
   focus
    refine cw_seq ?_
    (refine cw_tdraw (fun wz => Ext w wz) 9 (.pure 0 (.pure 1 (.pure 2 (.pure 3 (.pure 4 (.pure 5 (.pure 6 (.pure 7 (.pure 8 .tail))))))))) mixed (by kernel_rfl) (panicOk_then panicOk_body) ?_; intro w1 x2 _)
    have qs3 : (fun wz => Ext w wz) w1 := x2
    simp only at qs3
    have d_hP := hP
    have z4 := Ext.size x2
    replace hP := RP.ext hP x2
    replace X := Fr.ext X x2
    clear x2
    refine ⟨qs3, ?_⟩
    refine tw_pure rfl (pur_move rfl) rfl (tw_pure rfl (pur_nilCheck rfl) rfl (tw_pure rfl (pur_fieldAddr tabOk rfl rfl rfl) rfl (tw_pure rfl (pur_load tabOk rfl rfl rfl (fun wz hz => Blk.cell (Blk.ext (RP.blk d_hP) hz) rfl)) rfl (tw_pure rfl (pur_move rfl) rfl (tw_pure rfl (pur_nilCheck rfl) rfl (tw_pure rfl (pur_fieldAddr0 tabOk rfl rfl rfl) rfl (tw_pure rfl (pur_load tabOk rfl rfl rfl (fun wz hz => Blk.cell (Blk.ext (RP.blk d_hP) hz) rfl)) rfl (tw_pure rfl (pur_len_slice tabOk rfl rfl) rfl ?_))))))))
    clear qs3 d_hP
    refine tw_tail rfl (lw_pure (pur_geq rfl rfl) rfl (cT ?_))
    refine cw_no rfl (by omega) ?_
    refine cw_region (cM rfl rfl (cM rfl rfl ?_))
    refine lw_does (does_call (by kernel_rfl) rfl (rpos_c _ _ _ (by assumption)) (fun _ _ h => ⟨_, h.1⟩)) rfl ?_ (fun _ h => h)
    rintro _ w6 ⟨⟨⟩, x5⟩
    have z7 := Ext.size x5
    replace hP := RP.ext hP x5
    replace X := Fr.ext X x5
    clear x5
    refine lw_does (does_call (by kernel_rfl) rfl (rfail_c _ _ _ _ _ (by assumption)) (fun _ _ h => ⟨_, h.1⟩)) rfl ?_ (fun _ h => h)
    rintro _ w10 ⟨⟨⟩, ⟨h8, f9⟩⟩
    have z11 := Fr.size f9
    clear hP
    replace X := Fr.fr X f9 (by omega)
    clear f9
    refine lw_nil (qw_end0 rfl ?_)
    rotate_left 1
   exact ⟨rfl, by assumption, X⟩
 · rw [show unexpP c.ts c.n σ = failP σ c.n 4 from by simp [unexpP, hlt]]
   refine calls_in Tryz.func42 Tryz.ntmps42 rfl rfl ?_
   focus
    refine cw_seq ?_
    (refine cw_tdraw (fun wz => Ext w wz) 9 (.pure 0 (.pure 1 (.pure 2 (.pure 3 (.pure 4 (.pure 5 (.pure 6 (.pure 7 (.pure 8 .tail))))))))) mixed (by kernel_rfl) (panicOk_then panicOk_body) ?_; intro wa1 xa2 _)
    have qsa3 : (fun wz => Ext w wz) wa1 := xa2
    simp only at qsa3
    have d_hP := hP
    have za4 := Ext.size xa2
    replace hP := RP.ext hP xa2
    replace X := Fr.ext X xa2
    clear xa2
    refine ⟨qsa3, ?_⟩
    refine tw_pure rfl (pur_move rfl) rfl (tw_pure rfl (pur_nilCheck rfl) rfl (tw_pure rfl (pur_fieldAddr tabOk rfl rfl rfl) rfl (tw_pure rfl (pur_load tabOk rfl rfl rfl (fun wz hz => Blk.cell (Blk.ext (RP.blk d_hP) hz) rfl)) rfl (tw_pure rfl (pur_move rfl) rfl (tw_pure rfl (pur_nilCheck rfl) rfl (tw_pure rfl (pur_fieldAddr0 tabOk rfl rfl rfl) rfl (tw_pure rfl (pur_load tabOk rfl rfl rfl (fun wz hz => Blk.cell (Blk.ext (RP.blk d_hP) hz) rfl)) rfl (tw_pure rfl (pur_len_slice tabOk rfl rfl) rfl ?_))))))))
    clear qsa3 d_hP
    refine tw_tail rfl (lw_pure (pur_geq rfl rfl) rfl (cT ?_))
    refine cw_yes rfl (by omega) ?_
    refine cw_region (cM rfl rfl (cM rfl rfl (lw_pure (pur_nilCheck rfl) rfl (lw_pure (pur_fieldAddr tabOk rfl rfl rfl) rfl (lw_load_b tabOk rfl rfl rfl (RP.blk hP) rfl rfl ?_)))))
    refine lw_does (does_call (by kernel_rfl) rfl (rfail_c _ _ _ _ _ (by assumption)) (fun _ _ h => ⟨_, h.1⟩)) rfl ?_ (fun _ h => h)
    rintro _ wa7 ⟨⟨⟩, ⟨ha5, fa6⟩⟩
    have za8 := Fr.size fa6
    clear hP
    replace X := Fr.fr X fa6 (by omega)
    clear fa6
    refine lw_nil (qw_end0 rfl ?_)
    rotate_left 1
   exact ⟨rfl, by assumption, X⟩
set_option maxRecDepth 100000 in
set_option maxHeartbeats 1000000 in
theorem rhas_c (c : RC) (σ : PS) (t : List UInt8) (w : World) (hP : RP c σ w) (ht : t ≠ []) :
 Calls Tryz.prog 35 #[.pointer (some ⟨c.pb, 0, none⟩), str t] w fun r w' => r = .returned (.bool (hasP c.ts σ t)) ∧ RP c (acceptP c.ts σ t) w' ∧ Fr (· = c.pb) w w' := by
 have X := Fr.refl (· = c.pb) w
 have hl := hP.len
 by_cases h : (peekP c.ts σ).text = t
 · have h1 : hasP c.ts σ t = true := by simp [hasP, h]
   rw [show acceptP c.ts σ t = nextP σ from by simp [acceptP, h1], h1]
   obtain ⟨h2, h3⟩ := has_in hP.at_ h1 ht
   refine calls_in Tryz.func35 Tryz.ntmps35 rfl rfl ?_
   focus
    refine cS (cA rfl rfl (cT (cw_seq (cS (cM rfl rfl (lw_pure (pur_nilCheck rfl) rfl (lw_pure (pur_fieldAddr tabOk rfl rfl rfl) rfl (lw_load_b tabOk rfl rfl rfl (RP.blk hP) rfl rfl (lw_pure (pur_neq rfl rfl) rfl (cM rfl rfl ?_))))))))))
    refine lw_on rfl rfl rfl (gd_ff (by omega)) ?_
    refine cM rfl rfl ?_
    refine lw_on rfl rfl rfl (gd_ff (by omega)) ?_
    refine lw_does (does_call (by kernel_rfl) rfl (rpeek_c _ _ _ (by assumption)) (fun _ _ h => ⟨_, h.1⟩)) rfl ?_ (fun _ h => h)
    rintro _ w2 ⟨⟨⟩, x1⟩
    have z3 := Ext.size x1
    replace hP := RP.ext hP x1
    replace X := Fr.ext X x1
    clear x1
    refine lw_on rfl rfl rfl (gd_ff (by omega)) ?_
    refine cM rfl rfl ?_
    refine lw_on rfl rfl rfl (gd_ff (by omega)) ?_
    refine lw_pure (pur_sneq rfl rfl) rfl ?_
    refine lw_pure (pur_pick_no rfl rfl (by omega)) rfl ?_
    refine cT ?_
    refine cw_no rfl (not_not_intro (by assumption)) ?_
    refine cw_skip (qw_then (cS (cM rfl rfl (cM rfl rfl (lw_pure (pur_nilCheck rfl) rfl (lw_pure (pur_fieldAddr tabOk rfl rfl rfl) rfl (lw_load_b tabOk rfl rfl rfl (RP.blk hP) rfl rfl ?_)))))))
    refine lw_pure (pur_add rfl rfl (IntWalk.i64_in _ (by omega))) rfl ?_
    refine lw_pure (pur_nilCheck rfl) rfl (lw_pure (pur_fieldAddr tabOk rfl rfl rfl) rfl ?_)
    refine lw_rp_at tabOk rfl rfl rfl rfl (by assumption) h3 ?_
    rintro w4 h5 f6
    have z7 := Fr.size f6
    clear hP
    replace X := Fr.fr X f6 (by omega)
    clear f6
    refine cN (cA rfl rfl (cT (cw_ret (qw_ret1 rfl rfl ?_))))
    rotate_left 1
   exact ⟨rfl, by assumption, X⟩
 · have h1 : hasP c.ts σ t = false := by simp [hasP, h]
   rw [show acceptP c.ts σ t = σ from by simp [acceptP, h1], h1]
   by_cases h0 : σ.err = 0
   · refine calls_in Tryz.func35 Tryz.ntmps35 rfl rfl ?_
     focus
      refine cS (cA rfl rfl (cT (cw_seq (cS (cM rfl rfl (lw_pure (pur_nilCheck rfl) rfl (lw_pure (pur_fieldAddr tabOk rfl rfl rfl) rfl (lw_load_b tabOk rfl rfl rfl (RP.blk hP) rfl rfl (lw_pure (pur_neq rfl rfl) rfl (cM rfl rfl ?_))))))))))
      refine lw_on rfl rfl rfl (gd_ff (by omega)) ?_
      refine cM rfl rfl ?_
      refine lw_on rfl rfl rfl (gd_ff (by omega)) ?_
      refine lw_does (does_call (by kernel_rfl) rfl (rpeek_c _ _ _ (by assumption)) (fun _ _ h => ⟨_, h.1⟩)) rfl ?_ (fun _ h => h)
      rintro _ wa2 ⟨⟨⟩, xa1⟩
      have za3 := Ext.size xa1
      replace hP := RP.ext hP xa1
      replace X := Fr.ext X xa1
      clear xa1
      refine lw_on rfl rfl rfl (gd_ff (by omega)) ?_
      refine cM rfl rfl ?_
      refine lw_on rfl rfl rfl (gd_ff (by omega)) ?_
      refine lw_pure (pur_sneq rfl rfl) rfl ?_
      refine lw_pure (pur_pick_no rfl rfl (by omega)) rfl ?_
      refine cT ?_
      refine cw_yes rfl (by assumption) ?_
      refine cS (cA rfl rfl (cT (cw_ret (qw_then_ret (qw_ret1 rfl rfl ?_)))))
      rotate_left 1
     exact ⟨rfl, by assumption, X⟩
   · refine calls_in Tryz.func35 Tryz.ntmps35 rfl rfl ?_
     focus
      refine cS (cA rfl rfl (cT (cw_seq (cS (cM rfl rfl (lw_pure (pur_nilCheck rfl) rfl (lw_pure (pur_fieldAddr tabOk rfl rfl rfl) rfl (lw_load_b tabOk rfl rfl rfl (RP.blk hP) rfl rfl (lw_pure (pur_neq rfl rfl) rfl (cM rfl rfl ?_))))))))))
      refine lw_off rfl rfl rfl (gd_ft (by assumption)) rfl ?_
      refine lw_off rfl rfl rfl (gd_ft (by assumption)) rfl ?_
      refine lw_off rfl rfl rfl (gd_ft (by assumption)) rfl ?_
      refine lw_off rfl rfl rfl (gd_ft (by assumption)) rfl ?_
      refine lw_pure (pur_pick_yes rfl rfl (by assumption)) rfl ?_
      refine cT (cw_cond_t rfl (cS (cA rfl rfl (cT (cw_ret (qw_then_ret (qw_ret1 rfl rfl ?_)))))))
      rotate_left 1
     exact ⟨rfl, by assumption, X⟩
theorem rhas_t (c : RC) (σ : PS) (t : List UInt8) (w : World) (hP : RP c σ w) (ht : t ≠ []) (h : hasP c.ts σ t = true) :
 Calls Tryz.prog 35 #[.pointer (some ⟨c.pb, 0, none⟩), str t] w fun r w' => r = .returned (.bool true) ∧ RP c (nextP σ) w' ∧ Fr (· = c.pb) w w' := by
 have := rhas_c c σ t w hP ht
 rw [show acceptP c.ts σ t = nextP σ from by simp [acceptP, h], h] at this
 exact this
theorem rhas_f (c : RC) (σ : PS) (t : List UInt8) (w : World) (hP : RP c σ w) (ht : t ≠ []) (h : hasP c.ts σ t = false) :
 Calls Tryz.prog 35 #[.pointer (some ⟨c.pb, 0, none⟩), str t] w fun r w' => r = .returned (.bool false) ∧ RP c σ w' ∧ Fr (· = c.pb) w w' := by
 have := rhas_c c σ t w hP ht
 rw [show acceptP c.ts σ t = σ from by simp [acceptP, h], h] at this
 exact this
set_option maxRecDepth 100000 in
set_option maxHeartbeats 1000000 in
theorem rtake_c (c : RC) (σ : PS) (t : List UInt8) (w : World) (hP : RP c σ w) (ht : t ≠ []) :
 Calls Tryz.prog 34 #[.pointer (some ⟨c.pb, 0, none⟩), str t] w fun r w' => r = .returned (.tuple #[]) ∧ RP c (expectP c.ts c.n σ t) w' ∧ Fr (· = c.pb) w w' := by
 have X := Fr.refl (· = c.pb) w
 have hl := hP.len
 by_cases h0 : σ.err = 0
 · by_cases h : (peekP c.ts σ).text = t
   · have h1 : hasP c.ts σ t = true := by simp [hasP, h]
     rw [show expectP c.ts c.n σ t = nextP σ from by simp [expectP, h1]]
     obtain ⟨h2, h3⟩ := has_in hP.at_ h1 ht
     refine calls_in Tryz.func34 Tryz.ntmps34 rfl rfl ?_
     focus
      refine cw_seq (cS (cM rfl rfl (lw_pure (pur_nilCheck rfl) rfl (lw_pure (pur_fieldAddr tabOk rfl rfl rfl) rfl (lw_load_b tabOk rfl rfl rfl (RP.blk hP) rfl rfl (lw_pure (pur_neq rfl rfl) rfl (cT ?_)))))))
      refine cw_no rfl (by omega) ?_
      refine cw_skip (qw_then (cw_seq (cS (cM rfl rfl ?_))))
      refine lw_does (does_call (by kernel_rfl) rfl (rpeek_c _ _ _ (by assumption)) (fun _ _ h => ⟨_, h.1⟩)) rfl ?_ (fun _ h => h)
      rintro _ w2 ⟨⟨⟩, x1⟩
      have z3 := Ext.size x1
      replace hP := RP.ext hP x1
      replace X := Fr.ext X x1
      clear x1
      refine cM rfl rfl (lw_pure (pur_sneq rfl rfl) rfl (cT ?_))
      refine cw_no rfl (not_not_intro (by assumption)) ?_
      refine cw_skip (qw_then (cw_region (cM rfl rfl (cM rfl rfl (lw_pure (pur_nilCheck rfl) rfl (lw_pure (pur_fieldAddr tabOk rfl rfl rfl) rfl (lw_load_b tabOk rfl rfl rfl (RP.blk hP) rfl rfl ?_)))))))
      refine lw_pure (pur_add rfl rfl (IntWalk.i64_in _ (by omega))) rfl ?_
      refine lw_pure (pur_nilCheck rfl) rfl (lw_pure (pur_fieldAddr tabOk rfl rfl rfl) rfl ?_)
      refine lw_rp_at tabOk rfl rfl rfl rfl (by assumption) h3 ?_
      rintro w4 h5 f6
      have z7 := Fr.size f6
      clear hP
      replace X := Fr.fr X f6 (by omega)
      clear f6
      refine lw_nil (qw_end0 rfl ?_)
      rotate_left 1
     exact ⟨rfl, by assumption, X⟩
   · have h1 : hasP c.ts σ t = false := by simp [hasP, h]
     rw [show expectP c.ts c.n σ t = unexpP c.ts c.n σ from by simp [expectP, h1]]
     refine calls_in Tryz.func34 Tryz.ntmps34 rfl rfl ?_
     focus
      refine cw_seq (cS (cM rfl rfl (lw_pure (pur_nilCheck rfl) rfl (lw_pure (pur_fieldAddr tabOk rfl rfl rfl) rfl (lw_load_b tabOk rfl rfl rfl (RP.blk hP) rfl rfl (lw_pure (pur_neq rfl rfl) rfl (cT ?_)))))))
      refine cw_no rfl (by omega) ?_
      refine cw_skip (qw_then (cw_seq (cS (cM rfl rfl ?_))))
      refine lw_does (does_call (by kernel_rfl) rfl (rpeek_c _ _ _ (by assumption)) (fun _ _ h => ⟨_, h.1⟩)) rfl ?_ (fun _ h => h)
      rintro _ wa2 ⟨⟨⟩, xa1⟩
      have za3 := Ext.size xa1
      replace hP := RP.ext hP xa1
      replace X := Fr.ext X xa1
      clear xa1
      refine cM rfl rfl (lw_pure (pur_sneq rfl rfl) rfl (cT ?_))
      refine cw_yes rfl (by assumption) ?_
      refine cS (cM rfl rfl ?_)
      refine lw_does (does_call (by kernel_rfl) rfl (rwrong_c _ _ _ (by assumption)) (fun _ _ h => ⟨_, h.1⟩)) rfl ?_ (fun _ h => h)
      rintro _ wa6 ⟨⟨⟩, ⟨ha4, fa5⟩⟩
      have za7 := Fr.size fa5
      clear hP
      replace X := Fr.fr X fa5 (by omega)
      clear fa5
      refine cT (cw_ret (qw_then_ret (qw_ret0 rfl ?_)))
      rotate_left 1
     exact ⟨rfl, by assumption, X⟩
 · have h1 : hasP c.ts σ t = false := by
    unfold hasP
    rw [rpeek_off (Or.inl h0)]
    exact decide_eq_false (fun e => ht e.symm)
   have h2 : expectP c.ts c.n σ t = σ := by
    simp only [expectP, h1, Bool.false_eq_true, if_false, unexpP]
    split <;> simp [failP, h0]
   rw [h2]
   refine calls_in Tryz.func34 Tryz.ntmps34 rfl rfl ?_
   focus
    refine cw_seq (cS (cM rfl rfl (lw_pure (pur_nilCheck rfl) rfl (lw_pure (pur_fieldAddr tabOk rfl rfl rfl) rfl (lw_load_b tabOk rfl rfl rfl (RP.blk hP) rfl rfl (lw_pure (pur_neq rfl rfl) rfl (cT ?_)))))))
    refine cw_yes rfl (by assumption) ?_
    refine cw_ret (qw_then_ret (qw_ret0 rfl ?_))
    rotate_left 1
   exact ⟨rfl, by assumption, X⟩
end Bk
namespace Bk
open Go Go.RowKit Go.Proofs
attribute [local irreducible] Go.Calls
theorem Row.nth {w : World} {b j : Nat} {l : List (List UInt8)} (h : Row w ⟨b, 0, none⟩ (l.map str)) (hj : j < l.length) : Row w ⟨b, 0 + j * 1, none⟩ [str l[j]] := by
 have h1 := h.sub j 1
 have e : ((l.map str).drop j).take 1 = [str l[j]] := by
  rw [List.drop_eq_getElem_cons (by simpa using hj)]; simp
 rw [e] at h1
 rw [Nat.mul_one]; exact h1
set_option maxRecDepth 100000 in
set_option maxHeartbeats 1000000 in
theorem rletter_c (c : UInt8) (w : World) : Calls Tryz.prog 109 #[.int .u8 c.toNat] w fun e w' => e = .returned (.bool (letter c)) ∧ w = w' := by
 by_cases h1 : 97 ≤ c.toNat
 · by_cases h2 : c.toNat ≤ 122
   · rw [show letter c = true from by simp [letter, h1, h2]]
     have h3 : ((c.toNat : Nat) : Int) ≤ 122 := by omega
     refine calls_in Tryz.func109 Tryz.ntmps109 rfl rfl ?_
     focus
      refine cS (cA rfl rfl (cN (cM rfl rfl (lw_pure (pur_geq rfl rfl) rfl (cM rfl rfl ?_)))))
      refine lw_on rfl rfl rfl (gd_tt (by omega)) ?_
      refine cM rfl rfl ?_
      refine lw_on rfl rfl rfl (gd_tt (by omega)) ?_
      refine lw_pure (pur_leq rfl rfl) rfl ?_
      refine lw_pure (pur_pick_yes rfl rfl (by omega)) rfl ?_
      refine cA rfl rfl (cT (cw_ret (qw_ret1 rfl rfl ?_)))
      rotate_left 1
     exact ⟨by rw [decide_eq_true h3], rfl⟩
   · rw [show letter c = false from by simp [letter, h2]]
     have h3 : ¬ ((c.toNat : Nat) : Int) ≤ 122 := by omega
     refine calls_in Tryz.func109 Tryz.ntmps109 rfl rfl ?_
     focus
      refine cS (cA rfl rfl (cN (cM rfl rfl (lw_pure (pur_geq rfl rfl) rfl (cM rfl rfl ?_)))))
      refine lw_on rfl rfl rfl (gd_tt (by omega)) ?_
      refine cM rfl rfl ?_
      refine lw_on rfl rfl rfl (gd_tt (by omega)) ?_
      refine lw_pure (pur_leq rfl rfl) rfl ?_
      refine lw_pure (pur_pick_yes rfl rfl (by omega)) rfl ?_
      refine cA rfl rfl (cT (cw_ret (qw_ret1 rfl rfl ?_)))
      rotate_left 1
     exact ⟨by rw [decide_eq_false h3], rfl⟩
 · rw [show letter c = false from by simp [letter, h1]]
   refine calls_in Tryz.func109 Tryz.ntmps109 rfl rfl ?_
   focus
    refine cS (cA rfl rfl (cN (cM rfl rfl (lw_pure (pur_geq rfl rfl) rfl (cM rfl rfl ?_)))))
    refine lw_off rfl rfl rfl (gd_tf (by omega)) rfl ?_
    refine lw_off rfl rfl rfl (gd_tf (by omega)) rfl ?_
    refine lw_pure (pur_pick_no rfl rfl (by omega)) rfl ?_
    refine cA rfl rfl (cT (cw_ret (qw_ret1 rfl rfl ?_)))
    rotate_left 1
   exact ⟨rfl, rfl⟩
set_option maxRecDepth 100000 in
set_option maxHeartbeats 1000000 in
theorem rdigit_c (c : UInt8) (w : World) : Calls Tryz.prog 110 #[.int .u8 c.toNat] w fun e w' => e = .returned (.bool (digit c)) ∧ w = w' := by
 by_cases h1 : 48 ≤ c.toNat
 · by_cases h2 : c.toNat ≤ 57
   · rw [show digit c = true from by simp [digit, h1, h2]]
     have h3 : ((c.toNat : Nat) : Int) ≤ 57 := by omega
     refine calls_in Tryz.func110 Tryz.ntmps110 rfl rfl ?_
     focus
      refine cS (cA rfl rfl (cN (cM rfl rfl (lw_pure (pur_geq rfl rfl) rfl (cM rfl rfl ?_)))))
      refine lw_on rfl rfl rfl (gd_tt (by omega)) ?_
      refine cM rfl rfl ?_
      refine lw_on rfl rfl rfl (gd_tt (by omega)) ?_
      refine lw_pure (pur_leq rfl rfl) rfl ?_
      refine lw_pure (pur_pick_yes rfl rfl (by omega)) rfl ?_
      refine cA rfl rfl (cT (cw_ret (qw_ret1 rfl rfl ?_)))
      rotate_left 1
     exact ⟨by rw [decide_eq_true h3], rfl⟩
   · rw [show digit c = false from by simp [digit, h2]]
     have h3 : ¬ ((c.toNat : Nat) : Int) ≤ 57 := by omega
     refine calls_in Tryz.func110 Tryz.ntmps110 rfl rfl ?_
     focus
      refine cS (cA rfl rfl (cN (cM rfl rfl (lw_pure (pur_geq rfl rfl) rfl (cM rfl rfl ?_)))))
      refine lw_on rfl rfl rfl (gd_tt (by omega)) ?_
      refine cM rfl rfl ?_
      refine lw_on rfl rfl rfl (gd_tt (by omega)) ?_
      refine lw_pure (pur_leq rfl rfl) rfl ?_
      refine lw_pure (pur_pick_yes rfl rfl (by omega)) rfl ?_
      refine cA rfl rfl (cT (cw_ret (qw_ret1 rfl rfl ?_)))
      rotate_left 1
     exact ⟨by rw [decide_eq_false h3], rfl⟩
 · rw [show digit c = false from by simp [digit, h1]]
   refine calls_in Tryz.func110 Tryz.ntmps110 rfl rfl ?_
   focus
    refine cS (cA rfl rfl (cN (cM rfl rfl (lw_pure (pur_geq rfl rfl) rfl (cM rfl rfl ?_)))))
    refine lw_off rfl rfl rfl (gd_tf (by omega)) rfl ?_
    refine lw_off rfl rfl rfl (gd_tf (by omega)) rfl ?_
    refine lw_pure (pur_pick_no rfl rfl (by omega)) rfl ?_
    refine cA rfl rfl (cT (cw_ret (qw_ret1 rfl rfl ?_)))
    rotate_left 1
   exact ⟨rfl, rfl⟩
set_option maxRecDepth 100000 in
set_option maxHeartbeats 1000000 in
theorem rwords_c (w : World) : Calls Tryz.prog 112 #[] w fun e w' => ∃ b, e = .returned (.slice (some ⟨b, 0, none⟩) 23 23) ∧ Row w' ⟨b, 0, none⟩ (keywords.map str) ∧ Ext w w' := by
 have X := Ext.refl w
 refine calls_in (args := []) Tryz.func112 Tryz.ntmps112 rfl rfl ?_
 focus
  refine cS (cA rfl rfl (cN ?_))
  (refine lw_does (does_slice' [_, _, _, _, _, _, _, _, _, _, _, _, _, _, _, _, _, _, _, _, _, _, _] tabOk zOk rfl rfl rfl rfl rfl rfl rfl rfl rfl) rfl ?_ (fun _ h => h); rintro _ w2 ⟨b1, rfl, n3, t4⟩)
  clear t4
  have h5 := New.blk n3
  have x6 := New.ext n3
  have p7 := New.pos n3
  have z8 := New.size n3
  clear n3
  replace X := Ext.ext X x6
  clear x6
  refine cA rfl rfl (cT (cw_ret (qw_ret1 rfl rfl ?_)))
  rotate_left 1
 exact ⟨_, rfl, Blk.row (by assumption), X⟩
def idxF : List (List UInt8) → List UInt8 → Nat → Int
 | [], _, _ => -1
 | x :: r, s, i => if x = s then (i : Int) else idxF r s (i + 1)
theorem idxF_drop {l : List (List UInt8)} {s : List UInt8} {j : Nat} (h : j < l.length) : idxF (l.drop j) s j = if l[j] = s then (j : Int) else idxF (l.drop (j + 1)) s (j + 1) := by
 rw [List.drop_eq_getElem_cons h, idxF]
set_option maxRecDepth 100000 in
set_option maxHeartbeats 1000000 in
theorem rindex_c (l : List (List UInt8)) (s : List UInt8) (b cap : Nat) (w : World) (hl : l.length ≤ 1000) (hr : Row w ⟨b, 0, none⟩ (l.map str)) :
 Calls Tryz.prog 75 #[.slice (some ⟨b, 0, none⟩) l.length cap, str s] w fun e w' => e = .returned (.int .i64 (idxF l s 0)) ∧ w = w' := by
 refine calls_in Tryz.func75 Tryz.ntmps75 rfl rfl ?_
 focus
  refine cS (cA rfl rfl (cT (cw_seq (cS (cA rfl rfl (cT (cw_block ?_)))))))
  rotate_left 1
 refine cw_loop (ι := Nat) (fun j => [(0, .slice (some ⟨b, 0, none⟩) l.length cap), (1, str s), (5, .int .i64 j)]) (fun j w' => w = w' ∧ j ≤ l.length ∧ idxF l s 0 = idxF (l.drop j) s j) (fun j => l.length - j) 0 (by (refine sub_cons rfl ?_; refine sub_cons rfl ?_; refine sub_cons rfl ?_; exact sub_nil)) ⟨rfl, Nat.zero_le _, rfl⟩ ?_
 rintro j _ ⟨rfl, hj, he⟩
 by_cases hlt : j < l.length
 · rw [idxF_drop hlt] at he
   have hrj := hr.nth hlt
   have HR := Lib.hid hr; clear hr
   by_cases hx : l[j] = s
   · rw [if_pos hx] at he
     rw [he]
     focus
      refine cw_seq (cS (cM rfl rfl (cM rfl rfl (lw_pure (pur_len_slice tabOk rfl rfl) rfl (lw_pure (pur_lss rfl rfl) rfl (cT ?_))))))
      refine cw_yes rfl (by omega) ?_
      refine cw_skip (qw_then (cw_seq (cw_block (cS (cM rfl rfl (cM rfl rfl ?_))))))
      refine lw_pure (pur_indexAddr tabOk rfl rfl rfl rfl (by omega) (by omega)) rfl ?_
      refine lw_load_r0 tabOk rfl rfl rfl hrj rfl rfl (cM rfl rfl (lw_pure (pur_seql rfl rfl) rfl (cT ?_)))
      refine cw_yes rfl (by assumption) ?_
      refine cS (cM rfl rfl (cA rfl rfl (cT (cw_ret (qw_block_ret (qw_then_ret (qw_then_ret (qw_block_ret (qw_then_ret (qw_ret1 rfl rfl ?_))))))))))
      rotate_left 1
     exact ⟨rfl, rfl⟩
   · rw [if_neg hx] at he
     focus
      refine cw_seq (cS (cM rfl rfl (cM rfl rfl (lw_pure (pur_len_slice tabOk rfl rfl) rfl (lw_pure (pur_lss rfl rfl) rfl (cT ?_))))))
      refine cw_yes rfl (by omega) ?_
      refine cw_skip (qw_then (cw_seq (cw_block (cS (cM rfl rfl (cM rfl rfl ?_))))))
      refine lw_pure (pur_indexAddr tabOk rfl rfl rfl rfl (by omega) (by omega)) rfl ?_
      refine lw_load_r0 tabOk rfl rfl rfl hrj rfl rfl (cM rfl rfl (lw_pure (pur_seql rfl rfl) rfl (cT ?_)))
      refine cw_no rfl (by assumption) ?_
      refine cw_skip (qw_block_norm (qw_then (cw_region (cM rfl rfl ?_))))
      refine lw_pure (pur_add rfl rfl (IntWalk.i64_in _ (by omega))) rfl ?_
      refine cA rfl rfl (lw_nil ?_)
      rotate_left 1
     exact qw_round (j + 1) (by (refine sub_cons rfl ?_; refine sub_cons rfl ?_; refine sub_cons rfl ?_; exact sub_nil)) ⟨rfl, by omega, he⟩ (by omega)
 · rw [List.drop_eq_nil_of_le (by omega), idxF] at he
   rw [he]
   focus
    refine cw_seq (cS (cM rfl rfl (cM rfl rfl (lw_pure (pur_len_slice tabOk rfl rfl) rfl (lw_pure (pur_lss rfl rfl) rfl (cT ?_))))))
    refine cw_no rfl (by omega) ?_
    refine cw_exit (qw_then_exit (qw_then_exit (qw_block_exit (qw_then (cS (cA rfl rfl (cT (cw_ret (qw_ret1 rfl rfl ?_)))))))))
    rotate_left 1
   exact ⟨rfl, rfl⟩
theorem keyword_iff (s : List UInt8) : keyword s = true ↔ s ∈ keywords := by simp [keyword]
set_option maxRecDepth 100000 in
set_option maxHeartbeats 1000000 in
theorem rIsName_c (s : List UInt8) (w : World) (hl : s.length ≤ 1000000000) :
 Calls Tryz.prog 77 #[str s] w fun e w' => e = .returned (.bool (refName s)) ∧ Ext w w' := by
 have X := Ext.refl w
 cases s with
 | nil =>
  rw [show refName [] = false from rfl]
  refine calls_in Tryz.func77 Tryz.ntmps77 rfl rfl ?_
  focus
   refine cS (cA rfl rfl (cT (cw_seq (cS (cM rfl rfl (lw_pure (pur_len_s tabOk rfl rfl) rfl (lw_pure (pur_eql rfl rfl) rfl (cM rfl rfl ?_))))))))
   refine lw_off rfl rfl rfl (gd_ft (by decide)) rfl ?_
   refine lw_off rfl rfl rfl (gd_ft (by decide)) rfl ?_
   refine lw_off rfl rfl rfl (gd_ft (by decide)) rfl ?_
   refine lw_pure (pur_pick_yes rfl rfl (by decide)) rfl ?_
   refine cM rfl rfl (lw_off rfl rfl rfl (rfl) rfl (lw_off rfl rfl rfl (rfl) rfl (lw_off rfl rfl rfl (rfl) rfl (lw_off rfl rfl rfl (rfl) rfl (lw_pure (pur_pick_t rfl rfl rfl) rfl (cT (cw_cond_t rfl (cS (cA rfl rfl (cT (cw_ret ?_)))))))))))
   refine qw_then_ret (qw_ret1 rfl rfl ?_)
   rotate_left 1
  exact ⟨rfl, X⟩
 | cons c r =>
  have hc0 : (c :: r)[(0 : Int).toNat]? = some c := rfl
  have hpos : 0 < (c :: r).length := by simp
  simp only [List.length_cons] at hl
  by_cases h16 : 16 < (c :: r).length
  · rw [show refName (c :: r) = false from by simp only [refName, decide_eq_false (show ¬ (c :: r).length ≤ 16 by omega)]; simp]
    refine calls_in Tryz.func77 Tryz.ntmps77 rfl rfl ?_
    focus
     refine cS (cA rfl rfl (cT (cw_seq (cS (cM rfl rfl (lw_pure (pur_len_s tabOk rfl rfl) rfl (lw_pure (pur_eql rfl rfl) rfl (cM rfl rfl ?_))))))))
     refine lw_on rfl rfl rfl (gd_ff (by omega)) ?_
     refine cM rfl rfl ?_
     refine lw_on rfl rfl rfl (gd_ff (by omega)) ?_
     refine lw_pure (pur_len_s tabOk rfl rfl) rfl ?_
     refine lw_on rfl rfl rfl (gd_ff (by omega)) ?_
     refine lw_pure (pur_gtr rfl rfl) rfl ?_
     refine lw_pure (pur_pick_no rfl rfl (by omega)) rfl ?_
     refine cM rfl rfl ?_
     refine lw_off rfl rfl rfl (gd_ft (by omega)) rfl ?_
     refine lw_off rfl rfl rfl (gd_ft (by omega)) rfl ?_
     refine lw_off rfl rfl rfl (gd_ft (by omega)) rfl ?_
     refine lw_off rfl rfl rfl (gd_ft (by omega)) rfl ?_
     refine lw_pure (pur_pick_yes rfl rfl (by omega)) rfl ?_
     refine cT (cw_cond_t rfl (cS (cA rfl rfl (cT (cw_ret (qw_then_ret (qw_ret1 rfl rfl ?_)))))))
     rotate_left 1
    exact ⟨rfl, X⟩
  · cases hlt : letter c
    · rw [show refName (c :: r) = false from by simp [refName, hlt]]
      refine calls_in Tryz.func77 Tryz.ntmps77 rfl rfl ?_
      focus
       refine cS (cA rfl rfl (cT (cw_seq (cS (cM rfl rfl (lw_pure (pur_len_s tabOk rfl rfl) rfl (lw_pure (pur_eql rfl rfl) rfl (cM rfl rfl ?_))))))))
       refine lw_on rfl rfl rfl (gd_ff (by omega)) ?_
       refine cM rfl rfl ?_
       refine lw_on rfl rfl rfl (gd_ff (by omega)) ?_
       refine lw_pure (pur_len_s tabOk rfl rfl) rfl ?_
       refine lw_on rfl rfl rfl (gd_ff (by omega)) ?_
       refine lw_pure (pur_gtr rfl rfl) rfl ?_
       refine lw_pure (pur_pick_no rfl rfl (by omega)) rfl ?_
       refine cM rfl rfl ?_
       refine lw_on rfl rfl rfl (gd_ff (by omega)) ?_
       refine cM rfl rfl ?_
       refine lw_on rfl rfl rfl (gd_ff (by omega)) ?_
       refine lw_pure (pur_sindex tabOk rfl rfl rfl (by omega) (by assumption)) rfl ?_
       refine lw_on rfl rfl rfl (gd_ff (by omega)) ?_
       refine lw_does (does_call (by kernel_rfl) rfl (rletter_c _ _) (fun _ _ h => ⟨_, h.1⟩)) rfl ?_ (fun _ h => h)
       rintro _ wb1 ⟨⟨⟩, rfl⟩
       refine lw_on rfl rfl rfl (gd_ff (by omega)) ?_
       refine lw_pure (pur_not rfl) rfl ?_
       refine lw_pure (pur_pick_no rfl rfl (by omega)) rfl ?_
       refine cT ?_
       refine cw_nt rfl (by assumption) ?_
       refine cS (cA rfl rfl (cT (cw_ret (qw_then_ret (qw_ret1 rfl rfl ?_)))))
       rotate_left 1
      exact ⟨rfl, X⟩
    · have hrn : refName (c :: r) = !keyword (c :: r) := by
       simp only [List.length_cons] at h16
       simp only [refName, List.head?_cons, Option.map_some, Option.getD_some, hlt, List.length_cons]
       rw [decide_eq_true (show r.length + 1 ≤ 16 by omega)]; simp
      rw [hrn]
      have HK := Lib.hid (keyword_iff (c :: r))
      have h16' : (c :: r).length ≤ 16 := by omega
      refine calls_in Tryz.func77 Tryz.ntmps77 rfl rfl ?_
      focus
       refine cS (cA rfl rfl (cT (cw_seq (cS (cM rfl rfl (lw_pure (pur_len_s tabOk rfl rfl) rfl (lw_pure (pur_eql rfl rfl) rfl (cM rfl rfl ?_))))))))
       refine lw_on rfl rfl rfl (gd_ff (by omega)) ?_
       refine cM rfl rfl ?_
       refine lw_on rfl rfl rfl (gd_ff (by omega)) ?_
       refine lw_pure (pur_len_s tabOk rfl rfl) rfl ?_
       refine lw_on rfl rfl rfl (gd_ff (by omega)) ?_
       refine lw_pure (pur_gtr rfl rfl) rfl ?_
       refine lw_pure (pur_pick_no rfl rfl (by omega)) rfl ?_
       refine cM rfl rfl ?_
       refine lw_on rfl rfl rfl (gd_ff (by omega)) ?_
       refine cM rfl rfl ?_
       refine lw_on rfl rfl rfl (gd_ff (by omega)) ?_
       refine lw_pure (pur_sindex tabOk rfl rfl rfl (by omega) (by assumption)) rfl ?_
       refine lw_on rfl rfl rfl (gd_ff (by omega)) ?_
       refine lw_does (does_call (by kernel_rfl) rfl (rletter_c _ _) (fun _ _ h => ⟨_, h.1⟩)) rfl ?_ (fun _ h => h)
       rintro _ wc1 ⟨⟨⟩, rfl⟩
       refine lw_on rfl rfl rfl (gd_ff (by omega)) ?_
       refine lw_pure (pur_not rfl) rfl ?_
       refine lw_pure (pur_pick_no rfl rfl (by omega)) rfl ?_
       refine cT ?_
       refine cw_nf rfl (by assumption) ?_
       refine cw_skip (qw_then (cS ?_))
       refine lw_does (does_call (by kernel_rfl) rfl (rwords_c _) (fun _ _ ⟨_, h⟩ => ⟨_, h.1⟩)) rfl ?_ (fun _ h => h)
       rintro _ wc5 ⟨bc2, ⟨⟨⟩, ⟨hc3, xc4⟩⟩⟩
       have zc6 := Ext.size xc4
       replace X := Ext.ext X xc4
       clear xc4
       refine cA rfl rfl (cT (cw_seq (cS (cA rfl rfl (cT (cw_block ?_))))))
       rotate_left 1
      have hkl : keywords.length = 23 := rfl
      refine cw_loop (ι := Nat) (fun j => [(0, str (c :: r)), (3, .slice (some ⟨bc2, 0, none⟩) 23 23), (4, .int .i64 j)]) (fun j w' => wc5 = w' ∧ j ≤ 23 ∧ ∀ i (hi : i < keywords.length), i < j → keywords[i] ≠ c :: r) (fun j => 23 - j) 0 (by (refine sub_cons rfl ?_; refine sub_cons rfl ?_; refine sub_cons rfl ?_; exact sub_nil)) ⟨rfl, Nat.zero_le _, fun i _ h => by omega⟩ ?_
      rintro j _ ⟨rfl, hj, hall⟩
      have HA := Lib.hid hall; clear hall
      by_cases hlt2 : j < 23
      · have hrj := hc3.nth (j := j) (by rw [hkl]; exact hlt2)
        have HR := Lib.hid hc3; clear hc3
        by_cases hx : keywords[j] = c :: r
        · have hk : keyword (c :: r) = true := HK.out.2 (by rw [← hx]; exact List.getElem_mem _)
          rw [hk]
          focus
           refine cw_seq (cS (cM rfl rfl (cM rfl rfl (lw_pure (pur_len_slice tabOk rfl rfl) rfl (lw_pure (pur_lss rfl rfl) rfl (cT ?_))))))
           refine cw_yes rfl (by omega) ?_
           refine cw_skip (qw_then (cw_seq (cw_block (cS (cM rfl rfl (cM rfl rfl ?_))))))
           refine lw_pure (pur_indexAddr tabOk rfl rfl rfl rfl (by omega) (by omega)) rfl ?_
           refine lw_load_r0 tabOk rfl rfl rfl hrj rfl rfl (cM rfl rfl (lw_pure (pur_seql rfl rfl) rfl (cT ?_)))
           refine cw_yes rfl (by assumption) ?_
           refine cS (cA rfl rfl (cT (cw_ret (qw_block_ret (qw_then_ret (qw_then_ret (qw_block_ret (qw_then_ret (qw_ret1 rfl rfl ?_)))))))))
           rotate_left 1
          exact ⟨rfl, X⟩
        · focus
           refine cw_seq (cS (cM rfl rfl (cM rfl rfl (lw_pure (pur_len_slice tabOk rfl rfl) rfl (lw_pure (pur_lss rfl rfl) rfl (cT ?_))))))
           refine cw_yes rfl (by omega) ?_
           refine cw_skip (qw_then (cw_seq (cw_block (cS (cM rfl rfl (cM rfl rfl ?_))))))
           refine lw_pure (pur_indexAddr tabOk rfl rfl rfl rfl (by omega) (by omega)) rfl ?_
           refine lw_load_r0 tabOk rfl rfl rfl hrj rfl rfl (cM rfl rfl (lw_pure (pur_seql rfl rfl) rfl (cT ?_)))
           refine cw_no rfl (by assumption) ?_
           refine cw_skip (qw_block_norm (qw_then (cw_region (cM rfl rfl ?_))))
           refine lw_pure (pur_add rfl rfl (IntWalk.i64_in _ (by omega))) rfl ?_
           refine cA rfl rfl (lw_nil ?_)
           rotate_left 1
          refine qw_round (j + 1) (by (refine sub_cons rfl ?_; refine sub_cons rfl ?_; refine sub_cons rfl ?_; exact sub_nil)) ⟨rfl, by omega, fun i hi h => ?_⟩ (by omega)
          by_cases e : i = j
          · subst e; exact hx
          · exact HA.out i hi (by omega)
      · have hk : keyword (c :: r) = false := by
         cases h : keyword (c :: r)
         · rfl
         · obtain ⟨i, hi, he⟩ := List.mem_iff_getElem.1 (HK.out.1 h)
           exact absurd he (HA.out i hi (by omega))
        rw [hk]
        focus
         refine cw_seq (cS (cM rfl rfl (cM rfl rfl (lw_pure (pur_len_slice tabOk rfl rfl) rfl (lw_pure (pur_lss rfl rfl) rfl (cT ?_))))))
         refine cw_no rfl (by omega) ?_
         refine cw_exit (qw_then_exit (qw_then_exit (qw_block_exit (qw_then (cS (cA rfl rfl (cT (cw_ret (qw_ret1 rfl rfl ?_)))))))))
         rotate_left 1
        exact ⟨rfl, X⟩
def opTexts : List (List UInt8) := [[43], [45], [42], [47], [37], [38], [124], [94], [61, 61], [33, 61], [60], [60, 61], [62], [62, 61], [38, 38], [124, 124]]
def opLevels : List Int := [7, 7, 8, 8, 8, 5, 3, 4, 6, 6, 6, 6, 6, 6, 2, 1]
theorem opT (j : Nat) (h : j < opTexts.length) : opTexts[j] = symbol (8 + (j : Int)) ∧ opLevels.getD j 0 = level (8 + (j : Int)) ∧ binOf (symbol (8 + (j : Int))) = some (8 + (j : Int)) := by
 have h' : j < 16 := h
 have : j = 0 ∨ j = 1 ∨ j = 2 ∨ j = 3 ∨ j = 4 ∨ j = 5 ∨ j = 6 ∨ j = 7 ∨ j = 8 ∨ j = 9 ∨ j = 10 ∨ j = 11 ∨ j = 12 ∨ j = 13 ∨ j = 14 ∨ j = 15 := by omega
 rcases this with rfl | rfl | rfl | rfl | rfl | rfl | rfl | rfl | rfl | rfl | rfl | rfl | rfl | rfl | rfl | rfl <;> exact ⟨rfl, rfl, rfl⟩
theorem binOf_none {s : List UInt8} (h : ∀ j (hj : j < opTexts.length), opTexts[j] ≠ s) : binOf s = none := by
 unfold binOf
 rw [List.find?_eq_none]
 intro k hk
 simp only [decide_eq_true_eq]
 intro e
 have hb : 8 ≤ k ∧ k ≤ 23 := by
  simp only [List.mem_cons, List.not_mem_nil, or_false] at hk
  omega
 have hj : (k - 8).toNat < opTexts.length := by show (k - 8).toNat < 16; omega
 have := (opT (k - 8).toNat hj).1
 rw [show (8 : Int) + ((k - 8).toNat : Int) = k by omega] at this
 exact h _ hj (this.trans e)
def opPair (s : List UInt8) : Int × Int := match binOf s with
 | none => (0, 0)
 | some op => (op, level op)
theorem Row.nthI {w : World} {b j : Nat} {l : List Int} (h : Row w ⟨b, 0, none⟩ (l.map (.int .i64 ·))) (hj : j < l.length) : Row w ⟨b, 0 + j * 1, none⟩ [.int .i64 (l.getD j 0)] := by
 have h1 := h.sub j 1
 have e : ((l.map (Value.int .i64 ·)).drop j).take 1 = [.int .i64 (l.getD j 0)] := by
  rw [List.drop_eq_getElem_cons (by simpa using hj)]; simp [hj]
 rw [e] at h1
 rw [Nat.mul_one]; exact h1
set_option maxRecDepth 100000 in
set_option maxHeartbeats 1000000 in
theorem roperator_c (s : List UInt8) (w : World) :
 Calls Tryz.prog 83 #[str s] w fun e w' => e = .returned (.tuple #[.int .u8 (opPair s).1, .int .i64 (opPair s).2]) ∧ Ext w w' := by
 have X := Ext.refl w
 refine calls_in Tryz.func83 Tryz.ntmps83 rfl rfl ?_
 focus
  refine cS (cA rfl rfl (cA rfl rfl (cN ?_)))
  (refine lw_does (does_slice' [_, _, _, _, _, _, _, _, _, _, _, _, _, _, _, _] tabOk zOk rfl rfl rfl rfl rfl rfl rfl rfl rfl) rfl ?_ (fun _ h => h); rintro _ w2 ⟨b1, rfl, n3, t4⟩)
  clear t4
  have h5 := New.blk n3
  have x6 := New.ext n3
  have p7 := New.pos n3
  have z8 := New.size n3
  clear n3
  replace X := Ext.ext X x6
  clear x6
  refine cA rfl rfl (cN ?_)
  (refine lw_does (does_slice' [_, _, _, _, _, _, _, _, _, _, _, _, _, _, _, _] tabOk zOk rfl rfl rfl rfl rfl rfl rfl rfl rfl) rfl ?_ (fun _ h => h); rintro _ w10 ⟨b9, rfl, n11, t12⟩)
  clear t12
  have h13 := New.blk n11
  have x14 := New.ext n11
  have p15 := New.pos n11
  have z16 := New.size n11
  clear n11
  replace h5 := Blk.ext h5 x14
  replace X := Ext.ext X x14
  clear x14
  refine cA rfl rfl (cT (cw_seq (cS (cA rfl rfl (cT (cw_block ?_))))))
  rotate_left 1
 have hT : Row w10 ⟨b1, 0, none⟩ (opTexts.map str) := h5.row
 have hL : Row w10 ⟨b9, 0, none⟩ (opLevels.map (.int .i64 ·)) := h13.row
 clear h5 h13
 have hkl : opTexts.length = 16 := rfl
 refine cw_loop (ι := Nat) (fun j => [(0, str s), (4, .slice (some ⟨b1, 0, none⟩) 16 16), (5, .slice (some ⟨b9, 0, none⟩) 16 16), (6, .int .i64 j)]) (fun j w' => w10 = w' ∧ j ≤ 16 ∧ ∀ i (hi : i < opTexts.length), i < j → opTexts[i] ≠ s) (fun j => 16 - j) 0 (by (refine sub_cons rfl ?_; refine sub_cons rfl ?_; refine sub_cons rfl ?_; refine sub_cons rfl ?_; exact sub_nil)) ⟨rfl, Nat.zero_le _, fun i _ h => by omega⟩ ?_
 rintro j _ ⟨rfl, hj, hall⟩
 have HA := Lib.hid hall; clear hall
 by_cases hlt : j < 16
 · have hrj := hT.nth (j := j) (by rw [hkl]; exact hlt)
   have hlj := hL.nthI (j := j) (show j < opLevels.length from hlt)
   obtain ⟨o1, o2, o3⟩ := opT j hlt
   rw [o2] at hlj
   have HT := Lib.hid hT; clear hT
   have HL := Lib.hid hL; clear hL
   by_cases hx : opTexts[j] = s
   · have hop : opPair s = (8 + (j : Int), level (8 + (j : Int))) := by
      unfold opPair
      rw [← hx, o1, o3]
     rw [hop]
     clear o2 o3 hop
     focus
      refine cw_seq (cS (cM rfl rfl (cM rfl rfl (lw_pure (pur_len_slice tabOk rfl rfl) rfl (lw_pure (pur_lss rfl rfl) rfl (cT ?_))))))
      refine cw_yes rfl (by omega) ?_
      refine cw_skip (qw_then (cw_seq (cw_block (cS (cM rfl rfl (cM rfl rfl ?_))))))
      refine lw_pure (pur_indexAddr tabOk rfl rfl rfl rfl (by omega) (by omega)) rfl ?_
      refine lw_load_r0 tabOk rfl rfl rfl hrj rfl rfl (cM rfl rfl (lw_pure (pur_seql rfl rfl) rfl (cT ?_)))
      refine cw_yes rfl (by assumption) ?_
      refine cw_seq ?_
      (refine cw_tdraw (fun wz => Ext w10 wz) 8 (.pure 0 (.pure 1 (.pure 2 (.pure 3 (.pure 4 (.pure 5 (.pure 6 (.pure 7 .tail)))))))) mixed (by kernel_rfl) (panicOk_then (panicOk_block (panicOk_then (panicOk_then (panicOk_block (panicOk_then panicOk_body)))))) ?_; intro wa1 xa2 _)
      have qsa3 : (fun wz => Ext w10 wz) wa1 := xa2
      simp only at qsa3
      have d_hrj := hrj
      have d_hlj := hlj
      have za4 := Ext.size xa2
      replace X := Ext.ext X xa2
      replace hrj := Row.ext hrj xa2
      replace hlj := Row.ext hlj xa2
      clear xa2
      refine ⟨qsa3, ?_⟩
      refine tw_pure rfl (pur_move rfl) rfl ?_
      refine tw_pure rfl (pur_conv tabOk rfl rfl rfl (u8_wrap _ (by omega) (by omega))) rfl ?_
      refine tw_pure rfl (pur_add rfl rfl (u8_wrap _ (by omega) (by omega))) rfl ?_
      refine tw_pure rfl (pur_move rfl) rfl (tw_pure rfl (pur_move rfl) rfl ?_)
      refine tw_pure rfl (pur_indexAddr tabOk rfl rfl rfl rfl (by omega) (by omega)) rfl ?_
      refine tw_pure rfl (pur_load tabOk rfl rfl rfl (fun wz hz => Row.at0 (Row.ext d_hlj hz) rfl)) rfl (tw_pure rfl (pur_assign rfl) rfl ?_)
      clear qsa3 d_hrj d_hlj
      refine tw_tail rfl (cA rfl rfl (cT (cw_ret (qw_block_ret (qw_then_ret (qw_then_ret (qw_block_ret (qw_then_ret (qw_ret2 rfl rfl rfl ?_)))))))))
      rotate_left 1
     exact ⟨rfl, X⟩
   · focus
      refine cw_seq (cS (cM rfl rfl (cM rfl rfl (lw_pure (pur_len_slice tabOk rfl rfl) rfl (lw_pure (pur_lss rfl rfl) rfl (cT ?_))))))
      refine cw_yes rfl (by omega) ?_
      refine cw_skip (qw_then (cw_seq (cw_block (cS (cM rfl rfl (cM rfl rfl ?_))))))
      refine lw_pure (pur_indexAddr tabOk rfl rfl rfl rfl (by omega) (by omega)) rfl ?_
      refine lw_load_r0 tabOk rfl rfl rfl hrj rfl rfl (cM rfl rfl (lw_pure (pur_seql rfl rfl) rfl (cT ?_)))
      refine cw_no rfl (by assumption) ?_
      refine cw_skip (qw_block_norm (qw_then (cw_region (cM rfl rfl ?_))))
      refine lw_pure (pur_add rfl rfl (IntWalk.i64_in _ (by omega))) rfl ?_
      refine cA rfl rfl (lw_nil ?_)
      rotate_left 1
     refine qw_round (j + 1) (by (refine sub_cons rfl ?_; refine sub_cons rfl ?_; refine sub_cons rfl ?_; refine sub_cons rfl ?_; exact sub_nil)) ⟨rfl, by omega, fun i hi h => ?_⟩ (by omega)
     by_cases e : i = j
     · subst e; exact hx
     · exact HA.out i hi (by omega)
 · have hop : opPair s = (0, 0) := by
    unfold opPair
    rw [binOf_none (fun i hi => HA.out i hi (by rw [hkl] at hi; omega))]
   rw [hop]
   focus
    refine cw_seq (cS (cM rfl rfl (cM rfl rfl (lw_pure (pur_len_slice tabOk rfl rfl) rfl (lw_pure (pur_lss rfl rfl) rfl (cT ?_))))))
    refine cw_no rfl (by omega) ?_
    refine cw_exit (qw_then_exit (qw_then_exit (qw_block_exit (qw_then (cS (cA rfl rfl (cA rfl rfl (cT (cw_ret (qw_ret2 rfl rfl rfl ?_))))))))))
    rotate_left 1
   exact ⟨rfl, X⟩
theorem rpeek_len {c : RC} {σ : PS} {w : World} (hP : RP c σ w) : (peekP c.ts σ).text.length ≤ 1000000 := by
 by_cases h : σ.err ≠ 0 ∨ σ.at_ = c.ts.length
 · rw [rpeek_off h]; simp [Tok.zero]
 · have hlt : σ.at_ < c.ts.length := by have : σ.at_ ≠ c.ts.length := fun e => h (Or.inr e); have := hP.at_; omega
   rw [rpeek_is h hlt]
   exact hP.tok _ (List.getElem_mem hlt)
theorem rpeek_name {c : RC} {σ : PS} {w : World} (hP : RP c σ w) : refName (peekP c.ts σ).text = isName (peekP c.ts σ).text := by
 by_cases h : σ.err ≠ 0 ∨ σ.at_ = c.ts.length
 · rw [rpeek_off h]; rfl
 · have hlt : σ.at_ < c.ts.length := by have : σ.at_ ≠ c.ts.length := fun e => h (Or.inr e); have := hP.at_; omega
   rw [rpeek_is h hlt]
   exact hP.nm _ (List.getElem_mem hlt)
theorem rpeek_num {c : RC} {σ : PS} {w : World} (hP : RP c σ w) (hd : startsDigit (peekP c.ts σ).text = true) : ∀ x ∈ (peekP c.ts σ).text, digit x = true := by
 by_cases h : σ.err ≠ 0 ∨ σ.at_ = c.ts.length
 · rw [rpeek_off h]; simp [Tok.zero]
 · have hlt : σ.at_ < c.ts.length := by have : σ.at_ ≠ c.ts.length := fun e => h (Or.inr e); have := hP.at_; omega
   rw [rpeek_is h hlt] at hd ⊢
   exact hP.num _ (List.getElem_mem hlt) hd
set_option maxRecDepth 100000 in
set_option maxHeartbeats 1000000 in
theorem rname_c (c : RC) (σ : PS) (w : World) (hP : RP c σ w) :
 Calls Tryz.prog 33 #[.pointer (some ⟨c.pb, 0, none⟩)] w fun r w' => r = .returned (str (nameP c.ts c.n σ).1) ∧ RP c (nameP c.ts c.n σ).2 w' ∧ Fr (· = c.pb) w w' := by
 have X := Fr.refl (· = c.pb) w
 have hl := hP.len
 have hpl := rpeek_len hP
 have hpb := hP.pbB
 have hB := hP.B
 have hrn := rpeek_name hP
 by_cases h0 : σ.err = 0
 · cases h : isName (peekP c.ts σ).text
   · rw [h] at hrn
     rw [show nameP c.ts c.n σ = ([], unexpP c.ts c.n σ) from by simp [nameP, h]]
     refine calls_in Tryz.func33 Tryz.ntmps33 rfl rfl ?_
     focus
      refine cS (cA rfl rfl (cT (cw_seq (cS (cM rfl rfl (lw_pure (pur_nilCheck rfl) rfl (lw_pure (pur_fieldAddr tabOk rfl rfl rfl) rfl (lw_load_b tabOk rfl rfl rfl (RP.blk hP) rfl rfl (lw_pure (pur_neq rfl rfl) rfl (cT ?_))))))))))
      refine cw_no rfl (by omega) ?_
      refine cw_skip (qw_then (cS (cM rfl rfl ?_)))
      refine lw_does (does_call (by kernel_rfl) rfl (rpeek_c _ _ _ (by assumption)) (fun _ _ h => ⟨_, h.1⟩)) rfl ?_ (fun _ h => h)
      rintro _ w2 ⟨⟨⟩, x1⟩
      have z3 := Ext.size x1
      replace hP := RP.ext hP x1
      replace X := Fr.ext X x1
      clear x1
      refine cA rfl rfl (cT (cw_seq (cS (cM rfl rfl ?_))))
      refine lw_does (does_call (by kernel_rfl) rfl (rIsName_c _ _ (by omega)) (fun _ _ h => ⟨_, h.1⟩)) rfl ?_ (fun _ h => h)
      rintro _ w5 ⟨⟨⟩, x4⟩
      have z6 := Ext.size x4
      replace hP := RP.ext hP x4
      replace X := Fr.ext X x4
      clear x4
      refine lw_pure (pur_not rfl) rfl (cT ?_)
      refine cw_nt rfl (by assumption) ?_
      refine cS (cM rfl rfl ?_)
      refine lw_does (does_call (by kernel_rfl) rfl (rwrong_c _ _ _ (by assumption)) (fun _ _ h => ⟨_, h.1⟩)) rfl ?_ (fun _ h => h)
      rintro _ w9 ⟨⟨⟩, ⟨h7, f8⟩⟩
      have z10 := Fr.size f8
      clear hP
      replace X := Fr.fr X f8 (by omega)
      clear f8
      refine cN (cA rfl rfl (cT (cw_ret (qw_then_ret (qw_ret1 rfl rfl ?_)))))
      rotate_left 1
     exact ⟨rfl, by assumption, X⟩
   · rw [h] at hrn
     rw [show nameP c.ts c.n σ = ((peekP c.ts σ).text, nextP σ) from by simp [nameP, h]]
     obtain ⟨h2, h3⟩ := peek_in hP.at_ (Or.inl (isName_ne h))
     refine calls_in Tryz.func33 Tryz.ntmps33 rfl rfl ?_
     focus
      refine cS (cA rfl rfl (cT (cw_seq (cS (cM rfl rfl (lw_pure (pur_nilCheck rfl) rfl (lw_pure (pur_fieldAddr tabOk rfl rfl rfl) rfl (lw_load_b tabOk rfl rfl rfl (RP.blk hP) rfl rfl (lw_pure (pur_neq rfl rfl) rfl (cT ?_))))))))))
      refine cw_no rfl (by omega) ?_
      refine cw_skip (qw_then (cS (cM rfl rfl ?_)))
      refine lw_does (does_call (by kernel_rfl) rfl (rpeek_c _ _ _ (by assumption)) (fun _ _ h => ⟨_, h.1⟩)) rfl ?_ (fun _ h => h)
      rintro _ wa2 ⟨⟨⟩, xa1⟩
      have za3 := Ext.size xa1
      replace hP := RP.ext hP xa1
      replace X := Fr.ext X xa1
      clear xa1
      refine cA rfl rfl (cT (cw_seq (cS (cM rfl rfl ?_))))
      refine lw_does (does_call (by kernel_rfl) rfl (rIsName_c _ _ (by omega)) (fun _ _ h => ⟨_, h.1⟩)) rfl ?_ (fun _ h => h)
      rintro _ wa5 ⟨⟨⟩, xa4⟩
      have za6 := Ext.size xa4
      replace hP := RP.ext hP xa4
      replace X := Fr.ext X xa4
      clear xa4
      refine lw_pure (pur_not rfl) rfl (cT ?_)
      refine cw_nf rfl (by assumption) ?_
      refine cw_skip (qw_then (cS (cM rfl rfl (cM rfl rfl (lw_pure (pur_nilCheck rfl) rfl (lw_pure (pur_fieldAddr tabOk rfl rfl rfl) rfl (lw_load_b tabOk rfl rfl rfl (RP.blk hP) rfl rfl ?_)))))))
      refine lw_pure (pur_add rfl rfl (IntWalk.i64_in _ (by omega))) rfl ?_
      refine lw_pure (pur_nilCheck rfl) rfl (lw_pure (pur_fieldAddr tabOk rfl rfl rfl) rfl ?_)
      refine lw_rp_at tabOk rfl rfl rfl rfl (by assumption) h3 ?_
      rintro wa7 ha8 fa9
      have za10 := Fr.size fa9
      clear hP
      replace X := Fr.fr X fa9 (by omega)
      clear fa9
      refine cN (cM rfl rfl (cA rfl rfl (cT (cw_ret (qw_ret1 rfl rfl ?_)))))
      rotate_left 1
     exact ⟨rfl, by assumption, X⟩
 · have h1 : nameP c.ts c.n σ = ([], σ) := by
    have hz : isName (peekP c.ts σ).text = false := by rw [rpeek_off (Or.inl h0)]; rfl
    have hu : unexpP c.ts c.n σ = σ := by
     simp only [unexpP]
     split <;> simp [failP, h0]
    simp [nameP, hz, hu]
   rw [h1]
   refine calls_in Tryz.func33 Tryz.ntmps33 rfl rfl ?_
   focus
    refine cS (cA rfl rfl (cT (cw_seq (cS (cM rfl rfl (lw_pure (pur_nilCheck rfl) rfl (lw_pure (pur_fieldAddr tabOk rfl rfl rfl) rfl (lw_load_b tabOk rfl rfl rfl (RP.blk hP) rfl rfl (lw_pure (pur_neq rfl rfl) rfl (cT ?_))))))))))
    refine cw_yes rfl (by assumption) ?_
    refine cS (cA rfl rfl (cT (cw_ret (qw_then_ret (qw_ret1 rfl rfl ?_)))))
    rotate_left 1
   exact ⟨rfl, by assumption, X⟩
end Bk
namespace Bk
open Go
def pre (acc : List Tok) (r : List Tok × Option Nat) : List Tok × Option Nat := match r.2 with
 | none => (acc ++ r.1, none)
 | some p => ([], some p)
theorem pre_pre (a b : List Tok) (r : List Tok × Option Nat) : pre a (pre b r) = pre (a ++ b) r := by
 rcases r with ⟨l, _ | p⟩ <;> simp [pre]
theorem lexGo_acc (s : List UInt8) : ∀ (k p : Nat) (acc : List Tok), lexGo k s p acc = pre acc (lexGo k s p [])
 | 0, p, acc => by simp [lexGo, pre]
 | k + 1, p, acc => by
  rw [lexGo, lexGo]
  split
  · split
    · simp [pre]
    · rw [lexGo_acc s k _ (acc ++ _), lexGo_acc s k _ ([] ++ _), pre_pre]
      simp
  · simp [pre]
theorem lexGo_fuel (s : List UInt8) : ∀ (k k' p : Nat) (acc : List Tok), s.length - p < k → s.length - p < k' → lexGo k s p acc = lexGo k' s p acc
 | 0, _, _, _, h, _ => by omega
 | _, 0, _, _, _, h => by omega
 | k + 1, k' + 1, p, acc, h, h' => by
  rw [lexGo, lexGo]
  split
  · split
    · rfl
    · exact lexGo_fuel s k k' _ _ (by omega) (by omega)
  · rfl
def lexFrom (s : List UInt8) (p : Nat) : List Tok × Option Nat := lexGo (s.length + 1) s p []
def tokAt (s : List UInt8) (p : Nat) : Tok := ⟨((firstTok (s.drop p)).1 : Nat), (s.drop p).take (firstTok (s.drop p)).2, (p : Int)⟩
theorem lexFrom_end {s : List UInt8} {p : Nat} (h : s.length ≤ p) : lexFrom s p = ([], none) := by
 unfold lexFrom; rw [lexGo, if_neg (by omega)]
theorem lexFrom_err {s : List UInt8} {p : Nat} (h : p < s.length) (h0 : (firstTok (s.drop p)).2 = 0) : lexFrom s p = ([], some p) := by
 unfold lexFrom; rw [lexGo, if_pos h, if_pos h0]
theorem lexFrom_step {s : List UInt8} {p : Nat} (h : p < s.length) (h0 : (firstTok (s.drop p)).2 ≠ 0) : lexFrom s p = pre [tokAt s p] (lexFrom s (p + (firstTok (s.drop p)).2)) := by
 unfold lexFrom
 rw [lexGo, if_pos h, if_neg h0, lexGo_acc]
 rw [lexGo_fuel s s.length (s.length + 1) _ _ (by omega) (by omega)]
 rfl
def solidR (r : List Tok × Option Nat) : List Tok × Option Nat := match r.2 with
 | none => (solidT r.1, none)
 | some p => ([], some p)
def solidFrom (s : List UInt8) (p : Nat) : List Tok × Option Nat := solidR (lexFrom s p)
theorem solidR_pre (t : Tok) (r : List Tok × Option Nat) : solidR (pre [t] r) = if t.kind ≠ 4 ∧ t.kind ≠ 5 then pre [t] (solidR r) else solidR r := by
 rcases r with ⟨l, _ | p⟩
 · by_cases h : t.kind ≠ 4 ∧ t.kind ≠ 5
   · simp [pre, solidR, solidT, List.filter_cons, h]
   · rw [if_neg h]
     have : (decide (t.kind ≠ 4) && decide (t.kind ≠ 5)) = false := by
      simp only [Bool.and_eq_false_iff, decide_eq_false_iff_not]; omega
     simp only [pre, solidR, solidT, List.singleton_append, List.filter_cons, this]
     simp
 · simp [pre, solidR]
theorem solidFrom_end {s : List UInt8} {p : Nat} (h : s.length ≤ p) : solidFrom s p = ([], none) := by
 unfold solidFrom; rw [lexFrom_end h]; rfl
theorem solidFrom_err {s : List UInt8} {p : Nat} (h : p < s.length) (h0 : (firstTok (s.drop p)).2 = 0) : solidFrom s p = ([], some p) := by
 unfold solidFrom; rw [lexFrom_err h h0]; rfl
theorem solidFrom_tok {s : List UInt8} {p : Nat} (h : p < s.length) (h0 : (firstTok (s.drop p)).2 ≠ 0) (h4 : (firstTok (s.drop p)).1 ≠ 4) (h5 : (firstTok (s.drop p)).1 ≠ 5) :
 solidFrom s p = pre [tokAt s p] (solidFrom s (p + (firstTok (s.drop p)).2)) := by
 unfold solidFrom; rw [lexFrom_step h h0, solidR_pre, if_pos]
 constructor <;> simp only [tokAt] <;> omega
theorem solidFrom_skip {s : List UInt8} {p : Nat} (h : p < s.length) (h0 : (firstTok (s.drop p)).2 ≠ 0) (h4 : (firstTok (s.drop p)).1 = 4 ∨ (firstTok (s.drop p)).1 = 5) :
 solidFrom s p = solidFrom s (p + (firstTok (s.drop p)).2) := by
 unfold solidFrom; rw [lexFrom_step h h0, solidR_pre, if_neg]
 simp only [tokAt]; omega
theorem drop_at {s : List UInt8} {p : Nat} (h : p < s.length) : s.drop p = s[p] :: s.drop (p + 1) := List.drop_eq_getElem_cons h
theorem blank_parts {c : UInt8} (h : blank c = true) : letter c = false ∧ digit c = false ∧ c ≠ 35 := by
 simp only [blank, Bool.or_eq_true, decide_eq_true_eq] at h
 refine ⟨?_, ?_, ?_⟩
 · simp only [letter, Bool.and_eq_false_iff, decide_eq_false_iff_not]; omega
 · simp only [digit, Bool.and_eq_false_iff, decide_eq_false_iff_not]; omega
 · rintro rfl; exact absurd h (by decide)
theorem firstTok_blank {c : UInt8} {r : List UInt8} (h : blank c = true) : firstTok (c :: r) = (4, 1 + span blank r) := by
 obtain ⟨h1, h2, -⟩ := blank_parts h
 simp [firstTok, h, h1, h2, span, List.takeWhile_cons]; omega
theorem firstTok_hash {r : List UInt8} : firstTok (35 :: r) = (5, 1 + span notLf r) := by
 have h1 : letter 35 = false := by decide
 have h2 : digit 35 = false := by decide
 have h3 : blank 35 = false := by decide
 have h4 : notLf 35 = true := by decide
 simp [firstTok, h1, h2, h3, h4, span, List.takeWhile_cons]; omega
theorem span_zero {p : UInt8 → Bool} {s : List UInt8} (h : ∀ c ∈ s.head?, p c = false) : span p s = 0 := by
 cases s with
 | nil => rfl
 | cons c r => simp [span, List.takeWhile_cons, h c (by simp)]
theorem solidFrom_blank {s : List UInt8} {p : Nat} (h : p < s.length) (hb : blank s[p] = true) : solidFrom s p = solidFrom s (p + 1) := by
 have e : firstTok (s.drop p) = (4, 1 + span blank (s.drop (p + 1))) := by rw [drop_at h]; exact firstTok_blank hb
 rw [solidFrom_skip h (by rw [e]; simp) (by rw [e]; simp), e]
 by_cases h1 : p + 1 < s.length
 · by_cases h2 : blank s[p + 1] = true
   · have e2 : firstTok (s.drop (p + 1)) = (4, 1 + span blank (s.drop (p + 1 + 1))) := by rw [drop_at h1]; exact firstTok_blank h2
     rw [solidFrom_skip h1 (by rw [e2]; simp) (by rw [e2]; simp), e2]
     have : span blank (s.drop (p + 1)) = 1 + span blank (s.drop (p + 1 + 1)) := by
      rw [drop_at h1]; simp only [span, List.takeWhile_cons, h2, if_true, List.length_cons]; omega
     rw [this]
     congr 1; omega
   · rw [span_zero (s := s.drop (p + 1))]
     rw [drop_at h1]; intro c hc; simp only [List.head?_cons, Option.mem_def, Option.some.injEq] at hc; rw [← hc]; simpa using h2
 · rw [span_zero (s := s.drop (p + 1))]
   rw [List.drop_eq_nil_of_le (by omega)]; simp
theorem solidFrom_hash {s : List UInt8} {p : Nat} (h : p < s.length) (hb : s[p] = 35) : solidFrom s p = solidFrom s (p + span notLf (s.drop p)) := by
 have e : firstTok (s.drop p) = (5, 1 + span notLf (s.drop (p + 1))) := by rw [drop_at h, hb]; exact firstTok_hash
 have e2 : span notLf (s.drop p) = 1 + span notLf (s.drop (p + 1)) := by
  rw [drop_at h, hb]
  have h4 : notLf 35 = true := by decide
  simp [span, List.takeWhile_cons, h4]; omega
 rw [solidFrom_skip h (by rw [e]; simp) (by rw [e]; simp), e, e2]
def signsL : List (List UInt8) := [[60, 61, 62], [58, 61], [43, 61], [45, 61], [94, 61], [61, 61], [33, 61], [60, 61], [62, 61], [38, 38], [124, 124], [43], [45], [42], [47], [37], [38], [124], [94], [33], [61], [60], [62], [40], [41], [123], [125], [91], [93], [59], [44]]
def pickLen (L : List (List UInt8)) (s : List UInt8) : Nat := ((L.find? (·.isPrefixOf s)).map List.length).getD 0
theorem pickLen_append (A B : List (List UInt8)) (s : List UInt8) (hA : ∀ x ∈ A, x ≠ []) : pickLen (A ++ B) s = if pickLen A s = 0 then pickLen B s else pickLen A s := by
 unfold pickLen
 rw [List.find?_append]
 cases h : A.find? (·.isPrefixOf s) with
 | none => simp
 | some x =>
  have := hA x (List.mem_of_find?_eq_some h)
  simp [this]
theorem prefix_take {x s : List UInt8} : x.isPrefixOf s = true ↔ x = s.take x.length := by
 rw [List.isPrefixOf_iff_prefix, List.prefix_iff_eq_take]
theorem pickLen_same (m : Nat) (s : List UInt8) : ∀ L : List (List UInt8), (∀ x ∈ L, x.length = m) → pickLen L s = if L.contains (s.take m) then m else 0
 | [], _ => by simp [pickLen]
 | x :: r, h => by
  have hx := h x (by simp)
  have ih := pickLen_same m s r (fun y hy => h y (by simp [hy]))
  unfold pickLen at ih ⊢
  rw [List.find?_cons]
  by_cases e : x.isPrefixOf s = true
  · rw [e]
    have := prefix_take.1 e
    rw [hx] at this
    simp [← this, hx]
  · have e' : x.isPrefixOf s = false := Bool.eq_false_iff.2 e
    rw [e']
    have : ¬ s.take m = x := fun q => e (prefix_take.2 (by rw [hx]; exact q.symm))
    rw [ih]
    simp [this]
theorem signs_split : signsL = [[60, 61, 62]] ++ (pairs ++ singles.map fun c => [c]) := by decide
theorem pickLen_signs (s : List UInt8) : pickLen signsL s = signLen s := by
 rw [signs_split, pickLen_append _ _ _ (by decide), pickLen_append _ _ _ (by decide), pickLen_same 2 s pairs (by decide), pickLen_same 1 s (singles.map fun c => [c]) (by decide)]
 unfold signLen
 have h1 : pickLen [[60, 61, 62]] s = if List.isPrefixOf [60, 61, 62] s then 3 else 0 := by
  unfold pickLen
  cases h : List.isPrefixOf [60, 61, 62] s <;> simp [List.find?_cons, h]
 have h2 : (singles.map fun c => [c]).contains (s.take 1) = (s.head?.map (singles.contains ·)).getD false := by
  cases s with
  | nil => decide
  | cons c r => simp [List.contains_eq_any_beq, Bool.eq_iff_iff]
 rw [h1, h2]
 cases List.isPrefixOf [60, 61, 62] s
 · simp only [Bool.false_eq_true, if_false, if_true]
   cases pairs.contains (s.take 2) <;> simp
 · simp
theorem pickLen_snoc (A : List (List UInt8)) (x s : List UInt8) (hA : ∀ y ∈ A, y ≠ []) : pickLen (A ++ [x]) s = if pickLen A s = 0 then (if x.isPrefixOf s then x.length else 0) else pickLen A s := by
 rw [pickLen_append _ _ _ hA]
 congr 1
 unfold pickLen
 cases h : x.isPrefixOf s <;> simp [List.find?_cons, h]
end Bk
namespace Bk
open Go Go.RowKit Go.Proofs
attribute [local irreducible] Go.Calls
set_option maxRecDepth 100000 in
set_option maxHeartbeats 1000000 in
theorem rsigns_c (w : World) : Calls Tryz.prog 111 #[] w fun e w' => ∃ b, e = .returned (.slice (some ⟨b, 0, none⟩) 31 31) ∧ Row w' ⟨b, 0, none⟩ (signsL.map str) ∧ Ext w w' := by
 have X := Ext.refl w
 refine calls_in (args := []) Tryz.func111 Tryz.ntmps111 rfl rfl ?_
 focus
  refine cS (cA rfl rfl (cN ?_))
  (refine lw_does (does_slice' [_, _, _, _, _, _, _, _, _, _, _, _, _, _, _, _, _, _, _, _, _, _, _, _, _, _, _, _, _, _, _] tabOk zOk rfl rfl rfl rfl rfl rfl rfl rfl rfl) rfl ?_ (fun _ h => h); rintro _ w2 ⟨b1, rfl, n3, t4⟩)
  clear t4
  have h5 := New.blk n3
  have x6 := New.ext n3
  have p7 := New.pos n3
  have z8 := New.size n3
  clear n3
  replace X := Ext.ext X x6
  clear x6
  refine cA rfl rfl (cT (cw_ret (qw_ret1 rfl rfl ?_)))
  rotate_left 1
 exact ⟨_, rfl, Blk.row (by assumption), X⟩
def rtokShape : Shape Tok where
 sz := 2
 rep := fun _ _ v cs => cs = v.rcells
 len := fun h => by rw [h]; rfl
 one := fun h => by rw [h]; rfl
 mono := fun h _ _ => h
 lt := fun h => h
def RToks (S : Nat → Prop) (w : World) (l : List Tok) (a : Option Addr) : Prop := Arr S 2 RTokAt w l a
theorem RToks.lt2 {S : Nat → Prop} {w : World} {l : List Tok} {a : Option Addr} (h : RToks S w l a) : RToks (fun b => S b ∧ b < w.heap.size) w l a := by
 rcases h with h | ⟨b, o, h1, h2, h3⟩
 · exact Or.inl h
 · cases l with
   | nil => exact Or.inl rfl
   | cons v r => exact Or.inr ⟨b, o, h1, ⟨h2, cell_lt (Row.at0 (h3 0 v rfl) rfl)⟩, h3⟩
theorem OwnL.rtoks {w : World} {B e : Nat} {a : Option Addr} {len cap : Nat} {xs : List Tok} {S : Nat → Prop} (h : OwnL rtokShape w B e (.slice a len cap) xs) (hS : ∀ b, B ≤ b → S b) : RToks S w xs a := by
 by_cases hx : xs = []
 · exact Or.inl hx
 · obtain ⟨g, cap', hv, hg, hall⟩ := h.rows hx
   simp only [Value.slice.injEq] at hv
   obtain ⟨rfl, -, -⟩ := hv
   refine Or.inr ⟨g, 0, rfl, hS g hg, fun i x hi => ?_⟩
   obtain ⟨cs, hr, rfl⟩ := hall i x hi
   simpa [rtokShape, RTokAt] using hr
def RTokR (w : World) (r : List Tok × Option Nat) : Ending → World → Prop := fun e w' => ∃ a k, e = .returned (.tuple #[.slice a r.1.length k, .int .i64 (r.2.getD 0), .bool r.2.isNone]) ∧ RToks (fun b => w.heap.size ≤ b ∧ b < w'.heap.size) w' r.1 a ∧ Ext w w'
theorem RTokR.ret {w : World} {r : List Tok × Option Nat} {e : Ending} {w' : World} (h : RTokR w r e w') : ∃ v, e = .returned v := by
 obtain ⟨_, _, h, -⟩ := h
 exact ⟨_, h⟩
theorem pre_solid (s : List UInt8) (p : Nat) : pre [] (solidFrom s p) = solidFrom s p := by
 unfold solidFrom
 rcases lexFrom s p with ⟨l, _ | q⟩ <;> simp [solidR, pre]
theorem span_at {f : UInt8 → Bool} {s : List UInt8} {p : Nat} (h : p < s.length) : span f (s.drop p) = if f s[p] then 1 + span f (s.drop (p + 1)) else 0 := by
 rw [drop_at h]; unfold span; rw [List.takeWhile_cons]; split <;> simp; omega
theorem span_le {f : UInt8 → Bool} {s : List UInt8} {p : Nat} : span f (s.drop p) ≤ s.length - p := by
 have := takeWhile_len f (s.drop p)
 rw [List.length_drop] at this
 exact this
theorem span_over {f : UInt8 → Bool} {s : List UInt8} {p : Nat} (h : s.length ≤ p) : span f (s.drop p) = 0 := by
 rw [List.drop_eq_nil_of_le h]; rfl
theorem step_tok {s : List UInt8} {p k n : Nat} {acc : List Tok} (h : p < s.length) (hf : firstTok (s.drop p) = (k, n)) (h0 : n ≠ 0) (h4 : k ≠ 4) (h5 : k ≠ 5) (he : solidFrom s 0 = pre acc (solidFrom s p)) :
 solidFrom s 0 = pre (acc ++ [⟨(k : Int), (s.drop p).take n, (p : Int)⟩]) (solidFrom s (p + n)) := by
 have e := solidFrom_tok h (by rw [hf]; exact h0) (by rw [hf]; exact h4) (by rw [hf]; exact h5)
 rw [he, e, pre_pre, tokAt, hf]
theorem pickLen_more {A B : List (List UInt8)} {s : List UInt8} (hA : ∀ x ∈ A, x ≠ []) (h : pickLen A s ≠ 0) : pickLen (A ++ B) s = pickLen A s := by
 rw [pickLen_append _ _ _ hA, if_neg h]
theorem signs_ne : ∀ x ∈ signsL, x ≠ [] := by decide
theorem signs_take (j : Nat) : ∀ x ∈ signsL.take j, x ≠ [] := fun x hx => signs_ne x (List.mem_of_mem_take hx)
theorem pick_next {j : Nat} {s : List UInt8} (hj : j < signsL.length) (h0 : pickLen (signsL.take j) s = 0) : pickLen (signsL.take (j + 1)) s = if (signsL[j]).isPrefixOf s then (signsL[j]).length else 0 := by
 rw [List.take_add_one, List.getElem?_eq_getElem hj]
 show pickLen (signsL.take j ++ [signsL[j]]) s = _
 rw [pickLen_snoc _ _ _ (signs_take j), if_pos h0]
theorem pick_all {j : Nat} {s : List UInt8} (h0 : pickLen (signsL.take j) s ≠ 0) : pickLen (signsL.take j) s = signLen s := by
 rw [← pickLen_signs]
 conv => rhs; rw [← List.take_append_drop j signsL]
 exact (pickLen_more (signs_take j) h0).symm
set_option maxRecDepth 100000 in
set_option maxHeartbeats 4000000 in
theorem rTokens_c (s : List UInt8) (w : World) (hs : s.length ≤ 1000000) : Calls Tryz.prog 74 #[str s] w (RTokR w (solidFrom s 0)) := by
 have X := Ext.refl w
 refine calls_in Tryz.func74 Tryz.ntmps74 rfl rfl ?_
 focus
  refine cS (cA rfl rfl (cA rfl rfl (cA rfl rfl (cN (cA rfl rfl (cT (cw_seq (cS (cA rfl rfl (cT (cw_block ?_)))))))))))
  rotate_left 1
 refine cw_loop (ι := Nat × List Tok × Option Addr × Nat) (fun x => [(0, str s), (5, .slice x.2.2.1 x.2.1.length x.2.2.2), (6, .int .i64 x.1)])
  (fun x w' => OwnL rtokShape w' w.heap.size 105 (.slice x.2.2.1 x.2.1.length x.2.2.2) x.2.1 ∧ Ext w w' ∧ x.1 ≤ s.length ∧ x.2.1.length ≤ x.1 ∧ solidFrom s 0 = pre x.2.1 (solidFrom s x.1)) (fun x => s.length - x.1) (0, [], none, 0) (by (refine sub_cons rfl ?_; refine sub_cons rfl ?_; refine sub_cons rfl ?_; exact sub_nil)) ⟨OwnL.nil, X, Nat.zero_le _, Nat.le_refl _, (pre_solid s 0).symm⟩ ?_
 rintro ⟨p, acc, a, cap⟩ w1 ⟨hown, X, hp, hacc, he⟩
 simp only at hown hp hacc he
 refine CW.sub (m := [(0, str s), (5, .slice a acc.length cap), (6, .int .i64 p)]) ?_ (by (refine sub_cons rfl ?_; refine sub_cons rfl ?_; refine sub_cons rfl ?_; exact sub_nil))
 by_cases hlt : p < s.length
 · have hcp : s[(p : Int).toNat]? = some s[p] := List.getElem?_eq_getElem hlt
   by_cases hb : blank s[p] = true
   · rw [solidFrom_blank hlt hb] at he
     have HE := Lib.hid he; clear he
     generalize s[p] = c at hcp hb
     simp only [blank, Bool.or_eq_true, decide_eq_true_eq] at hb
     rcases hb with ((hb | hb) | hb) | hb
     · focus
        refine cw_seq (cS (cM rfl rfl (cM rfl rfl (lw_pure (pur_len_s tabOk rfl rfl) rfl (lw_pure (pur_lss rfl rfl) rfl (cT ?_))))))
        refine cw_yes rfl (by omega) ?_
        refine cw_skip (qw_then (cw_block (cS (cM rfl rfl (cM rfl rfl ?_)))))
        refine lw_pure (pur_sindex tabOk rfl rfl rfl (by omega) (by assumption)) rfl ?_
        refine cA rfl rfl (cT (cw_seq (cS (cM rfl rfl (lw_pure (pur_eql rfl rfl) rfl (cM rfl rfl ?_))))))
        refine lw_off rfl rfl rfl (gd_ft (by omega)) rfl ?_
        refine lw_off rfl rfl rfl (gd_ft (by omega)) rfl ?_
        refine lw_pure (pur_pick_yes rfl rfl (by omega)) rfl ?_
        refine cM rfl rfl (lw_off rfl rfl rfl (rfl) rfl (lw_off rfl rfl rfl (rfl) rfl (lw_pure (pur_pick_t rfl rfl rfl) rfl (cM rfl rfl (lw_off rfl rfl rfl (rfl) rfl (lw_off rfl rfl rfl (rfl) rfl (lw_pure (pur_pick_t rfl rfl rfl) rfl (cT (cw_cond_t rfl (cS (cM rfl rfl ?_)))))))))))
        refine lw_pure (pur_add rfl rfl (IntWalk.i64_in _ (by omega))) rfl ?_
        refine cA rfl rfl (cT (cw_exit (qw_then_exit (qw_block_exit ?_))))
        rotate_left 1
       exact qw_round (p + 1, acc, a, cap) (by (refine sub_cons rfl ?_; refine sub_cons rfl ?_; refine sub_cons rfl ?_; exact sub_nil)) ⟨by assumption, X, by simp only; omega, by simp only; omega, HE.out⟩ (by simp only; omega)
     · focus
        refine cw_seq (cS (cM rfl rfl (cM rfl rfl (lw_pure (pur_len_s tabOk rfl rfl) rfl (lw_pure (pur_lss rfl rfl) rfl (cT ?_))))))
        refine cw_yes rfl (by omega) ?_
        refine cw_skip (qw_then (cw_block (cS (cM rfl rfl (cM rfl rfl ?_)))))
        refine lw_pure (pur_sindex tabOk rfl rfl rfl (by omega) (by assumption)) rfl ?_
        refine cA rfl rfl (cT (cw_seq (cS (cM rfl rfl (lw_pure (pur_eql rfl rfl) rfl (cM rfl rfl ?_))))))
        refine lw_on rfl rfl rfl (gd_ff (by omega)) ?_
        refine cM rfl rfl ?_
        refine lw_on rfl rfl rfl (gd_ff (by omega)) ?_
        refine lw_pure (pur_eql rfl rfl) rfl ?_
        refine lw_pure (pur_pick_no rfl rfl (by omega)) rfl ?_
        refine cM rfl rfl ?_
        refine lw_off rfl rfl rfl (gd_ft (by omega)) rfl ?_
        refine lw_off rfl rfl rfl (gd_ft (by omega)) rfl ?_
        refine lw_pure (pur_pick_yes rfl rfl (by omega)) rfl ?_
        refine cM rfl rfl (lw_off rfl rfl rfl (rfl) rfl (lw_off rfl rfl rfl (rfl) rfl (lw_pure (pur_pick_t rfl rfl rfl) rfl (cT (cw_cond_t rfl (cS (cM rfl rfl ?_)))))))
        refine lw_pure (pur_add rfl rfl (IntWalk.i64_in _ (by omega))) rfl ?_
        refine cA rfl rfl (cT (cw_exit (qw_then_exit (qw_block_exit ?_))))
        rotate_left 1
       exact qw_round (p + 1, acc, a, cap) (by (refine sub_cons rfl ?_; refine sub_cons rfl ?_; refine sub_cons rfl ?_; exact sub_nil)) ⟨by assumption, X, by simp only; omega, by simp only; omega, HE.out⟩ (by simp only; omega)
     · focus
        refine cw_seq (cS (cM rfl rfl (cM rfl rfl (lw_pure (pur_len_s tabOk rfl rfl) rfl (lw_pure (pur_lss rfl rfl) rfl (cT ?_))))))
        refine cw_yes rfl (by omega) ?_
        refine cw_skip (qw_then (cw_block (cS (cM rfl rfl (cM rfl rfl ?_)))))
        refine lw_pure (pur_sindex tabOk rfl rfl rfl (by omega) (by assumption)) rfl ?_
        refine cA rfl rfl (cT (cw_seq (cS (cM rfl rfl (lw_pure (pur_eql rfl rfl) rfl (cM rfl rfl ?_))))))
        refine lw_on rfl rfl rfl (gd_ff (by omega)) ?_
        refine cM rfl rfl ?_
        refine lw_on rfl rfl rfl (gd_ff (by omega)) ?_
        refine lw_pure (pur_eql rfl rfl) rfl ?_
        refine lw_pure (pur_pick_no rfl rfl (by omega)) rfl ?_
        refine cM rfl rfl ?_
        refine lw_on rfl rfl rfl (gd_ff (by omega)) ?_
        refine cM rfl rfl ?_
        refine lw_on rfl rfl rfl (gd_ff (by omega)) ?_
        refine lw_pure (pur_eql rfl rfl) rfl ?_
        refine lw_pure (pur_pick_no rfl rfl (by omega)) rfl ?_
        refine cM rfl rfl ?_
        refine lw_off rfl rfl rfl (gd_ft (by omega)) rfl ?_
        refine lw_off rfl rfl rfl (gd_ft (by omega)) rfl ?_
        refine lw_pure (pur_pick_yes rfl rfl (by omega)) rfl ?_
        refine cT (cw_cond_t rfl (cS (cM rfl rfl ?_)))
        refine lw_pure (pur_add rfl rfl (IntWalk.i64_in _ (by omega))) rfl ?_
        refine cA rfl rfl (cT (cw_exit (qw_then_exit (qw_block_exit ?_))))
        rotate_left 1
       exact qw_round (p + 1, acc, a, cap) (by (refine sub_cons rfl ?_; refine sub_cons rfl ?_; refine sub_cons rfl ?_; exact sub_nil)) ⟨by assumption, X, by simp only; omega, by simp only; omega, HE.out⟩ (by simp only; omega)
     · focus
        refine cw_seq (cS (cM rfl rfl (cM rfl rfl (lw_pure (pur_len_s tabOk rfl rfl) rfl (lw_pure (pur_lss rfl rfl) rfl (cT ?_))))))
        refine cw_yes rfl (by omega) ?_
        refine cw_skip (qw_then (cw_block (cS (cM rfl rfl (cM rfl rfl ?_)))))
        refine lw_pure (pur_sindex tabOk rfl rfl rfl (by omega) (by assumption)) rfl ?_
        refine cA rfl rfl (cT (cw_seq (cS (cM rfl rfl (lw_pure (pur_eql rfl rfl) rfl (cM rfl rfl ?_))))))
        refine lw_on rfl rfl rfl (gd_ff (by omega)) ?_
        refine cM rfl rfl ?_
        refine lw_on rfl rfl rfl (gd_ff (by omega)) ?_
        refine lw_pure (pur_eql rfl rfl) rfl ?_
        refine lw_pure (pur_pick_no rfl rfl (by omega)) rfl ?_
        refine cM rfl rfl ?_
        refine lw_on rfl rfl rfl (gd_ff (by omega)) ?_
        refine cM rfl rfl ?_
        refine lw_on rfl rfl rfl (gd_ff (by omega)) ?_
        refine lw_pure (pur_eql rfl rfl) rfl ?_
        refine lw_pure (pur_pick_no rfl rfl (by omega)) rfl ?_
        refine cM rfl rfl ?_
        refine lw_on rfl rfl rfl (gd_ff (by omega)) ?_
        refine cM rfl rfl ?_
        refine lw_on rfl rfl rfl (gd_ff (by omega)) ?_
        refine lw_pure (pur_eql rfl rfl) rfl ?_
        refine lw_pure (pur_pick_no rfl rfl (by omega)) rfl ?_
        refine cT ?_
        refine cw_yes rfl (by omega) ?_
        refine cS (cM rfl rfl ?_)
        refine lw_pure (pur_add rfl rfl (IntWalk.i64_in _ (by omega))) rfl ?_
        refine cA rfl rfl (cT (cw_exit (qw_then_exit (qw_block_exit ?_))))
        rotate_left 1
       exact qw_round (p + 1, acc, a, cap) (by (refine sub_cons rfl ?_; refine sub_cons rfl ?_; refine sub_cons rfl ?_; exact sub_nil)) ⟨by assumption, X, by simp only; omega, by simp only; omega, HE.out⟩ (by simp only; omega)
   · have hnb : s[p].toNat ≠ 32 ∧ s[p].toNat ≠ 9 ∧ s[p].toNat ≠ 13 ∧ s[p].toNat ≠ 10 := by
      simp only [blank, Bool.or_eq_true, decide_eq_true_eq] at hb; omega
     obtain ⟨n1, n2, n3, n4⟩ := hnb
     by_cases h35 : s[p] = 35
     · have h35n : s[p].toNat = 35 := by rw [h35]; rfl
       rw [solidFrom_hash hlt h35] at he
       have hsp : span notLf (s.drop p) = 1 + span notLf (s.drop (p + 1)) := by rw [span_at hlt, if_pos]; rw [h35]; decide
       have hle := span_le (f := notLf) (s := s) (p := p)
       have HE := Lib.hid he; clear he hb h35
       focus
        refine cw_seq (cS (cM rfl rfl (cM rfl rfl (lw_pure (pur_len_s tabOk rfl rfl) rfl (lw_pure (pur_lss rfl rfl) rfl (cT ?_))))))
        refine cw_yes rfl (by omega) ?_
        refine cw_skip (qw_then (cw_block (cS (cM rfl rfl (cM rfl rfl ?_)))))
        refine lw_pure (pur_sindex tabOk rfl rfl rfl (by omega) (by assumption)) rfl ?_
        refine cA rfl rfl (cT (cw_seq (cS (cM rfl rfl (lw_pure (pur_eql rfl rfl) rfl (cM rfl rfl ?_))))))
        refine lw_on rfl rfl rfl (gd_ff (by omega)) ?_
        refine cM rfl rfl ?_
        refine lw_on rfl rfl rfl (gd_ff (by omega)) ?_
        refine lw_pure (pur_eql rfl rfl) rfl ?_
        refine lw_pure (pur_pick_no rfl rfl (by omega)) rfl ?_
        refine cM rfl rfl ?_
        refine lw_on rfl rfl rfl (gd_ff (by omega)) ?_
        refine cM rfl rfl ?_
        refine lw_on rfl rfl rfl (gd_ff (by omega)) ?_
        refine lw_pure (pur_eql rfl rfl) rfl ?_
        refine lw_pure (pur_pick_no rfl rfl (by omega)) rfl ?_
        refine cM rfl rfl ?_
        refine lw_on rfl rfl rfl (gd_ff (by omega)) ?_
        refine cM rfl rfl ?_
        refine lw_on rfl rfl rfl (gd_ff (by omega)) ?_
        refine lw_pure (pur_eql rfl rfl) rfl ?_
        refine lw_pure (pur_pick_no rfl rfl (by omega)) rfl ?_
        refine cT ?_
        refine cw_no rfl (by omega) ?_
        refine cw_skip (qw_then (cw_seq (cS (cM rfl rfl (lw_pure (pur_eql rfl rfl) rfl (cT ?_))))))
        refine cw_yes rfl (by omega) ?_
        refine cw_seq (cw_block ?_)
        rotate_left 1
       refine cw_loop (ι := Nat) (fun j => [(0, str s), (5, .slice a acc.length cap), (6, .int .i64 (p + j : Nat))]) (fun j w' => w1 = w' ∧ p + j ≤ s.length ∧ span notLf (s.drop p) = j + span notLf (s.drop (p + j))) (fun j => s.length - (p + j)) 0 (by (refine sub_cons rfl ?_; refine sub_cons rfl ?_; refine sub_cons rfl ?_; exact sub_nil)) ⟨rfl, by omega, by simp⟩ ?_
       rintro j _ ⟨rfl, hj, hej⟩
       refine CW.sub (m := [(0, str s), (5, .slice a acc.length cap), (6, .int .i64 (p + j : Nat))]) ?_ (by (refine sub_cons rfl ?_; refine sub_cons rfl ?_; refine sub_cons rfl ?_; exact sub_nil))
       clear hcp n1 n2 n3 n4 h35n
       by_cases hlj : p + j < s.length
       · have hcj : s[((p + j : Nat) : Int).toNat]? = some s[p + j] := List.getElem?_eq_getElem hlj
         have hsj := span_at (f := notLf) hlj
         by_cases hn : s[p + j].toNat = 10
         · rw [if_neg (by simp [notLf, hn])] at hsj
           focus
            refine cw_seq (cS (cM rfl rfl (cM rfl rfl (lw_pure (pur_len_s tabOk rfl rfl) rfl (lw_pure (pur_lss rfl rfl) rfl (cM rfl rfl ?_))))))
            refine lw_on rfl rfl rfl (gd_tt (by omega)) ?_
            refine cM rfl rfl ?_
            refine lw_on rfl rfl rfl (gd_tt (by omega)) ?_
            refine cM rfl rfl ?_
            refine lw_on rfl rfl rfl (gd_tt (by omega)) ?_
            refine lw_pure (pur_sindex tabOk rfl rfl rfl (by omega) (by assumption)) rfl ?_
            refine lw_on rfl rfl rfl (gd_tt (by omega)) ?_
            refine lw_pure (pur_neq rfl rfl) rfl ?_
            refine lw_pure (pur_pick_yes rfl rfl (by omega)) rfl ?_
            refine cT ?_
            refine cw_no rfl (by omega) ?_
            refine cw_exit (qw_then_exit (qw_then_exit (qw_block_exit (qw_then (cw_exit (qw_then_exit (qw_block_exit ?_)))))))
            rotate_left 1
           exact qw_round (p + j, acc, a, cap) (by (refine sub_cons rfl ?_; refine sub_cons rfl ?_; refine sub_cons rfl ?_; exact sub_nil)) ⟨by assumption, X, by simp only; omega, by simp only; omega, by rw [HE.out, hej, hsj]; rfl⟩ (by simp only; omega)
         · rw [if_pos (by simp [notLf, hn])] at hsj
           focus
            refine cw_seq (cS (cM rfl rfl (cM rfl rfl (lw_pure (pur_len_s tabOk rfl rfl) rfl (lw_pure (pur_lss rfl rfl) rfl (cM rfl rfl ?_))))))
            refine lw_on rfl rfl rfl (gd_tt (by omega)) ?_
            refine cM rfl rfl ?_
            refine lw_on rfl rfl rfl (gd_tt (by omega)) ?_
            refine cM rfl rfl ?_
            refine lw_on rfl rfl rfl (gd_tt (by omega)) ?_
            refine lw_pure (pur_sindex tabOk rfl rfl rfl (by omega) (by assumption)) rfl ?_
            refine lw_on rfl rfl rfl (gd_tt (by omega)) ?_
            refine lw_pure (pur_neq rfl rfl) rfl ?_
            refine lw_pure (pur_pick_yes rfl rfl (by omega)) rfl ?_
            refine cT ?_
            refine cw_yes rfl (by omega) ?_
            refine cw_skip (qw_then (cw_block (cw_region (cM rfl rfl ?_))))
            refine lw_pure (pur_add rfl rfl (IntWalk.i64_in _ (by omega))) rfl ?_
            refine cA rfl rfl (lw_nil (qw_block_norm ?_))
            rotate_left 1
           exact qw_round (j + 1) (by (refine sub_cons rfl ?_; refine sub_cons rfl ?_; refine sub_cons rfl ?_; exact sub_nil)) ⟨rfl, by omega, by rw [hej, hsj]; simp only [Nat.add_assoc]⟩ (by omega)
       · have hsj := span_over (f := notLf) (s := s) (p := p + j) (by omega)
         focus
          refine cw_seq (cS (cM rfl rfl (cM rfl rfl (lw_pure (pur_len_s tabOk rfl rfl) rfl (lw_pure (pur_lss rfl rfl) rfl (cM rfl rfl ?_))))))
          refine lw_off rfl rfl rfl (gd_tf (by omega)) rfl ?_
          refine lw_off rfl rfl rfl (gd_tf (by omega)) rfl ?_
          refine lw_off rfl rfl rfl (gd_tf (by omega)) rfl ?_
          refine lw_off rfl rfl rfl (gd_tf (by omega)) rfl ?_
          refine lw_pure (pur_pick_no rfl rfl (by omega)) rfl ?_
          refine cT (cw_cond_f rfl (cw_exit (qw_then_exit (qw_then_exit (qw_block_exit (qw_then (cw_exit (qw_then_exit (qw_block_exit ?_)))))))))
          rotate_left 1
         exact qw_round (p + j, acc, a, cap) (by (refine sub_cons rfl ?_; refine sub_cons rfl ?_; refine sub_cons rfl ?_; exact sub_nil)) ⟨by assumption, X, by simp only; omega, by simp only; omega, by rw [HE.out, hej, hsj]; rfl⟩ (by simp only; omega)
     · have n5 : s[p].toNat ≠ 35 := fun e => h35 (UInt8.toNat_inj.1 e)
       have hb0 : blank s[p] = false := by simpa using hb
       cases hl : letter s[p]
       · cases hd : digit s[p]
         · have hft : firstTok (s.drop p) = (3, signLen (s.drop p)) := by
            rw [drop_at hlt]; simp [firstTok, hl, hd, hb0, h35]
           have hle := signLen_le (s.drop p)
           have hdl : (s.drop p).length = s.length - p := List.length_drop
           rw [hdl] at hle
           have HS := Lib.hid (fun h0 => step_tok hlt hft h0 (by decide) (by decide) he)
           have HZ := Lib.hid (fun h0 : signLen (s.drop p) = 0 => show solidFrom s 0 = ([], some p) from by rw [he, solidFrom_err hlt (by rw [hft]; exact h0)]; rfl)
           clear he hb h35 hb0 hft
           focus
            refine cw_seq (cS (cM rfl rfl (cM rfl rfl (lw_pure (pur_len_s tabOk rfl rfl) rfl (lw_pure (pur_lss rfl rfl) rfl (cT ?_))))))
            refine cw_yes rfl (by omega) ?_
            refine cw_skip (qw_then (cw_block (cS (cM rfl rfl (cM rfl rfl ?_)))))
            refine lw_pure (pur_sindex tabOk rfl rfl rfl (by omega) (by assumption)) rfl ?_
            refine cA rfl rfl (cT (cw_seq (cS (cM rfl rfl (lw_pure (pur_eql rfl rfl) rfl (cM rfl rfl ?_))))))
            refine lw_on rfl rfl rfl (gd_ff (by omega)) ?_
            refine cM rfl rfl ?_
            refine lw_on rfl rfl rfl (gd_ff (by omega)) ?_
            refine lw_pure (pur_eql rfl rfl) rfl ?_
            refine lw_pure (pur_pick_no rfl rfl (by omega)) rfl ?_
            refine cM rfl rfl ?_
            refine lw_on rfl rfl rfl (gd_ff (by omega)) ?_
            refine cM rfl rfl ?_
            refine lw_on rfl rfl rfl (gd_ff (by omega)) ?_
            refine lw_pure (pur_eql rfl rfl) rfl ?_
            refine lw_pure (pur_pick_no rfl rfl (by omega)) rfl ?_
            refine cM rfl rfl ?_
            refine lw_on rfl rfl rfl (gd_ff (by omega)) ?_
            refine cM rfl rfl ?_
            refine lw_on rfl rfl rfl (gd_ff (by omega)) ?_
            refine lw_pure (pur_eql rfl rfl) rfl ?_
            refine lw_pure (pur_pick_no rfl rfl (by omega)) rfl ?_
            refine cT ?_
            refine cw_no rfl (by omega) ?_
            refine cw_skip (qw_then (cw_seq (cS (cM rfl rfl (lw_pure (pur_eql rfl rfl) rfl (cT ?_))))))
            refine cw_no rfl (by omega) ?_
            refine cw_skip (qw_then (cS (cM rfl rfl (cA rfl rfl (cT (cw_seq (cS (cM rfl rfl ?_))))))))
            refine lw_does (does_call (by kernel_rfl) rfl (rletter_c _ _) (fun _ _ h => ⟨_, h.1⟩)) rfl ?_ (fun _ h => h)
            rintro _ wi1 ⟨⟨⟩, rfl⟩
            refine cT ?_
            refine cw_bf rfl (by assumption) ?_
            refine cS (cM rfl rfl ?_)
            refine lw_does (does_call (by kernel_rfl) rfl (rdigit_c _ _) (fun _ _ h => ⟨_, h.1⟩)) rfl ?_ (fun _ h => h)
            rintro _ wi2 ⟨⟨⟩, rfl⟩
            refine cT ?_
            refine cw_bf rfl (by assumption) ?_
            refine cS ?_
            refine lw_does (does_call (by kernel_rfl) rfl (rsigns_c _) (fun _ _ ⟨_, h⟩ => ⟨_, h.1⟩)) rfl ?_ (fun _ h => h)
            rintro _ wi6 ⟨bi3, ⟨⟨⟩, ⟨hi4, xi5⟩⟩⟩
            have zi7 := Ext.size xi5
            replace hown := OwnL.ext hown xi5
            replace X := Ext.ext X xi5
            clear xi5
            refine cA rfl rfl (cT (cw_seq (cS (cA rfl rfl (cT (cw_block ?_))))))
            rotate_left 1
           have hkl : signsL.length = 31 := rfl
           refine cw_loop (ι := Nat × Nat) (fun x => [(0, str s), (5, .slice a acc.length cap), (6, .int .i64 p), (8, .int .i64 ((p : Int) + (x.2 : Int))), (9, .slice (some ⟨bi3, 0, none⟩) 31 31), (10, .int .i64 x.1)]) (fun x w' => Row w' ⟨bi3, 0, none⟩ (signsL.map str) ∧ OwnL rtokShape w' w.heap.size 105 (.slice a acc.length cap) acc ∧ Ext w w' ∧ x.1 ≤ 31 ∧ x.2 = pickLen (signsL.take x.1) (s.drop p)) (fun x => 31 - x.1) (0, 0) (by (refine sub_cons rfl ?_; refine sub_cons rfl ?_; refine sub_cons rfl ?_; refine sub_cons rfl ?_; refine sub_cons rfl ?_; refine sub_cons rfl ?_; exact sub_nil)) ⟨hi4, hown, X, by omega, rfl⟩ ?_
           clear hi4 hown X zi7
           rintro ⟨j, m⟩ wj ⟨hr, hown, X, hj, hm⟩
           simp only at hj hm hr hown X
           have X1 := Ext.refl wj
           refine CW.sub (m := [(0, str s), (5, .slice a acc.length cap), (6, .int .i64 p), (8, .int .i64 ((p : Int) + (m : Int))), (9, .slice (some ⟨bi3, 0, none⟩) 31 31), (10, .int .i64 j)]) ?_ (by (refine sub_cons rfl ?_; refine sub_cons rfl ?_; refine sub_cons rfl ?_; refine sub_cons rfl ?_; refine sub_cons rfl ?_; refine sub_cons rfl ?_; exact sub_nil))
           clear hcp n1 n2 n3 n4 n5
           by_cases hm0 : m = 0
           · by_cases hlj : j < 31
             · have hrj := hr.nth (j := j) (by rw [hkl]; exact hlj)
               have HR := Lib.hid hr; clear hr
               have hpn := pick_next (j := j) (s := s.drop p) (by rw [hkl]; exact hlj) (by omega)
               have hxl : (signsL[j]'(by rw [hkl]; exact hlj)).length ≤ 3 := (show ∀ x ∈ signsL, x.length ≤ 3 by decide) _ (List.getElem_mem _)
               generalize hx : signsL[j]'(by rw [hkl]; exact hlj) = x at hrj hpn hxl
               subst hm0
               by_cases hfit : p + x.length ≤ s.length
               · by_cases hq : (s.drop p).take x.length = x
                 · rw [if_pos (prefix_take.2 hq.symm)] at hpn
                   focus
                    refine cw_seq (cS (cM rfl rfl (cM rfl rfl (lw_pure (pur_len_slice tabOk rfl rfl) rfl (lw_pure (pur_lss rfl rfl) rfl (cM rfl rfl ?_))))))
                    refine lw_on rfl rfl rfl (gd_tt (by omega)) ?_
                    refine cM rfl rfl ?_
                    refine lw_on rfl rfl rfl (gd_tt (by omega)) ?_
                    refine cM rfl rfl ?_
                    refine lw_on rfl rfl rfl (gd_tt (by omega)) ?_
                    refine lw_pure (pur_eql rfl rfl) rfl ?_
                    refine lw_pure (pur_pick_yes rfl rfl (by omega)) rfl ?_
                    refine cT ?_
                    refine cw_yes rfl (by omega) ?_
                    refine cw_skip (qw_then (cw_seq (cw_block (cw_seq ?_))))
                    (refine cw_tdraw (fun wz => Ext wj wz) 25 (.pure 0 (.pure 1 (.pure 2 (.pure 3 (.pure 4 (.pure 5 (.pure 6 (.pure 7 (.pure 8 (.pure 9 (.pure 10 (.pure 11 (.pure 12 (.pure 13 (.pure 14 (.pure 15 (.pure 16 (.pure 17 (.pure 18 (.pure 19 (.pure 20 (.pure 21 (.pure 22 (.pure 23 (.pure 24 .tail))))))))))))))))))))))))) mixed (by kernel_rfl) (panicOk_then (panicOk_block (panicOk_then (panicOk_then (panicOk_block (panicOk_then (panicOk_then (panicOk_block (panicOk_then (panicOk_block (panicOk_then panicOk_body))))))))))) ?_; intro wj1 xj2 _)
                    have qsj3 : (fun wz => Ext wj wz) wj1 := xj2
                    simp only at qsj3
                    have d_hown := hown
                    have d_hrj := hrj
                    have zj4 := Ext.size xj2
                    replace hown := OwnL.ext hown xj2
                    replace X := Ext.ext X xj2
                    replace X1 := Ext.ext X1 xj2
                    replace hrj := Row.ext hrj xj2
                    clear xj2
                    refine ⟨qsj3, ?_⟩
                    refine tw_pure rfl (pur_move rfl) rfl (tw_pure rfl (pur_move rfl) rfl (tw_pure rfl (pur_move rfl) rfl ?_))
                    refine tw_pure rfl (pur_indexAddr tabOk rfl rfl rfl rfl (by omega) (by omega)) rfl ?_
                    refine tw_pure rfl (pur_load tabOk rfl rfl rfl (fun wz hz => Row.at0 (Row.ext d_hrj hz) rfl)) rfl (tw_pure rfl (pur_len_s tabOk rfl rfl) rfl ?_)
                    refine tw_pure rfl (pur_add rfl rfl (IntWalk.i64_in _ (by omega))) rfl ?_
                    refine tw_pure rfl (pur_move rfl) rfl (tw_pure rfl (pur_len_s tabOk rfl rfl) rfl (tw_pure rfl (pur_leq rfl rfl) rfl (tw_pure rfl (pur_move rfl) rfl ?_)))
                    refine tw_on rfl rfl rfl rfl (gd_tt (by omega)) (pur_move rfl) rfl ?_
                    refine tw_on rfl rfl rfl rfl (gd_tt (by omega)) (pur_move rfl) rfl ?_
                    refine tw_on rfl rfl rfl rfl (gd_tt (by omega)) (pur_move rfl) rfl ?_
                    refine tw_on rfl rfl rfl rfl (gd_tt (by omega)) (pur_move rfl) rfl ?_
                    refine tw_on rfl rfl rfl rfl (gd_tt (by omega)) (pur_move rfl) rfl ?_
                    refine tw_on rfl rfl rfl rfl (gd_tt (by omega)) (pur_indexAddr tabOk rfl rfl rfl rfl (by omega) (by omega)) rfl ?_
                    refine tw_on rfl rfl rfl rfl (gd_tt (by omega)) (pur_load tabOk rfl rfl rfl (fun wz hz => Row.at0 (Row.ext d_hrj hz) rfl)) rfl ?_
                    refine tw_on rfl rfl rfl rfl (gd_tt (by omega)) (pur_len_s tabOk rfl rfl) rfl ?_
                    refine tw_on rfl rfl rfl rfl (gd_tt (by omega)) (pur_add rfl rfl (IntWalk.i64_in _ (by omega))) rfl ?_
                    refine tw_on rfl rfl rfl rfl (gd_tt (by omega)) (pur_spartN tabOk rfl rfl rfl rfl (by omega)) rfl ?_
                    refine tw_on rfl rfl rfl rfl (gd_tt (by omega)) (pur_move rfl) rfl ?_
                    refine tw_on rfl rfl rfl rfl (gd_tt (by omega)) (pur_move rfl) rfl ?_
                    refine tw_on rfl rfl rfl rfl (gd_tt (by omega)) (pur_indexAddr tabOk rfl rfl rfl rfl (by omega) (by omega)) rfl ?_
                    refine tw_on rfl rfl rfl rfl (gd_tt (by omega)) (pur_load tabOk rfl rfl rfl (fun wz hz => Row.at0 (Row.ext d_hrj hz) rfl)) rfl ?_
                    clear qsj3 d_hown d_hrj
                    refine tw_tail rfl ?_
                    refine lw_on rfl rfl rfl (gd_tt (by omega)) ?_
                    refine lw_pure (pur_seql rfl rfl) rfl ?_
                    refine lw_pure (pur_pick_yes rfl rfl (by omega)) rfl ?_
                    refine cT ?_
                    refine cw_yes rfl (by assumption) ?_
                    refine cw_region (cM rfl rfl (cM rfl rfl (cM rfl rfl ?_)))
                    refine lw_pure (pur_indexAddr tabOk rfl rfl rfl rfl (by omega) (by omega)) rfl ?_
                    refine lw_load_r0 tabOk rfl rfl rfl hrj rfl rfl (lw_pure (pur_len_s tabOk rfl rfl) rfl ?_)
                    refine lw_pure (pur_add rfl rfl (IntWalk.i64_in _ (by omega))) rfl ?_
                    refine cA rfl rfl (lw_nil (qw_block_norm (qw_then (cw_region (cM rfl rfl ?_)))))
                    refine lw_pure (pur_add rfl rfl (IntWalk.i64_in _ (by omega))) rfl ?_
                    refine cA rfl rfl (lw_nil ?_)
                    rotate_left 1
                   exact qw_round (j + 1, x.length) (by (refine sub_cons rfl ?_; refine sub_cons rfl ?_; refine sub_cons rfl ?_; refine sub_cons rfl ?_; refine sub_cons rfl ?_; refine sub_cons rfl ?_; exact sub_nil)) ⟨HR.out.ext X1, by assumption, X, by simp only; omega, hpn.symm⟩ (by simp only; omega)
                 · rw [if_neg (fun e => hq (prefix_take.1 e).symm)] at hpn
                   focus
                    refine cw_seq (cS (cM rfl rfl (cM rfl rfl (lw_pure (pur_len_slice tabOk rfl rfl) rfl (lw_pure (pur_lss rfl rfl) rfl (cM rfl rfl ?_))))))
                    refine lw_on rfl rfl rfl (gd_tt (by omega)) ?_
                    refine cM rfl rfl ?_
                    refine lw_on rfl rfl rfl (gd_tt (by omega)) ?_
                    refine cM rfl rfl ?_
                    refine lw_on rfl rfl rfl (gd_tt (by omega)) ?_
                    refine lw_pure (pur_eql rfl rfl) rfl ?_
                    refine lw_pure (pur_pick_yes rfl rfl (by omega)) rfl ?_
                    refine cT ?_
                    refine cw_yes rfl (by omega) ?_
                    refine cw_skip (qw_then (cw_seq (cw_block (cw_seq ?_))))
                    (refine cw_tdraw (fun wz => Ext wj wz) 25 (.pure 0 (.pure 1 (.pure 2 (.pure 3 (.pure 4 (.pure 5 (.pure 6 (.pure 7 (.pure 8 (.pure 9 (.pure 10 (.pure 11 (.pure 12 (.pure 13 (.pure 14 (.pure 15 (.pure 16 (.pure 17 (.pure 18 (.pure 19 (.pure 20 (.pure 21 (.pure 22 (.pure 23 (.pure 24 .tail))))))))))))))))))))))))) mixed (by kernel_rfl) (panicOk_then (panicOk_block (panicOk_then (panicOk_then (panicOk_block (panicOk_then (panicOk_then (panicOk_block (panicOk_then (panicOk_block (panicOk_then panicOk_body))))))))))) ?_; intro wk1 xk2 _)
                    have qsk3 : (fun wz => Ext wj wz) wk1 := xk2
                    simp only at qsk3
                    have d_hown := hown
                    have d_hrj := hrj
                    have zk4 := Ext.size xk2
                    replace hown := OwnL.ext hown xk2
                    replace X := Ext.ext X xk2
                    replace X1 := Ext.ext X1 xk2
                    replace hrj := Row.ext hrj xk2
                    clear xk2
                    refine ⟨qsk3, ?_⟩
                    refine tw_pure rfl (pur_move rfl) rfl (tw_pure rfl (pur_move rfl) rfl (tw_pure rfl (pur_move rfl) rfl ?_))
                    refine tw_pure rfl (pur_indexAddr tabOk rfl rfl rfl rfl (by omega) (by omega)) rfl ?_
                    refine tw_pure rfl (pur_load tabOk rfl rfl rfl (fun wz hz => Row.at0 (Row.ext d_hrj hz) rfl)) rfl (tw_pure rfl (pur_len_s tabOk rfl rfl) rfl ?_)
                    refine tw_pure rfl (pur_add rfl rfl (IntWalk.i64_in _ (by omega))) rfl ?_
                    refine tw_pure rfl (pur_move rfl) rfl (tw_pure rfl (pur_len_s tabOk rfl rfl) rfl (tw_pure rfl (pur_leq rfl rfl) rfl (tw_pure rfl (pur_move rfl) rfl ?_)))
                    refine tw_on rfl rfl rfl rfl (gd_tt (by omega)) (pur_move rfl) rfl ?_
                    refine tw_on rfl rfl rfl rfl (gd_tt (by omega)) (pur_move rfl) rfl ?_
                    refine tw_on rfl rfl rfl rfl (gd_tt (by omega)) (pur_move rfl) rfl ?_
                    refine tw_on rfl rfl rfl rfl (gd_tt (by omega)) (pur_move rfl) rfl ?_
                    refine tw_on rfl rfl rfl rfl (gd_tt (by omega)) (pur_move rfl) rfl ?_
                    refine tw_on rfl rfl rfl rfl (gd_tt (by omega)) (pur_indexAddr tabOk rfl rfl rfl rfl (by omega) (by omega)) rfl ?_
                    refine tw_on rfl rfl rfl rfl (gd_tt (by omega)) (pur_load tabOk rfl rfl rfl (fun wz hz => Row.at0 (Row.ext d_hrj hz) rfl)) rfl ?_
                    refine tw_on rfl rfl rfl rfl (gd_tt (by omega)) (pur_len_s tabOk rfl rfl) rfl ?_
                    refine tw_on rfl rfl rfl rfl (gd_tt (by omega)) (pur_add rfl rfl (IntWalk.i64_in _ (by omega))) rfl ?_
                    refine tw_on rfl rfl rfl rfl (gd_tt (by omega)) (pur_spartN tabOk rfl rfl rfl rfl (by omega)) rfl ?_
                    refine tw_on rfl rfl rfl rfl (gd_tt (by omega)) (pur_move rfl) rfl ?_
                    refine tw_on rfl rfl rfl rfl (gd_tt (by omega)) (pur_move rfl) rfl ?_
                    refine tw_on rfl rfl rfl rfl (gd_tt (by omega)) (pur_indexAddr tabOk rfl rfl rfl rfl (by omega) (by omega)) rfl ?_
                    refine tw_on rfl rfl rfl rfl (gd_tt (by omega)) (pur_load tabOk rfl rfl rfl (fun wz hz => Row.at0 (Row.ext d_hrj hz) rfl)) rfl ?_
                    clear qsk3 d_hown d_hrj
                    refine tw_tail rfl ?_
                    refine lw_on rfl rfl rfl (gd_tt (by omega)) ?_
                    refine lw_pure (pur_seql rfl rfl) rfl ?_
                    refine lw_pure (pur_pick_yes rfl rfl (by omega)) rfl ?_
                    refine cT ?_
                    refine cw_no rfl (by assumption) ?_
                    refine cw_skip (qw_block_norm (qw_then (cw_region (cM rfl rfl ?_))))
                    refine lw_pure (pur_add rfl rfl (IntWalk.i64_in _ (by omega))) rfl ?_
                    refine cA rfl rfl (lw_nil ?_)
                    rotate_left 1
                   exact qw_round (j + 1, 0) (by (refine sub_cons rfl ?_; refine sub_cons rfl ?_; refine sub_cons rfl ?_; refine sub_cons rfl ?_; refine sub_cons rfl ?_; refine sub_cons rfl ?_; exact sub_nil)) ⟨HR.out.ext X1, by assumption, X, by simp only; omega, hpn.symm⟩ (by simp only; omega)
               · rw [if_neg (fun e => by have := (List.isPrefixOf_iff_prefix.1 e).length_le; omega)] at hpn
                 focus
                  refine cw_seq (cS (cM rfl rfl (cM rfl rfl (lw_pure (pur_len_slice tabOk rfl rfl) rfl (lw_pure (pur_lss rfl rfl) rfl (cM rfl rfl ?_))))))
                  refine lw_on rfl rfl rfl (gd_tt (by omega)) ?_
                  refine cM rfl rfl ?_
                  refine lw_on rfl rfl rfl (gd_tt (by omega)) ?_
                  refine cM rfl rfl ?_
                  refine lw_on rfl rfl rfl (gd_tt (by omega)) ?_
                  refine lw_pure (pur_eql rfl rfl) rfl ?_
                  refine lw_pure (pur_pick_yes rfl rfl (by omega)) rfl ?_
                  refine cT ?_
                  refine cw_yes rfl (by omega) ?_
                  refine cw_skip (qw_then (cw_seq (cw_block (cw_seq ?_))))
                  (refine cw_tdraw (fun wz => Ext wj wz) 25 (.pure 0 (.pure 1 (.pure 2 (.pure 3 (.pure 4 (.pure 5 (.pure 6 (.pure 7 (.pure 8 (.pure 9 (.pure 10 (.pure 11 (.pure 12 (.pure 13 (.pure 14 (.pure 15 (.pure 16 (.pure 17 (.pure 18 (.pure 19 (.pure 20 (.pure 21 (.pure 22 (.pure 23 (.pure 24 .tail))))))))))))))))))))))))) mixed (by kernel_rfl) (panicOk_then (panicOk_block (panicOk_then (panicOk_then (panicOk_block (panicOk_then (panicOk_then (panicOk_block (panicOk_then (panicOk_block (panicOk_then panicOk_body))))))))))) ?_; intro wl1 xl2 _)
                  have qsl3 : (fun wz => Ext wj wz) wl1 := xl2
                  simp only at qsl3
                  have d_hown := hown
                  have d_hrj := hrj
                  have zl4 := Ext.size xl2
                  replace hown := OwnL.ext hown xl2
                  replace X := Ext.ext X xl2
                  replace X1 := Ext.ext X1 xl2
                  replace hrj := Row.ext hrj xl2
                  clear xl2
                  refine ⟨qsl3, ?_⟩
                  refine tw_pure rfl (pur_move rfl) rfl (tw_pure rfl (pur_move rfl) rfl (tw_pure rfl (pur_move rfl) rfl ?_))
                  refine tw_pure rfl (pur_indexAddr tabOk rfl rfl rfl rfl (by omega) (by omega)) rfl ?_
                  refine tw_pure rfl (pur_load tabOk rfl rfl rfl (fun wz hz => Row.at0 (Row.ext d_hrj hz) rfl)) rfl (tw_pure rfl (pur_len_s tabOk rfl rfl) rfl ?_)
                  refine tw_pure rfl (pur_add rfl rfl (IntWalk.i64_in _ (by omega))) rfl ?_
                  refine tw_pure rfl (pur_move rfl) rfl (tw_pure rfl (pur_len_s tabOk rfl rfl) rfl (tw_pure rfl (pur_leq rfl rfl) rfl (tw_pure rfl (pur_move rfl) rfl ?_)))
                  refine tw_off rfl rfl rfl rfl (gd_tf (by omega)) rfl ?_
                  refine tw_off rfl rfl rfl rfl (gd_tf (by omega)) rfl ?_
                  refine tw_off rfl rfl rfl rfl (gd_tf (by omega)) rfl ?_
                  refine tw_off rfl rfl rfl rfl (gd_tf (by omega)) rfl ?_
                  refine tw_off rfl rfl rfl rfl (gd_tf (by omega)) rfl ?_
                  refine tw_off rfl rfl rfl rfl (gd_tf (by omega)) rfl ?_
                  refine tw_off rfl rfl rfl rfl (gd_tf (by omega)) rfl ?_
                  refine tw_off rfl rfl rfl rfl (gd_tf (by omega)) rfl ?_
                  refine tw_off rfl rfl rfl rfl (gd_tf (by omega)) rfl ?_
                  refine tw_off rfl rfl rfl rfl (gd_tf (by omega)) rfl ?_
                  refine tw_off rfl rfl rfl rfl (gd_tf (by omega)) rfl ?_
                  refine tw_off rfl rfl rfl rfl (gd_tf (by omega)) rfl ?_
                  refine tw_off rfl rfl rfl rfl (gd_tf (by omega)) rfl ?_
                  refine tw_off rfl rfl rfl rfl (gd_tf (by omega)) rfl ?_
                  clear qsl3 d_hown d_hrj
                  refine tw_tail rfl ?_
                  refine lw_off rfl rfl rfl (gd_tf (by omega)) rfl ?_
                  refine lw_pure (pur_pick_no rfl rfl (by omega)) rfl ?_
                  refine cT (cw_cond_f rfl (cw_skip (qw_block_norm (qw_then (cw_region (cM rfl rfl ?_))))))
                  refine lw_pure (pur_add rfl rfl (IntWalk.i64_in _ (by omega))) rfl ?_
                  refine cA rfl rfl (lw_nil ?_)
                  rotate_left 1
                 exact qw_round (j + 1, 0) (by (refine sub_cons rfl ?_; refine sub_cons rfl ?_; refine sub_cons rfl ?_; refine sub_cons rfl ?_; refine sub_cons rfl ?_; refine sub_cons rfl ?_; exact sub_nil)) ⟨HR.out.ext X1, by assumption, X, by simp only; omega, hpn.symm⟩ (by simp only; omega)
             · have hz : signLen (s.drop p) = 0 := by
                rw [← pickLen_signs, ← hm0, hm, List.take_of_length_le (by rw [hkl]; omega)]
               rw [HZ.out hz]
               subst hm0
               focus
                refine cw_seq (cS (cM rfl rfl (cM rfl rfl (lw_pure (pur_len_slice tabOk rfl rfl) rfl (lw_pure (pur_lss rfl rfl) rfl (cM rfl rfl ?_))))))
                refine lw_off rfl rfl rfl (gd_tf (by omega)) rfl ?_
                refine lw_off rfl rfl rfl (gd_tf (by omega)) rfl ?_
                refine lw_off rfl rfl rfl (gd_tf (by omega)) rfl ?_
                refine lw_pure (pur_pick_no rfl rfl (by omega)) rfl ?_
                refine cT (cw_cond_f rfl (cw_exit (qw_then_exit (qw_then_exit (qw_block_exit (qw_then (cS (cM rfl rfl (cM rfl rfl (lw_pure (pur_eql rfl rfl) rfl (cT ?_)))))))))))
                refine cw_yes rfl (by omega) ?_
                refine cS (cM rfl rfl (cA rfl rfl (cA rfl rfl (cA rfl rfl (cT (cw_ret (qw_then_ret (qw_block_ret (qw_then_ret (qw_block_ret (qw_then_ret ?_)))))))))))
                refine qw_ret3 rfl rfl rfl rfl ?_
                rotate_left 1
               exact ⟨_, _, rfl, Or.inl rfl, X⟩
           · have hml : m = signLen (s.drop p) := by rw [hm]; exact pick_all (by omega)
             by_cases hlj : j < 31
             · focus
                refine cw_seq (cS (cM rfl rfl (cM rfl rfl (lw_pure (pur_len_slice tabOk rfl rfl) rfl (lw_pure (pur_lss rfl rfl) rfl (cM rfl rfl ?_))))))
                refine lw_on rfl rfl rfl (gd_tt (by omega)) ?_
                refine cM rfl rfl ?_
                refine lw_on rfl rfl rfl (gd_tt (by omega)) ?_
                refine cM rfl rfl ?_
                refine lw_on rfl rfl rfl (gd_tt (by omega)) ?_
                refine lw_pure (pur_eql rfl rfl) rfl ?_
                refine lw_pure (pur_pick_yes rfl rfl (by omega)) rfl ?_
                refine cT ?_
                refine cw_no rfl (by omega) ?_
                refine cw_exit (qw_then_exit (qw_then_exit (qw_block_exit (qw_then (cS (cM rfl rfl (cM rfl rfl (lw_pure (pur_eql rfl rfl) rfl (cT ?_)))))))))
                refine cw_no rfl (by omega) ?_
                refine cw_skip (qw_then (cS (cM rfl rfl (cM rfl rfl (cM rfl rfl (cM rfl rfl ?_))))))
                refine lw_pure (pur_spartN tabOk rfl rfl rfl rfl (by omega)) rfl ?_
                refine cM rfl rfl (lw_pure (pur_build' [_, _] tabOk zOk rfl rfl rfl rfl) rfl ?_)
                (refine lw_does (does_slice' [_, _] tabOk zOk rfl rfl rfl rfl rfl rfl rfl rfl rfl) rfl ?_ (fun _ h => h); rintro _ wn2 ⟨bn1, rfl, nn3, tn4⟩)
                clear tn4
                have hn5 := New.blk nn3
                have xn6 := New.ext nn3
                have pn7 := New.pos nn3
                have zn8 := New.size nn3
                clear nn3
                replace hr := Row.ext hr xn6
                replace hown := OwnL.ext hown xn6
                replace X := Ext.ext X xn6
                replace X1 := Ext.ext X1 xn6
                clear xn6
                refine lw_appendL (sh := rtokShape) (z := ⟨3, (s.drop p).take m, (p : Int)⟩) tabOk zOk rfl rfl rfl rfl (by kernel_rfl) rfl rfl rfl (by assumption) (Blk.row (by assumption)) rfl (by omega) (by have := Ext.size X; omega) rfl ?_
                rintro gn9 cap'n10 wn11 hn12 fn13
                have zn14 := Fr.size fn13
                clear hn5 hr hown
                replace X := Ext.fr X fn13 (by omega)
                clear fn13
                refine cA rfl rfl (cT (cw_region (cM rfl rfl (cA rfl rfl (lw_nil (qw_block_norm ?_))))))
                rotate_left 1
               refine qw_round (p + m, acc ++ [⟨3, (s.drop p).take m, (p : Int)⟩], some ⟨_, 0, none⟩, _) (by (refine sub_cons rfl ?_; refine sub_cons rfl ?_; refine sub_cons rfl ?_; exact sub_nil)) ⟨by assumption, X, by simp only; omega, by simp only [List.length_append, List.length_cons, List.length_nil]; omega, by have := HS.out (by omega); rw [show signLen (s.drop p) = m from by omega] at this; exact this⟩ (by simp only; omega)
             · focus
                refine cw_seq (cS (cM rfl rfl (cM rfl rfl (lw_pure (pur_len_slice tabOk rfl rfl) rfl (lw_pure (pur_lss rfl rfl) rfl (cM rfl rfl ?_))))))
                refine lw_off rfl rfl rfl (gd_tf (by omega)) rfl ?_
                refine lw_off rfl rfl rfl (gd_tf (by omega)) rfl ?_
                refine lw_off rfl rfl rfl (gd_tf (by omega)) rfl ?_
                refine lw_pure (pur_pick_no rfl rfl (by omega)) rfl ?_
                refine cT (cw_cond_f rfl (cw_exit (qw_then_exit (qw_then_exit (qw_block_exit (qw_then (cS (cM rfl rfl (cM rfl rfl (lw_pure (pur_eql rfl rfl) rfl (cT ?_)))))))))))
                refine cw_no rfl (by omega) ?_
                refine cw_skip (qw_then (cS (cM rfl rfl (cM rfl rfl (cM rfl rfl (cM rfl rfl ?_))))))
                refine lw_pure (pur_spartN tabOk rfl rfl rfl rfl (by omega)) rfl ?_
                refine cM rfl rfl (lw_pure (pur_build' [_, _] tabOk zOk rfl rfl rfl rfl) rfl ?_)
                (refine lw_does (does_slice' [_, _] tabOk zOk rfl rfl rfl rfl rfl rfl rfl rfl rfl) rfl ?_ (fun _ h => h); rintro _ wo2 ⟨bo1, rfl, no3, to4⟩)
                clear to4
                have ho5 := New.blk no3
                have xo6 := New.ext no3
                have po7 := New.pos no3
                have zo8 := New.size no3
                clear no3
                replace hr := Row.ext hr xo6
                replace hown := OwnL.ext hown xo6
                replace X := Ext.ext X xo6
                replace X1 := Ext.ext X1 xo6
                clear xo6
                refine lw_appendL (sh := rtokShape) (z := ⟨3, (s.drop p).take m, (p : Int)⟩) tabOk zOk rfl rfl rfl rfl (by kernel_rfl) rfl rfl rfl (by assumption) (Blk.row (by assumption)) rfl (by omega) (by have := Ext.size X; omega) rfl ?_
                rintro go9 cap'o10 wo11 ho12 fo13
                have zo14 := Fr.size fo13
                clear ho5 hr hown
                replace X := Ext.fr X fo13 (by omega)
                clear fo13
                refine cA rfl rfl (cT (cw_region (cM rfl rfl (cA rfl rfl (lw_nil (qw_block_norm ?_))))))
                rotate_left 1
               refine qw_round (p + m, acc ++ [⟨3, (s.drop p).take m, (p : Int)⟩], some ⟨_, 0, none⟩, _) (by (refine sub_cons rfl ?_; refine sub_cons rfl ?_; refine sub_cons rfl ?_; exact sub_nil)) ⟨by assumption, X, by simp only; omega, by simp only [List.length_append, List.length_cons, List.length_nil]; omega, by have := HS.out (by omega); rw [show signLen (s.drop p) = m from by omega] at this; exact this⟩ (by simp only; omega)
         · have hft : firstTok (s.drop p) = (2, span digit (s.drop p)) := by rw [drop_at hlt]; simp [firstTok, hl, hd]
           have hsp : span digit (s.drop p) = 1 + span digit (s.drop (p + 1)) := by rw [span_at hlt, if_pos hd]
           have hle := span_le (f := digit) (s := s) (p := p)
           clear hb h35 hb0
           have HE := Lib.hid (step_tok hlt hft (by omega) (by decide) (by decide) he); clear he
           focus
            refine cw_seq (cS (cM rfl rfl (cM rfl rfl (lw_pure (pur_len_s tabOk rfl rfl) rfl (lw_pure (pur_lss rfl rfl) rfl (cT ?_))))))
            refine cw_yes rfl (by omega) ?_
            refine cw_skip (qw_then (cw_block (cS (cM rfl rfl (cM rfl rfl ?_)))))
            refine lw_pure (pur_sindex tabOk rfl rfl rfl (by omega) (by assumption)) rfl ?_
            refine cA rfl rfl (cT (cw_seq (cS (cM rfl rfl (lw_pure (pur_eql rfl rfl) rfl (cM rfl rfl ?_))))))
            refine lw_on rfl rfl rfl (gd_ff (by omega)) ?_
            refine cM rfl rfl ?_
            refine lw_on rfl rfl rfl (gd_ff (by omega)) ?_
            refine lw_pure (pur_eql rfl rfl) rfl ?_
            refine lw_pure (pur_pick_no rfl rfl (by omega)) rfl ?_
            refine cM rfl rfl ?_
            refine lw_on rfl rfl rfl (gd_ff (by omega)) ?_
            refine cM rfl rfl ?_
            refine lw_on rfl rfl rfl (gd_ff (by omega)) ?_
            refine lw_pure (pur_eql rfl rfl) rfl ?_
            refine lw_pure (pur_pick_no rfl rfl (by omega)) rfl ?_
            refine cM rfl rfl ?_
            refine lw_on rfl rfl rfl (gd_ff (by omega)) ?_
            refine cM rfl rfl ?_
            refine lw_on rfl rfl rfl (gd_ff (by omega)) ?_
            refine lw_pure (pur_eql rfl rfl) rfl ?_
            refine lw_pure (pur_pick_no rfl rfl (by omega)) rfl ?_
            refine cT ?_
            refine cw_no rfl (by omega) ?_
            refine cw_skip (qw_then (cw_seq (cS (cM rfl rfl (lw_pure (pur_eql rfl rfl) rfl (cT ?_))))))
            refine cw_no rfl (by omega) ?_
            refine cw_skip (qw_then (cS (cM rfl rfl (cA rfl rfl (cT (cw_seq (cS (cM rfl rfl ?_))))))))
            refine lw_does (does_call (by kernel_rfl) rfl (rletter_c _ _) (fun _ _ h => ⟨_, h.1⟩)) rfl ?_ (fun _ h => h)
            rintro _ wp1 ⟨⟨⟩, rfl⟩
            refine cT ?_
            refine cw_bf rfl (by assumption) ?_
            refine cS (cM rfl rfl ?_)
            refine lw_does (does_call (by kernel_rfl) rfl (rdigit_c _ _) (fun _ _ h => ⟨_, h.1⟩)) rfl ?_ (fun _ h => h)
            rintro _ wp2 ⟨⟨⟩, rfl⟩
            refine cT ?_
            refine cw_bt rfl (by assumption) ?_
            refine cw_block ?_
            rotate_left 1
           refine cw_loop (ι := Nat) (fun m => [(0, str s), (5, .slice a acc.length cap), (6, .int .i64 p), (8, .int .i64 ((p : Int) + (m : Int)))]) (fun m w' => w1 = w' ∧ p + m ≤ s.length ∧ span digit (s.drop p) = m + span digit (s.drop (p + m))) (fun m => s.length - (p + m)) 0 (by (refine sub_cons rfl ?_; refine sub_cons rfl ?_; refine sub_cons rfl ?_; refine sub_cons rfl ?_; exact sub_nil)) ⟨rfl, by omega, by simp⟩ ?_
           rintro m _ ⟨rfl, hm, hem⟩
           refine CW.sub (m := [(0, str s), (5, .slice a acc.length cap), (6, .int .i64 p), (8, .int .i64 ((p : Int) + (m : Int)))]) ?_ (by (refine sub_cons rfl ?_; refine sub_cons rfl ?_; refine sub_cons rfl ?_; refine sub_cons rfl ?_; exact sub_nil))
           clear hcp n1 n2 n3 n4 n5
           by_cases hlm : p + m < s.length
           · have hcm : s[((p : Int) + (m : Int)).toNat]? = some s[p + m] := by rw [show ((p : Int) + (m : Int)).toNat = p + m from by omega]; exact List.getElem?_eq_getElem hlm
             have hsm := span_at (f := digit) hlm
             cases hdc : digit s[p + m]
             · rw [if_neg (by simp [hdc])] at hsm
               focus
                refine cw_seq (cS (cM rfl rfl (cM rfl rfl (lw_pure (pur_len_s tabOk rfl rfl) rfl (lw_pure (pur_lss rfl rfl) rfl (cM rfl rfl ?_))))))
                refine lw_on rfl rfl rfl (gd_tt (by omega)) ?_
                refine cM rfl rfl ?_
                refine lw_on rfl rfl rfl (gd_tt (by omega)) ?_
                refine cM rfl rfl ?_
                refine lw_on rfl rfl rfl (gd_tt (by omega)) ?_
                refine lw_pure (pur_sindex tabOk rfl rfl rfl (by omega) (by assumption)) rfl ?_
                refine lw_on rfl rfl rfl (gd_tt (by omega)) ?_
                refine lw_does (does_call (by kernel_rfl) rfl (rdigit_c _ _) (fun _ _ h => ⟨_, h.1⟩)) rfl ?_ (fun _ h => h)
                rintro _ wq1 ⟨⟨⟩, rfl⟩
                refine lw_pure (pur_pick_yes rfl rfl (by omega)) rfl ?_
                refine cT ?_
                refine cw_bf rfl (by assumption) ?_
                refine cw_exit (qw_then_exit (qw_then_exit (qw_block_exit (qw_then (cS (cM rfl rfl (cM rfl rfl (cM rfl rfl (cM rfl rfl ?_)))))))))
                refine lw_pure (pur_spartN tabOk rfl rfl rfl rfl (by omega)) rfl ?_
                refine cM rfl rfl (lw_pure (pur_build' [_, _] tabOk zOk rfl rfl rfl rfl) rfl ?_)
                (refine lw_does (does_slice' [_, _] tabOk zOk rfl rfl rfl rfl rfl rfl rfl rfl rfl) rfl ?_ (fun _ h => h); rintro _ wq3 ⟨bq2, rfl, nq4, tq5⟩)
                clear tq5
                have hq6 := New.blk nq4
                have xq7 := New.ext nq4
                have pq8 := New.pos nq4
                have zq9 := New.size nq4
                clear nq4
                replace hown := OwnL.ext hown xq7
                replace X := Ext.ext X xq7
                clear xq7
                refine lw_appendL (sh := rtokShape) (z := ⟨2, (s.drop p).take m, (p : Int)⟩) tabOk zOk rfl rfl rfl rfl (by kernel_rfl) rfl rfl rfl (by assumption) (Blk.row (by assumption)) rfl (by omega) (by have := Ext.size X; omega) rfl ?_
                rintro gq10 cap'q11 wq12 hq13 fq14
                have zq15 := Fr.size fq14
                clear hq6 hown
                replace X := Ext.fr X fq14 (by omega)
                clear fq14
                refine cA rfl rfl (cT (cw_region (cM rfl rfl (cA rfl rfl (lw_nil (qw_block_norm ?_))))))
                rotate_left 1
               refine qw_round (p + m, acc ++ [⟨2, (s.drop p).take m, (p : Int)⟩], some ⟨_, 0, none⟩, _) (by (refine sub_cons rfl ?_; refine sub_cons rfl ?_; refine sub_cons rfl ?_; exact sub_nil)) ⟨by assumption, X, by simp only; omega, by simp only [List.length_append, List.length_cons, List.length_nil]; omega, by have := HE.out; rw [show span digit (s.drop p) = m from by omega] at this; exact this⟩ (by simp only; omega)
             · rw [if_pos hdc] at hsm
               focus
                refine cw_seq (cS (cM rfl rfl (cM rfl rfl (lw_pure (pur_len_s tabOk rfl rfl) rfl (lw_pure (pur_lss rfl rfl) rfl (cM rfl rfl ?_))))))
                refine lw_on rfl rfl rfl (gd_tt (by omega)) ?_
                refine cM rfl rfl ?_
                refine lw_on rfl rfl rfl (gd_tt (by omega)) ?_
                refine cM rfl rfl ?_
                refine lw_on rfl rfl rfl (gd_tt (by omega)) ?_
                refine lw_pure (pur_sindex tabOk rfl rfl rfl (by omega) (by assumption)) rfl ?_
                refine lw_on rfl rfl rfl (gd_tt (by omega)) ?_
                refine lw_does (does_call (by kernel_rfl) rfl (rdigit_c _ _) (fun _ _ h => ⟨_, h.1⟩)) rfl ?_ (fun _ h => h)
                rintro _ wr1 ⟨⟨⟩, rfl⟩
                refine lw_pure (pur_pick_yes rfl rfl (by omega)) rfl ?_
                refine cT ?_
                refine cw_bt rfl (by assumption) ?_
                refine cw_skip (qw_then (cw_block (cw_region (cM rfl rfl ?_))))
                refine lw_pure (pur_add rfl rfl (IntWalk.i64_in _ (by omega))) rfl ?_
                refine cA rfl rfl (lw_nil (qw_block_norm ?_))
                rotate_left 1
               exact qw_round (m + 1) (by (refine sub_cons rfl ?_; refine sub_cons rfl ?_; refine sub_cons rfl ?_; refine sub_cons rfl ?_; exact sub_nil)) ⟨rfl, by omega, by rw [hem, hsm]; simp only [Nat.add_assoc]⟩ (by omega)
           · have hsm := span_over (f := digit) (s := s) (p := p + m) (by omega)
             focus
              refine cw_seq (cS (cM rfl rfl (cM rfl rfl (lw_pure (pur_len_s tabOk rfl rfl) rfl (lw_pure (pur_lss rfl rfl) rfl (cM rfl rfl ?_))))))
              refine lw_off rfl rfl rfl (gd_tf (by omega)) rfl ?_
              refine lw_off rfl rfl rfl (gd_tf (by omega)) rfl ?_
              refine lw_off rfl rfl rfl (gd_tf (by omega)) rfl ?_
              refine lw_off rfl rfl rfl (gd_tf (by omega)) rfl ?_
              refine lw_pure (pur_pick_no rfl rfl (by omega)) rfl ?_
              refine cT (cw_cond_f rfl (cw_exit (qw_then_exit (qw_then_exit (qw_block_exit (qw_then (cS (cM rfl rfl (cM rfl rfl (cM rfl rfl (cM rfl rfl ?_)))))))))))
              refine lw_pure (pur_spartN tabOk rfl rfl rfl rfl (by omega)) rfl ?_
              refine cM rfl rfl (lw_pure (pur_build' [_, _] tabOk zOk rfl rfl rfl rfl) rfl ?_)
              (refine lw_does (does_slice' [_, _] tabOk zOk rfl rfl rfl rfl rfl rfl rfl rfl rfl) rfl ?_ (fun _ h => h); rintro _ ws2 ⟨bs1, rfl, ns3, ts4⟩)
              clear ts4
              have hs5 := New.blk ns3
              have xs6 := New.ext ns3
              have ps7 := New.pos ns3
              have zs8 := New.size ns3
              clear ns3
              replace hown := OwnL.ext hown xs6
              replace X := Ext.ext X xs6
              clear xs6
              refine lw_appendL (sh := rtokShape) (z := ⟨2, (s.drop p).take m, (p : Int)⟩) tabOk zOk rfl rfl rfl rfl (by kernel_rfl) rfl rfl rfl (by assumption) (Blk.row (by assumption)) rfl (by omega) (by have := Ext.size X; omega) rfl ?_
              rintro gs9 cap's10 ws11 hs12 fs13
              have zs14 := Fr.size fs13
              clear hs5 hown
              replace X := Ext.fr X fs13 (by omega)
              clear fs13
              refine cA rfl rfl (cT (cw_region (cM rfl rfl (cA rfl rfl (lw_nil (qw_block_norm ?_))))))
              rotate_left 1
             refine qw_round (p + m, acc ++ [⟨2, (s.drop p).take m, (p : Int)⟩], some ⟨_, 0, none⟩, _) (by (refine sub_cons rfl ?_; refine sub_cons rfl ?_; refine sub_cons rfl ?_; exact sub_nil)) ⟨by assumption, X, by simp only; omega, by simp only [List.length_append, List.length_cons, List.length_nil]; omega, by have := HE.out; rw [show span digit (s.drop p) = m from by omega] at this; exact this⟩ (by simp only; omega)
       · have hft : firstTok (s.drop p) = (1, span wordish (s.drop p)) := by rw [drop_at hlt]; simp [firstTok, hl]
         have hsp : span wordish (s.drop p) = 1 + span wordish (s.drop (p + 1)) := by rw [span_at hlt, if_pos]; simp [wordish, hl]
         have hle := span_le (f := wordish) (s := s) (p := p)
         clear hb h35 hb0
         have HE := Lib.hid (step_tok hlt hft (by omega) (by decide) (by decide) he); clear he
         focus
          refine cw_seq (cS (cM rfl rfl (cM rfl rfl (lw_pure (pur_len_s tabOk rfl rfl) rfl (lw_pure (pur_lss rfl rfl) rfl (cT ?_))))))
          refine cw_yes rfl (by omega) ?_
          refine cw_skip (qw_then (cw_block (cS (cM rfl rfl (cM rfl rfl ?_)))))
          refine lw_pure (pur_sindex tabOk rfl rfl rfl (by omega) (by assumption)) rfl ?_
          refine cA rfl rfl (cT (cw_seq (cS (cM rfl rfl (lw_pure (pur_eql rfl rfl) rfl (cM rfl rfl ?_))))))
          refine lw_on rfl rfl rfl (gd_ff (by omega)) ?_
          refine cM rfl rfl ?_
          refine lw_on rfl rfl rfl (gd_ff (by omega)) ?_
          refine lw_pure (pur_eql rfl rfl) rfl ?_
          refine lw_pure (pur_pick_no rfl rfl (by omega)) rfl ?_
          refine cM rfl rfl ?_
          refine lw_on rfl rfl rfl (gd_ff (by omega)) ?_
          refine cM rfl rfl ?_
          refine lw_on rfl rfl rfl (gd_ff (by omega)) ?_
          refine lw_pure (pur_eql rfl rfl) rfl ?_
          refine lw_pure (pur_pick_no rfl rfl (by omega)) rfl ?_
          refine cM rfl rfl ?_
          refine lw_on rfl rfl rfl (gd_ff (by omega)) ?_
          refine cM rfl rfl ?_
          refine lw_on rfl rfl rfl (gd_ff (by omega)) ?_
          refine lw_pure (pur_eql rfl rfl) rfl ?_
          refine lw_pure (pur_pick_no rfl rfl (by omega)) rfl ?_
          refine cT ?_
          refine cw_no rfl (by omega) ?_
          refine cw_skip (qw_then (cw_seq (cS (cM rfl rfl (lw_pure (pur_eql rfl rfl) rfl (cT ?_))))))
          refine cw_no rfl (by omega) ?_
          refine cw_skip (qw_then (cS (cM rfl rfl (cA rfl rfl (cT (cw_seq (cS (cM rfl rfl ?_))))))))
          refine lw_does (does_call (by kernel_rfl) rfl (rletter_c _ _) (fun _ _ h => ⟨_, h.1⟩)) rfl ?_ (fun _ h => h)
          rintro _ wt1 ⟨⟨⟩, rfl⟩
          refine cT ?_
          refine cw_bt rfl (by assumption) ?_
          refine cw_block ?_
          rotate_left 1
         refine cw_loop (ι := Nat) (fun m => [(0, str s), (5, .slice a acc.length cap), (6, .int .i64 p), (8, .int .i64 ((p : Int) + (m : Int)))]) (fun m w' => w1 = w' ∧ p + m ≤ s.length ∧ span wordish (s.drop p) = m + span wordish (s.drop (p + m))) (fun m => s.length - (p + m)) 0 (by (refine sub_cons rfl ?_; refine sub_cons rfl ?_; refine sub_cons rfl ?_; refine sub_cons rfl ?_; exact sub_nil)) ⟨rfl, by omega, by simp⟩ ?_
         rintro m _ ⟨rfl, hm, hem⟩
         refine CW.sub (m := [(0, str s), (5, .slice a acc.length cap), (6, .int .i64 p), (8, .int .i64 ((p : Int) + (m : Int)))]) ?_ (by (refine sub_cons rfl ?_; refine sub_cons rfl ?_; refine sub_cons rfl ?_; refine sub_cons rfl ?_; exact sub_nil))
         clear hcp n1 n2 n3 n4 n5
         by_cases hlm : p + m < s.length
         · have hcm : s[((p : Int) + (m : Int)).toNat]? = some s[p + m] := by rw [show ((p : Int) + (m : Int)).toNat = p + m from by omega]; exact List.getElem?_eq_getElem hlm
           have hsm := span_at (f := wordish) hlm
           cases hlc : letter s[p + m]
           · cases hdc : digit s[p + m]
             · rw [if_neg (by simp [wordish, hlc, hdc])] at hsm
               focus
                refine cw_seq (cS (cM rfl rfl (cM rfl rfl (lw_pure (pur_len_s tabOk rfl rfl) rfl (lw_pure (pur_lss rfl rfl) rfl (cM rfl rfl ?_))))))
                refine lw_on rfl rfl rfl (gd_tt (by omega)) ?_
                refine cM rfl rfl ?_
                refine lw_on rfl rfl rfl (gd_tt (by omega)) ?_
                refine cM rfl rfl ?_
                refine lw_on rfl rfl rfl (gd_tt (by omega)) ?_
                refine lw_pure (pur_sindex tabOk rfl rfl rfl (by omega) (by assumption)) rfl ?_
                refine lw_on rfl rfl rfl (gd_tt (by omega)) ?_
                refine lw_does (does_call (by kernel_rfl) rfl (rletter_c _ _) (fun _ _ h => ⟨_, h.1⟩)) rfl ?_ (fun _ h => h)
                rintro _ wu1 ⟨⟨⟩, rfl⟩
                refine lw_on rfl rfl rfl (gd_tt (by omega)) ?_
                refine cM rfl rfl ?_
                refine lw_on rfl rfl rfl (gb_ff (by assumption)) ?_
                refine cM rfl rfl ?_
                refine lw_on rfl rfl rfl (gb_ff (by assumption)) ?_
                refine cM rfl rfl ?_
                refine lw_on rfl rfl rfl (gb_ff (by assumption)) ?_
                refine lw_pure (pur_sindex tabOk rfl rfl rfl (by omega) (by assumption)) rfl ?_
                refine lw_on rfl rfl rfl (gb_ff (by assumption)) ?_
                refine lw_does (does_call (by kernel_rfl) rfl (rdigit_c _ _) (fun _ _ h => ⟨_, h.1⟩)) rfl ?_ (fun _ h => h)
                rintro _ wu2 ⟨⟨⟩, rfl⟩
                refine lw_on rfl rfl rfl (gd_tt (by omega)) ?_
                refine lw_pure (pur_pick_f rfl rfl (by assumption)) rfl ?_
                refine lw_pure (pur_pick_yes rfl rfl (by omega)) rfl ?_
                refine cT ?_
                refine cw_bf rfl (by assumption) ?_
                refine cw_exit (qw_then_exit (qw_then_exit (qw_block_exit (qw_then (cS (cM rfl rfl (cM rfl rfl (cM rfl rfl (cM rfl rfl ?_)))))))))
                refine lw_pure (pur_spartN tabOk rfl rfl rfl rfl (by omega)) rfl ?_
                refine cM rfl rfl (lw_pure (pur_build' [_, _] tabOk zOk rfl rfl rfl rfl) rfl ?_)
                (refine lw_does (does_slice' [_, _] tabOk zOk rfl rfl rfl rfl rfl rfl rfl rfl rfl) rfl ?_ (fun _ h => h); rintro _ wu4 ⟨bu3, rfl, nu5, tu6⟩)
                clear tu6
                have hu7 := New.blk nu5
                have xu8 := New.ext nu5
                have pu9 := New.pos nu5
                have zu10 := New.size nu5
                clear nu5
                replace hown := OwnL.ext hown xu8
                replace X := Ext.ext X xu8
                clear xu8
                refine lw_appendL (sh := rtokShape) (z := ⟨1, (s.drop p).take m, (p : Int)⟩) tabOk zOk rfl rfl rfl rfl (by kernel_rfl) rfl rfl rfl (by assumption) (Blk.row (by assumption)) rfl (by omega) (by have := Ext.size X; omega) rfl ?_
                rintro gu11 cap'u12 wu13 hu14 fu15
                have zu16 := Fr.size fu15
                clear hu7 hown
                replace X := Ext.fr X fu15 (by omega)
                clear fu15
                refine cA rfl rfl (cT (cw_region (cM rfl rfl (cA rfl rfl (lw_nil (qw_block_norm ?_))))))
                rotate_left 1
               refine qw_round (p + m, acc ++ [⟨1, (s.drop p).take m, (p : Int)⟩], some ⟨_, 0, none⟩, _) (by (refine sub_cons rfl ?_; refine sub_cons rfl ?_; refine sub_cons rfl ?_; exact sub_nil)) ⟨by assumption, X, by simp only; omega, by simp only [List.length_append, List.length_cons, List.length_nil]; omega, by have := HE.out; rw [show span wordish (s.drop p) = m from by omega] at this; exact this⟩ (by simp only; omega)
             · rw [if_pos (by simp [wordish, hlc, hdc])] at hsm
               focus
                refine cw_seq (cS (cM rfl rfl (cM rfl rfl (lw_pure (pur_len_s tabOk rfl rfl) rfl (lw_pure (pur_lss rfl rfl) rfl (cM rfl rfl ?_))))))
                refine lw_on rfl rfl rfl (gd_tt (by omega)) ?_
                refine cM rfl rfl ?_
                refine lw_on rfl rfl rfl (gd_tt (by omega)) ?_
                refine cM rfl rfl ?_
                refine lw_on rfl rfl rfl (gd_tt (by omega)) ?_
                refine lw_pure (pur_sindex tabOk rfl rfl rfl (by omega) (by assumption)) rfl ?_
                refine lw_on rfl rfl rfl (gd_tt (by omega)) ?_
                refine lw_does (does_call (by kernel_rfl) rfl (rletter_c _ _) (fun _ _ h => ⟨_, h.1⟩)) rfl ?_ (fun _ h => h)
                rintro _ wv1 ⟨⟨⟩, rfl⟩
                refine lw_on rfl rfl rfl (gd_tt (by omega)) ?_
                refine cM rfl rfl ?_
                refine lw_on rfl rfl rfl (gb_ff (by assumption)) ?_
                refine cM rfl rfl ?_
                refine lw_on rfl rfl rfl (gb_ff (by assumption)) ?_
                refine cM rfl rfl ?_
                refine lw_on rfl rfl rfl (gb_ff (by assumption)) ?_
                refine lw_pure (pur_sindex tabOk rfl rfl rfl (by omega) (by assumption)) rfl ?_
                refine lw_on rfl rfl rfl (gb_ff (by assumption)) ?_
                refine lw_does (does_call (by kernel_rfl) rfl (rdigit_c _ _) (fun _ _ h => ⟨_, h.1⟩)) rfl ?_ (fun _ h => h)
                rintro _ wv2 ⟨⟨⟩, rfl⟩
                refine lw_on rfl rfl rfl (gd_tt (by omega)) ?_
                refine lw_pure (pur_pick_f rfl rfl (by assumption)) rfl ?_
                refine lw_pure (pur_pick_yes rfl rfl (by omega)) rfl ?_
                refine cT ?_
                refine cw_bt rfl (by assumption) ?_
                refine cw_skip (qw_then (cw_block (cw_region (cM rfl rfl ?_))))
                refine lw_pure (pur_add rfl rfl (IntWalk.i64_in _ (by omega))) rfl ?_
                refine cA rfl rfl (lw_nil (qw_block_norm ?_))
                rotate_left 1
               exact qw_round (m + 1) (by (refine sub_cons rfl ?_; refine sub_cons rfl ?_; refine sub_cons rfl ?_; refine sub_cons rfl ?_; exact sub_nil)) ⟨rfl, by omega, by rw [hem, hsm]; simp only [Nat.add_assoc]⟩ (by omega)
           · rw [if_pos (by simp [wordish, hlc])] at hsm
             focus
              refine cw_seq (cS (cM rfl rfl (cM rfl rfl (lw_pure (pur_len_s tabOk rfl rfl) rfl (lw_pure (pur_lss rfl rfl) rfl (cM rfl rfl ?_))))))
              refine lw_on rfl rfl rfl (gd_tt (by omega)) ?_
              refine cM rfl rfl ?_
              refine lw_on rfl rfl rfl (gd_tt (by omega)) ?_
              refine cM rfl rfl ?_
              refine lw_on rfl rfl rfl (gd_tt (by omega)) ?_
              refine lw_pure (pur_sindex tabOk rfl rfl rfl (by omega) (by assumption)) rfl ?_
              refine lw_on rfl rfl rfl (gd_tt (by omega)) ?_
              refine lw_does (does_call (by kernel_rfl) rfl (rletter_c _ _) (fun _ _ h => ⟨_, h.1⟩)) rfl ?_ (fun _ h => h)
              rintro _ ww1 ⟨⟨⟩, rfl⟩
              refine lw_on rfl rfl rfl (gd_tt (by omega)) ?_
              refine cM rfl rfl ?_
              refine lw_off rfl rfl rfl (gb_ft (by assumption)) rfl ?_
              refine lw_off rfl rfl rfl (gb_ft (by assumption)) rfl ?_
              refine lw_off rfl rfl rfl (gb_ft (by assumption)) rfl ?_
              refine lw_off rfl rfl rfl (gb_ft (by assumption)) rfl ?_
              refine lw_on rfl rfl rfl (gd_tt (by omega)) ?_
              refine lw_pure (pur_pick_t rfl rfl (by assumption)) rfl ?_
              refine lw_pure (pur_pick_yes rfl rfl (by omega)) rfl ?_
              refine cT (cw_cond_t rfl (cw_skip (qw_then (cw_block (cw_region (cM rfl rfl ?_))))))
              refine lw_pure (pur_add rfl rfl (IntWalk.i64_in _ (by omega))) rfl ?_
              refine cA rfl rfl (lw_nil (qw_block_norm ?_))
              rotate_left 1
             exact qw_round (m + 1) (by (refine sub_cons rfl ?_; refine sub_cons rfl ?_; refine sub_cons rfl ?_; refine sub_cons rfl ?_; exact sub_nil)) ⟨rfl, by omega, by rw [hem, hsm]; simp only [Nat.add_assoc]⟩ (by omega)
         · have hsm := span_over (f := wordish) (s := s) (p := p + m) (by omega)
           focus
            refine cw_seq (cS (cM rfl rfl (cM rfl rfl (lw_pure (pur_len_s tabOk rfl rfl) rfl (lw_pure (pur_lss rfl rfl) rfl (cM rfl rfl ?_))))))
            refine lw_off rfl rfl rfl (gd_tf (by omega)) rfl ?_
            refine lw_off rfl rfl rfl (gd_tf (by omega)) rfl ?_
            refine lw_off rfl rfl rfl (gd_tf (by omega)) rfl ?_
            refine lw_off rfl rfl rfl (gd_tf (by omega)) rfl ?_
            refine lw_off rfl rfl rfl (gd_tf (by omega)) rfl ?_
            refine lw_off_u rfl rfl rfl rfl (lw_off_u rfl rfl rfl rfl (lw_off_u rfl rfl rfl rfl (lw_off_u rfl rfl rfl rfl ?_)))
            refine lw_off rfl rfl rfl (gd_tf (by omega)) rfl ?_
            refine lw_pure (pur_pick_no rfl rfl (by omega)) rfl ?_
            refine cT (cw_cond_f rfl (cw_exit (qw_then_exit (qw_then_exit (qw_block_exit (qw_then (cS (cM rfl rfl (cM rfl rfl (cM rfl rfl (cM rfl rfl ?_)))))))))))
            refine lw_pure (pur_spartN tabOk rfl rfl rfl rfl (by omega)) rfl ?_
            refine cM rfl rfl (lw_pure (pur_build' [_, _] tabOk zOk rfl rfl rfl rfl) rfl ?_)
            (refine lw_does (does_slice' [_, _] tabOk zOk rfl rfl rfl rfl rfl rfl rfl rfl rfl) rfl ?_ (fun _ h => h); rintro _ wx2 ⟨bx1, rfl, nx3, tx4⟩)
            clear tx4
            have hx5 := New.blk nx3
            have xx6 := New.ext nx3
            have px7 := New.pos nx3
            have zx8 := New.size nx3
            clear nx3
            replace hown := OwnL.ext hown xx6
            replace X := Ext.ext X xx6
            clear xx6
            refine lw_appendL (sh := rtokShape) (z := ⟨1, (s.drop p).take m, (p : Int)⟩) tabOk zOk rfl rfl rfl rfl (by kernel_rfl) rfl rfl rfl (by assumption) (Blk.row (by assumption)) rfl (by omega) (by have := Ext.size X; omega) rfl ?_
            rintro gx9 cap'x10 wx11 hx12 fx13
            have zx14 := Fr.size fx13
            clear hx5 hown
            replace X := Ext.fr X fx13 (by omega)
            clear fx13
            refine cA rfl rfl (cT (cw_region (cM rfl rfl (cA rfl rfl (lw_nil (qw_block_norm ?_))))))
            rotate_left 1
           refine qw_round (p + m, acc ++ [⟨1, (s.drop p).take m, (p : Int)⟩], some ⟨_, 0, none⟩, _) (by (refine sub_cons rfl ?_; refine sub_cons rfl ?_; refine sub_cons rfl ?_; exact sub_nil)) ⟨by assumption, X, by simp only; omega, by simp only [List.length_append, List.length_cons, List.length_nil]; omega, by have := HE.out; rw [show span wordish (s.drop p) = m from by omega] at this; exact this⟩ (by simp only; omega)
 · rw [show solidFrom s 0 = (acc, none) from by rw [he, solidFrom_end (by omega)]; simp [pre]]
   focus
    refine cw_seq (cS (cM rfl rfl (cM rfl rfl (lw_pure (pur_len_s tabOk rfl rfl) rfl (lw_pure (pur_lss rfl rfl) rfl (cT ?_))))))
    refine cw_no rfl (by omega) ?_
    refine cw_exit (qw_then_exit (qw_then_exit (qw_block_exit (qw_then (cS (cM rfl rfl (cA rfl rfl (cA rfl rfl (cA rfl rfl (cT (cw_ret ?_)))))))))))
    refine qw_ret3 rfl rfl rfl rfl ?_
    rotate_left 1
   exact ⟨_, _, rfl, RToks.lt2 (S := (w.heap.size ≤ ·)) (OwnL.rtoks hown (fun b h => h)), X⟩
end Bk
